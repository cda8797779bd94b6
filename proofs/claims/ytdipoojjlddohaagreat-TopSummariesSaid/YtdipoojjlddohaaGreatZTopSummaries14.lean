/- What the law TopSummaries needs, joined of its texts by a program (slim2.py); part 14. -/
import Derived.Test.YtdipoojjlddohaaGreatZTopSummaries1
import Derived.Test.YtdipoojjlddohaaGreatZTopSummaries4
import Derived.Test.YtdipoojjlddohaaGreatZTopSummaries5
import Derived.Test.YtdipoojjlddohaaGreatZTopSummaries7
import Derived.Test.YtdipoojjlddohaaGreatZTopSummaries11
import Derived.Test.YtdipoojjlddohaaGreatZTopSummaries13
set_option linter.unusedVariables false
set_option linter.unusedSimpArgs false
set_option linter.unusedSectionVars false
set_option linter.unnecessarySimpa false
section
/- Whole synopses out of and into memory. -/
namespace Go.Proofs.YtdipoojjlddohaaGreat
open Go.RowKit
theorem info_syn:(Tryz.prog.info? 58).map (·.size)=some 57:=by kernel_rfl
theorem info_ans:(Tryz.prog.info? 71).map (·.size)=some 11:=by kernel_rfl
theorem heap_setRow_other (w:World) (g:Nat) (cs:Array Value) (b:Nat) (h:b≠g):(w.setRow g cs).heap[b]?=w.heap[b]?:=by
  simp only [World.setRow]
  rw [Array.getElem?_modify,if_neg (fun e=>h e.symm)]
theorem size_setRow (w:World) (g:Nat) (cs:Array Value):(w.setRow g cs).heap.size=w.heap.size:=by
  simp [World.setRow]
section
variable {w:World} {b g:Nat} {t:TypeId} {old cs cs':Array Value}
theorem row_setRow (h:Row w b t old):Row (w.setRow b cs) b t cs:=by
  unfold Row at *
  simp only [World.setRow]
  rw [Array.getElem?_modify,if_pos rfl,h]
  rfl
theorem row_setRow_other (h:Row w b t cs) (hne:b≠g):Row (w.setRow g cs') b t cs:=(heap_setRow_other w g cs' b hne).trans h
end
theorem all_one {cs:Array Value} (h:cs.toList.all (·.oneCell')=true):cs.all (·.oneCell')=true :=
  Array.all_eq_true_iff_forall_mem.2 fun v hv=>List.all_eq_true.1 h v (Array.mem_toList_iff.2 hv)
section
variable {ops:Array Oper} {rest:List Oper} {o:Oper} {a:Act} {w:World} {Q:Exit→Act→World→Prop} {b:Nat} {cs old:Array Value}
theorem wpList_lsyn (R:Row w b 58 cs) (hs:cs.size=57) (hgd:o.guard=none) (x:Operand) (ho:o.op = .load 58 x) (hx:a.eval x = .pointer (some ⟨b,0,none⟩))
    (h:wpList Tryz.prog ops Q rest (a.put o.dst (.agg cs)) w):wpList Tryz.prog ops Q (o :: rest) a w :=
  wpList_load_row hgd 58 x ho b hx 58 cs (0,0) _ R Tryz.underlying58 rfl (by rw [hs];exact info_syn) h
theorem built_cfg (x0 x1 x2 x3 x4 x5 x6 x7:Value):Tryz.prog.built 58 [(0, .agg #[x0,x1,x2,x3,x4,x5,x6,x7])]=some #[x0,x1,x2,x3,x4,x5,x6,x7, .int .i64 0, .int .i64 0, .int .i64 0, .slice none 0 0, .int .i64 0, .int .i64 0, .int .i64 0, .int .i64 0, .slice none 0 0, .int .i64 0, .int .i64 0, .int .i64 0, .int .i64 0, .int .i64 0, .slice none 0 0, .int .i64 0, .int .i64 0, .int .i64 0, .int .i64 0, .int .i64 0, .int .i64 0, .slice none 0 0, .int .i64 0, .int .i64 0, .int .i64 0, .int .i64 0, .int .i64 0, .slice none 0 0, .int .i64 0, .int .i64 0, .int .i64 0, .slice none 0 0, .int .i64 0, .slice none 0 0, .bool false, .int .i64 0, .int .i64 0, .int .i64 0, .slice none 0 0, .slice none 0 0, .int .i64 0, .int .i64 0, .int .i64 0, .slice none 0 0, .int .i64 0, .int .i64 0, .int .i64 0, .int .i64 0, .slice none 0 0]:=by kernel_rfl
set_option maxRecDepth 100000 in
theorem wpList_bsyn (x0 x1 x2 x3 x4 x5 x6 x7:Value) (hgd:o.guard=none) (x:Operand) (ho:o.op = .build 58 #[(0,x)]) (hx:a.eval x = .agg #[x0,x1,x2,x3,x4,x5,x6,x7])
    (h:wpList Tryz.prog ops Q rest (a.put o.dst (.agg #[x0,x1,x2,x3,x4,x5,x6,x7, .int .i64 0, .int .i64 0, .int .i64 0, .slice none 0 0, .int .i64 0, .int .i64 0, .int .i64 0, .int .i64 0, .slice none 0 0, .int .i64 0, .int .i64 0, .int .i64 0, .int .i64 0, .int .i64 0, .slice none 0 0, .int .i64 0, .int .i64 0, .int .i64 0, .int .i64 0, .int .i64 0, .int .i64 0, .slice none 0 0, .int .i64 0, .int .i64 0, .int .i64 0, .int .i64 0, .int .i64 0, .slice none 0 0, .int .i64 0, .int .i64 0, .int .i64 0, .slice none 0 0, .int .i64 0, .slice none 0 0, .bool false, .int .i64 0, .int .i64 0, .int .i64 0, .slice none 0 0, .slice none 0 0, .int .i64 0, .int .i64 0, .int .i64 0, .slice none 0 0, .int .i64 0, .int .i64 0, .int .i64 0, .int .i64 0, .slice none 0 0])) w):wpList Tryz.prog ops Q (o :: rest) a w:=by
  have e:(Tryz.prog.built 58 ((#[(0,x)]:Array (Nat×Operand)).map fun (i,x)=>(i,a.eval x)).toList)=some #[x0,x1,x2,x3,x4,x5,x6,x7, .int .i64 0, .int .i64 0, .int .i64 0, .slice none 0 0, .int .i64 0, .int .i64 0, .int .i64 0, .int .i64 0, .slice none 0 0, .int .i64 0, .int .i64 0, .int .i64 0, .int .i64 0, .int .i64 0, .slice none 0 0, .int .i64 0, .int .i64 0, .int .i64 0, .int .i64 0, .int .i64 0, .int .i64 0, .slice none 0 0, .int .i64 0, .int .i64 0, .int .i64 0, .int .i64 0, .int .i64 0, .slice none 0 0, .int .i64 0, .int .i64 0, .int .i64 0, .slice none 0 0, .int .i64 0, .slice none 0 0, .bool false, .int .i64 0, .int .i64 0, .int .i64 0, .slice none 0 0, .slice none 0 0, .int .i64 0, .int .i64 0, .int .i64 0, .slice none 0 0, .int .i64 0, .int .i64 0, .int .i64 0, .int .i64 0, .slice none 0 0]:=by
    have e1:((#[(0,x)]:Array (Nat×Operand)).map fun (i,x)=>(i,a.eval x)).toList=[(0,a.eval x)]:=by simp
    rw [e1,hx]
    exact built_cfg x0 x1 x2 x3 x4 x5 x6 x7
  exact wpList_build hgd 58 #[(0,x)] ho (by rw [e];rfl) (by rw [e];exact h)
theorem wp_lsyn {K:Act→World→Prop} (R:Row w b 58 cs) (hs:cs.size=57) (x:Operand) (ho:o.op = .load 58 x) (hx:a.eval x = .pointer (some ⟨b,0,none⟩))
    (h:K (a.put o.dst (.agg cs)) w):o.wp Tryz.prog a w K Q :=
  wp_load_row 58 x ho b hx 58 cs (0,0) _ R Tryz.underlying58 rfl (by rw [hs];exact info_syn) h
theorem wpList_lsyn_g (R:Row w b 58 cs) (hs:cs.size=57) (hw:Region.wanted o (yielded ops a.tmps)=true) (x:Operand) (ho:o.op = .load 58 x) (hx:a.eval x = .pointer (some ⟨b,0,none⟩))
    (h:wpList Tryz.prog ops Q rest (a.put o.dst (.agg cs)) w):wpList Tryz.prog ops Q (o :: rest) a w:=by
  unfold wpList
  rw [if_pos hw]
  exact .inl (wp_lsyn R hs x ho hx h)
theorem wpList_ssyn (R:Row w b 58 old) (hs:old.size=57) (hc:cs.size=57) (h1:cs.all (·.oneCell')=true) (hgd:o.guard=none) (x y:Operand) (ho:o.op = .store 58 x y) (hx:a.eval x = .pointer (some ⟨b,0,none⟩)) (hy:a.eval y = .agg cs)
    (h:wpList Tryz.prog ops Q rest (a.put o.dst undef) (w.setRow b cs)):wpList Tryz.prog ops Q (o :: rest) a w :=
  wpList_store_row hgd 58 x y ho b cs hx hy 58 old R (by rw [hc];exact info_syn) (hs.trans hc.symm) h1 h
theorem results_syn {fn:Func} {p q:Tmp} (h:fn.results=#[.cell p 58, .tmp q]) (tmps:Array Value) (R:Row w b 58 cs) (hs:cs.size=57) (hp:tmps.getD p undef = .pointer (some ⟨b,0,none⟩)) :
    (results fn tmps).run Tryz.prog w = .ok (.tuple #[.agg cs,tmps.getD q undef]) w:=by
  have hl:=run_loadVar_row (P:=Tryz.prog) w b 58 58 cs (0,0) _ R Tryz.underlying58 rfl (by rw [hs];exact info_syn)
  have hp':tmps[p]?.getD undef = .pointer (some ⟨b,0,none⟩):=by simpa using hp
  simp [results,h,hp',asAddr,hl]
theorem wpList_lans (R:Row w b 71 cs) (hs:cs.size=11) (hgd:o.guard=none) (x:Operand) (ho:o.op = .load 71 x) (hx:a.eval x = .pointer (some ⟨b,0,none⟩))
    (h:wpList Tryz.prog ops Q rest (a.put o.dst (.agg cs)) w):wpList Tryz.prog ops Q (o :: rest) a w :=
  wpList_load_row hgd 71 x ho b hx 71 cs (0,0) _ R Tryz.underlying71 rfl (by rw [hs];exact info_ans) h
theorem wpList_sans (R:Row w b 71 old) (hs:old.size=11) (hc:cs.size=11) (h1:cs.all (·.oneCell')=true) (hgd:o.guard=none) (x y:Operand) (ho:o.op = .store 71 x y) (hx:a.eval x = .pointer (some ⟨b,0,none⟩)) (hy:a.eval y = .agg cs)
    (h:wpList Tryz.prog ops Q rest (a.put o.dst undef) (w.setRow b cs)):wpList Tryz.prog ops Q (o :: rest) a w :=
  wpList_store_row hgd 71 x y ho b cs hx hy 71 old R (by rw [hc];exact info_ans) (hs.trans hc.symm) h1 h
theorem results_ans {fn:Func} {p q:Tmp} (h:fn.results=#[.cell p 71, .tmp q]) (tmps:Array Value) (R:Row w b 71 cs) (hs:cs.size=11) (hp:tmps.getD p undef = .pointer (some ⟨b,0,none⟩)) :
    (results fn tmps).run Tryz.prog w = .ok (.tuple #[.agg cs,tmps.getD q undef]) w:=by
  have hl:=run_loadVar_row (P:=Tryz.prog) w b 71 71 cs (0,0) _ R Tryz.underlying71 rfl (by rw [hs];exact info_ans)
  have hp':tmps[p]?.getD undef = .pointer (some ⟨b,0,none⟩):=by simpa using hp
  simp [results,h,hp',asAddr,hl]
theorem results_syn3 {fn:Func} {p q r:Tmp} (h:fn.results=#[.cell p 58, .tmp q, .tmp r]) (tmps:Array Value) (R:Row w b 58 cs) (hs:cs.size=57) (hp:tmps.getD p undef = .pointer (some ⟨b,0,none⟩)) :
    (results fn tmps).run Tryz.prog w = .ok (.tuple #[.agg cs,tmps.getD q undef,tmps.getD r undef]) w:=by
  have hl:=run_loadVar_row (P:=Tryz.prog) w b 58 58 cs (0,0) _ R Tryz.underlying58 rfl (by rw [hs];exact info_syn)
  have hp':tmps[p]?.getD undef = .pointer (some ⟨b,0,none⟩):=by simpa using hp
  simp [results,h,hp',asAddr,hl]
theorem exec_lsyn {o:Oper} {a:Act} (R:Row w b 58 cs) (hs:cs.size=57) (x:Operand) (ho:o.op = .load 58 x) (hx:a.eval x = .pointer (some ⟨b,0,none⟩)):(execOp a.eval o).run Tryz.prog w = .ok (.value (.agg cs)) w:=by
  unfold execOp
  simp only [ho,hx,Instr.loadAt,Instr.sureAddr,Sem.run_bind,Sem.run_pure,Result.andThen_ok,run_loadVar_row w b 58 58 cs (0,0) _ R Tryz.underlying58 rfl (by rw [hs];exact info_syn)]
end
structure InOK (IN:Option Addr→Nat→Nat→World→Prop):Prop where
  below:∀ {A m c w w'},IN A m c w→Below w.heap.size w w'→IN A m c w'
  setc:∀ {A m c w} {p:Addr} (u:Value),IN A m c w→(0<m→∀ a,A=some a→p.block≠a.block)→IN A m c (w.setCell p u)
  setr:∀ {A m c w} {g:Nat} (cs:Array Value),IN A m c w→(0<m→∀ a,A=some a→g≠a.block)→IN A m c (w.setRow g cs)
  blk:∀ {A m c w},IN A m c w→0<m→∀ a,A=some a→a.block<w.heap.size
  keep:∀ {A m c w w'},IN A m c w→w.heap.size≤w'.heap.size→(0<m→∀ a,A=some a→w'.heap[a.block]?=w.heap[a.block]?)→IN A m c w'
def GRet (IN:Option Addr→Nat→Nat→World→Prop) (cs:Option Addr→Nat→Nat→Array Value) (er:Int) (Fr:Nat→Prop) (w:World) (e:Ending) (w':World):Prop :=
  ∃ (A:Option Addr) (m c:Nat),e = .returned (.tuple #[.agg (cs A m c), .int .i64 er])∧IN A m c w'∧Below w.heap.size w w'∧(0<m→∀ a,A=some a→w.heap.size≤a.block∨Fr a.block)
theorem reads_keep0 {w w':World} {size n:Nat} {A:Option Addr} {xs:List Value} (h:Reads w w.heap.size size A n xs) (hs:w'.heap.size=w.heap.size) (hk:0<n→∀ a,A=some a→w'.heap[a.block]?=w.heap[a.block]?):Reads w' w'.heap.size size A n xs:=by
  rw [hs]
  by_cases h0:0<n
  · exact reads_keep h (fun a e _=>hk h0 a e)
  · exact ⟨h.1,fun hn=>absurd hn h0⟩
theorem reads_blk {w:World} {B size n:Nat} {A:Option Addr} {xs:List Value} (h:Reads w B size A n xs) (hn:0<n) (a:Addr) (e:A=some a):a.block<B:=by
  obtain ⟨ad,e',hb,_⟩:=h.2 hn
  rw [e'] at e
  cases e
  exact hb
theorem reads_keep1 {w w':World} {size n:Nat} {A:Option Addr} {xs:List Value} (h:Reads w w.heap.size size A n xs) (hs:w.heap.size≤w'.heap.size) (hk:0<n→∀ a,A=some a→w'.heap[a.block]?=w.heap[a.block]?):Reads w' w'.heap.size size A n xs:=by
  by_cases h0:0<n
  · exact (reads_keep h (fun a e _=>hk h0 a e)).more hs
  · exact ⟨h.1,fun hn=>absurd hn h0⟩
theorem inOK_bk (P:List Bk→Prop):InOK (fun A m c w=>∃ l,BIn A m c l w∧P l) :=
  ⟨fun ⟨l,h,hp⟩ hb=>⟨l,h.below hb,hp⟩,
   fun u ⟨l,h,hp⟩ hne=>⟨l,⟨reads_keep0 h.reads (size_setCell _ _) (fun h0 a e=>Below.heap_setCell _ _ u a.block (fun x=>hne h0 a e x.symm)),h.mc,h.cB⟩,hp⟩,
   fun cs ⟨l,h,hp⟩ hne=>⟨l,⟨reads_keep0 h.reads (size_setRow _ _ _) (fun h0 a e=>heap_setRow_other _ _ cs a.block (fun x=>hne h0 a e x.symm)),h.mc,h.cB⟩,hp⟩,
   fun ⟨l,h,_⟩ hn a e=>reads_blk h.reads hn a e,
   fun ⟨l,h,hp⟩ hs hk=>⟨l,⟨reads_keep1 h.reads hs hk,h.mc,h.cB⟩,hp⟩⟩
theorem InOK.setL {IN:Option Addr→Nat→Nat→World→Prop} (hIN:InOK IN) {A:Option Addr} {m c g:Nat} (hne:0<m→∀ a,A=some a→g≠a.block):∀ (vs:List Value) {w:World} {i:Nat},IN A m c w→IN A m c (setL w g i vs)
  | [],_,_,h=>h
  | v :: r,_,_,h=>hIN.setL hne r (hIN.setc v h hne)
section
variable {P:Program} {c:Code} {Q:Exit→Act→World→Prop} {a:Act} {w w0:World} {B x r:Nat} {tx tr:TypeId} {cx cr:Array Value}
theorem layS {IN:Option Addr→Nat→Nat→World→Prop} {A:Option Addr} {m c':Nat} (off:Nat) (vs:List Value) (X:Row w x tx cx) (R:Row w r tr cr) (o:Below B w0 w) (hIN:InOK IN) (hin:IN A m c' w) (hne:0<m→∀ a,A=some a→x≠a.block) (hr:r≠x) (hB:B≤x)
    (h:∀ w',Row w' x tx (arrL cx off vs)→Row w' r tr cr→Below B w0 w'→IN A m c' w'→c.wp P Q a w'):c.wp P Q a (setL w x off vs) :=
  h _ (row_setL vs X) (row_otherL hr vs R) (below_setL hB vs o) (hIN.setL hne vs hin)
theorem layT (off:Nat) (vs:List Value) (X:Row w x tx cx) (R:Row w r tr cr) (o:Below B w0 w) (hr:r≠x) (hB:B≤x)
    (h:∀ w',Row w' x tx (arrL cx off vs)→Row w' r tr cr→Below B w0 w'→c.wp P Q a w'):c.wp P Q a (setL w x off vs) :=
  h _ (row_setL vs X) (row_otherL hr vs R) (below_setL hB vs o)
end
end Go.Proofs.YtdipoojjlddohaaGreat
end
section
/- Synopses of kind Summary: the state is right, and the whole is valid, walked. -/
namespace Go.Proofs.YtdipoojjlddohaaGreat
open Go.RowKit
set_option maxRecDepth 100000 in
set_option maxHeartbeats 4000000 in
theorem prSummary (A:Option Addr) (m c:Nat) (k cap n:Nat) (w:World) (HV:RowKit.Hid (∀ w',Below w.heap.size w w'→Calls Tryz.prog 147 #[.agg #[.int .i64 (k:Nat), .int .i64 (cap:Nat), .int .i64 (n:Nat), .slice A m c]] w' fun e w''=>e = .returned (.int .i64 0)∧Below w'.heap.size w' w'')):Calls Tryz.prog 131 #[.agg #[.int .i64 10, .int .i64 0, .int .i64 0, .int .i64 (k:Nat), .int .i64 (cap:Nat), .int .i64 0, .int .i64 0, .int .i64 0, .int .i64 0, .int .i64 0, .int .i64 0, .slice none 0 0, .int .i64 0, .int .i64 0, .int .i64 0, .int .i64 0, .slice none 0 0, .int .i64 0, .int .i64 0, .int .i64 0, .int .i64 0, .int .i64 0, .slice none 0 0, .int .i64 0, .int .i64 0, .int .i64 0, .int .i64 0, .int .i64 0, .int .i64 0, .slice none 0 0, .int .i64 0, .int .i64 0, .int .i64 0, .int .i64 0, .int .i64 0, .slice none 0 0, .int .i64 0, .int .i64 0, .int .i64 0, .slice none 0 0, .int .i64 0, .slice none 0 0, .bool false, .int .i64 0, .int .i64 0, .int .i64 0, .slice none 0 0, .slice none 0 0, .int .i64 (k:Nat), .int .i64 (cap:Nat), .int .i64 (n:Nat), .slice A m c, .int .i64 0, .int .i64 0, .int .i64 0, .int .i64 0, .slice none 0 0]] w fun e w'=>e = .returned (.bool true)∧Below w.heap.size w w':=by
  go_enter Tryz.func131,Tryz.ntmps131
  go_upto_region 1 with (fail)
  refine start1 (fun w1 X o=>?_)
  have q0:w1.cell? ⟨w.heap.size,0,none⟩=some (.int .i64 10):=row_cell X 0
  have q1:w1.cell? ⟨w.heap.size,1,none⟩=some (.int .i64 0):=row_cell X 1
  have q2:w1.cell? ⟨w.heap.size,2,none⟩=some (.int .i64 0):=row_cell X 2
  have q3:w1.cell? ⟨w.heap.size,3,none⟩=some (.int .i64 (k:Nat)):=row_cell X 3
  have q4:w1.cell? ⟨w.heap.size,4,none⟩=some (.int .i64 (cap:Nat)):=row_cell X 4
  have q5:w1.cell? ⟨w.heap.size,5,none⟩=some (.int .i64 0):=row_cell X 5
  have q6:w1.cell? ⟨w.heap.size,6,none⟩=some (.int .i64 0):=row_cell X 6
  have q7:w1.cell? ⟨w.heap.size,7,none⟩=some (.int .i64 0):=row_cell X 7
  go_upto_region 2 with (fail)
  clear q0 q1 q2 q3 q4 q5 q6 q7
  have C:Row (w1.alloc (.cells #[.int .i64 10, .int .i64 0, .int .i64 0, .int .i64 (k:Nat), .int .i64 (cap:Nat), .int .i64 0, .int .i64 0, .int .i64 0] 27)) w1.heap.size 27 #[.int .i64 10, .int .i64 0, .int .i64 0, .int .i64 (k:Nat), .int .i64 (cap:Nat), .int .i64 0, .int .i64 0, .int .i64 0]:=row_new rfl
  replace X:=row_alloc X (.cells #[.int .i64 10, .int .i64 0, .int .i64 0, .int .i64 (k:Nat), .int .i64 (cap:Nat), .int .i64 0, .int .i64 0, .int .i64 0] 27)
  replace o:=o.alloc o.size (.cells #[.int .i64 10, .int .i64 0, .int .i64 0, .int .i64 (k:Nat), .int .i64 (cap:Nat), .int .i64 0, .int .i64 0, .int .i64 0] 27)
  generalize w1.alloc (.cells #[.int .i64 10, .int .i64 0, .int .i64 0, .int .i64 (k:Nat), .int .i64 (cap:Nat), .int .i64 0, .int .i64 0, .int .i64 0] 27)=w2 at X C o ⊢
  generalize w1.heap.size=cb at C ⊢
  obtain ⟨C0,C1,C2,C3,C4,C5,C6,C7,Cf0,Cf1,Cf2,Cf3,Cf4,Cf5,Cf6,Cf7⟩:=row_eight C
  have q0:w2.cell? ⟨w.heap.size,48,none⟩=some (.int .i64 (k:Nat)):=row_cell X 48
  have q1:w2.cell? ⟨w.heap.size,49,none⟩=some (.int .i64 (cap:Nat)):=row_cell X 49
  have q2:w2.cell? ⟨w.heap.size,50,none⟩=some (.int .i64 (n:Nat)):=row_cell X 50
  have q3:w2.cell? ⟨w.heap.size,51,none⟩=some (.slice A m c):=row_cell X 51
  go_upto_region 30 with (fail)
  clear q0 q1 q2 q3 C0 Cf0 C1 Cf1 C2 Cf2 C3 Cf3 C4 Cf4 C5 Cf5 C6 Cf6 C7 Cf7 X
  have V:Row (w2.alloc (.cells #[.int .i64 (k:Nat), .int .i64 (cap:Nat), .int .i64 (n:Nat), .slice A m c] 53)) w2.heap.size 53 #[.int .i64 (k:Nat), .int .i64 (cap:Nat), .int .i64 (n:Nat), .slice A m c]:=row_new rfl
  replace C:=row_alloc C (.cells #[.int .i64 (k:Nat), .int .i64 (cap:Nat), .int .i64 (n:Nat), .slice A m c] 53)
  replace o:=o.alloc o.size (.cells #[.int .i64 (k:Nat), .int .i64 (cap:Nat), .int .i64 (n:Nat), .slice A m c] 53)
  generalize w2.alloc (.cells #[.int .i64 (k:Nat), .int .i64 (cap:Nat), .int .i64 (n:Nat), .slice A m c] 53)=w3 at V C o ⊢
  generalize w2.heap.size=vb at V ⊢
  obtain ⟨V0,V1,V2,V3,Vf0,Vf1,Vf2,Vf3⟩:=row_four V
  go_wp2_with fail
  refine (HV.out _ o).mono ?_
  rintro e w4 ⟨rfl,hb⟩
  clear V0 Vf0 V1 Vf1 V2 Vf2 V3 Vf3
  replace V:=row_call V hb
  replace C:=row_call C hb
  replace o:=o.trans (hb.mono o.size)
  clear hb
  obtain ⟨V0,V1,V2,V3,Vf0,Vf1,Vf2,Vf3⟩:=row_four V
  obtain ⟨C0,C1,C2,C3,C4,C5,C6,C7,Cf0,Cf1,Cf2,Cf3,Cf4,Cf5,Cf6,Cf7⟩:=row_eight C
  go_wp2
  go_ret
  exact ⟨by first | rfl | exact ret_bool (by simp) | simp,o⟩
set_option maxRecDepth 100000 in
set_option maxHeartbeats 4000000 in
theorem pvSummary (A:Option Addr) (m c:Nat) (k cap n:Nat) (w:World) (HV:RowKit.Hid (∀ w',Below w.heap.size w w'→Calls Tryz.prog 147 #[.agg #[.int .i64 (k:Nat), .int .i64 (cap:Nat), .int .i64 (n:Nat), .slice A m c]] w' fun e w''=>e = .returned (.int .i64 0)∧Below w'.heap.size w' w'')) (HC:RowKit.Hid (∀ w',Calls Tryz.prog 108 #[.agg #[.int .i64 10, .int .i64 0, .int .i64 0, .int .i64 (k:Nat), .int .i64 (cap:Nat), .int .i64 0, .int .i64 0, .int .i64 0]] w' fun e w''=>e = .returned (.int .i64 0)∧Below w'.heap.size w' w'')):Calls Tryz.prog 39 #[.agg #[.int .i64 10, .int .i64 0, .int .i64 0, .int .i64 (k:Nat), .int .i64 (cap:Nat), .int .i64 0, .int .i64 0, .int .i64 0, .int .i64 0, .int .i64 0, .int .i64 0, .slice none 0 0, .int .i64 0, .int .i64 0, .int .i64 0, .int .i64 0, .slice none 0 0, .int .i64 0, .int .i64 0, .int .i64 0, .int .i64 0, .int .i64 0, .slice none 0 0, .int .i64 0, .int .i64 0, .int .i64 0, .int .i64 0, .int .i64 0, .int .i64 0, .slice none 0 0, .int .i64 0, .int .i64 0, .int .i64 0, .int .i64 0, .int .i64 0, .slice none 0 0, .int .i64 0, .int .i64 0, .int .i64 0, .slice none 0 0, .int .i64 0, .slice none 0 0, .bool false, .int .i64 0, .int .i64 0, .int .i64 0, .slice none 0 0, .slice none 0 0, .int .i64 (k:Nat), .int .i64 (cap:Nat), .int .i64 (n:Nat), .slice A m c, .int .i64 0, .int .i64 0, .int .i64 0, .int .i64 0, .slice none 0 0]] w fun e w'=>e = .returned (.int .i64 0)∧Below w.heap.size w w':=by
  go_enter Tryz.func39,Tryz.ntmps39
  go_upto_region 1 with (fail)
  refine start1 (fun w1 X o=>?_)
  have q0:w1.cell? ⟨w.heap.size,0,none⟩=some (.int .i64 10):=row_cell X 0
  have q1:w1.cell? ⟨w.heap.size,1,none⟩=some (.int .i64 0):=row_cell X 1
  have q2:w1.cell? ⟨w.heap.size,2,none⟩=some (.int .i64 0):=row_cell X 2
  have q3:w1.cell? ⟨w.heap.size,3,none⟩=some (.int .i64 (k:Nat)):=row_cell X 3
  have q4:w1.cell? ⟨w.heap.size,4,none⟩=some (.int .i64 (cap:Nat)):=row_cell X 4
  have q5:w1.cell? ⟨w.heap.size,5,none⟩=some (.int .i64 0):=row_cell X 5
  have q6:w1.cell? ⟨w.heap.size,6,none⟩=some (.int .i64 0):=row_cell X 6
  have q7:w1.cell? ⟨w.heap.size,7,none⟩=some (.int .i64 0):=row_cell X 7
  go_wp2_with fail
  refine (HC.out _).mono ?_
  rintro e w2 ⟨rfl,hb⟩
  clear q0 q1 q2 q3 q4 q5 q6 q7
  replace X:=row_call X hb
  replace o:=o.trans (hb.mono o.size)
  clear hb
  have PR:=Lib.hid (fun w' (hb:Below w.heap.size w w')=>prSummary A m c k cap n w' (Lib.hid (fun w'' hb2=>HV.out w'' (hb.trans (hb2.mono hb.size)))))
  go_wp2_with (with_reducible refine wpList_lsyn_g X rfl rfl _ rfl rfl ?_)
  refine (PR.out _ o).mono ?_
  rintro e w3 ⟨rfl,hb⟩
  replace X:=row_call X hb
  replace o:=o.trans (hb.mono o.size)
  clear hb
  go_wp2_with (with_reducible refine wpList_lsyn_g X rfl rfl _ rfl rfl ?_)
  refine (poSummary A m c k cap n _).mono ?_
  rintro e w4 ⟨rfl,hb⟩
  replace o:=o.trans (hb.mono o.size)
  clear X
  go_wp2
  go_ret
  exact ⟨rfl,o⟩
end Go.Proofs.YtdipoojjlddohaaGreat
end
section
/- Whole synopses whose state lies in several blocks of memory. -/
namespace Go.Proofs.YtdipoojjlddohaaGreat
open Go.RowKit
structure InT {γ:Type} (IN:Option Addr→Nat→Nat→γ→World→Prop) (T:Option Addr→Nat→γ→Nat→Prop):Prop where
  keep:∀ {A m c x w w'},IN A m c x w→w.heap.size≤w'.heap.size→(∀ g,T A m x g→w'.heap[g]?=w.heap[g]?)→IN A m c x w'
  blk:∀ {A m c x w},IN A m c x w→∀ g,T A m x g→g<w.heap.size
section
variable {γ:Type} {IN:Option Addr→Nat→Nat→γ→World→Prop} {T:Option Addr→Nat→γ→Nat→Prop} {A:Option Addr} {m c:Nat} {x:γ} {w w':World}
theorem InT.below (h:InT IN T) (hi:IN A m c x w) (hb:Below w.heap.size w w'):IN A m c x w':=h.keep hi hb.size (fun g hg=>hb.block g (h.blk hi g hg))
theorem InT.setc (h:InT IN T) {p:Addr} (u:Value) (hi:IN A m c x w) (hne:∀ g,T A m x g→p.block≠g):IN A m c x (w.setCell p u):=h.keep hi (by rw [size_setCell];exact Nat.le_refl _) (fun g hg=>Below.heap_setCell _ _ u g (fun e=>hne g hg e.symm))
theorem InT.setr (h:InT IN T) {b:Nat} (cs:Array Value) (hi:IN A m c x w) (hne:∀ g,T A m x g→b≠g):IN A m c x (w.setRow b cs):=h.keep hi (by rw [size_setRow];exact Nat.le_refl _) (fun g hg=>heap_setRow_other _ _ cs g (fun e=>hne g hg e.symm))
theorem InT.setL (h:InT IN T) {b:Nat} (hne:∀ g,T A m x g→b≠g):∀ (vs:List Value) {w:World} {i:Nat},IN A m c x w→IN A m c x (setL w b i vs)
  | [],_,_,hi=>hi
  | v :: r,_,_,hi=>h.setL hne r (h.setc v hi hne)
def GRetT (IN:Option Addr→Nat→Nat→γ→World→Prop) (T:Option Addr→Nat→γ→Nat→Prop) (cs:Option Addr→Nat→Nat→Array Value) (er:Int) (Fr:Nat→Prop) (w:World) (e:Ending) (w':World):Prop :=
  ∃ (A:Option Addr) (m c:Nat) (x:γ),e = .returned (.tuple #[.agg (cs A m c), .int .i64 er])∧IN A m c x w'∧Below w.heap.size w w'∧∀ g,T A m x g→w.heap.size≤g∨Fr g
end
def oneT (A:Option Addr) (m:Nat) (_:Unit) (g:Nat):Prop:=0<m∧∃ a,A=some a∧a.block=g
section
variable {P:Program} {c:Code} {Q:Exit→Act→World→Prop} {a:Act} {w w0:World} {B x r:Nat} {tx tr:TypeId} {cx cr:Array Value}
theorem laySt {γ:Type} {IN:Option Addr→Nat→Nat→γ→World→Prop} {T:Option Addr→Nat→γ→Nat→Prop} {A:Option Addr} {m c':Nat} {y:γ} (off:Nat) (vs:List Value) (X:Row w x tx cx) (R:Row w r tr cr) (o:Below B w0 w) (hIN:InT IN T) (hin:IN A m c' y w) (hne:∀ g,T A m y g→x≠g) (hr:r≠x) (hB:B≤x)
    (h:∀ w',Row w' x tx (arrL cx off vs)→Row w' r tr cr→Below B w0 w'→IN A m c' y w'→c.wp P Q a w'):c.wp P Q a (setL w x off vs) :=
  h _ (row_setL vs X) (row_otherL hr vs R) (below_setL hB vs o) (hIN.setL hne vs hin)
end
end Go.Proofs.YtdipoojjlddohaaGreat
end
