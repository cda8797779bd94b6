/- What the law TopRelative needs, joined of its texts by a program (slim2.py); part 26. -/
import Derived.Test.YtdipoojjlddohaaGreatZTopRelative1
import Derived.Test.YtdipoojjlddohaaGreatZTopRelative3
import Derived.Test.YtdipoojjlddohaaGreatZTopRelative5
import Derived.Test.YtdipoojjlddohaaGreatZTopRelative7
import Derived.Test.YtdipoojjlddohaaGreatZTopRelative12
import Derived.Test.YtdipoojjlddohaaGreatZTopRelative15
import Derived.Test.YtdipoojjlddohaaGreatZTopRelative23
import Derived.Test.YtdipoojjlddohaaGreatZTopRelative25
set_option linter.unusedVariables false
set_option linter.unusedSimpArgs false
set_option linter.unusedSectionVars false
set_option linter.unnecessarySimpa false
set_option maxRecDepth 100000
namespace Go.Proofs.YtdipoojjlddohaaGreat
open MC
open MT
open Go.RowKit
theorem info_syn:(Tryz.prog.info? 58).map (·.size)=some 57:=by kernel_rfl
theorem info_ans:(Tryz.prog.info? 71).map (·.size)=some 11:=by kernel_rfl
theorem heap_setRow_other (w:World) (g:Nat) (cs:Array Value) (b:Nat) (h:b≠g):(w.setRow g cs).heap[b]?=w.heap[b]?:=by
  simp only [World.setRow];rw [Array.getElem?_modify,if_neg (fun e=>h e.symm)]
theorem size_setRow (w:World) (g:Nat) (cs:Array Value):(w.setRow g cs).heap.size=w.heap.size:=by
  simp [World.setRow]
section
variable {w:World} {b g:Nat} {t:TypeId} {old cs cs':Array Value}
theorem row_setRow (h:Row w b t old):Row (w.setRow b cs) b t cs:=by
  unfold Row at *;simp only [World.setRow];rw [Array.getElem?_modify,if_pos rfl,h];rfl
theorem row_setRow_other (h:Row w b t cs) (hne:b≠g):Row (w.setRow g cs') b t cs:=(heap_setRow_other w g cs' b hne).trans h
end
theorem all_one {cs:Array Value} (h:cs.toList.all (·.oneCell')=true):cs.all (·.oneCell')=true :=
  Array.all_eq_true_iff_forall_mem.2 fun v hv=>List.all_eq_true.1 h v (Array.mem_toList_iff.2 hv)
section
variable {ops:Array Oper} {rest:List Oper} {o:Oper} {a:Act} {w:World} {Q:Exit->Act->World->Prop} {b:Nat} {cs old:Array Value}
theorem wpList_lsyn (R:Row w b 58 cs) (hs:cs.size=57) (hgd:o.guard=none) (x:Operand) (ho:o.op = .load 58 x) (hx:a.eval x = .pointer (some ⟨b,0,none⟩))
    (h:wpList Tryz.prog ops Q rest (a.put o.dst (.agg cs)) w):wpList Tryz.prog ops Q (o :: rest) a w :=
  wpList_load_row hgd 58 x ho b hx 58 cs (0,0) _ R Tryz.underlying58 rfl (by rw [hs];exact info_syn) h
theorem built_cfg (x0 x1 x2 x3 x4 x5 x6 x7:Value):Tryz.prog.built 58 [(0, .agg #[x0,x1,x2,x3,x4,x5,x6,x7])]=some (#[x0, x1, x2, x3, x4, x5, x6, x7, .int .i64 0, .int .i64 0, .int .i64 0, .slice none 0 0, .int .i64 0, .int .i64 0, .int .i64 0, .int .i64 0, .slice none 0 0, .int .i64 0, .int .i64 0, .int .i64 0, .int .i64 0, .int .i64 0, .slice none 0 0, .int .i64 0, .int .i64 0, .int .i64 0, .int .i64 0, .int .i64 0, .int .i64 0, .slice none 0 0, .int .i64 0, .int .i64 0, .int .i64 0, .int .i64 0, .int .i64 0, .slice none 0 0, .int .i64 0, .int .i64 0, .int .i64 0, .slice none 0 0, .int .i64 0, .slice none 0 0, .bool false, .int .i64 0, .int .i64 0, .int .i64 0, .slice none 0 0, .slice none 0 0, .int .i64 0, .int .i64 0, .int .i64 0, .slice none 0 0, .int .i64 0, .int .i64 0, .int .i64 0, .int .i64 0, .slice none 0 0]:Array Value):=by kernel_rfl
set_option maxRecDepth 100000 in
theorem wpList_bsyn (x0 x1 x2 x3 x4 x5 x6 x7:Value) (hgd:o.guard=none) (x:Operand) (ho:o.op = .build 58 #[(0,x)]) (hx:a.eval x = .agg #[x0,x1,x2,x3,x4,x5,x6,x7])
    (h:wpList Tryz.prog ops Q rest (a.put o.dst (.agg (J24 x0 x1 x2 x3 x4 x5 x6 x7))) w):wpList Tryz.prog ops Q (o :: rest) a w:=by
  have e:(Tryz.prog.built 58 ((#[(0,x)]:Array (Nat×Operand)).map fun (i,x)=>(i,a.eval x)).toList)=some (#[x0, x1, x2, x3, x4, x5, x6, x7, .int .i64 0, .int .i64 0, .int .i64 0, .slice none 0 0, .int .i64 0, .int .i64 0, .int .i64 0, .int .i64 0, .slice none 0 0, .int .i64 0, .int .i64 0, .int .i64 0, .int .i64 0, .int .i64 0, .slice none 0 0, .int .i64 0, .int .i64 0, .int .i64 0, .int .i64 0, .int .i64 0, .int .i64 0, .slice none 0 0, .int .i64 0, .int .i64 0, .int .i64 0, .int .i64 0, .int .i64 0, .slice none 0 0, .int .i64 0, .int .i64 0, .int .i64 0, .slice none 0 0, .int .i64 0, .slice none 0 0, .bool false, .int .i64 0, .int .i64 0, .int .i64 0, .slice none 0 0, .slice none 0 0, .int .i64 0, .int .i64 0, .int .i64 0, .slice none 0 0, .int .i64 0, .int .i64 0, .int .i64 0, .int .i64 0, .slice none 0 0]:Array Value):=by
    have e1:((#[(0,x)]:Array (Nat×Operand)).map fun (i,x)=>(i,a.eval x)).toList=[(0,a.eval x)]:=by simp
    rw [e1,hx];exact built_cfg x0 x1 x2 x3 x4 x5 x6 x7
  exact wpList_build hgd 58 #[(0,x)] ho (by rw [e];rfl) (by rw [e];exact h)
theorem wp_lsyn {K:Act->World->Prop} (R:Row w b 58 cs) (hs:cs.size=57) (x:Operand) (ho:o.op = .load 58 x) (hx:a.eval x = .pointer (some ⟨b,0,none⟩))
    (h:K (a.put o.dst (.agg cs)) w):o.wp Tryz.prog a w K Q :=
  wp_load_row 58 x ho b hx 58 cs (0,0) _ R Tryz.underlying58 rfl (by rw [hs];exact info_syn) h
theorem wpList_lsyn_g (R:Row w b 58 cs) (hs:cs.size=57) (hw:Region.wanted o (yielded ops a.tmps)=true) (x:Operand) (ho:o.op = .load 58 x) (hx:a.eval x = .pointer (some ⟨b,0,none⟩))
    (h:wpList Tryz.prog ops Q rest (a.put o.dst (.agg cs)) w):wpList Tryz.prog ops Q (o :: rest) a w:=by
  unfold wpList;rw [if_pos hw];exact .inl (wp_lsyn R hs x ho hx h)
theorem wpList_ssyn (R:Row w b 58 old) (hs:old.size=57) (hc:cs.size=57) (h1:cs.all (·.oneCell')=true) (hgd:o.guard=none) (x y:Operand) (ho:o.op = .store 58 x y) (hx:a.eval x = .pointer (some ⟨b,0,none⟩)) (hy:a.eval y = .agg cs)
    (h:wpList Tryz.prog ops Q rest (a.put o.dst undef) (w.setRow b cs)):wpList Tryz.prog ops Q (o :: rest) a w :=
  wpList_store_row hgd 58 x y ho b cs hx hy 58 old R (by rw [hc];exact info_syn) (hs.trans hc.symm) h1 h
theorem results_syn {fn:Func} {p q:Tmp} (h:fn.results=#[.cell p 58, .tmp q]) (tmps:Array Value) (R:Row w b 58 cs) (hs:cs.size=57) (hp:tmps.getD p undef = .pointer (some ⟨b,0,none⟩)) :
    (results fn tmps).run Tryz.prog w = .ok (.tuple #[.agg cs,tmps.getD q undef]) w:=by
  have hl:=run_loadVar_row (P:=Tryz.prog) w b 58 58 cs (0,0) _ R Tryz.underlying58 rfl (by rw [hs];exact info_syn);have hp':tmps[p]?.getD undef = .pointer (some ⟨b,0,none⟩):=by simpa using hp
  simp [results,h,hp',asAddr,hl]
theorem wpList_lans (R:Row w b 71 cs) (hs:cs.size=11) (hgd:o.guard=none) (x:Operand) (ho:o.op = .load 71 x) (hx:a.eval x = .pointer (some ⟨b,0,none⟩))
    (h:wpList Tryz.prog ops Q rest (a.put o.dst (.agg cs)) w):wpList Tryz.prog ops Q (o :: rest) a w :=
  wpList_load_row hgd 71 x ho b hx 71 cs (0,0) _ R Tryz.underlying71 rfl (by rw [hs];exact info_ans) h
theorem wpList_sans (R:Row w b 71 old) (hs:old.size=11) (hc:cs.size=11) (h1:cs.all (·.oneCell')=true) (hgd:o.guard=none) (x y:Operand) (ho:o.op = .store 71 x y) (hx:a.eval x = .pointer (some ⟨b,0,none⟩)) (hy:a.eval y = .agg cs)
    (h:wpList Tryz.prog ops Q rest (a.put o.dst undef) (w.setRow b cs)):wpList Tryz.prog ops Q (o :: rest) a w :=
  wpList_store_row hgd 71 x y ho b cs hx hy 71 old R (by rw [hc];exact info_ans) (hs.trans hc.symm) h1 h
theorem results_ans {fn:Func} {p q:Tmp} (h:fn.results=#[.cell p 71, .tmp q]) (tmps:Array Value) (R:Row w b 71 cs) (hs:cs.size=11) (hp:tmps.getD p undef = .pointer (some ⟨b,0,none⟩)) :
    (results fn tmps).run Tryz.prog w = .ok (.tuple #[.agg cs,tmps.getD q undef]) w:=by
  have hl:=run_loadVar_row (P:=Tryz.prog) w b 71 71 cs (0,0) _ R Tryz.underlying71 rfl (by rw [hs];exact info_ans);have hp':tmps[p]?.getD undef = .pointer (some ⟨b,0,none⟩):=by simpa using hp
  simp [results,h,hp',asAddr,hl]
theorem results_syn3 {fn:Func} {p q r:Tmp} (h:fn.results=#[.cell p 58, .tmp q, .tmp r]) (tmps:Array Value) (R:Row w b 58 cs) (hs:cs.size=57) (hp:tmps.getD p undef = .pointer (some ⟨b,0,none⟩)) :
    (results fn tmps).run Tryz.prog w = .ok (.tuple #[.agg cs,tmps.getD q undef,tmps.getD r undef]) w:=by
  have hl:=run_loadVar_row (P:=Tryz.prog) w b 58 58 cs (0,0) _ R Tryz.underlying58 rfl (by rw [hs];exact info_syn);have hp':tmps[p]?.getD undef = .pointer (some ⟨b,0,none⟩):=by simpa using hp
  simp [results,h,hp',asAddr,hl]
theorem exec_lsyn {o:Oper} {a:Act} (R:Row w b 58 cs) (hs:cs.size=57) (x:Operand) (ho:o.op = .load 58 x) (hx:a.eval x = .pointer (some ⟨b,0,none⟩)):(execOp a.eval o).run Tryz.prog w = .ok (.value (.agg cs)) w:=by
  unfold execOp;simp only [ho,hx,Instr.loadAt,Instr.sureAddr,Sem.run_bind,Sem.run_pure,Result.andThen_ok,run_loadVar_row w b 58 58 cs (0,0) _ R Tryz.underlying58 rfl (by rw [hs];exact info_syn)]
end
structure InOK (IN:Option Addr->Nat->Nat->World->Prop):Prop where
  below:∀ {A m c w w'},IN A m c w->Below w w w'->IN A m c w'
  setc:∀ {A m c w} {p:Addr} (u:Value),IN A m c w->(0<m->∀ a,A=some a->p.block≠a.block)->IN A m c (w.setCell p u)
  setr:∀ {A m c w} {g:Nat} (cs:Array Value),IN A m c w->(0<m->∀ a,A=some a->g≠a.block)->IN A m c (w.setRow g cs)
  blk:∀ {A m c w},IN A m c w->0<m->∀ a,A=some a->a.block<w.heap.size
  keep:∀ {A m c w w'},IN A m c w->w.heap.size<=w'.heap.size->(0<m->∀ a,A=some a->w'.heap[a.block]?=w.heap[a.block]?)->IN A m c w'
def GRet (IN:Option Addr->Nat->Nat->World->Prop) (cs:Option Addr->Nat->Nat->Array Value) (er:Int) (Fr:Nat->Prop) (w:World) (e:Ending) (w':World):Prop :=
  ∃ (A:Option Addr) (m c:Nat),e = .returned (.tuple #[.agg (cs A m c),er])/\IN A m c w'/\Below w w w'/\(0<m->∀ a,A=some a->w.heap.size<=a.block∨Fr a.block)
theorem reads_keep0 {w w':World} {size n:Nat} {A:Option Addr} {xs:List Value} (h:Reads w w.heap.size size A n xs) (hs:w'.heap.size=w.heap.size) (hk:0<n->∀ a,A=some a->w'.heap[a.block]?=w.heap[a.block]?):Reads w' w'.heap.size size A n xs:=by
  rw [hs];by_cases h0:0<n
  · exact reads_keep h (fun a e _=>hk h0 a e)
  · exact ⟨h.1,fun hn=>absurd hn h0⟩
theorem reads_blk {w:World} {B size n:Nat} {A:Option Addr} {xs:List Value} (h:Reads w B size A n xs) (hn:0<n) (a:Addr) (e:A=some a):a.block<B:=by
  obtain ⟨ad,e',hb,_⟩:=h.2 hn;rw [e'] at e;cases e;exact hb
theorem reads_keep1 {w w':World} {size n:Nat} {A:Option Addr} {xs:List Value} (h:Reads w w.heap.size size A n xs) (hs:w.heap.size<=w'.heap.size) (hk:0<n->∀ a,A=some a->w'.heap[a.block]?=w.heap[a.block]?):Reads w' w'.heap.size size A n xs:=by
  by_cases h0:0<n
  · exact (reads_keep h (fun a e _=>hk h0 a e)).more hs
  · exact ⟨h.1,fun hn=>absurd hn h0⟩
theorem inOK_bk (P:List Bk->Prop):InOK (fun A m c w=>∃ l,BIn A m c l w/\P l) :=
  ⟨fun ⟨l,h,hp⟩ hb=>⟨l,h.below hb,hp⟩,
   fun u ⟨l,h,hp⟩ hne=>⟨l,⟨reads_keep0 h.reads (size_setCell _ _) (fun h0 a e=>Below.heap_setCell _ _ u a.block (fun x=>hne h0 a e x.symm)),h.mc,h.cB⟩,hp⟩,
   fun cs ⟨l,h,hp⟩ hne=>⟨l,⟨reads_keep0 h.reads (size_setRow _ _ _) (fun h0 a e=>heap_setRow_other _ _ cs a.block (fun x=>hne h0 a e x.symm)),h.mc,h.cB⟩,hp⟩,
   fun ⟨l,h,_⟩ hn a e=>reads_blk h.reads hn a e,
   fun ⟨l,h,hp⟩ hs hk=>⟨l,⟨reads_keep1 h.reads hs hk,h.mc,h.cB⟩,hp⟩⟩
theorem inOK_mk (P:List Mk->Prop):InOK (fun A m c w=>∃ l,MIn A m c l w/\P l) :=
  ⟨fun ⟨l,h,hp⟩ hb=>⟨l,h.below hb,hp⟩,
   fun u ⟨l,h,hp⟩ hne=>⟨l,⟨reads_keep0 h.reads (size_setCell _ _) (fun h0 a e=>Below.heap_setCell _ _ u a.block (fun x=>hne h0 a e x.symm)),h.mB,h.mc,h.cB⟩,hp⟩,
   fun cs ⟨l,h,hp⟩ hne=>⟨l,⟨reads_keep0 h.reads (size_setRow _ _ _) (fun h0 a e=>heap_setRow_other _ _ cs a.block (fun x=>hne h0 a e x.symm)),h.mB,h.mc,h.cB⟩,hp⟩,
   fun ⟨l,h,_⟩ hn a e=>reads_blk h.reads hn a e,
   fun ⟨l,h,hp⟩ hs hk=>⟨l,⟨reads_keep1 h.reads hs hk,h.mB,h.mc,h.cB⟩,hp⟩⟩
theorem InOK.setL {IN:Option Addr->Nat->Nat->World->Prop} (hIN:InOK IN) {A:Option Addr} {m c g:Nat} (hne:0<m->∀ a,A=some a->g≠a.block):∀ (vs:List Value) {w:World} {i:Nat},IN A m c w->IN A m c (setL w g i vs)
  | [],_,_,h=>h
  | v :: r,_,_,h=>hIN.setL hne r (hIN.setc v h hne)
section
variable {P:Program} {c:Code} {Q:Exit->Act->World->Prop} {a:Act} {w w0:World} {B x r:Nat} {tx tr:TypeId} {cx cr:Array Value}
theorem layS {IN:Option Addr->Nat->Nat->World->Prop} {A:Option Addr} {m c':Nat} (off:Nat) (vs:List Value) (X:Row w x tx cx) (R:Row w r tr cr) (o:Below B w0 w) (hIN:InOK IN) (hin:IN A m c' w) (hne:0<m->∀ a,A=some a->x≠a.block) (hr:r≠x) (hB:B<=x)
    (h:∀ w',Row w' x tx (arrL cx off vs)->Row w' r tr cr->Below B w0 w'->IN A m c' w'->c.wp P Q a w'):c.wp P Q a (setL w x off vs) :=
  h _ (row_setL vs X) (row_otherL hr vs R) (below_setL hB vs o) (hIN.setL hne vs hin)
theorem layT (off:Nat) (vs:List Value) (X:Row w x tx cx) (R:Row w r tr cr) (o:Below B w0 w) (hr:r≠x) (hB:B<=x)
    (h:∀ w',Row w' x tx (arrL cx off vs)->Row w' r tr cr->Below B w0 w'->c.wp P Q a w'):c.wp P Q a (setL w x off vs) :=
  h _ (row_setL vs X) (row_otherL hr vs R) (below_setL hB vs o)
end
def nowK (l:List Itm) (k:Nat):Int:=if k=0 then 0 else (itmAt l (k-1)).t
theorem orow_ne_row {w:World} {base size n b:Nat} {e t:TypeId} {v:Value} {xs:List Value} {cs:Array Value} (h:w.ownsRow base e size v n xs) (h2:Row w b t cs) (hne:e≠t):v.ownBlock≠some b:=by
  rcases h.2 with ⟨rfl,_⟩ | ⟨g,cap,cur,rfl,_,hg,_⟩
  · simp [Value.ownBlock]
  · intro he;have e9:g=b:=Option.some.inj he;subst e9;unfold Row at h2;rw [hg] at h2;simp at h2;exact hne h2.2
structure KindP (cfg:Array Value) (IN:List Itm->Int->Option Addr->Nat->Nat->World->Prop) (csf:List Itm->Int->Option Addr->Nat->Nat->Array Value) (okv:Int->Prop) (N:Nat):Prop where
  inok:∀ ad now,InOK (IN ad now)
  size:∀ ad now A m c,(csf ad now A m c).size=57
  one:∀ ad now A m c,(csf ad now A m c).all (·.oneCell')=true
  new:∀ w,Calls Tryz.prog 37 #[.agg cfg,()] w (GRet (IN [] 0) (csf [] 0) 0 (fun _=>False) w)
  adv:∀ ad now tt A m c w,IN ad now A m c w->now<=tt->tt<=16777216->Calls Tryz.prog 21 #[.agg (csf ad now A m c),tt] w (GRet (IN ad tt) (csf ad tt) 0 (fun b=>0<m/\∃ a,A=some a/\a.block=b) w)
  add : ∀ ad now v A m c w, IN ad now A m c w -> ad.length < N -> okv v -> Calls Tryz.prog 38 #[.agg (csf ad now A m c), v,""] w fun e w' => GRet (IN (ad ++ [⟨now, v⟩]) now) (csf (ad ++ [⟨now, v⟩]) now) 0 (fun b => 0 < m /\ ∃ a, A = some a /\ a.block = b) w e w' ∨ (e = .returned (.tuple #[.agg J0, .int .i64 5]) /\ Below w w w')
def RunRetP (IN:List Itm->Int->Option Addr->Nat->Nat->World->Prop) (csf:List Itm->Int->Option Addr->Nat->Nat->Array Value) (l:List Itm) (w:World) (e:Ending) (w':World):Prop :=
  ∃ (ad:List Itm) (A:Option Addr) (m c:Nat) (v:Value),ad.Sublist l/\e = .returned (.tuple #[.agg (csf ad (nowK l l.length) A m c),v, .bool true])/\IN ad (nowK l l.length) A m c w'/\(0<m->∀ a,A=some a->w.heap.size<=a.block)/\w'.ownsRow w.heap.size 90 2 v ad.length (icells ad)/\Below w w w'
set_option maxRecDepth 100000 in
set_option maxHeartbeats 8000000 in
theorem prunP (x0 x1 x2 x3 x4 x5 x6 x7:Value) (IN:List Itm->Int->Option Addr->Nat->Nat->World->Prop) (csf:List Itm->Int->Option Addr->Nat->Nat->Array Value) (okv:Int->Prop) (N:Nat) (HK:RowKit.Hid (KindP #[x0,x1,x2,x3,x4,x5,x6,x7] IN csf okv N)) (A0:Option Addr) (n c0:Nat) (l:List Itm) (w:World) (hin:Reads w w.heap.size 2 A0 n (icells l)) (hn:n<=100000) (hN:n<=N)
    (hT:∀ i,i<n->nowK l i<=(itmAt l i).t/\(itmAt l i).t<=16777216/\okv (itmAt l i).v):Calls Tryz.prog 11 #[.agg #[x0,x1,x2,x3,x4,x5,x6,x7], .slice A0 n c0] w (RunRetP IN csf l w):=by
  obtain ⟨ii,hii,iz0,iz1,iz2⟩:=info_parts info_itm;have HR:=Lib.hid hin;have HL:=Lib.hid hin.itm_len;have HT:=Lib.hid hT;clear hin hT;go_enter Tryz.func11,Tryz.ntmps11;go_upto_region 1 with (fail)
  have X:Row ((w.alloc (.cells #[x0,x1,x2,x3,x4,x5,x6,x7] 27)).alloc (.cells J0 58)) (w.heap.size) 27 #[x0,x1,x2,x3,x4,x5,x6,x7]:=row_alloc (row_new rfl) _;have R:Row ((w.alloc (.cells #[x0,x1,x2,x3,x4,x5,x6,x7] 27)).alloc (.cells J0 58)) (w.heap.size+1) 58 J0:=row_new (by simp);have o:Below w w ((w.alloc (.cells #[x0,x1,x2,x3,x4,x5,x6,x7] 27)).alloc (.cells J0 58)):=bel9;obtain ⟨w1,hw1⟩:∃ x,x=((w.alloc (.cells #[x0,x1,x2,x3,x4,x5,x6,x7] 27)).alloc (.cells J0 58)):=⟨_,rfl⟩
  rw [<- hw1] at X R o |-
  clear hw1;obtain ⟨X0,X1,X2,X3,X4,X5,X6,X7,Xf0,Xf1,Xf2,Xf3,Xf4,Xf5,Xf6,Xf7⟩:=row_eight X;go_wp2_with fail;refine (HK.out.new _).mono ?_;rintro e w2 ⟨A1,m1,c1,rfl,in1,hb,fr0⟩;have zr0:=row_lt R;replace R:=row_call R hb;replace o:=o.trans (hb.mono o.size);clear hb X X0 Xf0 X1 Xf1 X2 Xf2 X3 Xf3 X4 Xf4 X5 Xf5 X6 Xf6 X7 Xf7;have hs1:=HK.out.size [] 0 A1 m1 c1;have h1:=HK.out.one [] 0 A1 m1 c1;have IOA:=HK.out.inok [] 0;generalize hcs1:csf [] 0 A1 m1 c1=cs1 at hs1 h1 |-
  have SZ:Row (w2.alloc (.cells J0 58)) w2.heap.size 58 J0:=row_new rfl;go_upto_region 2 with (with_reducible refine wpList_ssyn SZ rfl hs1 h1 rfl _ _ rfl rfl rfl ?_)
  have S:=row_setRow (cs:=cs1) SZ;have zr:=row_lt R;have z1:=o.size;have b1:=IOA.blk in1;replace in1:=IOA.setr (g:=w2.heap.size) cs1 (IOA.below in1 ((Below.refl _ _).alloc (Nat.le_refl _) (.cells J0 58))) (fun hm a e=>by have:=b1 hm a e;omega)
  have fr1:0<m1->∀ a,A1=some a->a.block≠w2.heap.size/\w.heap.size+1<a.block:=fun hm a e=>by
    have:=b1 hm a e;rcases fr0 hm a e with h | h
    · exact ⟨by omega,by omega⟩
    · exact h.elim
  replace R:=row_setRow_other (g:=w2.heap.size) (cs':=cs1) (row_alloc R (.cells J0 58)) (by omega);replace o:=below_setRow (g:=w2.heap.size) (o.alloc o.size (.cells J0 58)) o.size cs1;obtain ⟨w3,hw3⟩:∃ x,x=(w2.alloc (.cells J0 58)).setRow w2.heap.size cs1:=⟨_,rfl⟩
  rw [<- hw3] at S R in1 o |-
  clear hw3 SZ h1 b1;generalize w2.heap.size=sb at S z1 zr fr1 |-
  rw [<- hcs1] at S;clear hcs1 hs1;go_wp2;go_loopw [8,9,11,12,13,21] (fun u8 u9 _ _ _ u21 wr=>∃ (k:Nat) (lk:List Itm) (A:Option Addr) (m c:Nat),k<=n/\RowKit.Hid (lk.Sublist (l.take k))/\u21 = .int .i64 (k:Nat)/\u8 = .int .i64 0/\wr.ownsRow w.heap.size 90 2 u9 lk.length (icells lk)/\Row wr sb 58 (csf lk (nowK l k) A m c)/\Row wr (w.heap.size+1) 58 J0/\IN lk (nowK l k) A m c wr/\RowKit.Hid (0<m->∀ a,A=some a->a.block≠sb/\w.heap.size+1<a.block/\u9.ownBlock≠some a.block)/\Below w w wr) (fun _ _ _ _ _ u21 _=>n-(intOf u21).toNat)
  case atStart=>exact ⟨0,[],A1,m1,c1,Nat.zero_le _,Lib.hid (List.nil_sublist _),rfl,rfl,World.ownsRow_nil _ _ _ _,S,R,in1,Lib.hid (fun hm a e=>⟨(fr1 hm a e).1,(fr1 hm a e).2,by simp [Value.ownBlock]⟩),o⟩
  case round =>
    clear S R in1 fr1 o;obtain ⟨k,lk,A,m,c,hk,HSB,rfl,rfl,OW,S,R,in1,fr,o⟩:=hrel;by_cases hlt:k<n
    · obtain ⟨ad,rfl,hadb,hi0⟩:=HR.out.itm hlt;obtain ⟨c0',c1'⟩:=hi0.below o (by rw [block_of_add];exact hadb);obtain ⟨t1,t2,t3⟩:=HT.out k hlt;have kl:k<l.length:=by rw [HL.out];exact hlt
      have eT:l.take (k+1)=l.take k ++ [itmAt l k]:=by rw [List.take_succ_eq_append_getElem kl,itm_eq kl]
      have eN:nowK l (k+1)=(itmAt l k).t:=by unfold nowK;rw [if_neg (by omega)];rfl
      have lnk:lk.length<=k:=by have:=HSB.out.length_le;rw [List.length_take] at this;omega
      have ln:lk.length<N:=by omega
      obtain ⟨⟨tk,vk⟩,hx⟩:∃ x,itmAt l k=x:=⟨_,rfl⟩
      rw [hx] at c0' c1' t1 t2 t3 eT eN;dsimp only at c0' c1' t1 t2 t3 eN;have PA:=HK.out.adv lk (nowK l k) tk A m c;have PD:=fun A m c w=>HK.out.add lk tk vk A m c w;have hs0:=HK.out.size lk (nowK l k) A m c;have IO0:=HK.out.inok lk (nowK l k);have IO1:=HK.out.inok lk tk;have IO2:=HK.out.inok (lk ++ [⟨tk,vk⟩]) tk;have hb0:=IO0.blk in1;have S1:=HK.out.size lk tk;have O1:=HK.out.one lk tk;have S2:=HK.out.size (lk ++ [⟨tk,vk⟩]) tk;have O2:=HK.out.one (lk ++ [⟨tk,vk⟩]) tk;generalize csf lk (nowK l k) A m c=cs0 at S PA hs0;replace PA:=Lib.hid (fun w' (h:IN lk (nowK l k) A m c w')=>PA w' h t1 t2);replace PD:=Lib.hid (fun A m c w (h:IN lk tk A m c w)=>PD A m c w h ln t3);replace S1:=Lib.hid S1;replace O1:=Lib.hid O1;replace S2:=Lib.hid S2;replace O2:=Lib.hid O2;have SB1:=Lib.hid (show lk.Sublist (l.take (k+1)) by rw [eT];exact HSB.out.trans (List.sublist_append_left _ _));have SB2:=Lib.hid (show (lk ++ [(⟨tk,vk⟩:Itm)]).Sublist (l.take (k+1)) by rw [eT];exact HSB.out.append (List.Sublist.refl _));clear eT HSB;replace eN:=Lib.hid eN;have i1:(k:Int)<(n:Int):=by omega
      have i2:(0:Int)<=(k:Int):=by omega
      have zo:=o.size;clear hi0 t1 t2 t3 kl ln hx;generalize nowK l k=nw at *;go_upto_region 6 with (fail)
      have B:Row (wr.alloc (.cells #[tk,vk] 90)) wr.heap.size 90 #[tk,vk]:=row_new rfl;have zS:=row_lt S;have zR:=row_lt R;have zW:=fun g (e:u9.ownBlock=some g)=>(OW.lt g e).2;have hbi:0<m->∀ a,A=some a->a.block≠wr.heap.size:=fun hm a e=>by have:=hb0 hm a e;omega
      replace S:=row_alloc S (.cells #[tk,vk] 90);replace R:=row_alloc R (.cells #[tk,vk] 90);replace in1:=IO0.below in1 ((Below.refl _ _).alloc (Nat.le_refl _) (.cells #[tk,vk] 90));replace OW:=OW.alloc (.cells #[tk,vk] 90);replace o:=o.alloc o.size (.cells #[tk,vk] 90);obtain ⟨w1,hw1⟩:∃ x,x=wr.alloc (.cells #[tk,vk] 90):=⟨_,rfl⟩
      rw [<- hw1] at B S R in1 OW o |-
      clear hw1 c0' c1' hb0;generalize wr.heap.size=ib at B zS zR zW hbi |-
      obtain ⟨B0,B1,_,_⟩:=row_two B;go_wp2_with (with_reducible refine wpList_lsyn S hs0 rfl _ rfl rfl ?_);refine (PA.out _ in1).mono ?_;rintro e w2 ⟨A2,m2,c2,rfl,in2,hb,fr2⟩;have yS:=row_lt S;have yR:=row_lt R;have yB:=row_lt B;have yW:=fun g (e:u9.ownBlock=some g)=>(OW.lt g e).2
      have frA:0<m2->∀ a,A2=some a->a.block≠sb/\w.heap.size+1<a.block/\a.block≠ib/\u9.ownBlock≠some a.block:=fun hm a e=>by
        rcases fr2 hm a e with h | ⟨h0,a',ea,h⟩
        · exact ⟨by omega,by omega,by omega,fun x=>by have:=yW _ x;omega⟩
        · obtain ⟨f1,f2,f3⟩:=fr.out h0 a' ea;rw [<- h];exact ⟨f1,f2,hbi h0 a' ea,f3⟩
      replace S:=row_call S hb;replace R:=row_call R hb;replace B:=row_call B hb;replace OW:=orow_keep OW (fun g e=>hb.block g (OW.lt g e).2);replace o:=o.trans (hb.mono o.size);have nWS:=orow_ne_row OW S (by decide);have s1:=S1.out A2 m2 c2;have o1:=O1.out A2 m2 c2;generalize hcs1:csf lk tk A2 m2 c2=cs1 at s1 o1 |-
      replace hcs1:=Lib.hid hcs1;go_upto_region 8 with (with_reducible refine wpList_ssyn S hs0 s1 o1 rfl _ _ rfl rfl rfl ?_)
      clear B0 B1 hb yS yR yB yW fr2 PA fr hbi;replace S:=row_setRow (cs:=cs1) S;replace R:=row_setRow_other (g:=sb) (cs':=cs1) R (by omega);replace B:=row_setRow_other (g:=sb) (cs':=cs1) B (by omega);replace OW:=orow_keep OW (fun g e=>heap_setRow_other w2 sb cs1 g (fun x=>nWS (x ▸ e)));replace in2:=IO1.setr (g:=sb) cs1 in2 (fun hm a e=>(frA hm a e).1.symm);replace o:=below_setRow (g:=sb) o z1 cs1;obtain ⟨w3,hw3⟩:∃ x,x=w2.setRow sb cs1:=⟨_,rfl⟩
      rw [<- hw3] at S R B OW in2 o |-
      clear hw3;obtain ⟨B0,B1,_,_⟩:=row_two B;rw [<- hcs1.out] at S s1;clear hcs1;go_wp2_with (with_reducible refine wpList_lsyn S s1 rfl _ rfl rfl ?_);refine (PD.out _ _ _ _ in2).mono ?_;rintro e w4 hq;rcases hq with hq | ⟨he,hb⟩
      rotate_left
      · subst he;have yS:=row_lt S;have yR:=row_lt R;have yW:=fun g (e:u9.ownBlock=some g)=>(OW.lt g e).2;replace S:=row_call S hb;replace R:=row_call R hb;replace OW:=orow_keep OW (fun g e=>hb.block g (OW.lt g e).2);have zz:=hb.size;have in3:=IO1.below in2 hb;replace o:=o.trans (hb.mono o.size);have b3:=IO1.blk in3;have TZ:Row (w4.alloc (.cells J0 58)) w4.heap.size 58 J0:=row_new rfl;have h1:(J0:Array Value).all (·.oneCell')=true:=all_one rfl;have S9:=row_setRow_other (g:=w4.heap.size) (cs':=J0) (row_alloc S (.cells J0 58)) (by omega);have R9:=row_setRow_other (g:=w4.heap.size) (cs':=J0) (row_alloc R (.cells J0 58)) (by omega);have OW9:=orow_keep (OW.alloc (.cells J0 58)) (fun g e=>heap_setRow_other (w4.alloc (.cells J0 58)) w4.heap.size J0 g (by have:=yW g e;omega));have in9:=IO1.setr (g:=w4.heap.size) J0 (IO1.below in3 ((Below.refl _ _).alloc (Nat.le_refl _) (.cells J0 58))) (fun hm a e=>by have:=b3 hm a e;omega);have o9:=below_setRow (g:=w4.heap.size) (o.alloc o.size (.cells J0 58)) o.size J0;clear B0 B1 hb yS yR yW PD S R OW in3 in2 o b3 B;go_wp2_with (with_reducible refine wpList_ssyn TZ rfl rfl h1 rfl _ _ rfl rfl rfl ?_);go_roundw
        case rel =>
          refine ⟨k+1,lk,A2,m2,c2,by omega,SB1,by go_num,rfl,OW9,?_,R9,?_,Lib.hid (fun hm a e=>⟨(frA hm a e).1,(frA hm a e).2.1,(frA hm a e).2.2.2⟩),o9⟩
          · rw [eN.out];exact S9
          · rw [eN.out];exact in9
        case measure=>simp [intOf];omega
      obtain ⟨A3,m3,c3,rfl,in3,hb,fr3⟩:=hq;have yS:=row_lt S;have yR:=row_lt R;have yB:=row_lt B;have yW:=fun g (e:u9.ownBlock=some g)=>(OW.lt g e).2
      have frB:0<m3->∀ a,A3=some a->a.block≠sb/\w.heap.size+1<a.block/\a.block≠ib/\u9.ownBlock≠some a.block:=fun hm a e=>by
        rcases fr3 hm a e with h | ⟨h0,a',ea,h⟩
        · exact ⟨by omega,by omega,by omega,fun x=>by have:=yW _ x;omega⟩
        · rw [<- h];exact frA h0 a' ea
      replace S:=row_call S hb;replace R:=row_call R hb;replace B:=row_call B hb;replace OW:=orow_keep OW (fun g e=>hb.block g (OW.lt g e).2);replace o:=o.trans (hb.mono o.size);have xS:=row_lt S;have xR:=row_lt R;have xB:=row_lt B;have xW:=fun g (e:u9.ownBlock=some g)=>(OW.lt g e).2;have hs2:=S2.out A3 m3 c3;have o2:=O2.out A3 m3 c3;generalize hcs2:csf (lk ++ [⟨tk,vk⟩]) tk A3 m3 c3=cs2 at hs2 o2 |-
      replace hcs2:=Lib.hid hcs2;have TZ:Row (w4.alloc (.cells J0 58)) w4.heap.size 58 J0:=row_new rfl;go_upto_region 14 with (with_reducible refine wpList_ssyn TZ rfl hs2 o2 rfl _ _ rfl rfl rfl ?_)
      clear B0 B1 hb yS yR yB yW fr3 PD frA;have T:=row_setRow (cs:=cs2) TZ;have hb3:=IO2.blk in3;have htb:0<m3->∀ a,A3=some a->a.block≠w4.heap.size:=fun hm a e=>by have:=hb3 hm a e;omega
      replace in3:=IO2.setr (g:=w4.heap.size) cs2 (IO2.below in3 ((Below.refl _ _).alloc (Nat.le_refl _) (.cells J0 58))) (fun hm a e=>(htb hm a e).symm);replace S:=row_setRow_other (g:=w4.heap.size) (cs':=cs2) (row_alloc S (.cells J0 58)) (by omega);replace R:=row_setRow_other (g:=w4.heap.size) (cs':=cs2) (row_alloc R (.cells J0 58)) (by omega);replace B:=row_setRow_other (g:=w4.heap.size) (cs':=cs2) (row_alloc B (.cells J0 58)) (by omega);replace OW:=orow_keep (OW.alloc (.cells J0 58)) (fun g e=>heap_setRow_other _ w4.heap.size cs2 g (fun x=>by have:=xW g e;omega));replace o:=below_setRow (g:=w4.heap.size) (o.alloc o.size (.cells J0 58)) o.size cs2;obtain ⟨w6,hw6⟩:∃ x,x=(w4.alloc (.cells J0 58)).setRow w4.heap.size cs2:=⟨_,rfl⟩
      rw [<- hw6] at T S R B OW in3 o |-
      clear hw6 TZ hb3;generalize w4.heap.size=tb at T xS xR xB xW htb |-
      refine wp_region_phase 5 (fun w'=>Row w' tb 58 cs2/\Row w' ib 90 #[tk,vk]) (by kernel_rfl) (by kernel_rfl) (by kernel_rfl) (by kernel_rfl) (by kernel_rfl) (fun HOK=>?_);have HS:=(⟨row_drew T,row_drew B⟩:Row w6.drew tb 58 cs2/\Row w6.drew ib 90 #[tk,vk])
      (refine hw_take HOK (i:=0) (.agg cs2) rfl (by decide) (by kernel_rfl) (by kernel_rfl) (by exact fun _ _ _ h=>h) (Or.inl ⟨by rfl,fun w' hS=>exec_lsyn hS.1 hs2 _ rfl rfl⟩) HS ?_;try simp only [put9]);(refine hwt HOK 1 HS rfl (fun w' hS=>gs9) ?_;simp only [put9]);(refine hwt HOK 2 HS rfl (fun w' hS=>by obtain ⟨B0,B1,Bf0,Bf1⟩:=row_two hS.2;exact gs9) ?_;simp only [put9]);replace T:Row w6.drew tb 58 cs2:=T;replace B:Row w6.drew ib 90 #[tk,vk]:=B;replace S:Row w6.drew sb 58 (csf lk tk A2 m2 c2):=S;replace R:Row w6.drew (w.heap.size+1) 58 J0:=R;replace OW:w6.drew.ownsRow w.heap.size 90 2 u9 lk.length (icells lk):=OW;replace in3:=IO2.keep (w':=w6.drew) in3 (Nat.le_refl _) (fun _ _ _=>rfl);replace o:=o.drew;clear HS;generalize w6.drew=w7 at *;have RA:Reads (w7.alloc (.cells #[tk,vk] 90)) (w7.alloc (.cells #[tk,vk] 90)).heap.size 2 (some ⟨w7,0,none⟩) 1 (#[tk,vk]:Array Value).toList:=(own_new (w:=w7) (e:=90) (size:=2) (n:=1) (cs:=#[tk,vk]) rfl (by unfold maxLen;omega) (by first | (simp;done) | omega | decide)).reads;have z7:=o.size;replace T:=row_alloc T (.cells #[tk,vk] 90);replace B:=row_alloc B (.cells #[tk,vk] 90);replace S:=row_alloc S (.cells #[tk,vk] 90);replace R:=row_alloc R (.cells #[tk,vk] 90);replace OW:=OW.alloc (.cells #[tk,vk] 90);replace in3:=IO2.below in3 ((Below.refl _ _).alloc (Nat.le_refl _) (.cells #[tk,vk] 90));replace o:=o.alloc o.size (.cells #[tk,vk] 90);refine hw_one (i:=3) rfl (by decide) (by kernel_rfl) (fun K hK=>?_);go_simp;refine hK _ (w7.alloc (.cells #[tk,vk] 90)) ⟨T,B⟩ ?_;clear hK K;generalize w7.alloc (.cells #[tk,vk] 90)=w8 at T B S R OW in3 o RA |-
      generalize w7.heap.size=ga at RA |-
      try simp only [put9]
      have nS:=orow_ne_row OW S (by decide);have nT:=orow_ne_row OW T (by decide);have nR:=orow_ne_row OW R (by decide);have nB:u9.ownBlock≠some ib:=fun e=>by have:=zW ib e;omega
      have hb4:=IO2.blk in3;have frC:0<m3->∀ a,A3=some a->a.block≠sb/\w.heap.size+1<a.block/\u9.ownBlock≠some a.block:=fun hm a e=>⟨(frB hm a e).1,(frB hm a e).2.1,(frB hm a e).2.2.2⟩
      have z8:=o.size;have z9:=row_lt S;replace frC:=Lib.hid frC;clear frB htb zS zR zW xS xR xB xW;refine hw_one (i:=4) rfl (by decide) (by kernel_rfl) (fun K hK=>?_);refine step_append_any w8 rfl _ _ 22 rfl w.heap.size 90 ii (.agg #[(),()]) 2 16 Tryz.underlying22 hii iz0 iz1 iz2 rfl (by decide) u9 lk.length (icells lk) rfl OW w8.heap.size (some ⟨ga,0,none⟩) 1 1 (#[tk,vk]:Array Value).toList rfl RA (by simp [Value.oneCell']) (by unfold maxLen;omega) (by omega) z8 ?_;intro v6 w9 own6 hg6 hat6;replace T:=row_grown T hg6 nT;replace B:=row_grown B hg6 nB;replace S:=row_grown S hg6 nS;replace R:=row_grown R hg6 nR;have in4:=IO2.keep in3 hg6.size (fun hm a e=>hg6.block _ (hb4 hm a e) (fun x=>(frC.out hm a e).2.2 x.symm));replace o:=below_grown o hg6 (fun b e=>(OW.lt b e).1) o.size;refine hK _ _ ⟨T,B⟩ ?_;clear hK K;try simp only [put9]
      refine hw_done (by kernel_rfl) ?_;try simp only [List.drop_succ_cons,List.drop_zero]
      clear HOK;have O4:=(IO2.keep (w':=w9.setRow sb cs2) in4 (by rw [size_setRow];exact Nat.le_refl _) (fun hm a e=>heap_setRow_other w9 sb cs2 a.block (fun x=>(frC.out hm a e).1 x)))
      have fW:v6.ownBlock≠some sb/\(0<m3->∀ a,A3=some a->v6.ownBlock≠some a.block):=by
        rcases hat6 with h | h<;>rw [h]
        · exact ⟨nS,fun hm a e=>(frC.out hm a e).2.2⟩
        · exact ⟨fun x=>by have:=Option.some.inj x;omega,fun hm a e x=>by have:=Option.some.inj x;have:=hb4 hm a e;omega⟩
      go_wp2_with (with_reducible refine wpList_ssyn S s1 hs2 o2 rfl _ _ rfl rfl rfl ?_);go_roundw
      case rel =>
        refine ⟨k+1,lk ++ [⟨tk,vk⟩],A3,m3,c3,by omega,SB2,by go_num,rfl,?_,?_,row_setRow_other R (by omega),?_,Lib.hid (fun hm a e=>⟨(frC.out hm a e).1,(frC.out hm a e).2.1,fW.2 hm a e⟩),below_setRow o z1 cs2⟩
        · rw [icells_append,List.length_append];exact orow_keep own6 (fun g e=>heap_setRow_other w9 sb cs2 g (fun x=>fW.1 (x ▸ e)))
        · rw [eN.out,hcs2.out];exact row_setRow S
        · rw [eN.out];exact O4
      case measure=>simp [intOf];omega
    · have i1:¬ (k:Int)<(n:Int):=by omega
      obtain rfl:k=n:=by omega
      have hn2:l.take k=l:=List.take_of_length_le (by rw [HL.out];exact Nat.le_refl _);have hsb:lk.Sublist l:=hn2 ▸ HSB.out;have hs0:=HK.out.size lk (nowK l k) A m c;have h1:=HK.out.one lk (nowK l k) A m c;have IO0:=HK.out.inok lk (nowK l k);have hlk:l.length=k:=HL.out;have nWR:=orow_ne_row OW R (by decide);generalize hcs0:csf lk (nowK l k) A m c=cs0 at S hs0 h1;go_wp2_with (first | (with_reducible refine wpList_lsyn S hs0 rfl _ rfl rfl ?_) | (with_reducible refine wpList_ssyn R rfl hs0 h1 rfl _ _ rfl rfl rfl ?_));have R9:=row_setRow (cs:=cs0) R;refine bodyPost_ret (v := .tuple #[.agg cs0,u9, .bool true]) ?_ rfl ?_
      · exact results_syn3 (p:=4) (q:=5) (r:=6) rfl _ R9 hs0 rfl
      · subst hlk;refine ⟨lk,A,m,c,u9,hsb,by rw [hcs0],IO0.setr _ in1 (fun hm a e=>by have:=(fr.out hm a e).2.1;omega),fun hm a e=>(by have:=(fr.out hm a e).2.1;omega),orow_keep OW (fun g e=>heap_setRow_other wr (w.heap.size+1) cs0 g (fun x=>nWR (x ▸ e))),below_setRow o (by omega) _⟩
structure NewV where
  i:Nat
  d:Nat
  t:TypeId
  z:Array Value
def newsB (md:Region.Mode) (ops:Array Oper):Nat->Array Bool->List NewV->Bool
  | 0,_,js=>js.isEmpty
  | f+1,listed,js=>decide (Region.ready md ops listed=js.map (·.i)) && (List.range js.length).all fun k=>newsB md ops f (listed.setIfInBounds ((js[k]?.map (·.i)).getD 0) true) (js.eraseIdx k)
def setAll (listed:Array Bool) (js:List NewV):Array Bool:=js.foldl (fun l j=>l.setIfInBounds j.i true) listed
def putAll (a:Act):List NewV->List Nat->Act
  | j :: js,b :: bs=>putAll (a.put (some j.d) (.pointer (some ⟨b,0,none⟩))) js bs
  | _,_=>a
theorem put_swap {a:Act} {d e:Nat} {u v:Value} (h:d≠e):(a.put (some d) u).put (some e) v=(a.put (some e) v).put (some d) u:=by
  simp only [Act.put];rw [Array.setIfInBounds_comm _ _ h]
theorem putAll_put {d:Nat} {v:Value}:∀ (js:List NewV) (bs:List Nat) (a:Act),(∀ j∈js,d≠j.d)->putAll (a.put (some d) v) js bs=(putAll a js bs).put (some d) v
  | [],_,_,_=>by simp [putAll]
  | _ :: _,[],_,_=>by simp [putAll]
  | j :: js,b :: bs,a,h=>by
    rw [putAll,putAll,put_swap (h j (by simp)),putAll_put js bs _ (fun x hx=>h x (List.mem_cons_of_mem _ hx))]
theorem putAll_append:∀ (l1:List NewV) (c1:List Nat) (l2:List NewV) (c2:List Nat) (a:Act),l1.length=c1.length->putAll a (l1 ++ l2) (c1 ++ c2)=putAll (putAll a l1 c1) l2 c2
  | [],[],_,_,_,_=>by simp [putAll]
  | [],_ :: _,_,_,_,h=>by simp at h
  | _ :: _,[],_,_,_,h=>by simp at h
  | j :: l1,b :: c1,l2,c2,a,h=>by
    rw [List.cons_append,List.cons_append,putAll,putAll,putAll_append l1 c1 l2 c2 _ (by simpa using h)]
theorem setAll_set {i:Nat}:∀ (js:List NewV) (l:Array Bool),setAll (l.setIfInBounds i true) js=(setAll l js).setIfInBounds i true
  | [],_=>rfl
  | j :: js,l=>by
    unfold setAll;rw [List.foldl_cons,List.foldl_cons];have:=setAll_set (i:=i) js (l.setIfInBounds j.i true);unfold setAll at this;rw [<- this];by_cases h:i=j.i
    · rw [h]
    · rw [Array.setIfInBounds_comm _ _ h]
theorem setAll_append (l1 l2:List NewV) (l:Array Bool):setAll l (l1 ++ l2)=setAll (setAll l l1) l2:=by unfold setAll;rw [List.foldl_append]
section
variable {P:Program} {ops:Array Oper} {md:Region.Mode} {S:World->Prop} {Q:Exit->Act->World->Prop} {n g:Nat} {tail:List Oper} {f:Nat}
structure NewsAt (w0:World) (js:List NewV) (bs:List Nat) (w:World):Prop where
  len:bs.length=js.length
  rows:∀ (k:Nat) (j:NewV) (b:Nat),js[k]?=some j->bs[k]?=some b->Row w b j.t j.z
  ge:∀ b∈bs,w0.heap.size<=b
  nodup:bs.Nodup
  keep:∀ b,b<w0.heap.size->w.heap[b]?=w0.heap[b]?
theorem hw_news (hal:∀ w o,S w->S (w.alloc o)):∀ (js:List NewV) (listed:Array Bool) (a:Act) (w:World),
    newsB md ops js.length listed js=true->(∀ j∈js,Makes P ops j.i j.t j.z/\(ops[j.i]?).bind (·.dst)=some j.d/\j.i<n)->js.Pairwise (fun x y=>x.d≠y.d)->S w ->
    (∀ bs w',S w'->NewsAt w js bs w'->HW P md ops S Q n g tail f (setAll listed js) (putAll a js bs) w')->HW P md ops S Q n g tail (js.length+f) listed a w:=by
  intro js;generalize hN:js.length=N
  induction N generalizing js with
  | zero =>
    intro listed a w _ _ _ hS H;obtain rfl:js=[]:=List.eq_nil_of_length_eq_zero hN;rw [Nat.zero_add];exact H [] w hS ⟨rfl,by simp,by simp,List.nodup_nil,fun _ _=>rfl⟩
  | succ N ih =>
    intro listed a w hB hM hd hS H;rw [show N+1+f=(N+f)+1 by omega];unfold newsB at hB;rw [Bool.and_eq_true] at hB;have hr:=of_decide_eq_true hB.1;intro inv;refine ⟨fun h0=>?_,fun i hi=>?_⟩
    · rw [hr] at h0;have:=congrArg List.length h0;simp at this;subst this;simp at hN
    · rw [hr] at hi;obtain ⟨j,hj,rfl⟩:=List.mem_map.1 hi;obtain ⟨hMj,hdj,hlt⟩:=hM j hj;refine ⟨hlt,?_⟩;obtain ⟨k,hk,hkj⟩:=List.getElem_of_mem hj;have hBk:=List.all_eq_true.1 hB.2 k (by simpa using hk);rw [List.getElem?_eq_getElem hk,hkj] at hBk;have hready:j.i∈Region.ready md ops listed:=by rw [hr];exact List.mem_map.2 ⟨j,hj,rfl⟩
      have ejs:js=js.take k ++ j :: js.drop (k+1):=by
        rw [<- hkj,<- List.drop_eq_getElem_cons hk,List.take_append_drop]
      have eer:js.eraseIdx k=js.take k ++ js.drop (k+1):=List.eraseIdx_eq_take_drop_succ _ _;have hle:(js.eraseIdx k).length=N:=by rw [List.length_eraseIdx,if_pos hk];omega
      have hsub:∀ x∈js.eraseIdx k,x∈js:=fun x hx=>List.mem_of_mem_eraseIdx hx;have hpd:=hd;rw [ejs] at hpd;have hp1:=List.pairwise_append.1 hpd;have hp2:=List.pairwise_cons.1 hp1.2.1;have hne1:∀ x∈js.take k,j.d≠x.d:=fun x hx=>(hp1.2.2 x hx j (by simp)).symm;have ihk:=ih (js.eraseIdx k) hle (listed.setIfInBounds j.i true) (a.put (some j.d) (.pointer (some ⟨w,0,none⟩))) (w.alloc (.cells j.z j.t)) hBk (fun x hx=>hM x (hsub x hx)) (hd.sublist (List.eraseIdx_sublist _ _)) (hal _ _ hS) ?_
      · obtain ⟨o,d',ho,hod,hog,hrun⟩:=hMj;have edj:d'=j.d:=by rw [ho] at hdj;simpa [hod] using hdj
        have hput:∀ v,a.put o.dst v=a.put (some j.d) v:=fun v=>by rw [hod,edj]
        unfold wpOp;simp only [ho];have hw:Region.wanted o (yielded ops a.tmps)=true:=by unfold Region.wanted;rw [hog]
        simp only [hw,if_true];refine .inl ?_;unfold Oper.wp;rw [hrun];show _/\_;rw [hput];exact ⟨hal _ _ hS,ihk (inv.set hready hlt)⟩
      · intro bs w' hS' hN';have hl1:(js.take k).length=k:=by rw [List.length_take];omega
        have hbl:=hN'.len;rw [hle] at hbl
        have e1:setAll (listed.setIfInBounds j.i true) (js.eraseIdx k)=setAll listed js:=by
          rw [setAll_set,eer,setAll_append]
          conv=>rhs;rw [ejs,setAll_append]
          show _=setAll ((setAll listed (js.take k)).setIfInBounds j.i true) (js.drop (k+1));rw [setAll_set]
        have hbk:(bs.take k).length=k:=by rw [List.length_take];omega
        have e2:putAll (a.put (some j.d) (.pointer (some ⟨w,0,none⟩))) (js.eraseIdx k) bs=putAll a js (bs.take k ++ w.heap.size :: bs.drop k):=by
          conv=>lhs;rw [eer,<- List.take_append_drop k bs,putAll_append _ _ _ _ _ (by rw [hl1,hbk])]
          rw [putAll_put _ _ _ hne1]
          conv=>rhs;rw [ejs,putAll_append _ _ _ _ _ (by rw [hl1,hbk])]
          rw [putAll]
        rw [e1,e2];refine H _ w' hS' ⟨?_,fun q x b hx hb=>?_,fun b hb=>?_,?_,fun b hb=>?_⟩
        · simp;omega
        · by_cases hq:q<k
          · refine hN'.rows q x b ?_ ?_
            · rw [eer,List.getElem?_append_left (by omega),List.getElem?_take_of_lt hq];exact hx
            · rw [List.getElem?_append_left (by omega),List.getElem?_take_of_lt hq] at hb;exact hb
          · by_cases hq2:q=k
            · subst hq2;rw [List.getElem?_append_right (by omega),hbk,Nat.sub_self] at hb;obtain rfl:w.heap.size=b:=by simpa using hb
              rw [List.getElem?_eq_getElem hk,hkj] at hx;obtain rfl:j=x:=by simpa using hx
              have hkp:=hN'.keep w.heap.size (by simp);exact hkp.trans (row_new rfl)
            · refine hN'.rows (q-1) x b ?_ ?_
              · rw [eer,List.getElem?_append_right (by omega),hl1,List.getElem?_drop];rw [show k+1+(q-1-k)=q by omega];exact hx
              · rw [List.getElem?_append_right (by omega),hbk,show q-k=(q-1-k)+1 by omega,List.getElem?_cons_succ,List.getElem?_drop] at hb;rw [show k+(q-1-k)=q-1 by omega] at hb;exact hb
        · rcases List.mem_append.1 hb with hb | hb
          · have:=hN'.ge b (List.mem_of_mem_take hb);simp at this;omega
          · rcases List.mem_cons.1 hb with rfl | hb
            · exact Nat.le_refl _
            · have:=hN'.ge b (List.mem_of_mem_drop hb);simp at this;omega
        · have hn:=hN'.nodup;rw [<- List.take_append_drop k bs] at hn;have hn:=List.nodup_append.1 hn
          have hge:∀ b∈bs,b≠w.heap.size:=fun b hb=>by
            have:=hN'.ge b hb;simp at this;omega
          refine List.nodup_append.2 ⟨hn.1,List.nodup_cons.2 ⟨fun h=>hge _ (List.mem_of_mem_drop h) rfl,hn.2.1⟩,fun x hx y hy=>?_⟩;rcases List.mem_cons.1 hy with rfl | hy
          · exact hge x (List.mem_of_mem_take hx)
          · exact hn.2.2 x hx y hy
        · have h1:=hN'.keep b (by simp;omega);exact h1.trans (Below.heap_alloc w _ b hb)
end
end Go.Proofs.YtdipoojjlddohaaGreat
