/- What the law TopExact needs, joined of its texts by a program (slim2.py); part 5. -/
import Derived.Test.YtdipoojjlddohaaGreatZTopExact1
import Derived.Test.YtdipoojjlddohaaGreatZTopExact4
set_option linter.unusedVariables false
set_option linter.unusedSimpArgs false
set_option linter.unusedSectionVars false
set_option linter.unnecessarySimpa false
section
/- A row of the call's own, known from its head on: what it holds behind a new block, a call, a store, an append. -/
namespace Go.Proofs.YtdipoojjlddohaaGreat
open Go.RowKit

def Own (w:World) (e:TypeId) (size g n c:Nat) (xs:List Value):Prop :=
  xs.length=n*size∧∃ cur:Array Value,w.heap[g]?=some (.cells cur e (0,0))∧n≤c∧c≤maxLen∧cur.size=c*size∧cur.toList.take (n*size)=xs
section
variable {w w':World} {e:TypeId} {size g n c:Nat} {xs:List Value}
theorem Own.row (h:Own w e size g n c xs) {base:Nat} (hb:base≤g):w.ownsRow base e size (.slice (some ⟨g,0,none⟩) n c) n xs:=by
  obtain ⟨h1,cur,h2,h3⟩:=h
  exact ⟨h1, .inr ⟨g,c,cur,rfl,hb,h2,h3⟩⟩
theorem own_of_row {base:Nat} (h:w.ownsRow base e size (.slice (some ⟨g,0,none⟩) n c) n xs):Own w e size g n c xs∧base≤g:=by
  obtain ⟨h1,⟨h2,_⟩ | ⟨g',c',cur,h2,hb,h3⟩⟩:=h
  · simp at h2
  · simp only [Value.slice.injEq,Option.some.injEq,Addr.mk.injEq,and_true,true_and] at h2
    obtain ⟨rfl,rfl⟩:=h2
    exact ⟨⟨h1,cur,h3⟩,hb⟩
theorem Own.len (h:Own w e size g n c xs):xs.length=n*size:=h.1
theorem Own.lt (h:Own w e size g n c xs):g<w.heap.size:=by
  obtain ⟨_,cur,h2,_⟩:=h
  exact (Array.getElem?_eq_some_iff.1 h2).1
theorem Own.cap (h:Own w e size g n c xs):n≤c∧c≤maxLen:=by
  obtain ⟨_,cur,_,h3,h4,_⟩:=h
  exact ⟨h3,h4⟩
theorem Own.cell (h:Own w e size g n c xs) {j:Nat} (hj:j<n*size):w.cell? ⟨g,j,none⟩=xs[j]?:=(h.row (Nat.zero_le _)).cellAt j hj
theorem Own.free (h:Own w e size g n c xs) (j:Nat):w.frozen? ⟨g,j,none⟩=false:=(h.row (Nat.zero_le _)).frozenAt j
theorem Own.keep (h:Own w e size g n c xs) (hg:w'.heap[g]?=w.heap[g]?):Own w' e size g n c xs:=by
  obtain ⟨h1,cur,h2,h3⟩:=h
  exact ⟨h1,cur,hg.trans h2,h3⟩
theorem Own.call (h:Own w e size g n c xs) (hb:Below w.heap.size w w'):Own w' e size g n c xs:=h.keep (hb.block g h.lt)
theorem Own.alloc (h:Own w e size g n c xs) (o:Obj):Own (w.alloc o) e size g n c xs:=h.keep (Below.heap_alloc w o g h.lt)
theorem Own.other (h:Own w e size g n c xs) {p:Addr} (hne:g≠p.block) (v:Value):Own (w.setCell p v) e size g n c xs:=h.keep (Below.heap_setCell w p v g hne)
theorem Own.set (h:Own w e size g n c xs) (j:Nat) (u:Value):Own (w.setCell ⟨g,j,none⟩ u) e size g n c (xs.set j u) :=
  (own_of_row ((h.row (Nat.zero_le _)).stored j u).1).1
theorem Own.reads (h:Own w e size g n c xs):Reads w w.heap.size size (some ⟨g,0,none⟩) n xs:=Reads.of_own (h.row (Nat.zero_le _))
theorem Own.cut (h:Own w e size g n c xs) {k:Nat} (hk:k≤n):Own w e size g k c (xs.take (k*size)):=by
  obtain ⟨h1,cur,h2,h3,h4,h5,h6⟩:=h
  refine ⟨by rw [List.length_take,h1];exact Nat.min_eq_left (Nat.mul_le_mul_right _ hk),cur,h2,by omega,h4,h5,?_⟩
  rw [← h6,List.take_take,Nat.min_eq_left (Nat.mul_le_mul_right _ hk)]
theorem own_new {cs:Array Value} (hg:g=w.heap.size) (hm:n≤maxLen) (hs:cs.size=n*size):Own (w.alloc (.cells cs e)) e size g n n cs.toList:=by
  subst hg
  exact (own_of_row (World.ownsRow_lit (base:=0) w cs n (Nat.zero_le _) hm hs)).1
end

section
variable {w w':World} {b:Nat} {t:TypeId}
theorem row_three {x0 x1 x2:Value} (h:Row w b t #[x0,x1,x2]):w.cell? ⟨b,0,none⟩=some x0∧w.cell? ⟨b,1,none⟩=some x1∧w.cell? ⟨b,2,none⟩=some x2 ∧
    w.frozen? ⟨b,0,none⟩=false∧w.frozen? ⟨b,1,none⟩=false∧w.frozen? ⟨b,2,none⟩=false :=
  ⟨row_cell h 0,row_cell h 1,row_cell h 2,row_free h 0,row_free h 1,row_free h 2⟩
theorem row_four {x0 x1 x2 x3:Value} (h:Row w b t #[x0,x1,x2,x3]):w.cell? ⟨b,0,none⟩=some x0∧w.cell? ⟨b,1,none⟩=some x1∧w.cell? ⟨b,2,none⟩=some x2∧w.cell? ⟨b,3,none⟩=some x3 ∧
    w.frozen? ⟨b,0,none⟩=false∧w.frozen? ⟨b,1,none⟩=false∧w.frozen? ⟨b,2,none⟩=false∧w.frozen? ⟨b,3,none⟩=false :=
  ⟨row_cell h 0,row_cell h 1,row_cell h 2,row_cell h 3,row_free h 0,row_free h 1,row_free h 2,row_free h 3⟩
theorem row_six {x0 x1 x2 x3 x4 x5:Value} (h:Row w b t #[x0,x1,x2,x3,x4,x5]):w.cell? ⟨b,0,none⟩=some x0∧w.cell? ⟨b,1,none⟩=some x1∧w.cell? ⟨b,2,none⟩=some x2∧w.cell? ⟨b,3,none⟩=some x3∧w.cell? ⟨b,4,none⟩=some x4∧w.cell? ⟨b,5,none⟩=some x5 ∧
    w.frozen? ⟨b,0,none⟩=false∧w.frozen? ⟨b,1,none⟩=false∧w.frozen? ⟨b,2,none⟩=false∧w.frozen? ⟨b,3,none⟩=false∧w.frozen? ⟨b,4,none⟩=false∧w.frozen? ⟨b,5,none⟩=false :=
  ⟨row_cell h 0,row_cell h 1,row_cell h 2,row_cell h 3,row_cell h 4,row_cell h 5,row_free h 0,row_free h 1,row_free h 2,row_free h 3,row_free h 4,row_free h 5⟩
theorem row_seven {x0 x1 x2 x3 x4 x5 x6:Value} (h:Row w b t #[x0,x1,x2,x3,x4,x5,x6]):w.cell? ⟨b,0,none⟩=some x0∧w.cell? ⟨b,1,none⟩=some x1∧w.cell? ⟨b,2,none⟩=some x2∧w.cell? ⟨b,3,none⟩=some x3∧w.cell? ⟨b,4,none⟩=some x4∧w.cell? ⟨b,5,none⟩=some x5∧w.cell? ⟨b,6,none⟩=some x6 ∧
    w.frozen? ⟨b,0,none⟩=false∧w.frozen? ⟨b,1,none⟩=false∧w.frozen? ⟨b,2,none⟩=false∧w.frozen? ⟨b,3,none⟩=false∧w.frozen? ⟨b,4,none⟩=false∧w.frozen? ⟨b,5,none⟩=false∧w.frozen? ⟨b,6,none⟩=false :=
  ⟨row_cell h 0,row_cell h 1,row_cell h 2,row_cell h 3,row_cell h 4,row_cell h 5,row_cell h 6,row_free h 0,row_free h 1,row_free h 2,row_free h 3,row_free h 4,row_free h 5,row_free h 6⟩
end

theorem below_grown {B:Nat} {w0 w w':World} (hb:Below B w0 w) {r:Option Nat} (hg:w.grownBy w' r) (hr:∀ k,r=some k→B≤k) (hB:B≤w.heap.size):Below B w0 w' :=
  hb.trans ⟨hg.os,hg.tape,hg.output,hg.size,fun k hk=>hg.block k (by omega) (fun e=>by have:=hr k e.symm;omega)⟩

section
variable {P:Program}
theorem make_vec (w:World) {t e:TypeId} {i:TypeInfo} {z:Value} {bytes:Nat} (ht:P.underlying t=some (.slice e)) (hi:P.info? e=some i) (hz:i.zero=some z) (hsize:i.size=1) (hby:i.bytes=bytes) (hzc:z.cells=#[z])
    (kl kc:IntKind) (n:Nat) (hbytes:bytes*n≤281474976710656) (h63:n≤maxLen) :
    ∃ w',(Instr.makeSlice t (.int kl (n:Int)) (.int kc (n:Int))).run P w = .ok (.slice (some ⟨w.heap.size,0,none⟩) n n) w'∧Own w' e 1 w.heap.size n n (List.replicate n z)∧Below w.heap.size w w':=by
  subst hby
  obtain ⟨w',h1,h2,h3⟩:=run_make_full w 0 t e i z 1 ht hi hz hsize kl kc n hbytes h63 (Nat.zero_le _)
  refine ⟨w',h1,?_,below_grown (Below.refl _ _) h3 (fun k hk=>by cases hk) (Nat.le_refl _)⟩
  have:=(own_of_row h2).1
  rw [hzc,Nat.mul_one,toList_madeCells_one] at this
  exact this
theorem wpList_clone {w1:World} {ops:Array Oper} {rest:List Oper} {o:Oper} {a:Act} {Q:Exit→Act→World→Prop} (hgd:o.guard=none) (s x:Operand) (t:TypeId)
    (ho:o.op = .call { callee := .builtin .append,args:=#[s,x],argTypes:=#[t,t] })
    (e:TypeId) (i:TypeInfo) (z:Value) (size bytes:Nat) (ht:P.underlying t=some (.slice e)) (hi:P.info? e=some i) (hz:i.zero=some z)
    (hsize:i.size=size) (hby:i.bytes=bytes) (hzs:z.cells.size=size) (hsz:0<size)
    (hs:a.eval s = .slice (some ⟨w1.heap.size,0,none⟩) 0 0)
    (B:Nat) (A:Option Addr) (m c:Nat) (news:List Value) (hx:a.eval x = .slice A m c) (hr:Reads w1 B size A m news) (hB:B≤w1.heap.size) (h1:∀ u∈news,u.oneCell'=true)
    (h63:m≤maxLen) (hbytes:m*bytes≤140737488355328)
    (h:∀ g c' w',Own w' e size g m c' news→w1.heap.size≤g→Below w1.heap.size w1 w'→w1.heap.size+1≤w'.heap.size→wpList P ops Q rest (a.put o.dst (.slice (some ⟨g,0,none⟩) m c')) w') :
    wpList P ops Q (o :: rest) a (w1.alloc (.cells #[] e)):=by
  refine wpList_append_any (w1.alloc (.cells #[] e)) hgd s x t ho w1.heap.size e i z size bytes ht hi hz hsize hby hzs hsz (.slice (some ⟨w1.heap.size,0,none⟩) 0 0) 0 [] hs
    ((own_new (n:=0) rfl (by unfold maxLen;omega) (by simp)).row (Nat.le_refl _)) B A m c news hx (hr.alloc hB _) h1 (by omega) (by simpa using hbytes) (by simp) ?_
  intro v' w' hown hg hat
  rw [Nat.zero_add,List.nil_append] at hown
  have hv:∃ g c',v' = .slice (some ⟨g,0,none⟩) m c':=by
    rcases hown.2 with ⟨hv,_⟩ | ⟨g,c',cur,hv,_⟩
    · subst hv
      simp [Value.ownBlock] at hat
    · exact ⟨g,c',hv⟩
  obtain ⟨g,c',rfl⟩:=hv
  obtain ⟨ho',hbg⟩:=own_of_row hown
  refine h g c' w' ho' hbg ?_ ?_
  · exact below_grown ((Below.refl _ _).alloc (Nat.le_refl _) _) hg (fun k hk=>by simp [Value.ownBlock] at hk;omega) (by simp)
  · have:=hg.size
    simpa using this

theorem wpList_push {w:World} {ops:Array Oper} {rest:List Oper} {o:Oper} {a:Act} {Q:Exit→Act→World→Prop} (hgd:o.guard=none) (s x:Operand) (t:TypeId)
    (ho:o.op = .call { callee := .builtin .append,args:=#[s,x],argTypes:=#[t,t] })
    (e:TypeId) (i:TypeInfo) (z:Value) (size bytes:Nat) (ht:P.underlying t=some (.slice e)) (hi:P.info? e=some i) (hz:i.zero=some z)
    (hsize:i.size=size) (hby:i.bytes=bytes) (hzs:z.cells.size=size) (hsz:0<size)
    (base:Nat) (v:Value) (n:Nat) (xs:List Value) (hs:a.eval s=v) (hown:w.ownsRow base e size v n xs)
    (news:Array Value) (hx:a.eval x = .slice (some ⟨w.heap.size,0,none⟩) 1 1) (hn:news.size=size) (h1:∀ u∈news.toList,u.oneCell'=true)
    (h63:n+1≤maxLen) (hbytes:(n+1)*bytes≤140737488355328) (hbase:base≤w.heap.size)
    (h:∀ g c' w',Own w' e size g (n+1) c' (xs ++ news.toList)→base≤g→(v.ownBlock=some g∨g=w.heap.size+1)→(w.alloc (.cells news e)).grownBy w' v.ownBlock→wpList P ops Q rest (a.put o.dst (.slice (some ⟨g,0,none⟩) (n+1) c')) w') :
    wpList P ops Q (o :: rest) a (w.alloc (.cells news e)):=by
  refine wpList_append_any (w.alloc (.cells news e)) hgd s x t ho base e i z size bytes ht hi hz hsize hby hzs hsz v n xs hs (hown.alloc _) (w.heap.size+1) (some ⟨w.heap.size,0,none⟩) 1 1 news.toList hx ?_ h1 h63 hbytes (by simp;omega) ?_
  · have hq:=(own_new (w:=w) (e:=e) (size:=size) (n:=1) (cs:=news) rfl (by unfold maxLen;omega) (by omega)).reads
    simpa using hq
  · intro v' w' hown' hg hat
    have hv:∃ g c',v' = .slice (some ⟨g,0,none⟩) (n+1) c':=by
      rcases hown'.2 with ⟨_,h0⟩ | ⟨g,c',cur,hv,_⟩
      · omega
      · exact ⟨g,c',hv⟩
    obtain ⟨g,c',rfl⟩:=hv
    obtain ⟨ho',hbg⟩:=own_of_row hown'
    refine h g c' w' ho' hbg ?_ hg
    simp [Value.ownBlock] at hat
    rcases hat with hat | hat
    · exact .inl hat.symm
    · exact .inr hat

theorem take_splice {α:Type} (cur cs:List α) (k n:Nat) (h:k+cs.length≤n) (hn:n≤cur.length):(splice cur k cs).take n=splice (cur.take n) k cs:=by
  unfold splice
  apply List.ext_getElem?
  intro i
  simp only [List.getElem?_take,List.getElem?_append,List.length_take,List.length_append,List.getElem?_drop]
  repeat' split
  all_goals first | rfl | omega | (simp only [List.getElem?_take];split<;>first | rfl | omega | (congr 1;omega)) | (congr 1;omega) | (rw [List.getElem?_eq_none (by omega)])
theorem wpList_copy_vec {w:World} {ops:Array Oper} {rest:List Oper} {o:Oper} {a:Act} {Q:Exit→Act→World→Prop} (hgd:o.guard=none) (d s:Operand) (dT sT:TypeId)
    (ho:o.op = .call { callee := .builtin .copy,args:=#[d,s],argTypes:=#[dT,sT] }) (e:TypeId) (hu:P.underlying dT=some (.slice e)) (hsz:(P.info? e).map (·.size)=some 1)
    {g n c k:Nat} {xs src:List Value} (own:Own w e 1 g n c xs) (hk:k≤n) (dp:Option Addr) (dCap:Nat) (hd:a.eval d = .slice dp (n-k) dCap) (hdp:0<n-k→dp=some ⟨g,k,none⟩)
    (B:Nat) (sp:Option Addr) (sLen sCap:Nat) (hs:a.eval s = .slice sp sLen sCap) (hr:Reads w B 1 sp sLen src) (h1:∀ v∈src,v.oneCell'=true)
    (h:∀ w',Own w' e 1 g n c (splice xs k (src.take (n-k)))→Below g w w'→wpList P ops Q rest (a.put o.dst (goInt (src.take (n-k)).length)) w'):wpList P ops Q (o :: rest) a w:=by
  obtain ⟨hx,cur,hg,hnc,hcm,hcs,htk⟩:=own
  have hsl:src.length=sLen:=by have:=hr.1;omega
  have hcl:(src.take (n-k)).length=Nat.min sLen (n-k):=by rw [List.length_take,hsl,Nat.min_comm]
  have hle:(src.take (n-k)).length≤n-k:=by rw [List.length_take];exact Nat.min_le_left _ _
  have hcl':cur.toList.length=c:=by rw [Array.length_toList];omega
  have hfit:k+(src.take (n-k)).length≤cur.toList.length:=by omega
  refine wpList_copy_splice hgd d s dT sT ho e hu hsz dp sp (n-k) dCap sLen sCap hd hs g k cur.toList e (by simpa using hg) (src.take (n-k)) hcl ?_ hfit (fun v hv=>h1 v (List.mem_of_mem_take hv)) g w (Below.refl _ _) (Nat.le_refl _) ?_
  · intro hp
    have hs0:0<sLen:=by rw [hcl] at hp;exact Nat.lt_of_lt_of_le hp (Nat.min_le_left _ _)
    obtain ⟨ad,rfl,hb,hc⟩:=hr.2 hs0
    refine ⟨hdp (by omega),ad,rfl,fun j v hv=>hc j v ?_⟩
    rw [List.getElem?_take] at hv
    split at hv
    · exact hv
    · cases hv
  · intro w' hw' hb
    refine h w' ⟨?_,(splice cur.toList k (src.take (n-k))).toArray,hw'.out,hnc,hcm,?_,?_⟩ hb
    · rw [← htk] at hx ⊢
      simp only [Nat.mul_one] at hx ⊢
      unfold splice
      simp only [List.length_append,List.length_take,List.length_drop,Array.length_toList] at *
      omega
    · unfold splice
      simp only [List.size_toArray,List.length_append,List.length_take,List.length_drop,Array.length_toList] at *
      omega
    · rw [← htk]
      simp only [Nat.mul_one] at *
      exact take_splice _ _ _ _ (by omega) (by rw [Array.length_toList];omega)
theorem own_setCells {e:TypeId} {g n c:Nat}:∀ (vs:List Value) (o:Nat) (w:World) (xs:List Value),Own w e 1 g n c xs→o+vs.length≤n→Own (w.setCells g o vs) e 1 g n c (xs.take o ++ (vs ++ xs.drop (o+vs.length)))
  | [],o,w,xs,h,_=>by simpa [World.setCells] using h
  | v :: vs,o,w,xs,h,hl=>by
    have hx:=h.len
    simp only [List.length_cons,Nat.mul_one] at hl hx
    have ih:=own_setCells vs (o+1) (w.setCell ⟨g,o,none⟩ v) (xs.set o v) (h.set o v) (by omega)
    have e1:(xs.set o v).take (o+1) ++ (vs ++ (xs.set o v).drop (o+1+vs.length))=xs.take o ++ (v :: vs ++ xs.drop (o+(v :: vs).length)):=by
      rw [List.set_eq_take_append_cons_drop,if_pos (by omega)]
      apply List.ext_getElem?
      intro i
      simp only [List.getElem?_append,List.getElem?_take,List.getElem?_drop,List.length_take,List.length_append,List.length_cons,List.getElem?_cons,List.length_drop]
      repeat' split
      all_goals first | rfl | omega | (congr 1;omega) | (rw [List.getElem?_eq_none (by omega),List.getElem?_eq_none (by omega)]) | (rw [List.getElem?_eq_none (by omega)])
    rw [e1] at ih
    exact ih
theorem below_setCells_own {B g:Nat}:∀ (vs:List Value) (o:Nat) (w:World),B≤g→Below B w (w.setCells g o vs)
  | [],o,w,_=>by
    simp only [World.setCells]
    exact Below.refl _ _
  | v :: vs,o,w,h=>by
    simp only [World.setCells]
    exact ((Below.refl _ _).setCell h _).trans (below_setCells_own vs (o+1) _ h)
theorem run_clear_own {w:World} {t e:TypeId} {z:Value} (ht:P.underlying t=some (.slice e)) (hv:∀ w,(zeroValue e).run P w = .ok z w) (hz:z.cells=#[z]) (h1:z.oneCell'=true)
    {g n c k cc:Nat} {xs:List Value} (own:Own w e 1 g n c xs) (hk:k≤n) :
    (∀ ty,(Builtin.clear_ #[t] ty #[.slice (some ⟨g,0,none⟩) k cc]).run P w = .ok (.tuple #[]) (w.setCells g 0 (List.replicate k z)))∧Own (w.setCells g 0 (List.replicate k z)) e 1 g n c (List.replicate k z ++ xs.drop k)∧Below g w (w.setCells g 0 (List.replicate k z)):=by
  by_cases h0:k=0
  · subst h0
    exact ⟨fun ty=>by simp [Builtin.clear_,run_underlying ht,World.setCells],by simpa [World.setCells] using own,by simpa [World.setCells] using Below.refl _ _⟩
  · refine ⟨fun ty=>Lib.run_clear_slice w t e ty z ht hv hz h1 g 0 k cc (by omega) (fun j hj=>?_) (fun j _=>own.free _),?_,?_⟩
    · rw [Nat.zero_add,own.cell (by omega)]
      have:=own.len
      rw [List.getElem?_eq_getElem (by omega)]
      rfl
    · have hx:=own.len
      have:=own_setCells (List.replicate k z) 0 w xs own (by simp;omega)
      simpa using this
    · exact below_setCells_own _ 0 w (Nat.le_refl _)
end
end Go.Proofs.YtdipoojjlddohaaGreat
end
