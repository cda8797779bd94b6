/- What the law TopSummaries needs, joined of its texts by a program (slim2.py); part 2. -/
import Derived.Test.YtdipoojjlddohaaGreatZTopSummaries1
set_option linter.unusedVariables false
set_option linter.unusedSimpArgs false
set_option linter.unusedSectionVars false
set_option linter.unnecessarySimpa false
section
/- A law on statements whose order is open: where each operation ahead of the tail gives one and the same value in every world that meets S, and leaves a world that meets S, the text's own order stands for all orders. -/
namespace Go.Proofs.YtdipoojjlddohaaGreat
open Go.RowKit
section
variable {P:Program} {ops:Array Oper} {md:Region.Mode} {S:World→Prop}

def Gives (P:Program) (S:World→Prop) (v:Value):Result Next→Prop
  | .ok (.value u) w=>u=v∧S w
  | .ok (.enter f args) w=>Calls P f args w fun e w'=>e = .returned v∧S w'
  | _=>False
def Det (P:Program) (ops:Array Oper) (S:World→Prop) (o:Oper) (v:Value) (a:Act):Prop :=
  (Region.wanted o (yielded ops a.tmps)=true∧∀ w,S w→Gives P S v ((execOp a.eval o).run P w))∨(Region.wanted o (yielded ops a.tmps)=false∧v=undef)
theorem Det.same {o:Oper} {v:Value} {a a':Act} (h:Det P ops S o v a) (he:execOp a'.eval o=execOp a.eval o)
    (hw:Region.wanted o (yielded ops a'.tmps)=Region.wanted o (yielded ops a.tmps)):Det P ops S o v a':=by
  unfold Det at *
  rw [he,hw]
  exact h
theorem Det.run {i:Nat} {o:Oper} {v:Value} {a:Act} {w:World} {Q:Exit→Act→World→Prop} {K:Act→World→Prop} (hi:ops[i]?=some o) (h:Det P ops S o v a) (hS:S w)
    (hK:∀ w',S w'→K (a.put o.dst v) w'):wpOp P ops Q i K a w:=by
  unfold wpOp
  simp only [hi]
  rcases h with ⟨hw,hg⟩ | ⟨hw,rfl⟩
  · simp only [hw,if_true]
    refine .inl ?_
    have g:=hg w hS
    unfold Oper.wp
    generalize (execOp a.eval o).run P w=r at g ⊢
    cases r with
    | halt x w'=>exact g.elim
    | ok n w' =>
      cases n with
      | value u =>
        obtain ⟨rfl,hs⟩:=g
        exact hK _ hs
      | enter f args=>exact Calls.mono g fun e w'' ⟨he,hs⟩=>by subst he;exact hK _ hs
      | _=>exact g.elim
  · simp only [hw,Bool.false_eq_true,if_false]
    exact hK _ hS

def AllDet (P:Program) (md:Region.Mode) (ops:Array Oper) (S:World→Prop) (n:Nat) (L:Array Bool→Act→Prop):Nat→Array Bool→Act→Prop
  | 0,listed,a=>L listed a
  | f+1,listed,a=>Region.ready md ops listed≠[]∧∀ i∈Region.ready md ops listed,i<n∧∃ o v,ops[i]?=some o∧Det P ops S o v a∧AllDet P md ops S n L f (listed.setIfInBounds i true) (a.put o.dst v)

theorem allDet_any {n g:Nat} {L:Array Bool→Act→Prop} {Q:Exit→Act→World→Prop} (hL:∀ listed a,L listed a→∀ w,S w→wpAny P md ops Q g listed a w) :
    ∀ (f:Nat) (listed:Array Bool) (a:Act),AllDet P md ops S n L f listed a→∀ w,S w→wpAny P md ops Q (f+g) listed a w:=by
  intro f
  induction f with
  | zero =>
    intro listed a h w hS
    rw [Nat.zero_add]
    exact hL _ _ h w hS
  | succ f ih =>
    intro listed a h w hS
    rw [show f+1+g=(f+g)+1 from by omega]
    refine ⟨fun h0=>absurd h0 h.1,fun i hi=>?_⟩
    obtain ⟨_,o,v,ho,hd,hr⟩:=h.2 i hi
    exact hd.run ho hS fun w' hS'=>ih _ _ hr w' hS'

theorem allDet_first {n i:Nat} {oi:Oper} {v:Value} {L:Array Bool→Act→Prop} (hi:ops[i]?=some oi) (hsel:∀ (j:Nat) (o:Oper) cs b,ops[j]?=some o→o.op ≠ .select cs b)
    (hs:Region.sinkB md ops n=true) (hc:Region.chainB md ops n=true) (hn:n<ops.size) (hin:i<n) (hL:∀ listed a,L listed a→∀ j∈Region.ready md ops listed,n≤j) :
    ∀ (f:Nat) (listed:Array Bool) (a:Act),HeadInv md ops n listed →
      (∀ j oj,ops[j]?=some oj→j≠i→listed.getD j true=false→(∀ e∈oj.after,Region.binds md e=true→e.on≠i)→oi.apart ops oj=true) →
      i∈Region.ready md ops listed→Det P ops S oi v a→AllDet P md ops S n L f (listed.setIfInBounds i true) (a.put oi.dst v)→AllDet P md ops S n L (f+1) listed a:=by
  intro f
  induction f with
  | zero =>
    intro listed a inv _ hr hd H
    refine ⟨fun h0=>by rw [h0] at hr;exact absurd hr (by simp),fun j hj=>?_⟩
    have hjn:j<n:=Nat.lt_of_not_le fun hle=>tail_waits hs hc hn inv _ i rfl hin (mem_ready.1 hr).1 j hle hj
    by_cases hji:j=i
    · subst hji
      exact ⟨hjn,oi,v,hi,hd,H⟩
    · exact absurd (hL _ _ H j (ready_mono hj hji)) (by omega)
  | succ f ih =>
    intro listed a inv hfree hr hd H
    refine ⟨fun h0=>by rw [h0] at hr;exact absurd hr (by simp),fun j hj=>?_⟩
    have hun:=(mem_ready.1 hr).1
    have hjn:j<n:=Nat.lt_of_not_le fun hle=>tail_waits hs hc hn inv _ i rfl hin hun j hle hj
    by_cases hji:j=i
    · subst hji
      exact ⟨hjn,oi,v,hi,hd,H⟩
    · obtain ⟨_,oj,u,hoj,hdj,hrest⟩:=H.2 j (ready_mono hj hji)
      obtain ⟨hjun,oj',hoj',hall⟩:=mem_ready.1 hj
      have hsame:oj'=oj:=Option.some.inj (hoj'.symm.trans hoj)
      subst hsame
      have hap:=hfree j oj' hoj hji hjun fun e he hb heq=>by
        have h1:=hall e he hb
        rw [heq,getD_both hun] at h1
        cases h1
      obtain ⟨p1,p2,p3⟩:=Oper.apart_spec hap
      have hsi:∀ cs b,oi.op ≠ .select cs b:=fun cs b=>hsel i oi cs b hi
      have hsj:∀ cs b,oj'.op ≠ .select cs b:=fun cs b=>hsel j oj' cs b hoj
      refine ⟨hjn,oj',u,hoj,hdj.same (execOp_put oj' hsj a oi.dst v p1).symm (wanted_put oj' a oi.dst v p1).symm,?_⟩
      refine ih (listed.setIfInBounds j true) (a.put oj'.dst u) (inv.set hj hjn) (fun k ok hk hki hku hno=>?_) (ready_mono hr (Ne.symm hji))
        (hd.same (execOp_put oi hsi a oj'.dst u p3) (wanted_put oi a oj'.dst u p3)) ?_
      · refine hfree k ok hk hki ?_ hno
        by_cases hjk:j=k
        · subst hjk
          exact hjun
        · rw [getD_set_ne true hjk] at hku
          exact hku
      · rw [Array.setIfInBounds_comm _ _ hji,← Act.put_comm a v u p2]
        exact hrest

def wpDet (P:Program) (ops:Array Oper) (S:World→Prop) (R:Act→Prop):List Oper→Act→Prop
  | [],a=>R a
  | o :: rest,a=>∃ v,Det P ops S o v a∧wpDet P ops S R rest (a.put o.dst v)

theorem allDet_lex {n g:Nat} {R:Act→Prop} (hsel:Region.noSelect ops=true) (hs:Region.sinkB md ops n=true) (hc:Region.chainB md ops n=true) (hn:n<ops.size) (l:List Oper) :
    ∀ (k:Nat) (listed:Array Bool) (a:Act),(∀ j,j<l.length→l[j]?=ops[k+j]?)→k+l.length=n→HeadInv md ops n listed →
    Region.lexHead md ops g l.length k listed=true→wpDet P ops S R l a→AllDet P md ops S n (fun listed' a'=>Region.seqB md ops g n listed'=true∧R a') l.length listed a:=by
  induction l with
  | nil =>
    intro k listed a _ hk _ hB h
    obtain rfl:k=n:=by simpa using hk
    exact ⟨by simpa [Region.lexHead] using hB,h⟩
  | cons o l ih =>
    intro k listed a hl hk inv hB h
    have h0:ops[k]?=some o:=by simpa using (hl 0 (by simp)).symm
    simp only [List.length_cons,Region.lexHead,Bool.and_eq_true] at hB hk
    obtain ⟨⟨hr,hf⟩,hB'⟩:=hB
    have hr':k∈Region.ready md ops listed:=by simpa using hr
    obtain ⟨v,hd,hrest⟩:=h
    exact allDet_first h0 (Region.noSelect_spec hsel) hs hc hn (by omega) (fun _ _ hL=>seqB_ready hL.1) l.length listed a inv (Region.free_spec h0 hf) hr' hd
      (ih (k+1) _ _ (fun j hj=>by have:=hl (j+1) (by simp;omega);simpa [Nat.add_assoc,Nat.add_comm 1 j] using this) (by omega) (inv.set hr' (by omega)) hB' hrest)

theorem wp_region_det {id:Nat} {Q:Exit→Act→World→Prop} {a:Act} {w:World} {l:List Oper} (n:Nat) (S:World→Prop) (hm:P.follows .mixedOrders=true) (hB:Region.lexTailB .any l.toArray n=true)
    (hS:S w.drew) (h:wpDet P l.toArray S (fun a'=>∀ w',S w'→wpList P l.toArray Q (l.drop n) a' w') (l.take n) a):(Code.region id l.toArray true).wp P Q a w:=by
  simp only [Region.lexTailB,Bool.and_eq_true,decide_eq_true_eq] at hB
  obtain ⟨⟨⟨⟨hsel,hn⟩,hs⟩,hc⟩,hlex⟩:=hB
  have hn':n<l.length:=by simpa using hn
  have htl:(l.take n).length=n:=by simp;omega
  have hdl:(l.drop n).length=l.toArray.size-n:=by simp
  have inv:HeadInv .any l.toArray n (Array.replicate l.toArray.size false) :=
    ⟨by simp,fun j oj _ hl=>(by rw [getD_replicate_false] at hl;cases hl),fun t _ ht=>getD_in (by simpa using ht) (getD_replicate_false _ _)⟩
  have H:=allDet_lex (md := .any) (g:=l.toArray.size-n) hsel hs hc hn (l.take n) 0 _ a (fun j hj=>by
    have hj':j<n:=by rw [htl] at hj;exact hj
    simp [hj']) (by simpa using htl) inv (by rw [htl];exact hlex) h
  refine wp_region_any hm ?_
  have:=allDet_any (Q:=Q) (g:=l.toArray.size-n) (fun listed a' hL w' hS'=>by
    have:=wpAny_of_seq (md := .any) (Q':=Q) (l.drop n) n listed a' w' (fun j=>by simp [List.getElem?_drop]) (by rw [hdl];exact hL.1) (hL.2 w' hS')
    rwa [hdl] at this) _ _ _ H _ hS
  rw [htl,show n+(l.toArray.size-n)=l.toArray.size from by omega] at this
  exact this

theorem wpDet_nil {R:Act→Prop} {a:Act} (h:R a):wpDet P ops S R [] a:=h
theorem wpDet_val {R:Act→Prop} {a:Act} {o:Oper} {rest:List Oper} (v:Value) (hg:Region.wanted o (yielded ops a.tmps)=true) (h:∀ w,S w→(execOp a.eval o).run P w = .ok (.value v) w)
    (k:wpDet P ops S R rest (a.put o.dst v)):wpDet P ops S R (o :: rest) a :=
  ⟨v, .inl ⟨hg,fun w hw=>by rw [h w hw];exact ⟨rfl,hw⟩⟩,k⟩
theorem wpDet_call {R:Act→Prop} {a:Act} {o:Oper} {rest:List Oper} (v:Value) (f:FuncId) (args:Array Value) (hg:Region.wanted o (yielded ops a.tmps)=true)
    (h:∀ w,S w→(execOp a.eval o).run P w = .ok (.enter f args) w) (c:∀ w,S w→Calls P f args w fun e w'=>e = .returned v∧S w')
    (k:wpDet P ops S R rest (a.put o.dst v)):wpDet P ops S R (o :: rest) a :=
  ⟨v, .inl ⟨hg,fun w hw=>by rw [h w hw];exact c w hw⟩,k⟩
end
end Go.Proofs.YtdipoojjlddohaaGreat
end
section
/- A law on statements whose order is open and whose last operations wait for all the others: the operations ahead of them are taken in whatever order, a condition S on the world holding behind each of them; the last ones stand in their own order, and S need not outlive them. -/
namespace Go.Proofs.YtdipoojjlddohaaGreat
open Go.RowKit
section
variable {P:Program} {ops:Array Oper} {md:Region.Mode} {S:World→Prop} {Q:Exit→Act→World→Prop} {n g:Nat} {tail:List Oper}
def HeadW (P:Program) (md:Region.Mode) (ops:Array Oper) (S:World→Prop) (Q:Exit→Act→World→Prop) (n g:Nat) (tail:List Oper):Nat→Array Bool→Act→World→Prop
  | 0,listed,a,w=>Region.seqB md ops g n listed=true∧wpList P ops Q tail a w
  | f+1,listed,a,w=>Region.ready md ops listed≠[]∧∀ i∈Region.ready md ops listed,i<n∧wpOp P ops Q i (fun a' w'=>S w'∧HeadW P md ops S Q n g tail f (listed.setIfInBounds i true) a' w') a w
theorem headW_any (hg:tail.length=g) (ht:∀ j,tail[j]?=ops[n+j]?):∀ (f:Nat) (listed:Array Bool) (a:Act) (w:World),HeadW P md ops S Q n g tail f listed a w→wpAny P md ops Q (f+g) listed a w
  | 0,listed,a,w,h=>by
    rw [Nat.zero_add]
    subst hg
    exact wpAny_of_seq tail n listed a w ht h.1 h.2
  | f+1,listed,a,w,h=>by
    rw [show f+1+g=(f+g)+1 from by omega]
    exact ⟨fun h0=>absurd h0 h.1,fun i hi=>wpOp_mono (fun a' w' h'=>headW_any hg ht f _ a' w' h'.2) (h.2 i hi).2⟩
structure PhaseOK (md:Region.Mode) (ops:Array Oper) (n:Nat):Prop where
  sel:Region.noSelect ops=true
  sink:Region.sinkB md ops n=true
  chain:Region.chainB md ops n=true
  lt:n<ops.size
theorem headW_first (ok:PhaseOK md ops n) {i:Nat} {oi:Oper} {v:Value} (hi:ops[i]?=some oi) (hin:i<n) (hQ:∀ c a w,Q (.panic c) (a.put oi.dst v) w→Q (.panic c) a w) :
    ∀ (f:Nat) (listed:Array Bool) (a:Act) (w:World),HeadInv md ops n listed →
      (∀ j oj,ops[j]?=some oj→j≠i→listed.getD j true=false→(∀ e∈oj.after,Region.binds md e=true→e.on≠i)→oi.apart ops oj=true) →
      i∈Region.ready md ops listed→YieldsIf P ops S oi v a→S w→HeadW P md ops S Q n g tail f (listed.setIfInBounds i true) (a.put oi.dst v) w→HeadW P md ops S Q n g tail (f+1) listed a w:=by
  have hsel:=Region.noSelect_spec ok.sel
  intro f
  induction f with
  | zero =>
    intro listed a w inv _ hr hy hS H
    refine ⟨fun h0=>by rw [h0] at hr;exact absurd hr (by simp),fun j hj=>?_⟩
    have hjn:j<n:=Nat.lt_of_not_le fun hle=>tail_waits ok.sink ok.chain ok.lt inv _ i rfl hin (mem_ready.1 hr).1 j hle hj
    by_cases hji:j=i
    · subst hji
      exact ⟨hjn,hy.wpOp hi hS ⟨hS,H⟩⟩
    · exact absurd (seqB_ready H.1 j (ready_mono hj hji)) (by omega)
  | succ f ih =>
    intro listed a w inv hfree hr hy hS H
    refine ⟨fun h0=>by rw [h0] at hr;exact absurd hr (by simp),fun j hj=>?_⟩
    have hun:=(mem_ready.1 hr).1
    have hjn:j<n:=Nat.lt_of_not_le fun hle=>tail_waits ok.sink ok.chain ok.lt inv _ i rfl hin hun j hle hj
    by_cases hji:j=i
    · subst hji
      exact ⟨hjn,hy.wpOp hi hS ⟨hS,H⟩⟩
    · have h1:=(H.2 j (ready_mono hj hji)).2
      obtain ⟨hjun,oj,hoj,hall⟩:=mem_ready.1 hj
      have hnot:∀ e∈oj.after,Region.binds md e=true→e.on≠i:=fun e he hb heq=>by
        have h1:=hall e he hb
        rw [heq,getD_both hun] at h1
        cases h1
      have h2:=wpOp_putIf hoj (hfree j oj hoj hji hjun hnot) (fun cs b=>hsel i oi cs b hi) (fun cs b=>hsel j oj cs b hoj) hQ hy h1
      refine ⟨hjn,wpOp_mono (fun a' w' h3=>⟨h3.2.1,ih (listed.setIfInBounds j true) a' w' (inv.set hj hjn) (fun k ok' hk hki hku hno=>?_) (ready_mono hr (Ne.symm hji)) h3.1 h3.2.1 ?_⟩) h2⟩
      · refine hfree k ok' hk hki ?_ hno
        by_cases hjk:j=k
        · subst hjk
          exact hjun
        · rw [getD_set_ne true hjk] at hku
          exact hku
      · rw [Array.setIfInBounds_comm _ _ hji]
        exact h3.2.2
def HW (P:Program) (md:Region.Mode) (ops:Array Oper) (S:World→Prop) (Q:Exit→Act→World→Prop) (n g:Nat) (tail:List Oper) (f:Nat) (listed:Array Bool) (a:Act) (w:World):Prop :=
  HeadInv md ops n listed→HeadW P md ops S Q n g tail f listed a w
variable {f:Nat} {listed:Array Bool} {a:Act} {w:World}
theorem hw_take (ok:PhaseOK md ops n) {i:Nat} {oi:Oper} (v:Value) (hi:ops[i]?=some oi) (hin:i<n) (hf:Region.free md ops listed i=true) (hr:(Region.ready md ops listed).contains i=true)
    (hQ:∀ c a w,Q (.panic c) (a.put oi.dst v) w→Q (.panic c) a w) (hy:YieldsIf P ops S oi v a) (hS:S w) (h:HW P md ops S Q n g tail f (listed.setIfInBounds i true) (a.put oi.dst v) w):HW P md ops S Q n g tail (f+1) listed a w:=fun inv =>
  have hr':i∈Region.ready md ops listed:=by simpa using hr
  headW_first ok hi hin hQ f listed a w inv (Region.free_spec hi hf) hr' hy hS (h (inv.set hr' hin))
theorem hw_one {i:Nat} {oi:Oper} (hi:ops[i]?=some oi) (hin:i<n) (hr:Region.ready md ops listed=[i])
    (h:∀ K:Act→World→Prop,(∀ a' w',S w'→HW P md ops S Q n g tail f (listed.setIfInBounds i true) a' w'→K a' w')→if Region.wanted oi (yielded ops a.tmps)=true then Oper.wp P oi a w K Q else K (a.put oi.dst undef) w):HW P md ops S Q n g tail (f+1) listed a w:=fun inv=>by
  refine ⟨by rw [hr];simp,fun j hj=>?_⟩
  have hj':=hj
  rw [hr] at hj
  obtain rfl:j=i:=by simpa using hj
  refine ⟨hin,?_⟩
  have:=h (fun a' w'=>S w'∧HeadW P md ops S Q n g tail f (listed.setIfInBounds j true) a' w') (fun a' w' hS hh=>⟨hS,hh (inv.set hj' hin)⟩)
  unfold wpOp
  simp only [hi]
  split at this
  · rename_i hw
    simp only [hw,if_true]
    exact .inl this
  · rename_i hw
    simp only [hw]
    exact this
theorem hw_done (hB:Region.seqB md ops g n listed=true) (h:wpList P ops Q tail a w):HW P md ops S Q n g tail 0 listed a w:=fun _=>⟨hB,h⟩
theorem wp_region_phase {id:Nat} {l:List Oper} (n:Nat) (S:World→Prop) (hm:P.follows .mixedOrders=true) (hsel:Region.noSelect l.toArray=true) (hs:Region.sinkB .any l.toArray n=true) (hc:Region.chainB .any l.toArray n=true) (hn:decide (n<l.toArray.size)=true)
    (h:PhaseOK .any l.toArray n→HW P .any l.toArray S Q n (l.drop n).length (l.drop n) n (Array.replicate l.toArray.size false) a w.drew):(Code.region id l.toArray true).wp P Q a w:=by
  have hn:=of_decide_eq_true hn
  refine wp_region_any hm ?_
  have inv0:HeadInv .any l.toArray n (Array.replicate l.toArray.size false) :=
    ⟨by simp,fun j oj _ hl=>(by rw [getD_replicate_false] at hl;cases hl),fun t _ ht=>getD_in (by simpa using ht) (getD_replicate_false _ _)⟩
  have H:=headW_any (P:=P) (S:=S) (Q:=Q) (md := .any) (ops:=l.toArray) (n:=n) (tail:=l.drop n) rfl (fun j=>by simp [List.getElem?_drop]) n _ a _ (h ⟨hsel,hs,hc,hn⟩ inv0)
  have e:n+(l.drop n).length=l.toArray.size:=by
    have:n<l.length:=by simpa using hn
    simp
    omega
  rw [e] at H
  exact H
end
end Go.Proofs.YtdipoojjlddohaaGreat
end
section
/- Blocks of memory known whole: what a block holds behind a new block, a call, a store, a draw. -/
namespace Go.Proofs.YtdipoojjlddohaaGreat
open Go.RowKit

def Row (w:World) (b:Nat) (t:TypeId) (cs:Array Value):Prop:=w.heap[b]?=some (.cells cs t (0,0))
section
variable {w w':World} {b:Nat} {t:TypeId} {cs:Array Value}
theorem row_cell (h:Row w b t cs) (i:Nat):w.cell? ⟨b,i,none⟩=cs[i]?:=by
  unfold Row at h
  simp [World.cell?,h]
theorem row_free (h:Row w b t cs) (i:Nat):w.frozen? ⟨b,i,none⟩=false:=by
  unfold Row at h
  simp [World.frozen?,h]
theorem row_lt (h:Row w b t cs):b<w.heap.size:=lt_of_block h
theorem row_new (hb:b=w.heap.size):Row (w.alloc (.cells cs t)) b t cs:=by
  subst hb
  unfold Row
  show (w.heap.push _)[w.heap.size]?=_
  simp
theorem row_alloc (h:Row w b t cs) (o:Obj):Row (w.alloc o) b t cs:=(Below.heap_alloc w o b (row_lt h)).trans h
theorem row_call (h:Row w b t cs) (hb:Below w.heap.size w w'):Row w' b t cs:=(hb.block b (row_lt h)).trans h
theorem row_below {B:Nat} (h:Row w b t cs) (hb:Below B w w') (hlt:b<B):Row w' b t cs:=(hb.block b hlt).trans h
theorem row_grown {r:Option Nat} (h:Row w b t cs) (hg:w.grownBy w' r) (hne:r≠some b):Row w' b t cs:=(hg.block b (row_lt h) (fun e=>hne e.symm)).trans h
theorem row_drew (h:Row w b t cs):Row w.drew b t cs:=h
theorem row_other (h:Row w b t cs) {p:Addr} (hne:b≠p.block) (v:Value):Row (w.setCell p v) b t cs:=(Below.heap_setCell w p v b hne).trans h
theorem row_set (h:Row w b t cs) (i:Nat) (v:Value):Row (w.setCell ⟨b,i,none⟩ v) b t (cs.setIfInBounds i v):=by
  have hlt:=row_lt h
  unfold Row at *
  have h':w.heap[b] = .cells cs t (0,0):=by simpa [Array.getElem?_eq_getElem hlt] using h
  show (w.heap.modify b _)[b]?=_
  rw [Array.getElem?_eq_getElem (by simpa using hlt),Array.getElem_modify_self,h']
  rfl
theorem row_two {x y:Value} (h:Row w b t #[x,y]):w.cell? ⟨b,0,none⟩=some x∧w.cell? ⟨b,1,none⟩=some y∧w.frozen? ⟨b,0,none⟩=false∧w.frozen? ⟨b,1,none⟩=false :=
  ⟨row_cell h 0,row_cell h 1,row_free h 0,row_free h 1⟩
theorem row_two_set {x y u v:Value} (h:Row w b t #[x,y]):Row ((w.setCell ⟨b,0,none⟩ u).setCell ⟨b,1,none⟩ v) b t #[u,v]:=row_set (row_set h 0 u) 1 v
theorem row_two_other {c:Nat} {u v:Value} (h:Row w b t cs) (hne:b≠c):Row ((w.setCell ⟨c,0,none⟩ u).setCell ⟨c,1,none⟩ v) b t cs:=row_other (row_other h hne u) hne v
theorem row_one {x:Value} (h:Row w b t #[x]):w.cell? ⟨b,0,none⟩=some x∧w.frozen? ⟨b,0,none⟩=false:=⟨row_cell h 0,row_free h 0⟩
theorem size_setCell (p:Addr) (v:Value):(w.setCell p v).heap.size=w.heap.size:=by simp [World.setCell]
end
end Go.Proofs.YtdipoojjlddohaaGreat
end
