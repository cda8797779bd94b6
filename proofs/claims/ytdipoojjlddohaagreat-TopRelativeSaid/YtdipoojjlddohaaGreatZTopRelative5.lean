/- What the law TopRelative needs, joined of its texts by a program (slim2.py); part 5. -/
import Derived.Test.YtdipoojjlddohaaGreatZTopRelative1
import Derived.Test.YtdipoojjlddohaaGreatZTopRelative3
import Derived.Test.YtdipoojjlddohaaGreatZTopRelative4
set_option linter.unusedVariables false
set_option linter.unusedSimpArgs false
set_option linter.unusedSectionVars false
set_option linter.unnecessarySimpa false
set_option maxRecDepth 100000
namespace Go.Proofs.YtdipoojjlddohaaGreat
open MC
open MT
open Go.RowKit
section
variable {P:Program} {ops:Array Oper} {md:Region.Mode} {S:World->Prop} {Q:Exit->Act->World->Prop}

def GivesB (P:Program) (S:World->Prop) (v:Value) (w:World):Result Next->Prop
  | .ok (.value u) w'=>u=v/\S w'/\Below w w w'
  | .ok (.enter f args) w0=>w0=w/\Calls P f args w fun e w'=>e = .returned v/\S w'/\Below w w w'
  | _=>False
def DetB (P:Program) (ops:Array Oper) (S:World->Prop) (o:Oper) (v:Value) (a:Act):Prop :=
  (Region.wanted o (yielded ops a.tmps)=true/\∀ w,S w->GivesB P S v w ((execOp a.eval o).run P w))∨(Region.wanted o (yielded ops a.tmps)=false/\v=undef)
theorem DetB.same {o:Oper} {v:Value} {a a':Act} (h:DetB P ops S o v a) (he:execOp a'.eval o=execOp a.eval o)
    (hw:Region.wanted o (yielded ops a'.tmps)=Region.wanted o (yielded ops a.tmps)):DetB P ops S o v a':=by
  unfold DetB at *;rw [he,hw];exact h
theorem DetB.run {i:Nat} {o:Oper} {v:Value} {a:Act} {w:World} {K:Act->World->Prop} (hi:ops[i]?=some o) (h:DetB P ops S o v a) (hS:S w)
    (hK:∀ w',S w'->Below w w w'->K (a.put o.dst v) w'):wpOp P ops Q i K a w:=by
  unfold wpOp;simp only [hi];rcases h with ⟨hw,hg⟩ | ⟨hw,rfl⟩
  · simp only [hw,if_true];refine .inl ?_;have g:=hg w hS;unfold Oper.wp;generalize (execOp a.eval o).run P w=r at g |-
    cases r with
    | halt x w'=>exact g.elim
    | ok n w' =>
      cases n with
      | value u =>
        obtain ⟨rfl,hs,hb⟩:=g;exact hK _ hs hb
      | enter f args =>
        obtain ⟨rfl,g⟩:=g;exact Calls.mono g fun e w'' ⟨he,hs,hb⟩=>by subst he;exact hK _ hs hb
      | _=>exact g.elim
  · simp only [hw,Bool.false_eq_true,if_false];exact hK _ hS (Below.refl _ _)

def Makes (P:Program) (ops:Array Oper) (i:Nat) (t:TypeId) (z:Array Value):Prop :=
  ∃ o d,ops[i]?=some o/\o.dst=some d/\o.guard=none/\∀ ρ w,(execOp ρ o).run P w = .ok (.value (.pointer (some ⟨w,0,none⟩))) (w.alloc (.cells z t))
def slotOf (ops:Array Oper) (i:Nat) (a:Act):Option Value:=(ops[i]?.bind (·.dst)).bind (a.tmps[·]?)
def Held (ops:Array Oper) (J:List (Nat×TypeId×Array Value)) (base:Nat) (listed:Array Bool) (a:Act) (w:World):Prop :=
  base<=w.heap.size/\(∀ x∈J,listed.getD x.1 false=true->∃ g,slotOf ops x.1 a=some (.pointer (some ⟨g,0,none⟩))/\Row w g x.2.1 x.2.2/\base<=g) /\
  (∀ x∈J,∀ y∈J,x.1≠y.1->listed.getD x.1 false=true->listed.getD y.1 false=true->slotOf ops x.1 a≠slotOf ops y.1 a)
def ownDst (ops:Array Oper) (J:List (Nat×TypeId×Array Value)) (n:Nat):Bool :=
  J.all fun x=>(List.range ops.size).all fun j=>j == x.1 || match ops[j]?,ops[x.1]? with
    | some oj,some ox=>oj.dst != ox.dst
    | _,_=>false

theorem slotOf_put {i j:Nat} {oi oj:Oper} {a:Act} {v:Value} (hi:ops[i]?=some oi) (hj:ops[j]?=some oj) (h:oj.dst≠oi.dst):slotOf ops i (a.put oj.dst v)=slotOf ops i a:=by
  unfold slotOf;simp only [hi,Option.bind_some];cases hd:oi.dst with
  | none=>rfl
  | some d =>
    cases he:oj.dst with
    | none=>rfl
    | some e =>
      have hne:e≠d:=fun x=>h (by rw [hd,he,x]);simp [Act.put,Array.getElem?_setIfInBounds_ne hne]

theorem held_det {J:List (Nat×TypeId×Array Value)} {base j:Nat} {listed:Array Bool} {a:Act} {w w':World} {oj:Oper} {v:Value} (hd:ownDst ops J 0=true) (hM:∀ x∈J,Makes P ops x.1 x.2.1 x.2.2)
    (hj:ops[j]?=some oj) (hjJ:∀ x∈J,x.1≠j) (h:Held ops J base listed a w) (hb:Below w w w'):Held ops J base (listed.setIfInBounds j true) (a.put oj.dst v) w':=by
  obtain ⟨h0,h1,h2⟩:=h
  have hs:∀ x∈J,slotOf ops x.1 (a.put oj.dst v)=slotOf ops x.1 a:=fun x hx=>by
    obtain ⟨o,d,ho,hdst,_⟩:=hM x hx;refine slotOf_put ho hj ?_;have hlt:j<ops.size:=(Array.getElem?_eq_some_iff.1 hj).1;have:=List.all_eq_true.1 (List.all_eq_true.1 hd x hx) j (List.mem_range.2 hlt);simp only [hj,ho,Bool.or_eq_true,beq_iff_eq,bne_iff_ne] at this;rcases this with h | h
    · exact absurd h.symm (hjJ x hx)
    · exact h
  have hl:∀ x∈J,(listed.setIfInBounds j true).getD x.1 false=listed.getD x.1 false:=fun x hx=>getD_set_ne false (Ne.symm (hjJ x hx));refine ⟨Nat.le_trans h0 hb.size,fun x hx hlx=>?_,fun x hx y hy hne hlx hly=>?_⟩
  · rw [hl x hx] at hlx;obtain ⟨g,e,r,b⟩:=h1 x hx hlx;exact ⟨g,by rw [hs x hx];exact e,row_call r hb,b⟩
  · rw [hl x hx] at hlx;rw [hl y hy] at hly;rw [hs x hx,hs y hy];exact h2 x hx y hy hne hlx hly

theorem held_make {J:List (Nat×TypeId×Array Value)} {base:Nat} {listed:Array Bool} {a:Act} {w:World} {x:Nat×TypeId×Array Value} {o:Oper} {d:Tmp} (hd:ownDst ops J 0=true) (hM:∀ x∈J,Makes P ops x.1 x.2.1 x.2.2)
    (hJ:∀ x∈J,∀ y∈J,x.1=y.1->x=y) (hx:x∈J) (ho:ops[x.1]?=some o) (hod:o.dst=some d) (hsz:d<a.tmps.size) (hun:listed.getD x.1 false=false) (h:Held ops J base listed a w) :
    Held ops J base (listed.setIfInBounds x.1 true) (a.put o.dst (.pointer (some ⟨w,0,none⟩))) (w.alloc (.cells x.2.2 x.2.1)):=by
  obtain ⟨h0,h1,h2⟩:=h
  have hown:slotOf ops x.1 (a.put o.dst (.pointer (some ⟨w,0,none⟩)))=some (.pointer (some ⟨w,0,none⟩)):=by
    simp [slotOf,ho,hod,Act.put,hsz]
  have hs:∀ y∈J,y.1≠x.1->slotOf ops y.1 (a.put o.dst (.pointer (some ⟨w,0,none⟩)))=slotOf ops y.1 a:=fun y hy hne=>by
    obtain ⟨oy,dy,hoy,_,_⟩:=hM y hy;refine slotOf_put hoy ho ?_;have hlt:x.1<ops.size:=(Array.getElem?_eq_some_iff.1 ho).1;have:=List.all_eq_true.1 (List.all_eq_true.1 hd y hy) x.1 (List.mem_range.2 hlt);simp only [ho,hoy,Bool.or_eq_true,beq_iff_eq,bne_iff_ne] at this;rcases this with h | h
    · exact absurd h (Ne.symm hne)
    · exact h
  have old:∀ y∈J,y.1≠x.1->(listed.setIfInBounds x.1 true).getD y.1 false=true->∃ g,slotOf ops y.1 a=some (.pointer (some ⟨g,0,none⟩))/\Row w g y.2.1 y.2.2/\base<=g:=fun y hy hne hl=>by
    rw [getD_set_ne false (Ne.symm hne)] at hl;exact h1 y hy hl
  refine ⟨by simp;omega,fun y hy hl=>?_,fun y hy z hz hne hly hlz=>?_⟩
  · by_cases hyx:y.1=x.1
    · obtain rfl:=hJ y hy x hx hyx;exact ⟨w,hown,row_new rfl,h0⟩
    · obtain ⟨g,e,r,b⟩:=old y hy hyx hl;exact ⟨g,by rw [hs y hy hyx];exact e,row_alloc r _,b⟩
  · by_cases hyx:y.1=x.1
    · have hzx:z.1≠x.1:=fun e=>hne (hyx.trans e.symm);obtain ⟨g,e,r,b⟩:=old z hz hzx hlz;rw [hyx,hown,hs z hz hzx,e];have:=row_lt r;intro he
      first | (simp at he;done) | (simp at he;omega)
    · by_cases hzx:z.1=x.1
      · obtain ⟨g,e,r,b⟩:=old y hy hyx hly;rw [hzx,hown,hs y hy hyx,e];have:=row_lt r;intro he
        first | (simp at he;done) | (simp at he;omega)
      · rw [hs y hy hyx,hs z hz hzx];rw [getD_set_ne false (Ne.symm hyx)] at hly;rw [getD_set_ne false (Ne.symm hzx)] at hlz;exact h2 y hy z hz hne hly hlz

def doneB (HJ:List Nat) (listed:Array Bool):Bool:=HJ.all fun i=>listed.getD i false
def Leaf (P:Program) (md:Region.Mode) (ops:Array Oper) (Q:Exit->Act->World->Prop) (S:World->Prop) (J:List (Nat×TypeId×Array Value)) (base f:Nat) (listed:Array Bool) (a:Act):Prop :=
  ∀ w,S w->Held ops J base listed a w->wpAny P md ops Q f listed a w
def AllA (P:Program) (md:Region.Mode) (ops:Array Oper) (Q:Exit->Act->World->Prop) (S:World->Prop) (J:List (Nat×TypeId×Array Value)) (HJ:List Nat) (base:Nat):Nat->Array Bool->Act->Prop
  | 0,listed,a=>doneB HJ listed=true/\Leaf P md ops Q S J base 0 listed a
  | f+1,listed,a=>(doneB HJ listed=true/\Leaf P md ops Q S J base (f+1) listed a) ∨
    (doneB HJ listed=false/\Region.ready md ops listed≠[]/\∀ i∈Region.ready md ops listed,∃ o,ops[i]?=some o /\
      (((∃ x∈J,x.1=i)/\∀ v,AllA P md ops Q S J HJ base f (listed.setIfInBounds i true) (a.put o.dst v)) ∨
       ((∀ x∈J,x.1≠i)/\∃ v,DetB P ops S o v a/\AllA P md ops Q S J HJ base f (listed.setIfInBounds i true) (a.put o.dst v))))

theorem put_size (a:Act) (d:Option Tmp) (v:Value):(a.put d v).tmps.size=a.tmps.size:=by cases d<;>simp [Act.put]
structure Fits (P:Program) (ops:Array Oper) (S:World->Prop) (J:List (Nat×TypeId×Array Value)) (n:Nat):Prop where
  own:ownDst ops J 0=true
  makes:∀ x∈J,Makes P ops x.1 x.2.1 x.2.2
  uniq:∀ x∈J,∀ y∈J,x.1=y.1->x=y
  room:∀ x∈J,∀ o d,ops[x.1]?=some o->o.dst=some d->d<n
  keeps:∀ x∈J,∀ w,S w->S (w.alloc (.cells x.2.2 x.2.1))

theorem allA_any {J:List (Nat×TypeId×Array Value)} {HJ:List Nat} {base n:Nat} (F:Fits P ops S J n):∀ (f:Nat) (listed:Array Bool) (a:Act),a.tmps.size=n->AllA P md ops Q S J HJ base f listed a ->
    ∀ w,S w->Held ops J base listed a w->wpAny P md ops Q f listed a w:=by
  intro f
  induction f with
  | zero=>exact fun listed a _ h w hS hH=>h.2 w hS hH
  | succ f ih =>
    intro listed a hn h w hS hH;rcases h with ⟨_,h⟩ | ⟨_,hne,h⟩
    · exact h w hS hH
    · refine ⟨fun h0=>absurd h0 hne,fun i hi=>?_⟩;obtain ⟨o,ho,⟨⟨x,hx,hxi⟩,hv⟩ | ⟨hJ,v,hd,hr⟩⟩:=h i hi
      · subst hxi;obtain ⟨o',d,ho',hod,hg,hm⟩:=F.makes x hx;obtain rfl:o'=o:=Option.some.inj (ho'.symm.trans ho);unfold wpOp;simp only [ho];rw [if_pos (by simp [Region.wanted,hg])];refine .inl ?_;unfold Oper.wp;rw [hm];exact ih _ _ (by rw [put_size];exact hn) (hv _) _ (F.keeps x hx w hS) (held_make F.own F.makes F.uniq hx ho hod (by rw [hn];exact F.room x hx o' d ho hod) (getD_both (mem_ready.1 hi).1) hH)
      · exact hd.run ho hS fun w' hS' hb=>ih _ _ (by rw [put_size];exact hn) hr _ hS' (held_det F.own F.makes ho hJ hH hb)

def Closed (md:Region.Mode) (ops:Array Oper) (listed:Array Bool):Prop :=
  listed.size=ops.size/\∀ j oj,ops[j]?=some oj->listed.getD j false=true->∀ e∈oj.after,Region.binds md e=true->listed.getD e.on false=true
theorem Closed.set {i:Nat} {listed:Array Bool} (c:Closed md ops listed) (hi:i∈Region.ready md ops listed):Closed md ops (listed.setIfInBounds i true):=by
  obtain ⟨_,oi,hoi,hall⟩:=mem_ready.1 hi;refine ⟨by simp [c.1],fun j oj hj hl e he hb=>?_⟩;by_cases hij:i=j
  · subst hij;obtain rfl:oj=oi:=Option.some.inj (hj.symm.trans hoi);exact getD_set_true (hall e he hb)
  · rw [getD_set_ne false hij] at hl;exact getD_set_true (c.2 j oj hj hl e he hb)
def needsB (md:Region.Mode) (ops:Array Oper):Nat->Nat->Nat->Bool
  | 0,_,_=>false
  | k+1,t,h=>match ops[t]? with
    | some o=>o.after.any fun e=>Region.binds md e && (e.on == h || (decide (h<e.on) && needsB md ops k e.on h))
    | none=>false
theorem needs_listed {listed:Array Bool} (c:Closed md ops listed):∀ (k t h:Nat) (o:Oper),ops[t]?=some o->(∀ e∈o.after,Region.binds md e=true->listed.getD e.on false=true)->needsB md ops k t h=true->listed.getD h false=true
  | 0,_,_,_,_,_,hn=>by simp [needsB] at hn
  | k+1,t,h,o,ho,hall,hn=>by
    simp only [needsB,ho,Array.any_eq_true'] at hn;obtain ⟨e,he,hb⟩:=hn;simp only [Bool.and_eq_true,Bool.or_eq_true,beq_iff_eq] at hb;obtain ⟨hb,hor⟩:=hb;have hl:=hall e he hb;rcases hor with rfl | ⟨_,hk⟩
    · exact hl
    · cases hoe:ops[e.on]? with
      | none=>cases k<;>simp [needsB,hoe] at hk
      | some o'=>exact needs_listed c k e.on h o' hoe (fun e' he' hb'=>c.2 e.on o' hoe hl e' he' hb') hk

def tailB (md:Region.Mode) (ops:Array Oper) (HJ X:List Nat):Bool :=
  (List.range ops.size).all fun t=>HJ.contains t || X.contains t || HJ.all fun h=>needsB md ops ops.size t h
def stepB (md:Region.Mode) (ops:Array Oper) (HJ X did:List Nat) (i:Nat):Bool :=
  !HJ.contains i || X.all (fun x=>did.contains x) || HJ.any fun h=>h != i && needsB md ops ops.size h i

theorem allA_last {HJ X did:List Nat} {i j:Nat} {listed:Array Bool} (hT:tailB md ops HJ X=true) (hst:stepB md ops HJ X did i=true) (c:Closed md ops listed) (hdid:∀ x∈did,listed.getD x false=true)
    (hr:i∈Region.ready md ops listed) (hj:j∈Region.ready md ops listed) (hji:j≠i) (hdn:doneB HJ listed=false) (hdone:doneB HJ (listed.setIfInBounds i true)=true):False:=by
  have hiun:=getD_both (mem_ready.1 hr).1;obtain ⟨hjun,oj,hoj,hdeps⟩:=mem_ready.1 hj;have hjun':=getD_both hjun
  have all:∀ x∈HJ,x≠i->listed.getD x false=true:=fun x hx hxi=>by
    have:=List.all_eq_true.1 hdone x hx
    rwa [getD_set_ne false (Ne.symm hxi)] at this
  have hiH:i∈HJ:=by
    by_cases h:i∈HJ
    · exact h
    · have:doneB HJ listed=true:=List.all_eq_true.2 fun x hx=>all x hx fun e=>h (e ▸ hx);rw [this] at hdn;cases hdn
  have hlt:j<ops.size:=(Array.getElem?_eq_some_iff.1 hoj).1;have ht:=List.all_eq_true.1 hT j (List.mem_range.2 hlt);simp only [Bool.or_eq_true,List.contains_iff_mem] at ht;rcases ht with (h | h) | h
  · rw [all j h hji] at hjun';cases hjun'
  · simp only [stepB,Bool.or_eq_true] at hst;rcases hst with (hx | hx) | hh
    · have:HJ.contains i=true:=by simpa using hiH
      rw [this] at hx;cases hx
    · have:=hdid j (by simpa using List.all_eq_true.1 hx j h);rw [this] at hjun';cases hjun'
    · obtain ⟨h',hh',hk⟩:=List.any_eq_true.1 hh;simp only [Bool.and_eq_true,bne_iff_ne] at hk;have hl:=all h' hh' hk.1;cases ho:ops[h']? with
      | none =>
        have:=hk.2;cases hs:ops.size<;>simp [hs,needsB,ho] at this
      | some o' =>
        have:=needs_listed c _ h' i o' ho (fun e he hb=>c.2 h' o' ho hl e he hb) hk.2;rw [hiun] at this;cases this
  · have:=needs_listed c _ j i oj hoj hdeps (List.all_eq_true.1 h i hiH);rw [hiun] at this;cases this

theorem allA_first {J:List (Nat×TypeId×Array Value)} {HJ X did:List Nat} {base i:Nat} {oi:Oper} {v:Value} (hi:ops[i]?=some oi) (hiJ:∀ x∈J,x.1≠i) (hsel:Region.noSelect ops=true)
    (hQ:∀ c a w,Q (.panic c) (a.put oi.dst v) w->Q (.panic c) a w) (hown:ownDst ops J 0=true) (hM:∀ x∈J,Makes P ops x.1 x.2.1 x.2.2) (hT:tailB md ops HJ X=true) (hst:stepB md ops HJ X did i=true) :
    ∀ (f:Nat) (listed:Array Bool) (a:Act),Closed md ops listed->(∀ x∈did,listed.getD x false=true) ->
      (∀ j oj,ops[j]?=some oj->j≠i->listed.getD j true=false->(∀ e∈oj.after,Region.binds md e=true->e.on≠i)->oi.apart ops oj=true) ->
      i∈Region.ready md ops listed->DetB P ops S oi v a->(HJ.contains i=false->Yields P ops oi v a)->AllA P md ops Q S J HJ base f (listed.setIfInBounds i true) (a.put oi.dst v) ->
      AllA P md ops Q S J HJ base (f+1) listed a:=by
  have hsi:∀ cs b,oi.op ≠ .select cs b:=fun cs b=>Region.noSelect_spec hsel i oi cs b hi;intro f
  induction f with
  | zero =>
    intro listed a c hdid hfree hr hd hy H;obtain ⟨hdone,hleaf⟩:=H;have hun:=getD_both (mem_ready.1 hr).1;by_cases hdn:doneB HJ listed=true
    · have hnot:HJ.contains i=false:=by
        cases hc:HJ.contains i with
        | false=>rfl
        | true =>
          have:=List.all_eq_true.1 hdn i (by simpa using hc);rw [hun] at this;cases this
      exact .inl ⟨hdn,fun w hS hH=>wpAny_first hi (Region.noSelect_spec hsel) hQ 0 listed a w hfree hr (hy hnot) (hleaf w hS (held_det hown hM hi hiJ hH (Below.refl _ _)))⟩
    · refine .inr ⟨by simpa using hdn,fun h0=>by rw [h0] at hr;exact absurd hr (by simp),fun j hj=>?_⟩;by_cases hji:j=i
      · subst hji;exact ⟨oi,hi, .inr ⟨hiJ,v,hd,hdone,hleaf⟩⟩
      · exact (allA_last hT hst c hdid hr hj hji (by simpa using hdn) hdone).elim
  | succ f ih =>
    intro listed a c hdid hfree hr hd hy H;have hun:=getD_both (mem_ready.1 hr).1;by_cases hdn:doneB HJ listed=true
    · have hnot:HJ.contains i=false:=by
        cases hc:HJ.contains i with
        | false=>rfl
        | true =>
          have:=List.all_eq_true.1 hdn i (by simpa using hc);rw [hun] at this;cases this
      have hdn':doneB HJ (listed.setIfInBounds i true)=true:=List.all_eq_true.2 fun x hx=>getD_set_true (List.all_eq_true.1 hdn x hx);rcases H with ⟨_,hleaf⟩ | ⟨hno,_⟩
      · exact .inl ⟨hdn,fun w hS hH=>wpAny_first hi (Region.noSelect_spec hsel) hQ (f+1) listed a w hfree hr (hy hnot) (hleaf w hS (held_det hown hM hi hiJ hH (Below.refl _ _)))⟩
      · rw [hdn'] at hno;cases hno
    · refine .inr ⟨by simpa using hdn,fun h0=>by rw [h0] at hr;exact absurd hr (by simp),fun j hj=>?_⟩;by_cases hji:j=i
      · subst hji;exact ⟨oi,hi, .inr ⟨hiJ,v,hd,H⟩⟩
      · rcases H with ⟨hdone,_⟩ | ⟨_,_,hall⟩
        · exact (allA_last hT hst c hdid hr hj hji (by simpa using hdn) hdone).elim
        · obtain ⟨hjun,oj',hoj',hdeps⟩:=mem_ready.1 hj;obtain ⟨oj,hoj,hcase⟩:=hall j (ready_mono hj hji);obtain rfl:oj'=oj:=Option.some.inj (hoj'.symm.trans hoj)
          have hap:=hfree j oj' hoj hji hjun fun e he hb heq=>by
            have h1:=hdeps e he hb;rw [heq,hun] at h1;cases h1
          obtain ⟨p1,p2,p3⟩:=Oper.apart_spec hap;have hsj:∀ cs b,oj'.op ≠ .select cs b:=fun cs b=>Region.noSelect_spec hsel j oj' cs b hoj
          have next:∀ u,AllA P md ops Q S J HJ base f ((listed.setIfInBounds i true).setIfInBounds j true) ((a.put oi.dst v).put oj'.dst u)->AllA P md ops Q S J HJ base (f+1) (listed.setIfInBounds j true) (a.put oj'.dst u):=fun u hu=>by
            refine ih (listed.setIfInBounds j true) (a.put oj'.dst u) (c.set hj) (fun x hx=>getD_set_true (hdid x hx)) (fun k ok hk hki hku hno=>?_) (ready_mono hr (Ne.symm hji))
              (hd.same (execOp_put oi hsi a oj'.dst u p3) (wanted_put oi a oj'.dst u p3)) (fun hc=>(hy hc).of_same (execOp_put oi hsi a oj'.dst u p3) (wanted_put oi a oj'.dst u p3)) ?_
            · refine hfree k ok hk hki ?_ hno;by_cases hjk:j=k
              · subst hjk;exact hjun
              · rw [getD_set_ne true hjk] at hku;exact hku
            · rw [Array.setIfInBounds_comm _ _ hji,<- Act.put_comm a v u p2];exact hu
          refine ⟨oj',hoj,?_⟩;rcases hcase with ⟨hx,hv⟩ | ⟨hx,u,hdj,hu⟩
          · exact .inl ⟨hx,fun u=>next u (hv u)⟩
          · exact .inr ⟨hx,u,hdj.same (execOp_put oj' hsj a oi.dst v p1).symm (wanted_put oj' a oi.dst v p1).symm,next u hu⟩

def planB (md:Region.Mode) (ops:Array Oper) (HJ X:List Nat):List Nat->List Nat->Array Bool->Bool
  | [],_,_=>true
  | i :: rest,did,listed=>(Region.ready md ops listed).contains i && Region.free md ops listed i && stepB md ops HJ X did i && planB md ops HJ X rest (i :: did) (listed.setIfInBounds i true)
def afterPlan (plan:List Nat) (listed:Array Bool):Array Bool:=plan.foldl (fun l i=>l.setIfInBounds i true) listed
def wpPlan (P:Program) (ops:Array Oper) (S:World->Prop) (HJ:List Nat) (R:Act->Prop):List Nat->Act->Prop
  | [],a=>R a
  | i :: rest,a=>∃ o v,ops[i]?=some o/\DetB P ops S o v a/\(HJ.contains i=false->Yields P ops o v a)/\wpPlan P ops S HJ R rest (a.put o.dst v)

theorem allA_plan {J:List (Nat×TypeId×Array Value)} {HJ X:List Nat} {base f n:Nat} {R:Act->Prop} (hsel:Region.noSelect ops=true)
    (hQ:∀ c a d v w,Q (.panic c) (a.put d v) w->Q (.panic c) a w) (hown:ownDst ops J 0=true) (hM:∀ x∈J,Makes P ops x.1 x.2.1 x.2.2) (hT:tailB md ops HJ X=true) (plan:List Nat) :
    ∀ (did:List Nat) (listed:Array Bool) (a:Act),(∀ i∈plan,∀ x∈J,x.1≠i)->Closed md ops listed->(∀ x∈did,listed.getD x false=true)->a.tmps.size=n->planB md ops HJ X plan did listed=true->wpPlan P ops S HJ R plan a ->
    (∀ a',R a'->a'.tmps.size=n->AllA P md ops Q S J HJ base f (afterPlan plan listed) a')->AllA P md ops Q S J HJ base (f+plan.length) listed a:=by
  induction plan with
  | nil=>exact fun did listed a _ _ _ hn _ h k=>k a h hn
  | cons i rest ih =>
    intro did listed a hJ c hdid hn hB h k;obtain ⟨o,v,ho,hd,hy,hrest⟩:=h;simp only [planB,Bool.and_eq_true] at hB;obtain ⟨⟨⟨hr,hf⟩,hst⟩,hB'⟩:=hB;have hr':i∈Region.ready md ops listed:=by simpa using hr
    have hlt:i<listed.size:=by rw [c.1];exact (Array.getElem?_eq_some_iff.1 ho).1
    have hnext:=ih (i :: did) (listed.setIfInBounds i true) (a.put o.dst v) (fun j hj=>hJ j (List.mem_cons_of_mem _ hj)) (c.set hr') (fun x hx=>by
      rcases List.mem_cons.1 hx with rfl | hx
      · simp [hlt]
      · exact getD_set_true (hdid x hx)) (by rw [put_size];exact hn) hB' hrest k
    rw [List.length_cons,<- Nat.add_assoc];exact allA_first ho (hJ i (List.mem_cons_self ..)) hsel (fun c a w=>hQ c a o.dst v w) hown hM hT hst (f+rest.length) listed a c hdid (Region.free_spec ho hf) hr' hd hy hnext

theorem closed_start (md:Region.Mode) (ops:Array Oper):Closed md ops (Array.replicate ops.size false) :=
  ⟨by simp,fun j oj _ hl=>by rw [getD_replicate_false] at hl;cases hl⟩

theorem wp_region_free0 {id:Nat} {a:Act} {w:World} {l:List Oper} (plan X HJ:List Nat) (n:Nat) (S:World->Prop) (hm:P.follows .mixedOrders=true)
    (hB:(Region.noSelect l.toArray && tailB .any l.toArray HJ X && planB .any l.toArray HJ X plan [] (Array.replicate l.length false) && doneB HJ (afterPlan plan (Array.replicate l.length false)) &&
      decide (n+(l.drop n).length=l.length) && decide (n=plan.length) && Region.seqB .any l.toArray (l.drop n).length n (afterPlan plan (Array.replicate l.length false)))=true)
    (hQ:∀ c a d v w,Q (.panic c) (a.put d v) w->Q (.panic c) a w) (hS:S w.drew)
    (h:wpPlan P l.toArray S HJ (fun a'=>∀ w',S w'->wpList P l.toArray Q (l.drop n) a' w') plan a):(Code.region id l.toArray true).wp P Q a w:=by
  simp only [Bool.and_eq_true,decide_eq_true_eq] at hB;obtain ⟨⟨⟨⟨⟨⟨hsel,hT⟩,hpl⟩,hdone⟩,hlen⟩,hn⟩,hseq⟩:=hB
  have H:=allA_plan (J:=[]) (base:=0) (f:=(l.drop n).length) (Q:=Q) hsel hQ rfl (fun _ h=>by cases h) hT plan [] (Array.replicate l.toArray.size false) a (fun _ _ _ h=>by cases h) (closed_start _ _) (fun _ h=>by cases h) rfl (by simpa using hpl) h
    (fun a' hR _=>by
      have leaf:Leaf P .any l.toArray Q S [] 0 (l.drop n).length (afterPlan plan (Array.replicate l.toArray.size false)) a':=fun w' hS' _ =>
        wpAny_of_seq (l.drop n) n _ a' w' (fun j=>by simp [List.getElem?_drop]) (by simpa using hseq) (hR w' hS')
      have hd:doneB HJ (afterPlan plan (Array.replicate l.toArray.size false))=true:=by simpa using hdone
      generalize (l.drop n).length=f at leaf |-
      cases f with
      | zero=>exact ⟨hd,leaf⟩
      | succ f=>exact .inl ⟨hd,leaf⟩)
  refine wp_region_any hm ?_;have R:=allA_any (Q:=Q) (S:=S) (J:=[]) (n:=a.tmps.size) (md := .any) ⟨rfl,(fun _ h=>by cases h),(fun _ h=>by cases h),(fun _ h=>by cases h),(fun _ h=>by cases h)⟩ _ _ a rfl H w.drew hS ⟨Nat.zero_le _,(fun _ h=>by cases h),(fun _ h=>by cases h)⟩;rw [<- hn,Nat.add_comm,hlen] at R;simpa using R

theorem leaf_all {J:List (Nat×TypeId×Array Value)} {HJ:List Nat} {base f:Nat} {listed:Array Bool} {a:Act} (hd:doneB HJ listed=true) (h:Leaf P md ops Q S J base f listed a):AllA P md ops Q S J HJ base f listed a:=by
  cases f with
  | zero=>exact ⟨hd,h⟩
  | succ f=>exact .inl ⟨hd,h⟩
theorem allA_new {J:List (Nat×TypeId×Array Value)} {HJ:List Nat} {base f:Nat} {listed:Array Bool} {a:Act} {x:Nat×TypeId×Array Value} (hx:x∈J) (hM:Makes P ops x.1 x.2.1 x.2.2) (hd:doneB HJ listed=false) (hr:Region.ready md ops listed=[x.1])
    (h:∀ o v,ops[x.1]?=some o->AllA P md ops Q S J HJ base f (listed.setIfInBounds x.1 true) (a.put o.dst v)):AllA P md ops Q S J HJ base (f+1) listed a:=by
  refine .inr ⟨hd,by rw [hr];simp,fun i hi=>?_⟩;rw [hr] at hi;obtain rfl:i=x.1:=by simpa using hi
  obtain ⟨o,d,ho,_⟩:=hM;exact ⟨o,ho, .inl ⟨⟨x,hx,rfl⟩,fun v=>h o v ho⟩⟩

theorem wp_region_free1 {id:Nat} {a:Act} {w:World} {l:List Oper} (plan X HJ:List Nat) (x:Nat×TypeId×Array Value) (dx:Tmp) (n:Nat) (S:World->Prop) (hm:P.follows .mixedOrders=true)
    (hB:(Region.noSelect l.toArray && tailB .any l.toArray HJ X && planB .any l.toArray HJ X plan [] (Array.replicate l.length false) && ownDst l.toArray [x] 0 && plan.all (fun i=>i != x.1) &&
      !doneB HJ (afterPlan plan (Array.replicate l.length false)) && decide (Region.ready .any l.toArray (afterPlan plan (Array.replicate l.length false))=[x.1]) && doneB HJ ((afterPlan plan (Array.replicate l.length false)).setIfInBounds x.1 true) &&
      decide (n+(l.drop n).length=l.length) && decide (n=plan.length+1) && Region.seqB .any l.toArray (l.drop n).length n ((afterPlan plan (Array.replicate l.length false)).setIfInBounds x.1 true) && (afterPlan plan (Array.replicate l.length false)).size == l.length)=true)
    (hM:Makes P l.toArray x.1 x.2.1 x.2.2) (hdx:(l.toArray[x.1]?).bind (·.dst)=some dx) (hroom:dx<a.tmps.size) (hkeep:∀ w,S w->S (w.alloc (.cells x.2.2 x.2.1)))
    (hQ:∀ c a d v w,Q (.panic c) (a.put d v) w->Q (.panic c) a w) (hS:S w.drew)
    (h:wpPlan P l.toArray S HJ (fun a'=>∀ g w',S w'->Row w' g x.2.1 x.2.2->w.heap.size<=g->wpList P l.toArray Q (l.drop n) (a'.put (some dx) (.pointer (some ⟨g,0,none⟩))) w') plan a):(Code.region id l.toArray true).wp P Q a w:=by
  simp only [Bool.and_eq_true,decide_eq_true_eq,beq_iff_eq,Bool.not_eq_true'] at hB;obtain ⟨⟨⟨⟨⟨⟨⟨⟨⟨⟨⟨hsel,hT⟩,hpl⟩,hown⟩,hnot⟩,hund⟩,hrd⟩,hdone⟩,hlen⟩,hn⟩,hseq⟩,hsz⟩:=hB
  have hMx:∀ y∈[x],Makes P l.toArray y.1 y.2.1 y.2.2:=fun y hy=>by
    obtain rfl:y=x:=by simpa using hy
    exact hM
  have hlt:x.1<l.length:=by
    obtain ⟨o,d,ho,_⟩:=hM;simpa using (Array.getElem?_eq_some_iff.1 ho).1
  have H:=allA_plan (J:=[x]) (base:=w.heap.size) (f:=(l.drop n).length+1) (Q:=Q) hsel hQ hown hMx hT plan [] (Array.replicate l.toArray.size false) a (fun i hi y hy=>by
      obtain rfl:y=x:=by simpa using hy
      have:=List.all_eq_true.1 hnot i hi
      exact fun e=>by simp [e] at this) (closed_start _ _) (fun _ h=>by cases h) rfl (by simpa using hpl) h
    (fun a' hR ha'=>by
      rw [List.size_toArray];refine allA_new (x:=x) (by simp) hM hund hrd fun o v ho=>leaf_all hdone fun w' hS' hH=>?_;have hod:o.dst=some dx:=by simpa [ho] using hdx
      obtain ⟨g,e,r,b⟩:=hH.2.1 x (by simp) (by simp [hsz,hlt]);have hv:v = .pointer (some ⟨g,0,none⟩):=by simpa [slotOf,ho,hod,Act.put,ha',hroom] using e
      subst hv;rw [hod]
      exact wpAny_of_seq (l.drop n) n _ _ w' (fun j=>by simp [List.getElem?_drop]) hseq (hR g w' hS' r b))
  refine wp_region_any hm ?_
  have R:=allA_any (Q:=Q) (S:=S) (J:=[x]) (n:=a.tmps.size) (md := .any) ⟨hown,hMx,(fun y hy z hz _=>by simp at hy hz;rw [hy,hz]),(fun y hy o d ho hd=>by
    obtain rfl:y=x:=by simpa using hy
    obtain rfl:d=dx:=by simpa [ho,hd] using hdx
    exact hroom),(fun y hy=>by
    obtain rfl:y=x:=by simpa using hy
    exact hkeep)⟩ _ _ a rfl H w.drew hS ⟨Nat.le_refl _,(fun y hy hl=>by rw [getD_replicate_false] at hl;cases hl),(fun y hy z hz _ hl=>by rw [getD_replicate_false] at hl;cases hl)⟩
  have e:(l.drop n).length+1+plan.length=l.toArray.size:=by simp only [List.size_toArray];omega
  rw [e] at R;exact R

theorem wp_region_free2 {id:Nat} {a:Act} {w:World} {l:List Oper} (plan X HJ:List Nat) (x y:Nat×TypeId×Array Value) (dx dy:Tmp) (n:Nat) (S:World->Prop) (hm:P.follows .mixedOrders=true)
    (hB:(Region.noSelect l.toArray && tailB .any l.toArray HJ X && planB .any l.toArray HJ X plan [] (Array.replicate l.length false) && ownDst l.toArray [x,y] 0 && plan.all (fun i=>i != x.1 && i != y.1) &&
      !doneB HJ (afterPlan plan (Array.replicate l.length false)) && decide (Region.ready .any l.toArray (afterPlan plan (Array.replicate l.length false))=[x.1,y.1]) &&
      !doneB HJ ((afterPlan plan (Array.replicate l.length false)).setIfInBounds x.1 true) && decide (Region.ready .any l.toArray ((afterPlan plan (Array.replicate l.length false)).setIfInBounds x.1 true)=[y.1]) &&
      !doneB HJ ((afterPlan plan (Array.replicate l.length false)).setIfInBounds y.1 true) && decide (Region.ready .any l.toArray ((afterPlan plan (Array.replicate l.length false)).setIfInBounds y.1 true)=[x.1]) &&
      doneB HJ (((afterPlan plan (Array.replicate l.length false)).setIfInBounds x.1 true).setIfInBounds y.1 true) &&
      decide (n+(l.drop n).length=l.length) && decide (n=plan.length+2) && Region.seqB .any l.toArray (l.drop n).length n (((afterPlan plan (Array.replicate l.length false)).setIfInBounds x.1 true).setIfInBounds y.1 true) && (afterPlan plan (Array.replicate l.length false)).size == l.length && x.1 != y.1 && dx != dy)=true)
    (hMx:Makes P l.toArray x.1 x.2.1 x.2.2) (hMy:Makes P l.toArray y.1 y.2.1 y.2.2) (hdx:(l.toArray[x.1]?).bind (·.dst)=some dx) (hdy:(l.toArray[y.1]?).bind (·.dst)=some dy) (hrx:dx<a.tmps.size) (hry:dy<a.tmps.size)
    (hkx:∀ w,S w->S (w.alloc (.cells x.2.2 x.2.1))) (hky:∀ w,S w->S (w.alloc (.cells y.2.2 y.2.1)))
    (hQ:∀ c a d v w,Q (.panic c) (a.put d v) w->Q (.panic c) a w) (hS:S w.drew)
    (h:wpPlan P l.toArray S HJ (fun a'=>∀ g k w',S w'->Row w' g x.2.1 x.2.2->Row w' k y.2.1 y.2.2->g≠k->w.heap.size<=g->w.heap.size<=k ->
      wpList P l.toArray Q (l.drop n) ((a'.put (some dx) (.pointer (some ⟨g,0,none⟩))).put (some dy) (.pointer (some ⟨k,0,none⟩))) w') plan a):(Code.region id l.toArray true).wp P Q a w:=by
  simp only [Bool.and_eq_true,decide_eq_true_eq,beq_iff_eq,bne_iff_ne,Bool.not_eq_true'] at hB;obtain ⟨⟨⟨⟨⟨⟨⟨⟨⟨⟨⟨⟨⟨⟨⟨⟨⟨hsel,hT⟩,hpl⟩,hown⟩,hnot⟩,hu0⟩,hr0⟩,hux⟩,hrdx⟩,huy⟩,hrdy⟩,hdone⟩,hlen⟩,hn⟩,hseq⟩,hsz⟩,hxy⟩,hdd⟩:=hB;have mem:∀ z∈[x,y],z=x∨z=y:=fun z hz=>by simpa using hz
  have hM:∀ z∈[x,y],Makes P l.toArray z.1 z.2.1 z.2.2:=fun z hz=>by
    rcases mem z hz with rfl | rfl
    · exact hMx
    · exact hMy
  have hltx:x.1<l.length:=by
    obtain ⟨o,d,ho,_⟩:=hMx;simpa using (Array.getElem?_eq_some_iff.1 ho).1
  have hlty:y.1<l.length:=by
    obtain ⟨o,d,ho,_⟩:=hMy;simpa using (Array.getElem?_eq_some_iff.1 ho).1
  have last:∀ a':Act,(∀ g k w',S w'->Row w' g x.2.1 x.2.2->Row w' k y.2.1 y.2.2->g≠k->w.heap.size<=g->w.heap.size<=k ->
      wpList P l.toArray Q (l.drop n) ((a'.put (some dx) (.pointer (some ⟨g,0,none⟩))).put (some dy) (.pointer (some ⟨k,0,none⟩))) w')->a'.tmps.size=a.tmps.size->∀ v u,
      Leaf P .any l.toArray Q S [x,y] w.heap.size (l.drop n).length (((afterPlan plan (Array.replicate l.length false)).setIfInBounds x.1 true).setIfInBounds y.1 true) ((a'.put (some dx) v).put (some dy) u):=by
    intro a' hR ha' v u w' hS' hH;obtain ⟨ox,_,hox,_⟩:=hMx;obtain ⟨oy,_,hoy,_⟩:=hMy;have hodx:ox.dst=some dx:=by simpa [hox] using hdx
    have hody:oy.dst=some dy:=by simpa [hoy] using hdy
    have hlx:(((afterPlan plan (Array.replicate l.length false)).setIfInBounds x.1 true).setIfInBounds y.1 true).getD x.1 false=true:=by rw [getD_set_ne false (Ne.symm hxy)];simp [hsz,hltx]
    have hly:(((afterPlan plan (Array.replicate l.length false)).setIfInBounds x.1 true).setIfInBounds y.1 true).getD y.1 false=true:=by simp [hsz,hlty]
    obtain ⟨g,ex,rx,bx⟩:=hH.2.1 x (by simp) hlx;obtain ⟨k,ey,ry,bk⟩:=hH.2.1 y (by simp) hly;have hne:=hH.2.2 x (by simp) y (by simp) hxy hlx hly;rw [ex,ey] at hne
    have e1:slotOf l.toArray x.1 ((a'.put (some dx) v).put (some dy) u)=some v:=by
      rw [<- hody,slotOf_put hox hoy (by rw [hodx,hody];intro e;injection e with e;exact hdd e.symm)];simp [slotOf,hox,hodx,Act.put,ha',hrx]
    have hv:v = .pointer (some ⟨g,0,none⟩):=by
      rw [e1] at ex;injection ex
    have hu:u = .pointer (some ⟨k,0,none⟩):=by simpa [slotOf,hoy,hody,Act.put,ha',hry] using ey
    subst hv hu;exact wpAny_of_seq (l.drop n) n _ _ w' (fun j=>by simp [List.getElem?_drop]) hseq (hR g k w' hS' rx ry (fun e=>hne (by rw [e])) bx bk)
  have H:=allA_plan (J:=[x,y]) (base:=w.heap.size) (f:=(l.drop n).length+1+1) (Q:=Q) hsel hQ hown hM hT plan [] (Array.replicate l.toArray.size false) a (fun i hi z hz=>by
      have:=List.all_eq_true.1 hnot i hi;simp only [Bool.and_eq_true,bne_iff_ne] at this;rcases mem z hz with rfl | rfl
      · exact fun e=>this.1 e.symm
      · exact fun e=>this.2 e.symm) (closed_start _ _) (fun _ h=>by cases h) rfl (by simpa using hpl) h
    (fun a' hR ha'=>by
      show AllA P .any l.toArray Q S [x,y] HJ w.heap.size ((l.drop n).length+1+1) (afterPlan plan (Array.replicate l.length false)) a';refine .inr ⟨hu0,by rw [hr0];simp,fun i hi=>?_⟩;rw [hr0] at hi;obtain ⟨ox,_,hox,_⟩:=hMx;obtain ⟨oy,_,hoy,_⟩:=hMy;have hodx:ox.dst=some dx:=by simpa [hox] using hdx
      have hody:oy.dst=some dy:=by simpa [hoy] using hdy
      rcases (show i=x.1∨i=y.1 from by simpa using hi) with rfl | rfl
      · refine ⟨ox,hox, .inl ⟨⟨x,by simp,rfl⟩,fun v=>allA_new (x:=y) (by simp) (hM y (by simp)) hux hrdx fun o u ho=>?_⟩⟩;obtain rfl:o=oy:=Option.some.inj (ho.symm.trans hoy);rw [hodx,hody];exact leaf_all hdone (last a' hR ha' v u)
      · refine ⟨oy,hoy, .inl ⟨⟨y,by simp,rfl⟩,fun u=>allA_new (x:=x) (by simp) (hM x (by simp)) huy hrdy fun o v ho=>?_⟩⟩;obtain rfl:o=ox:=Option.some.inj (ho.symm.trans hox);rw [hodx,hody,Array.setIfInBounds_comm _ _ (Ne.symm hxy),Act.put_comm a' u v (fun d hd he=>hdd (by simp at hd he;rw [he,hd]))]
        exact leaf_all hdone (last a' hR ha' v u))
  refine wp_region_any hm ?_
  have R:=allA_any (Q:=Q) (S:=S) (J:=[x,y]) (n:=a.tmps.size) (md := .any) ⟨hown,hM,(fun z hz t ht e=>by
    rcases mem z hz with rfl | rfl<;>rcases mem t ht with rfl | rfl
    · rfl
    · exact absurd e hxy
    · exact absurd e.symm hxy
    · rfl),(fun z hz o d ho hd=>by
    rcases mem z hz with rfl | rfl
    · obtain rfl:d=dx:=by simpa [ho,hd] using hdx
      exact hrx
    · obtain rfl:d=dy:=by simpa [ho,hd] using hdy
      exact hry),(fun z hz=>by
    rcases mem z hz with rfl | rfl
    · exact hkx
    · exact hky)⟩ _ _ a rfl H w.drew hS ⟨Nat.le_refl _,(fun y hy hl=>by rw [getD_replicate_false] at hl;cases hl),(fun y hy z hz _ hl=>by rw [getD_replicate_false] at hl;cases hl)⟩
  have e:(l.drop n).length+1+1+plan.length=l.toArray.size:=by simp only [List.size_toArray];omega
  rw [e] at R;exact R

theorem plan_nil {HJ:List Nat} {R:Act->Prop} {a:Act} (h:R a):wpPlan P ops S HJ R [] a:=h
theorem plan_val {HJ plan:List Nat} {R:Act->Prop} {a:Act} {i:Nat} {l:List Oper} {o:Oper} (v:Value) (ho:l[i]?=some o) (hg:Region.wanted o (yielded l.toArray a.tmps)=true) (hH:HJ.contains i=true)
    (h:∀ w,S w->(execOp a.eval o).run P w = .ok (.value v) w) (k:wpPlan P l.toArray S HJ R plan (a.put o.dst v)):wpPlan P l.toArray S HJ R (i :: plan) a :=
  ⟨o,v,(by simpa using ho), .inl ⟨hg,fun w hw=>by rw [h w hw];exact ⟨rfl,hw,Below.refl _ _⟩⟩,(fun c=>(by rw [hH] at c;cases c)),k⟩
theorem plan_pure {HJ plan:List Nat} {R:Act->Prop} {a:Act} {i:Nat} {l:List Oper} {o:Oper} (v:Value) (ho:l[i]?=some o) (hg:Region.wanted o (yielded l.toArray a.tmps)=true)
    (h:∀ w,(execOp a.eval o).run P w = .ok (.value v) w) (k:wpPlan P l.toArray S HJ R plan (a.put o.dst v)):wpPlan P l.toArray S HJ R (i :: plan) a :=
  ⟨o,v,(by simpa using ho), .inl ⟨hg,fun w hw=>by rw [h w];exact ⟨rfl,hw,Below.refl _ _⟩⟩,fun _ => .inl ⟨hg,h⟩,k⟩
theorem plan_not {HJ plan:List Nat} {R:Act->Prop} {a:Act} {i:Nat} {l:List Oper} {o:Oper} (ho:l[i]?=some o) (hg:Region.wanted o (yielded l.toArray a.tmps)=false)
    (k:wpPlan P l.toArray S HJ R plan (a.put o.dst undef)):wpPlan P l.toArray S HJ R (i :: plan) a:=⟨o,undef,(by simpa using ho), .inr ⟨hg,rfl⟩,fun _ => .inr ⟨hg,rfl⟩,k⟩
theorem plan_call {HJ plan:List Nat} {R:Act->Prop} {a:Act} {i:Nat} {l:List Oper} {o:Oper} (v:Value) (f:FuncId) (args:Array Value) (ho:l[i]?=some o) (hg:Region.wanted o (yielded l.toArray a.tmps)=true) (hH:HJ.contains i=true)
    (hS:∀ w w',S w->Below w w w'->S w') (h:∀ w,S w->(execOp a.eval o).run P w = .ok (.enter f args) w) (c:∀ w,S w->Calls P f args w (Rr v w))
    (k:wpPlan P l.toArray S HJ R plan (a.put o.dst v)):wpPlan P l.toArray S HJ R (i :: plan) a :=
  ⟨o,v,(by simpa using ho), .inl ⟨hg,fun w hw=>by rw [h w hw];exact ⟨rfl,(c w hw).mono fun e w' ⟨he,hb⟩=>⟨he,hS w w' hw hb,hb⟩⟩⟩,(fun c=>(by rw [hH] at c;cases c)),k⟩
end
section
variable {P:Program} {S:World->Prop} {HJ plan:List Nat} {R:Act->Prop} {a:Act} {i:Nat} {l:List Oper} {o:Oper} {v:Value}
theorem plv (ho:l[i]?=some o) (hg:Region.wanted o (yielded l.toArray a.tmps)=true) (hH:HJ.contains i=true) (h:∀ w,S w->(execOp a.eval o).run P w = .ok (.value v) w) (k:wpPlan P l.toArray S HJ R plan (a.put o.dst v)):wpPlan P l.toArray S HJ R (i :: plan) a:=plan_val v ho hg hH h k
theorem plp (ho:l[i]?=some o) (hg:Region.wanted o (yielded l.toArray a.tmps)=true) (k:wpPlan P l.toArray S HJ R plan (a.put o.dst v)) (h:∀ w,(execOp a.eval o).run P w = .ok (.value v) w:=by intro w';go_simp;try with_reducible rfl):wpPlan P l.toArray S HJ R (i :: plan) a:=plan_pure v ho hg h k
end
end Go.Proofs.YtdipoojjlddohaaGreat
