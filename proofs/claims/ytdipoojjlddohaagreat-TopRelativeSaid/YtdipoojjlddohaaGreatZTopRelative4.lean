/- What the law TopRelative needs, joined of its texts by a program (slim2.py); part 4. -/
import Derived.Test.YtdipoojjlddohaaGreatZTopRelative1
import Derived.Test.YtdipoojjlddohaaGreatZTopRelative3
set_option linter.unusedVariables false
set_option linter.unusedSimpArgs false
set_option linter.unusedSectionVars false
set_option linter.unnecessarySimpa false
set_option maxRecDepth 100000
namespace Go.Proofs.YtdipoojjlddohaaGreat
open MC
open MT
open Go.RowKit

def Own (w:World) (e:TypeId) (size g n c:Nat) (xs:List Value):Prop :=
  xs.length=n*size/\∃ cur:Array Value,w.heap[g]?=some (.cells cur e (0,0))/\n<=c/\c<=maxLen/\cur.size=c*size/\cur.toList.take (n*size)=xs
section
variable {w w':World} {e:TypeId} {size g n c:Nat} {xs:List Value}
theorem Own.row (h:Own w e size g n c xs) {base:Nat} (hb:base<=g):w.ownsRow base e size (.slice (some ⟨g,0,none⟩) n c) n xs:=by
  obtain ⟨h1,cur,h2,h3⟩:=h;exact ⟨h1, .inr ⟨g,c,cur,rfl,hb,h2,h3⟩⟩
theorem own_of_row {base:Nat} (h:w.ownsRow base e size (.slice (some ⟨g,0,none⟩) n c) n xs):Own w e size g n c xs/\base<=g:=by
  obtain ⟨h1,⟨h2,_⟩ | ⟨g',c',cur,h2,hb,h3⟩⟩:=h
  · simp at h2
  · simp only [Value.slice.injEq,Option.some.injEq,Addr.mk.injEq,and_true,true_and] at h2;obtain ⟨rfl,rfl⟩:=h2;exact ⟨⟨h1,cur,h3⟩,hb⟩
theorem Own.len (h:Own w e size g n c xs):xs.length=n*size:=h.1
theorem Own.lt (h:Own w e size g n c xs):g<w.heap.size:=by
  obtain ⟨_,cur,h2,_⟩:=h;exact (Array.getElem?_eq_some_iff.1 h2).1
theorem Own.cap (h:Own w e size g n c xs):n<=c/\c<=maxLen:=by
  obtain ⟨_,cur,_,h3,h4,_⟩:=h;exact ⟨h3,h4⟩
theorem Own.cell (h:Own w e size g n c xs) {j:Nat} (hj:j<n*size):w.cell? ⟨g,j,none⟩=xs[j]?:=(h.row (Nat.zero_le _)).cellAt j hj
theorem Own.free (h:Own w e size g n c xs) (j:Nat):w.frozen? ⟨g,j,none⟩=false:=(h.row (Nat.zero_le _)).frozenAt j
theorem Own.keep (h:Own w e size g n c xs) (hg:w'.heap[g]?=w.heap[g]?):Own w' e size g n c xs:=by
  obtain ⟨h1,cur,h2,h3⟩:=h;exact ⟨h1,cur,hg.trans h2,h3⟩
theorem Own.call (h:Own w e size g n c xs) (hb:Below w w w'):Own w' e size g n c xs:=h.keep (hb.block g h.lt)
theorem Own.below {B:Nat} (h:Own w e size g n c xs) (hb:Below B w w') (hlt:g<B):Own w' e size g n c xs:=h.keep (hb.block g hlt)
theorem Own.alloc (h:Own w e size g n c xs) (o:Obj):Own (w.alloc o) e size g n c xs:=h.keep (Below.heap_alloc w o g h.lt)
theorem Own.drew (h:Own w e size g n c xs):Own w.drew e size g n c xs:=h
theorem Own.other (h:Own w e size g n c xs) {p:Addr} (hne:g≠p.block) (v:Value):Own (w.setCell p v) e size g n c xs:=h.keep (Below.heap_setCell w p v g hne)
theorem Own.set (h:Own w e size g n c xs) (j:Nat) (u:Value):Own (w.setCell ⟨g,j,none⟩ u) e size g n c (xs.set j u) :=
  (own_of_row ((h.row (Nat.zero_le _)).stored j u).1).1
theorem Own.reads (h:Own w e size g n c xs):Reads w w.heap.size size (some ⟨g,0,none⟩) n xs:=Reads.of_own (h.row (Nat.zero_le _))
theorem Own.cut (h:Own w e size g n c xs) {k:Nat} (hk:k<=n):Own w e size g k c (xs.take (k*size)):=by
  obtain ⟨h1,cur,h2,h3,h4,h5,h6⟩:=h;refine ⟨by rw [List.length_take,h1];exact Nat.min_eq_left (Nat.mul_le_mul_right _ hk),cur,h2,by omega,h4,h5,?_⟩;rw [<- h6,List.take_take,Nat.min_eq_left (Nat.mul_le_mul_right _ hk)]
theorem own_new {cs:Array Value} (hg:g=w.heap.size) (hm:n<=maxLen) (hs:cs.size=n*size):Own (w.alloc (.cells cs e)) e size g n n cs.toList:=by
  subst hg;exact (own_of_row (World.ownsRow_lit (base:=0) w cs n (Nat.zero_le _) hm hs)).1
end

section
variable {w w':World} {b:Nat} {t:TypeId}
theorem row_three {x0 x1 x2:Value} (h:Row w b t #[x0,x1,x2]):w.cell? ⟨b,0,none⟩=some x0/\w.cell? ⟨b,1,none⟩=some x1/\w.cell? ⟨b,2,none⟩=some x2 /\
    w.frozen? ⟨b,0,none⟩=false/\w.frozen? ⟨b,1,none⟩=false/\w.frozen? ⟨b,2,none⟩=false :=
  ⟨row_cell h 0,row_cell h 1,row_cell h 2,row_free h 0,row_free h 1,row_free h 2⟩
theorem row_four {x0 x1 x2 x3:Value} (h:Row w b t (J25 x0 x1 x2 x3)):w.cell? ⟨b,0,none⟩=some x0/\w.cell? ⟨b,1,none⟩=some x1/\w.cell? ⟨b,2,none⟩=some x2/\w.cell? ⟨b,3,none⟩=some x3 /\
    w.frozen? ⟨b,0,none⟩=false/\w.frozen? ⟨b,1,none⟩=false/\w.frozen? ⟨b,2,none⟩=false/\w.frozen? ⟨b,3,none⟩=false :=
  ⟨row_cell h 0,row_cell h 1,row_cell h 2,row_cell h 3,row_free h 0,row_free h 1,row_free h 2,row_free h 3⟩
theorem row_six {x0 x1 x2 x3 x4 x5:Value} (h:Row w b t (J6 x0 x1 x2 x3 x4 x5)):w.cell? ⟨b,0,none⟩=some x0/\w.cell? ⟨b,1,none⟩=some x1/\w.cell? ⟨b,2,none⟩=some x2/\w.cell? ⟨b,3,none⟩=some x3/\w.cell? ⟨b,4,none⟩=some x4/\w.cell? ⟨b,5,none⟩=some x5 /\
    w.frozen? ⟨b,0,none⟩=false/\w.frozen? ⟨b,1,none⟩=false/\w.frozen? ⟨b,2,none⟩=false/\w.frozen? ⟨b,3,none⟩=false/\w.frozen? ⟨b,4,none⟩=false/\w.frozen? ⟨b,5,none⟩=false :=
  ⟨row_cell h 0,row_cell h 1,row_cell h 2,row_cell h 3,row_cell h 4,row_cell h 5,row_free h 0,row_free h 1,row_free h 2,row_free h 3,row_free h 4,row_free h 5⟩
theorem row_seven {x0 x1 x2 x3 x4 x5 x6:Value} (h:Row w b t (J1 x0 x1 x2 x3 x4 x5 x6)):w.cell? ⟨b,0,none⟩=some x0/\w.cell? ⟨b,1,none⟩=some x1/\w.cell? ⟨b,2,none⟩=some x2/\w.cell? ⟨b,3,none⟩=some x3/\w.cell? ⟨b,4,none⟩=some x4/\w.cell? ⟨b,5,none⟩=some x5/\w.cell? ⟨b,6,none⟩=some x6 /\
    w.frozen? ⟨b,0,none⟩=false/\w.frozen? ⟨b,1,none⟩=false/\w.frozen? ⟨b,2,none⟩=false/\w.frozen? ⟨b,3,none⟩=false/\w.frozen? ⟨b,4,none⟩=false/\w.frozen? ⟨b,5,none⟩=false/\w.frozen? ⟨b,6,none⟩=false :=
  ⟨row_cell h 0,row_cell h 1,row_cell h 2,row_cell h 3,row_cell h 4,row_cell h 5,row_cell h 6,row_free h 0,row_free h 1,row_free h 2,row_free h 3,row_free h 4,row_free h 5,row_free h 6⟩
end

theorem below_grown {B:Nat} {w0 w w':World} (hb:Below B w0 w) {r:Option Nat} (hg:w.grownBy w' r) (hr:∀ k,r=some k->B<=k) (hB:B<=w.heap.size):Below B w0 w' :=
  hb.trans ⟨hg.os,hg.tape,hg.output,hg.size,fun k hk=>hg.block k (by omega) (fun e=>by have:=hr k e.symm;omega)⟩

section
variable {P:Program}
theorem wpList_clone {w1:World} {ops:Array Oper} {rest:List Oper} {o:Oper} {a:Act} {Q:Exit->Act->World->Prop} (hgd:o.guard=none) (s x:Operand) (t:TypeId)
    (ho:o.op = .call { callee := .builtin .append,args:=#[s,x],argTypes:=#[t,t] })
    (e:TypeId) (i:TypeInfo) (z:Value) (size bytes:Nat) (ht:P.underlying t=some (.slice e)) (hi:P.info? e=some i) (hz:i.zero=some z)
    (hsize:i.size=size) (hby:i.bytes=bytes) (hzs:z.cells.size=size) (hsz:0<size)
    (hs:a.eval s = .slice (some ⟨w1,0,none⟩) 0 0)
    (B:Nat) (A:Option Addr) (m c:Nat) (news:List Value) (hx:a.eval x = .slice A m c) (hr:Reads w1 B size A m news) (hB:B<=w1.heap.size) (h1:∀ u∈news,u.oneCell'=true)
    (h63:m<=maxLen) (hbytes:m*bytes<=140737488355328)
    (h:∀ g c' w',Own w' e size g m c' news->w1.heap.size<=g->Below w1 w1 w'->w1.heap.size+1<=w'.heap.size->wpList P ops Q rest (a.put o.dst (.slice (some ⟨g,0,none⟩) m c')) w') :
    wpList P ops Q (o :: rest) a (w1.alloc (.cells #[] e)):=by
  refine wpList_append_any (w1.alloc (.cells #[] e)) hgd s x t ho w1.heap.size e i z size bytes ht hi hz hsize hby hzs hsz (.slice (some ⟨w1,0,none⟩) 0 0) 0 [] hs
    ((own_new (n:=0) rfl (by unfold maxLen;omega) (by simp)).row (Nat.le_refl _)) B A m c news hx (hr.alloc hB _) h1 (by omega) (by simpa using hbytes) (by simp) ?_
  intro v' w' hown hg hat;rw [Nat.zero_add,List.nil_append] at hown
  have hv:∃ g c',v' = .slice (some ⟨g,0,none⟩) m c':=by
    rcases hown.2 with ⟨hv,_⟩ | ⟨g,c',cur,hv,_⟩
    · subst hv;simp [Value.ownBlock] at hat
    · exact ⟨g,c',hv⟩
  obtain ⟨g,c',rfl⟩:=hv;obtain ⟨ho',hbg⟩:=own_of_row hown;refine h g c' w' ho' hbg ?_ ?_
  · exact below_grown ((Below.refl _ _).alloc (Nat.le_refl _) _) hg (fun k hk=>by simp [Value.ownBlock] at hk;omega) (by simp)
  · have:=hg.size;simpa using this

theorem wpList_push {w:World} {ops:Array Oper} {rest:List Oper} {o:Oper} {a:Act} {Q:Exit->Act->World->Prop} (hgd:o.guard=none) (s x:Operand) (t:TypeId)
    (ho:o.op = .call { callee := .builtin .append,args:=#[s,x],argTypes:=#[t,t] })
    (e:TypeId) (i:TypeInfo) (z:Value) (size bytes:Nat) (ht:P.underlying t=some (.slice e)) (hi:P.info? e=some i) (hz:i.zero=some z)
    (hsize:i.size=size) (hby:i.bytes=bytes) (hzs:z.cells.size=size) (hsz:0<size)
    (base:Nat) (v:Value) (n:Nat) (xs:List Value) (hs:a.eval s=v) (hown:w.ownsRow base e size v n xs)
    (news:Array Value) (hx:a.eval x = .slice (some ⟨w,0,none⟩) 1 1) (hn:news.size=size) (h1:∀ u∈news.toList,u.oneCell'=true)
    (h63:n+1<=maxLen) (hbytes:(n+1)*bytes<=140737488355328) (hbase:base<=w.heap.size)
    (h:∀ g c' w',Own w' e size g (n+1) c' (xs ++ news.toList)->base<=g->(v.ownBlock=some g∨g=w.heap.size+1)->(w.alloc (.cells news e)).grownBy w' v.ownBlock->wpList P ops Q rest (a.put o.dst (.slice (some ⟨g,0,none⟩) (n+1) c')) w') :
    wpList P ops Q (o :: rest) a (w.alloc (.cells news e)):=by
  refine wpList_append_any (w.alloc (.cells news e)) hgd s x t ho base e i z size bytes ht hi hz hsize hby hzs hsz v n xs hs (hown.alloc _) (w.heap.size+1) (some ⟨w,0,none⟩) 1 1 news.toList hx ?_ h1 h63 hbytes (by simp;omega) ?_
  · have hq:=(own_new (w:=w) (e:=e) (size:=size) (n:=1) (cs:=news) rfl (by unfold maxLen;omega) (by omega)).reads;simpa using hq
  · intro v' w' hown' hg hat
    have hv:∃ g c',v' = .slice (some ⟨g,0,none⟩) (n+1) c':=by
      rcases hown'.2 with ⟨_,h0⟩ | ⟨g,c',cur,hv,_⟩
      · omega
      · exact ⟨g,c',hv⟩
    obtain ⟨g,c',rfl⟩:=hv;obtain ⟨ho',hbg⟩:=own_of_row hown';refine h g c' w' ho' hbg ?_ hg;simp [Value.ownBlock] at hat;rcases hat with hat | hat
    · exact .inl hat.symm
    · exact .inr hat

end
section
variable {P:Program} {ops:Array Oper} {md:Region.Mode} {S:World->Prop}

def Gives (P:Program) (S:World->Prop) (v:Value):Result Next->Prop
  | .ok (.value u) w=>u=v/\S w
  | .ok (.enter f args) w=>Calls P f args w fun e w'=>e = .returned v/\S w'
  | _=>False
def Det (P:Program) (ops:Array Oper) (S:World->Prop) (o:Oper) (v:Value) (a:Act):Prop :=
  (Region.wanted o (yielded ops a.tmps)=true/\∀ w,S w->Gives P S v ((execOp a.eval o).run P w))∨(Region.wanted o (yielded ops a.tmps)=false/\v=undef)
theorem Det.same {o:Oper} {v:Value} {a a':Act} (h:Det P ops S o v a) (he:execOp a'.eval o=execOp a.eval o)
    (hw:Region.wanted o (yielded ops a'.tmps)=Region.wanted o (yielded ops a.tmps)):Det P ops S o v a':=by
  unfold Det at *;rw [he,hw];exact h
theorem Det.run {i:Nat} {o:Oper} {v:Value} {a:Act} {w:World} {Q:Exit->Act->World->Prop} {K:Act->World->Prop} (hi:ops[i]?=some o) (h:Det P ops S o v a) (hS:S w)
    (hK:∀ w',S w'->K (a.put o.dst v) w'):wpOp P ops Q i K a w:=by
  unfold wpOp;simp only [hi];rcases h with ⟨hw,hg⟩ | ⟨hw,rfl⟩
  · simp only [hw,if_true];refine .inl ?_;have g:=hg w hS;unfold Oper.wp;generalize (execOp a.eval o).run P w=r at g |-
    cases r with
    | halt x w'=>exact g.elim
    | ok n w' =>
      cases n with
      | value u =>
        obtain ⟨rfl,hs⟩:=g;exact hK _ hs
      | enter f args=>exact Calls.mono g fun e w'' ⟨he,hs⟩=>by subst he;exact hK _ hs
      | _=>exact g.elim
  · simp only [hw,Bool.false_eq_true,if_false];exact hK _ hS

def AllDet (P:Program) (md:Region.Mode) (ops:Array Oper) (S:World->Prop) (n:Nat) (L:Array Bool->Act->Prop):Nat->Array Bool->Act->Prop
  | 0,listed,a=>L listed a
  | f+1,listed,a=>Region.ready md ops listed≠[]/\∀ i∈Region.ready md ops listed,i<n/\∃ o v,ops[i]?=some o/\Det P ops S o v a/\AllDet P md ops S n L f (listed.setIfInBounds i true) (a.put o.dst v)

theorem allDet_any {n g:Nat} {L:Array Bool->Act->Prop} {Q:Exit->Act->World->Prop} (hL:∀ listed a,L listed a->∀ w,S w->wpAny P md ops Q g listed a w) :
    ∀ (f:Nat) (listed:Array Bool) (a:Act),AllDet P md ops S n L f listed a->∀ w,S w->wpAny P md ops Q (f+g) listed a w:=by
  intro f
  induction f with
  | zero =>
    intro listed a h w hS;rw [Nat.zero_add];exact hL _ _ h w hS
  | succ f ih =>
    intro listed a h w hS;rw [show f+1+g=(f+g)+1 from by omega];refine ⟨fun h0=>absurd h0 h.1,fun i hi=>?_⟩;obtain ⟨_,o,v,ho,hd,hr⟩:=h.2 i hi;exact hd.run ho hS fun w' hS'=>ih _ _ hr w' hS'

theorem allDet_first {n i:Nat} {oi:Oper} {v:Value} {L:Array Bool->Act->Prop} (hi:ops[i]?=some oi) (hsel:∀ (j:Nat) (o:Oper) cs b,ops[j]?=some o->o.op ≠ .select cs b)
    (hs:Region.sinkB md ops n=true) (hc:Region.chainB md ops n=true) (hn:n<ops.size) (hin:i<n) (hL:∀ listed a,L listed a->∀ j∈Region.ready md ops listed,n<=j) :
    ∀ (f:Nat) (listed:Array Bool) (a:Act),HeadInv md ops n listed ->
      (∀ j oj,ops[j]?=some oj->j≠i->listed.getD j true=false->(∀ e∈oj.after,Region.binds md e=true->e.on≠i)->oi.apart ops oj=true) ->
      i∈Region.ready md ops listed->Det P ops S oi v a->AllDet P md ops S n L f (listed.setIfInBounds i true) (a.put oi.dst v)->AllDet P md ops S n L (f+1) listed a:=by
  intro f
  induction f with
  | zero =>
    intro listed a inv _ hr hd H;refine ⟨fun h0=>by rw [h0] at hr;exact absurd hr (by simp),fun j hj=>?_⟩;have hjn:j<n:=Nat.lt_of_not_le fun hle=>tail_waits hs hc hn inv _ i rfl hin (mem_ready.1 hr).1 j hle hj;by_cases hji:j=i
    · subst hji;exact ⟨hjn,oi,v,hi,hd,H⟩
    · exact absurd (hL _ _ H j (ready_mono hj hji)) (by omega)
  | succ f ih =>
    intro listed a inv hfree hr hd H;refine ⟨fun h0=>by rw [h0] at hr;exact absurd hr (by simp),fun j hj=>?_⟩;have hun:=(mem_ready.1 hr).1;have hjn:j<n:=Nat.lt_of_not_le fun hle=>tail_waits hs hc hn inv _ i rfl hin hun j hle hj;by_cases hji:j=i
    · subst hji;exact ⟨hjn,oi,v,hi,hd,H⟩
    · obtain ⟨_,oj,u,hoj,hdj,hrest⟩:=H.2 j (ready_mono hj hji);obtain ⟨hjun,oj',hoj',hall⟩:=mem_ready.1 hj;have hsame:oj'=oj:=Option.some.inj (hoj'.symm.trans hoj);subst hsame
      have hap:=hfree j oj' hoj hji hjun fun e he hb heq=>by
        have h1:=hall e he hb;rw [heq,getD_both hun] at h1;cases h1
      obtain ⟨p1,p2,p3⟩:=Oper.apart_spec hap;have hsi:∀ cs b,oi.op ≠ .select cs b:=fun cs b=>hsel i oi cs b hi;have hsj:∀ cs b,oj'.op ≠ .select cs b:=fun cs b=>hsel j oj' cs b hoj;refine ⟨hjn,oj',u,hoj,hdj.same (execOp_put oj' hsj a oi.dst v p1).symm (wanted_put oj' a oi.dst v p1).symm,?_⟩
      refine ih (listed.setIfInBounds j true) (a.put oj'.dst u) (inv.set hj hjn) (fun k ok hk hki hku hno=>?_) (ready_mono hr (Ne.symm hji))
        (hd.same (execOp_put oi hsi a oj'.dst u p3) (wanted_put oi a oj'.dst u p3)) ?_
      · refine hfree k ok hk hki ?_ hno;by_cases hjk:j=k
        · subst hjk;exact hjun
        · rw [getD_set_ne true hjk] at hku;exact hku
      · rw [Array.setIfInBounds_comm _ _ hji,<- Act.put_comm a v u p2];exact hrest

def wpDet (P:Program) (ops:Array Oper) (S:World->Prop) (R:Act->Prop):List Oper->Act->Prop
  | [],a=>R a
  | o :: rest,a=>∃ v,Det P ops S o v a/\wpDet P ops S R rest (a.put o.dst v)

theorem allDet_lex {n g:Nat} {R:Act->Prop} (hsel:Region.noSelect ops=true) (hs:Region.sinkB md ops n=true) (hc:Region.chainB md ops n=true) (hn:n<ops.size) (l:List Oper) :
    ∀ (k:Nat) (listed:Array Bool) (a:Act),(∀ j,j<l.length->l[j]?=ops[k+j]?)->k+l.length=n->HeadInv md ops n listed ->
    Region.lexHead md ops g l.length k listed=true->wpDet P ops S R l a->AllDet P md ops S n (fun listed' a'=>Region.seqB md ops g n listed'=true/\R a') l.length listed a:=by
  induction l with
  | nil =>
    intro k listed a _ hk _ hB h;obtain rfl:k=n:=by simpa using hk
    exact ⟨by simpa [Region.lexHead] using hB,h⟩
  | cons o l ih =>
    intro k listed a hl hk inv hB h;have h0:ops[k]?=some o:=by simpa using (hl 0 (by simp)).symm
    simp only [List.length_cons,Region.lexHead,Bool.and_eq_true] at hB hk;obtain ⟨⟨hr,hf⟩,hB'⟩:=hB;have hr':k∈Region.ready md ops listed:=by simpa using hr
    obtain ⟨v,hd,hrest⟩:=h
    exact allDet_first h0 (Region.noSelect_spec hsel) hs hc hn (by omega) (fun _ _ hL=>seqB_ready hL.1) l.length listed a inv (Region.free_spec h0 hf) hr' hd
      (ih (k+1) _ _ (fun j hj=>by have:=hl (j+1) (by simp;omega);simpa [Nat.add_assoc,Nat.add_comm 1 j] using this) (by omega) (inv.set hr' (by omega)) hB' hrest)

theorem wp_region_det {id:Nat} {Q:Exit->Act->World->Prop} {a:Act} {w:World} {l:List Oper} (n:Nat) (S:World->Prop) (hm:P.follows .mixedOrders=true) (hB:Region.lexTailB .any l.toArray n=true)
    (hS:S w.drew) (h:wpDet P l.toArray S (fun a'=>∀ w',S w'->wpList P l.toArray Q (l.drop n) a' w') (l.take n) a):(Code.region id l.toArray true).wp P Q a w:=by
  simp only [Region.lexTailB,Bool.and_eq_true,decide_eq_true_eq] at hB;obtain ⟨⟨⟨⟨hsel,hn⟩,hs⟩,hc⟩,hlex⟩:=hB;have hn':n<l.length:=by simpa using hn
  have htl:(l.take n).length=n:=by simp;omega
  have hdl:(l.drop n).length=l.toArray.size-n:=by simp
  have inv:HeadInv .any l.toArray n (Array.replicate l.toArray.size false) :=
    ⟨by simp,fun j oj _ hl=>(by rw [getD_replicate_false] at hl;cases hl),fun t _ ht=>getD_in (by simpa using ht) (getD_replicate_false _ _)⟩
  have H:=allDet_lex (md := .any) (g:=l.toArray.size-n) hsel hs hc hn (l.take n) 0 _ a (fun j hj=>by
    have hj':j<n:=by rw [htl] at hj;exact hj
    simp [hj']) (by simpa using htl) inv (by rw [htl];exact hlex) h
  refine wp_region_any hm ?_
  have:=allDet_any (Q:=Q) (g:=l.toArray.size-n) (fun listed a' hL w' hS'=>by
    have:=wpAny_of_seq (md := .any) (Q':=Q) (l.drop n) n listed a' w' (fun j=>by simp [List.getElem?_drop]) (by rw [hdl];exact hL.1) (hL.2 w' hS')
    rwa [hdl] at this) _ _ _ H _ hS
  rw [htl,show n+(l.toArray.size-n)=l.toArray.size from by omega] at this;exact this

theorem wpDet_nil {R:Act->Prop} {a:Act} (h:R a):wpDet P ops S R [] a:=h
theorem wpDet_val {R:Act->Prop} {a:Act} {o:Oper} {rest:List Oper} (v:Value) (hg:Region.wanted o (yielded ops a.tmps)=true) (h:∀ w,S w->(execOp a.eval o).run P w = .ok (.value v) w)
    (k:wpDet P ops S R rest (a.put o.dst v)):wpDet P ops S R (o :: rest) a :=
  ⟨v, .inl ⟨hg,fun w hw=>by rw [h w hw];exact ⟨rfl,hw⟩⟩,k⟩
theorem wpDet_call {R:Act->Prop} {a:Act} {o:Oper} {rest:List Oper} (v:Value) (f:FuncId) (args:Array Value) (hg:Region.wanted o (yielded ops a.tmps)=true)
    (h:∀ w,S w->(execOp a.eval o).run P w = .ok (.enter f args) w) (c:∀ w,S w->Calls P f args w fun e w'=>e = .returned v/\S w')
    (k:wpDet P ops S R rest (a.put o.dst v)):wpDet P ops S R (o :: rest) a :=
  ⟨v, .inl ⟨hg,fun w hw=>by rw [h w hw];exact c w hw⟩,k⟩
end
end Go.Proofs.YtdipoojjlddohaaGreat
