/- What the law TopRelative needs, joined of its texts by a program (slim2.py); part 7. -/
import Derived.Test.YtdipoojjlddohaaGreatZTopRelative1
import Derived.Test.YtdipoojjlddohaaGreatZTopRelative2
import Derived.Test.YtdipoojjlddohaaGreatZTopRelative3
import Derived.Test.YtdipoojjlddohaaGreatZTopRelative6
set_option linter.unusedVariables false
set_option linter.unusedSimpArgs false
set_option linter.unusedSectionVars false
set_option linter.unnecessarySimpa false
set_option maxRecDepth 100000
namespace Go.Proofs.YtdipoojjlddohaaGreat
open MC
open MT
def isum:List Itm->Int
  | []=>0
  | x :: l=>x.v+isum l
def isq:List Itm->Int
  | []=>0
  | x :: l=>x.v*x.v+isq l
theorem isum_append:∀ a b:List Itm,isum (a ++ b)=isum a+isum b
  | [],b=>by simp [isum]
  | x :: a,b=>by rw [List.cons_append,isum,isum,isum_append a b];omega
theorem isq_append:∀ a b:List Itm,isq (a ++ b)=isq a+isq b
  | [],b=>by simp [isq]
  | x :: a,b=>by rw [List.cons_append,isq,isq,isq_append a b];omega
def IsMin (l:List Itm) (m:Int):Prop:=(∃ x∈l,x.v=m)/\∀ x∈l,m<=x.v
def IsMax (l:List Itm) (m:Int):Prop:=(∃ x∈l,x.v=m)/\∀ x∈l,x.v<=m
theorem IsMin.unique {l:List Itm} {a b:Int} (h:IsMin l a) (h':IsMin l b):a=b:=by
  obtain ⟨⟨x,hx,rfl⟩,h2⟩:=h;obtain ⟨⟨y,hy,rfl⟩,h4⟩:=h';have:=h2 y hy;have:=h4 x hx;omega
theorem IsMax.unique {l:List Itm} {a b:Int} (h:IsMax l a) (h':IsMax l b):a=b:=by
  obtain ⟨⟨x,hx,rfl⟩,h2⟩:=h;obtain ⟨⟨y,hy,rfl⟩,h4⟩:=h';have:=h2 y hy;have:=h4 x hx;omega
theorem IsMin.snoc {l:List Itm} {a:Int} (h:IsMin l a) (x:Itm):IsMin (l ++ [x]) (min a x.v):=by
  obtain ⟨⟨y,hy,rfl⟩,h2⟩:=h;refine ⟨?_,fun z hz=>?_⟩
  · rcases Int.le_total y.v x.v with c | c
    · exact ⟨y,by simp [hy],by omega⟩
    · exact ⟨x,by simp,by omega⟩
  · rcases List.mem_append.1 hz with hz | hz
    · have:=h2 z hz;omega
    · obtain rfl:z=x:=by simpa using hz
      omega
theorem IsMax.snoc {l:List Itm} {a:Int} (h:IsMax l a) (x:Itm):IsMax (l ++ [x]) (max a x.v):=by
  obtain ⟨⟨y,hy,rfl⟩,h2⟩:=h;refine ⟨?_,fun z hz=>?_⟩
  · rcases Int.le_total x.v y.v with c | c
    · exact ⟨y,by simp [hy],by omega⟩
    · exact ⟨x,by simp,by omega⟩
  · rcases List.mem_append.1 hz with hz | hz
    · have:=h2 z hz;omega
    · obtain rfl:z=x:=by simpa using hz
      omega
theorem IsMin.one (x:Itm):IsMin [x] x.v:=⟨⟨x,by simp,rfl⟩,fun z hz=>by rw [show z=x from by simpa using hz];exact Int.le_refl _⟩
theorem IsMax.one (x:Itm):IsMax [x] x.v:=⟨⟨x,by simp,rfl⟩,fun z hz=>by rw [show z=x from by simpa using hz];exact Int.le_refl _⟩
structure MkIs (m:Mk) (l:List Itm):Prop where
  n:m.n=l.length
  s:m.s=isum l
  q:m.q=isq l
  lo:IsMin l m.lo
  hi:IsMax l m.hi
theorem MkIs.snoc {m:Mk} {l:List Itm} (h:MkIs m l) (x:Itm):MkIs (inc x.v m) (l ++ [x]):=by
  refine ⟨?_,?_,?_,h.lo.snoc x,h.hi.snoc x⟩
  · show m.n+1=_;rw [h.n];simp
  · show m.s+x.v=_;rw [h.s,isum_append];simp [isum]
  · show m.q+x.v*x.v=_;rw [h.q,isq_append];simp [isq]
theorem MkIs.new (seq:Int) (x:Itm):MkIs (newMk seq x.t x.v) [x]:=⟨by simp [newMk],by simp [newMk,isum],by simp [newMk,isq],IsMin.one x,IsMax.one x⟩
structure Ord (l:List Itm) (now:Int):Prop where
  up:∀ i j,i<=j->j<l.length->(itmAt l i).t<=(itmAt l j).t
  pos:∀ i,i<l.length->0<=(itmAt l i).t
  now:∀ i,i<l.length->(itmAt l i).t<=now
theorem Ord.nil (now:Int):Ord [] now:=⟨fun i j _ h=>absurd h (by simp),fun i h=>absurd h (by simp),fun i h=>absurd h (by simp)⟩
theorem Ord.later {l:List Itm} {now tt9:Int} (h:Ord l now) (hn:now<=tt9):Ord l tt9:=⟨h.up,h.pos,fun i hi=>by have:=h.now i hi;omega⟩
theorem Ord.snoc {l:List Itm} {now v:Int} (h:Ord l now) (hn:0<=now):Ord (l ++ [⟨now,v⟩]) now:=by
  have key:∀ i,i<(l ++ [(⟨now,v⟩:Itm)]).length->(itmAt (l ++ [⟨now,v⟩]) i).t<=now/\0<=(itmAt (l ++ [⟨now,v⟩]) i).t:=by
    intro i hi;by_cases c:i<l.length
    · rw [itm_left c];exact ⟨h.now i c,h.pos i c⟩
    · obtain rfl:i=l.length:=by simp at hi;omega
      rw [itm_last];exact ⟨Int.le_refl _,hn⟩
  refine ⟨fun i j hij hj=>?_,fun i hi=>(key i hi).2,fun i hi=>(key i hi).1⟩;by_cases c:j<l.length
  · rw [itm_left (by omega),itm_left c];exact h.up i j hij c
  · obtain rfl:j=l.length:=by simp at hj;omega
    rw [itm_last];exact (key i (by simp;omega)).1
structure HistOf (l:List Mk) (seq now wd:Int) (its:List Itm):Prop where
  seq:seq=its.length
  ord:Ord its now
  mks:∀ m∈l,1<=m.seq/\m.seq<=its.length/\m.t=(itmAt its (m.seq-1).toNat).t/\MkIs m (its.drop (m.seq-1).toNat)
  gone:∀ i:Nat,i<its.length->(l≠[]->(i:Int)<(mkAt l 0).seq-1)->(itmAt its i).t<=now-wd
theorem hist_nil (now wd:Int):HistOf [] 0 now wd []:=⟨rfl,Ord.nil _,fun m h=>absurd h (by simp),fun i h=>absurd h (by simp)⟩
theorem hist_drop {wd tt9:Int} {its:List Itm} (ord:Ord its tt9):∀ (l:List Mk),(∀ m∈l,1<=m.seq/\m.seq<=its.length/\m.t=(itmAt its (m.seq-1).toNat).t/\MkIs m (its.drop (m.seq-1).toNat))->(l≠[]->(mkAt l (l.length-1)).seq=its.length) ->
    (∀ i:Nat,i<its.length->(l≠[]->(i:Int)<(mkAt l 0).seq-1)->(itmAt its i).t<=tt9-wd)->∀ i:Nat,i<its.length->(dropM tt9 wd l≠[]->(i:Int)<(mkAt (dropM tt9 wd l) 0).seq-1)->(itmAt its i).t<=tt9-wd
  | [],_,_,h,i,hi,_=>h i hi (fun h=>absurd rfl h)
  | [a],hm,hl,h,i,hi,hd=>by
    rw [dropM_one] at hd;split at hd
    · exact h i hi hd
    · rename_i hlive;obtain ⟨m1,m2,m3,_⟩:=hm a (by simp);have hls:=hl (by simp);have hls:a.seq=its.length:=hls;have:=ord.up i (a.seq-1).toNat (by omega) (by omega);omega
  | a :: b :: r,hm,hl,h,i,hi,hd=>by
    rw [dropM_two] at hd;split at hd
    · exact h i hi hd
    · rename_i hlive;refine hist_drop ord (b :: r) (fun m hmm=>hm m (List.mem_cons_of_mem _ hmm)) (fun _=>?_) (fun j hj hjb=>?_) i hi hd
      · have:=hl (by simp);simpa [mkAt_succ] using this
      · obtain ⟨m1,m2,m3,_⟩:=hm b (by simp);have hjb:=hjb (by simp);have hjb:(j:Int)<b.seq-1:=hjb;have:=ord.up j (b.seq-1).toNat (by omega) (by omega);omega
theorem HistOf.tick {l:List Mk} {seq cap now wd tt9 least:Int} {its:List Itm} (h:HistOf l seq now wd its) (hV:VL l seq cap now wd least) (hn:now<=tt9):HistOf (dropM tt9 wd l) seq tt9 wd its:=by
  have s1:=(dropM_spec tt9 wd l).1;refine ⟨h.seq,h.ord.later hn,fun m hm=>h.mks m (s1.subset hm),?_⟩;refine hist_drop (h.ord.later hn) l h.mks (fun hne=>?_) (fun i hi hc=>?_)
  · rw [(hV.last hne).1,h.seq]
  · have:=h.gone i hi hc;omega
theorem HistOf.incl {l:List Mk} {seq now wd v:Int} {its:List Itm} (h:HistOf l seq now wd its) (hn:0<=now):HistOf (incl l (seq+1) now v) (seq+1) now wd (its ++ [⟨now,v⟩]):=by
  have hs:=h.seq;refine ⟨by rw [hs];simp,h.ord.snoc hn,fun m hm=>?_,fun i hi hc=>?_⟩
  · unfold Proofs.YtdipoojjlddohaaGreat.incl at hm;rcases List.mem_append.1 hm with hm | hm
    · obtain ⟨m,hm2,rfl⟩:=List.mem_map.1 hm;obtain ⟨m1,m2,m3,m4⟩:=h.mks m hm2;refine ⟨m1,by show m.seq<=_;simp;omega,?_,?_⟩
      · show m.t=(itmAt _ (m.seq-1).toNat).t;rw [itm_left (by omega)];exact m3
      · show MkIs (inc v m) (List.drop (m.seq-1).toNat _);rw [List.drop_append_of_le_length (by omega)];exact m4.snoc ⟨now,v⟩
    · obtain rfl:m=newMk (seq+1) now v:=by simpa using hm
      have e:(newMk (seq+1) now v).seq=seq+1:=rfl;have e2:((newMk (seq+1) now v).seq-1).toNat=its.length:=by rw [e];omega
      refine ⟨by rw [e];omega,by rw [e];simp;omega,?_,?_⟩
      · rw [e2,itm_last];rfl
      · rw [e2,List.drop_left];exact MkIs.new (seq+1) ⟨now,v⟩
  · have hc:=hc (fun e=>by have:=congrArg List.length e;rw [incl_len] at this;simp at this);unfold Proofs.YtdipoojjlddohaaGreat.incl at hc;cases l with
    | nil =>
      have hc:(i:Int)<seq+1-1:=hc;rw [itm_left (by omega)];exact h.gone i (by omega) (fun e=>absurd rfl e)
    | cons a r =>
      have hc:(i:Int)<a.seq-1:=hc;have m2:=(h.mks a (by simp)).2.1;rw [itm_left (by omega)];exact h.gone i (by omega) (fun _=>hc)
theorem HistOf.prune {l:List Mk} {seq now wd:Int} {its:List Itm} (h:HistOf l seq now wd its) (near:Mk->Mk->Bool):HistOf (prune near l) seq now wd its:=by
  have sb:=prune_sub near _ l (Nat.le_refl _);refine ⟨h.seq,h.ord,fun m hm=>h.mks m (sb.subset hm),fun i hi hc=>h.gone i hi (fun hne=>?_)⟩;cases l with
  | nil=>exact absurd rfl hne
  | cons a r =>
    rw [prune_cons] at hc;exact hc (by simp)
def liveI (now wd:Int) (its:List Itm):List Itm:=its.filter fun x=>decide (now-wd<x.t/\x.t<=now)
theorem filter_drop {f:Itm->Bool}:∀ (l:List Itm) (p:Nat),p<=l.length->(∀ i,i<p->f (itmAt l i)=false)->(∀ i,p<=i->i<l.length->f (itmAt l i)=true)->l.filter f=l.drop p
  | [],p,hp,_,_=>by simp
  | x :: l,0,_,_,h2=>by
    have hx:f x=true:=h2 0 (Nat.le_refl _) (by simp);have ih:=filter_drop l 0 (by omega) (fun i h=>absurd h (by omega)) (fun i _ hi=>h2 (i+1) (by omega) (by simpa using hi));rw [List.filter_cons,if_pos hx,ih];simp
  | x :: l,p+1,hp,h1,h2=>by
    have hx:f x=false:=h1 0 (by omega);have ih:=filter_drop l p (by simpa using hp) (fun i h=>h1 (i+1) (by omega)) (fun i h hi=>h2 (i+1) (by omega) (by simpa using hi));rw [List.filter_cons,if_neg (by rw [hx];simp),ih];simp
theorem first_live {f:Nat->Bool} (n:Nat) (hm:∀ i j,i<=j->j<n->f i=true->f j=true):∃ p,p<=n/\(∀ i,i<p->f i=false)/\∀ i,p<=i->i<n->f i=true:=by
  induction n with
  | zero=>exact ⟨0,Nat.le_refl _,fun i h=>absurd h (by omega),fun i _ h=>absurd h (by omega)⟩
  | succ n ih =>
    obtain ⟨p,h1,h2,h3⟩:=ih (fun i j a b c=>hm i j a (by omega) c);by_cases c:p<n
    · exact ⟨p,by omega,h2,fun i a b=>by
        by_cases d:i<n
        · exact h3 i a d
        · obtain rfl:i=n:=by omega
          exact hm p i a (by omega) (h3 p (Nat.le_refl _) c)⟩
    · obtain rfl:p=n:=by omega
      cases hf:f p with
      | true=>exact ⟨p,by omega,h2,fun i a b=>by rw [show i=p by omega];exact hf⟩
      | false=>exact ⟨p+1,by omega,fun i a=>by
          by_cases d:i<p
          · exact h2 i d
          · rw [show i=p by omega]
            exact hf,fun i a b=>absurd a (by omega)⟩
theorem live_drop {now wd:Int} {its:List Itm} (h:Ord its now):∃ p,p<=its.length/\liveI now wd its=its.drop p/\(∀ i,i<p->¬ now-wd<(itmAt its i).t)/\∀ i,p<=i->i<its.length->now-wd<(itmAt its i).t:=by
  obtain ⟨p,h1,h2,h3⟩:=first_live (f:=fun i=>decide (now-wd<(itmAt its i).t)) its.length (fun i j a b c=>by
    have c:=of_decide_eq_true c;have:=h.up i j a b
    exact decide_eq_true (by omega))
  have h2':∀ i,i<p->¬ now-wd<(itmAt its i).t:=fun i hi=>of_decide_eq_false (h2 i hi);have h3':∀ i,p<=i->i<its.length->now-wd<(itmAt its i).t:=fun i a b=>of_decide_eq_true (h3 i a b);refine ⟨p,h1,?_,h2',h3'⟩;unfold liveI;exact filter_drop its p h1 (fun i hi=>decide_eq_false (fun a=>h2' i hi a.1)) (fun i a b=>decide_eq_true ⟨h3' i a b,h.now i b⟩)
def AggIs (agg:Int) (l:List Itm) (n:Int):Prop :=
  (agg=1->n=l.length)/\(agg=2->n=isum l)/\(agg=3->n=isq l)/\(agg=4->(l=[]/\n=0)∨∃ lo hi,IsMin l lo/\IsMax l hi/\n=hi-lo)
theorem agg_nil {agg n:Int} (ha:1<=agg/\agg<=4) (h:AggIs agg [] n):n=0:=by
  obtain ⟨h1,h2,h3,h4⟩:=h;have c:agg=1∨agg=2∨agg=3∨agg=4:=by omega
  rcases c with c | c | c | c
  · simpa using h1 c
  · simpa [isum] using h2 c
  · simpa [isq] using h3 c
  · rcases h4 c with ⟨_,h⟩ | ⟨_,_,⟨⟨x,hx,_⟩,_⟩,_⟩
    · exact h
    · simp at hx
theorem agg_mk {agg n:Int} {m:Mk} {l:List Itm} (ha:1<=agg/\agg<=4) (hm:MkIs m l) (hb : -4096<=m.lo/\m.hi<=4096/\m.lo<=m.hi) (h:AggIs agg l n):ofV agg m=n:=by
  obtain ⟨h1,h2,h3,h4⟩:=h;have c:agg=1∨agg=2∨agg=3∨agg=4:=by omega
  rcases c with c | c | c | c
  · have:=h1 c;subst c;rw [this,<- hm.n];simp [ofV]
  · have:=h2 c;subst c;rw [this,<- hm.s];simp [ofV]
  · have:=h3 c;subst c;rw [this,<- hm.q];simp [ofV]
  · have h5:=h4 c;clear h4 h1 h2 h3;subst c;rcases h5 with ⟨e,_⟩ | ⟨lo,hi,a,b,e⟩
    · obtain ⟨⟨x,hx,_⟩,_⟩:=hm.lo;rw [e] at hx;simp at hx
    · have e1:=a.unique hm.lo;have e2:=b.unique hm.hi;simp only [ofV];simp;omega
def ValsOK (agg:Int) (l:List Itm):Prop:=∀ x∈l,leastV agg<=x.v/\x.v<=4096
theorem isum_nonneg:∀ l:List Itm,(∀ x∈l,0<=x.v)->0<=isum l
  | [],_=>Int.le_refl _
  | x :: l,h=>by
    rw [isum];have:=h x (by simp);have:=isum_nonneg l (fun y hy=>h y (by simp [hy]));omega
theorem isq_nonneg:∀ l:List Itm,0<=isq l
  | []=>Int.le_refl _
  | x :: l=>by
    rw [isq];have:=sq_nonneg x.v;have:=isq_nonneg l;omega
theorem agg_mono {agg n n':Int} {a b:List Itm} (ha:1<=agg/\agg<=4) (hv:ValsOK agg a) (h:AggIs agg b n) (h':AggIs agg (a ++ b) n'):n<=n':=by
  obtain ⟨h1,h2,h3,h4⟩:=h;obtain ⟨g1,g2,g3,g4⟩:=h';have c:agg=1∨agg=2∨agg=3∨agg=4:=by omega
  rcases c with c | c | c | c
  · have e1:=h1 c;have e2:=g1 c;rw [List.length_append] at e2;omega
  · have e1:=h2 c;have e2:=g2 c;rw [isum_append] at e2;have:=isum_nonneg a (fun x hx=>by have:=(hv x hx).1;unfold leastV at this;rw [if_pos (.inl c)] at this;exact this);omega
  · have e1:=h3 c;have e2:=g3 c;rw [isq_append] at e2;have:=isq_nonneg a;omega
  · rcases h4 c with ⟨e,e0⟩ | ⟨lo,hi,p1,p2,e⟩
    · rcases g4 c with ⟨_,f0⟩ | ⟨lo',hi',⟨⟨x,hx,hxe⟩,_⟩,⟨_,q2⟩,f⟩
      · omega
      · have:=q2 x hx;omega
    · rcases g4 c with ⟨f,_⟩ | ⟨lo',hi',⟨_,q1⟩,⟨_,q2⟩,f⟩
      · obtain ⟨⟨x,hx,_⟩,_⟩:=p1;have:x∈a ++ b:=by simp [hx]
        rw [f] at this;simp at this
      · obtain ⟨⟨x,hx,ex⟩,_⟩:=p1;obtain ⟨⟨y,hy,ey⟩,_⟩:=p2;have:=q1 x (by simp [hx]);have:=q2 y (by simp [hy]);omega
def askLo (agg now wd:Int) (l:List Mk):Int :=
  if l=[] then 0 else if now-wd<(mkAt l 0).t then ofV agg (mkAt l 0) else ofV agg (mkAt l 1)
def askHi (agg now wd:Int) (l:List Mk):Int :=
  if l=[] then 0 else if now-wd<(mkAt l 0).t then ofV agg (mkAt l 0) else if (mkAt l 1).seq=(mkAt l 0).seq+1 then ofV agg (mkAt l 1) else ofV agg (mkAt l 0)
theorem askLo_nil {agg now wd:Int}:askLo agg now wd []=0:=by unfold askLo;rw [if_pos rfl]
theorem askHi_nil {agg now wd:Int}:askHi agg now wd []=0:=by unfold askHi;rw [if_pos rfl]
theorem askLo_cons {agg now wd:Int} (a:Mk) (r:List Mk):askLo agg now wd (a :: r)=if now-wd<a.t then ofV agg a else ofV agg (mkAt r 0):=by
  unfold askLo;rw [if_neg (List.cons_ne_nil _ _)];rfl
theorem askHi_cons {agg now wd:Int} (a:Mk) (r:List Mk):askHi agg now wd (a :: r)=if now-wd<a.t then ofV agg a else if (mkAt r 0).seq=a.seq+1 then ofV agg (mkAt r 0) else ofV agg a:=by
  unfold askHi;rw [if_neg (List.cons_ne_nil _ _)];rfl
theorem agg_some (agg:Int) (l:List Itm):∃ n,AggIs agg l n:=by
  by_cases c:agg=4
  · have ex:∀ l:List Itm,l=[]∨∃ lo hi,IsMin l lo/\IsMax l hi:=by
      intro l
      induction l with
      | nil=>exact .inl rfl
      | cons x l ih =>
        right;rcases ih with rfl | ⟨lo,hi,⟨⟨y,hy,ey⟩,a⟩,⟨⟨z,hz,ez⟩,b⟩⟩
        · exact ⟨x.v,x.v,IsMin.one x,IsMax.one x⟩
        · refine ⟨min x.v lo,max x.v hi,⟨?_,?_⟩,?_,?_⟩
          · rcases Int.le_total x.v lo with c | c
            · exact ⟨x,by simp,by omega⟩
            · exact ⟨y,by simp [hy],by omega⟩
          · intro u hu;rcases List.mem_cons.1 hu with rfl | hu
            · omega
            · have:=a u hu;omega
          · rcases Int.le_total hi x.v with c | c
            · exact ⟨x,by simp,by omega⟩
            · exact ⟨z,by simp [hz],by omega⟩
          · intro u hu;rcases List.mem_cons.1 hu with rfl | hu
            · omega
            · have:=b u hu;omega
    rcases ex l with e | ⟨lo,hi,a,b⟩
    · exact ⟨0,fun h=>by omega,fun h=>by omega,fun h=>by omega,fun _ => .inl ⟨e,rfl⟩⟩
    · exact ⟨hi-lo,fun h=>by omega,fun h=>by omega,fun h=>by omega,fun _ => .inr ⟨lo,hi,a,b,rfl⟩⟩
  · exact ⟨if agg=1 then l.length else if agg=2 then isum l else isq l,fun h=>by rw [if_pos h],fun h=>by rw [if_neg (by omega),if_pos h],fun h=>by rw [if_neg (by omega),if_neg (by omega)],fun h=>absurd h c⟩
theorem ask_true {agg wd k cap now seq n:Int} {l:List Mk} {its:List Itm} (hv:smValid agg wd k cap now seq l) (h:HistOf l seq now wd its) (hok:ValsOK agg its) (hn:AggIs agg (liveI now wd its) n) :
    askLo agg now wd l<=n/\n<=askHi agg now wd l/\k*(askHi agg now wd l-askLo agg now wd l)<=n:=by
  obtain ⟨⟨ha,g2,g3,g4,g5,g6,g7,g8,g9⟩,hm,hs⟩:=hv;obtain ⟨hq,hV⟩:=mvalid_iff.1 hm;obtain ⟨far,gap⟩:=smAt_iff.1 hs;obtain ⟨p,hp,el,lt,ge⟩:=live_drop (wd:=wd) h.ord;rw [el] at hn
  have n0:∀ {x:Int} {l:List Itm},ValsOK agg l->AggIs agg l x->0<=x:=fun {x l} hl hx=>by
    have:=agg_mono (a:=l) (b:=[]) (n:=0) (n':=x) ha hl ⟨fun _=>rfl,fun _=>rfl,fun _=>rfl,fun _ => .inl ⟨rfl,rfl⟩⟩ (by simpa using hx);exact this
  have vd:∀ q,ValsOK agg (its.drop q):=fun q x hx=>hok x (List.mem_of_mem_drop hx)
  have bd:∀ m∈l, -4096<=m.lo/\m.hi<=4096/\m.lo<=m.hi:=fun m hmm=>by
    have:=hV.one m hmm;have lg:=leastV_ge agg;exact ⟨by have:=this.2.2.2.2.2.2.1;omega,this.2.2.2.2.2.2.2.1,this.2.2.2.2.2.2.2.2.1⟩
  cases l with
  | nil =>
    rw [askLo_nil,askHi_nil]
    have:p=its.length:=by
      rcases Nat.lt_or_ge p its.length with c | c
      · have:=h.gone p c (fun e=>absurd rfl e);have:=ge p (Nat.le_refl _) c;omega
      · omega
    subst this;rw [List.drop_length] at hn;have:=agg_nil ha hn;subst this;omega
  | cons a r =>
    obtain ⟨a1,a2,a3,a4⟩:=h.mks a (by simp);have hgone:∀ i:Nat,i<its.length->(i:Int)<a.seq-1->(itmAt its i).t<=now-wd:=fun i hi hc=>h.gone i hi (fun _=>hc);rw [askLo_cons,askHi_cons]
    have pa:(a.seq-1).toNat<=p:=by
      rcases Nat.lt_or_ge p (a.seq-1).toNat with c | c
      · have:=hgone p (by omega) (by omega);have:=ge p (Nat.le_refl _) (by omega);omega
      · exact c
    by_cases hl:now-wd<a.t
    · rw [if_pos hl,if_pos hl]
      have ep:p=(a.seq-1).toNat:=by
        rcases Nat.lt_or_ge (a.seq-1).toNat p with c | c
        · exact absurd hl (by rw [a3];exact lt _ c)
        · omega
      rw [ep] at hn;have e:=agg_mk ha a4 (bd a (by simp)) hn;have:=n0 (vd _) hn;rw [e,Int.sub_self,Int.mul_zero];omega
    · rw [if_neg hl,if_neg hl];cases r with
      | nil=>exact absurd (hV.alone a rfl) hl
      | cons b r =>
        rw [mkAt_zero];obtain ⟨b1,b2,b3,b4⟩:=h.mks b (by simp);have hbl:now-wd<b.t:=hV.live b (by simp)
        have pb:p<=(b.seq-1).toNat:=by
          rcases Nat.lt_or_ge (b.seq-1).toNat p with c | c
          · exact absurd hbl (by rw [b3];exact lt _ c)
          · exact c
        have pa2:(a.seq-1).toNat<p:=by
          rcases Nat.lt_or_ge (a.seq-1).toNat p with c | c
          · exact c
          · have:=ge (a.seq-1).toNat c (by omega);rw [<- a3] at this;exact absurd this hl
        obtain ⟨nb,hnb⟩:=agg_some agg (its.drop (b.seq-1).toNat);obtain ⟨na,hna⟩:=agg_some agg (its.drop (a.seq-1).toNat);have eb:=agg_mk ha b4 (bd b (by simp)) hnb;have ea:=agg_mk ha a4 (bd a (by simp)) hna
        have split:∀ i j,i<=j->its.drop i=(its.drop i).take (j-i) ++ its.drop j:=fun i j hij=>by
          rw [show its.drop j=(its.drop i).drop (j-i) by rw [List.drop_drop];congr 1;omega,List.take_append_drop]
        have m1:nb<=n:=by
          rw [split p _ pb] at hn;exact agg_mono ha (fun x hx=>vd p x (List.mem_of_mem_take hx)) hnb hn
        have m2:n<=na:=by
          rw [split _ p pa] at hna;exact agg_mono ha (fun x hx=>vd (a.seq-1).toNat x (List.mem_of_mem_take hx)) hn hna
        have hnn:=n0 (vd _) hn;rw [eb,ea];by_cases hsq:b.seq=a.seq+1
        · rw [if_pos hsq];have ep:p=(b.seq-1).toNat:=by omega
          rw [ep] at hn;have e:=agg_mk ha b4 (bd b (by simp)) hn;rw [eb] at e;rw [Int.sub_self,Int.mul_zero];omega
        · rw [if_neg hsq];have tw:twoP a b:=List.rel_of_pairwise_cons hV.two (by simp);have hne:=gap 0 (by simp) (by rw [mkAt_succ,mkAt_zero,mkAt_zero];have:=tw.1;omega);rw [mkAt_succ,mkAt_zero,mkAt_zero] at hne;unfold nearP at hne;rw [ea,eb,Int.add_mul,Int.one_mul] at hne;rw [Int.mul_sub];omega
theorem ask_le {agg wd k cap now seq:Int} {l:List Mk} (hv:smValid agg wd k cap now seq l):0<=askLo agg now wd l/\askLo agg now wd l<=askHi agg now wd l/\askHi agg now wd l<=1099511627776:=by
  obtain ⟨⟨ha,g2,g3,g4,g5,g6,g7,g8,g9⟩,hm,_⟩:=hv;obtain ⟨hq,hV⟩:=mvalid_iff.1 hm;cases l with
  | nil=>rw [askLo_nil,askHi_nil];omega
  | cons a r =>
    have oa:=ofV_bound (hV.one a (by simp)) (by omega);rw [askLo_cons,askHi_cons];by_cases hl:now-wd<a.t
    · rw [if_pos hl,if_pos hl];omega
    · rw [if_neg hl,if_neg hl];cases r with
      | nil=>exact absurd (hV.alone a rfl) hl
      | cons b r =>
        rw [mkAt_zero];have ob:=ofV_bound (hV.one b (by simp)) (by omega);have tw:twoP a b:=List.rel_of_pairwise_cons hV.two (by simp);split
        · omega
        · have hab:ofV agg b<=ofV agg a:=by
            obtain ⟨t1,t2,t3,t4,p1,p2,p3,p4,p5⟩:=tw;have e1:=(hV.one a (by simp)).2.2.1;have e2:=(hV.one b (by simp)).2.2.1;have a7:=(hV.one a (by simp)).2.2.2.2.2.2.1;have a8:=(hV.one a (by simp)).2.2.2.2.2.2.2.1;have a9:=(hV.one a (by simp)).2.2.2.2.2.2.2.2.1;have b9:=(hV.one b (by simp)).2.2.2.2.2.2.2.2.1;have lg:=leastV_ge agg;have c:agg=1∨agg=2∨agg=3∨agg=4:=by omega
            rcases c with c | c | c | c
            · subst c;simp [ofV];omega
            · subst c;have hl0:leastV 2=0:=by decide
              have:0<=(a.n-b.n)*a.lo:=Int.mul_nonneg (by omega) (by omega);simp [ofV];omega
            · subst c;simp [ofV];omega
            · subst c;simp only [ofV];simp;omega
          omega
theorem bitLen_gt (x:Nat) (hx:x<18446744073709551616):x<2 ^ Lib.bitLen x:=by
  induction x using Nat.strongRecOn with
  | _ x ih =>
    by_cases h:x=0
    · subst h;decide
    · have i:=ih (x / 2) (by omega) (by omega);rw [bits_step h hx,Nat.pow_succ];omega
theorem halved {k:Nat} (hk:1<=k) {x:Nat->Int} {n:Nat} (h0:∀ j,j<=n->0<=x j) (h:∀ j,j<n->(k+1)*x (j+1)<k*x j):∀ j,j+k<=n->2*x (j+k)<x j:=by
  have mono:∀ d j,j+d<=n->x (j+d)<=x j:=by
    intro d
    induction d with
    | zero=>intro j _;exact Int.le_refl _
    | succ d ih =>
      intro j hj;have a:=ih j (by omega);have b:=h (j+d) (by omega);have c:=h0 (j+d+1) (by omega);rw [Int.add_mul,Int.one_mul] at b;have:(k:Int)*x (j+d+1)<k*x (j+d):=by omega
      have:=Int.lt_of_mul_lt_mul_left this (by omega);rw [<- Nat.add_assoc];omega
  have sum:∀ d j,j+d<=n->1<=d->(d:Int)*x (j+d)<k*(x j-x (j+d)):=by
    intro d
    induction d with
    | zero=>intro j _ h;omega
    | succ d ih =>
      intro j hj _;have b:=h (j+d) (by omega);rw [Int.add_mul,Int.one_mul] at b;have e:j+(d+1)=j+d+1:=by omega
      rw [e];by_cases hd:d=0
      · subst hd;simp only [Nat.add_zero] at b |-
        rw [Int.mul_sub];have:((0+1:Nat):Int)=1:=rfl;rw [this,Int.one_mul];omega
      · have a:=ih j (by omega) (by omega);have m:=mono 1 (j+d) (by omega);have m2:(d:Int)*x (j+d+1)<=d*x (j+d):=Int.mul_le_mul_of_nonneg_left m (by omega);have e2:((d+1:Nat):Int)*x (j+d+1)=d*x (j+d+1)+x (j+d+1):=by rw [Int.natCast_succ,Int.add_mul,Int.one_mul]
        rw [Int.mul_sub] at a |-
        omega
  intro j hj;have:=sum k j hj hk;have:=Int.lt_of_mul_lt_mul_left this (by omega);omega
theorem halved_pow {k:Nat} (hk:1<=k) {x:Nat->Int} {n:Nat} (h0:∀ j,j<=n->0<=x j) (h:∀ j,j<n->(k+1)*x (j+1)<k*x j):∀ b,k*b<=n->2 ^ b*x (k*b)<=x 0
  | 0,_=>by simp
  | b+1,hb=>by
    rw [Nat.mul_succ] at hb |-
    have ih:=halved_pow hk h0 h b (by omega);have h1:=halved hk h0 h (k*b) hb;have h2:(2:Int) ^ b*(2*x (k*b+k))<=2 ^ b*x (k*b):=Int.mul_le_mul_of_nonneg_left (by omega) (Int.pow_nonneg (by decide));rw [Int.pow_succ,Int.mul_assoc];omega
theorem few_steps {k:Nat} (hk:1<=k) {x:Nat->Int} {n f:Nat} (hf:f<18446744073709551616) (h0:∀ j,j<=n->0<=x j) (h:∀ j,j<n->(k+1)*x (j+1)<k*x j) (hx:x 0<=f):n<=k*Lib.bitLen f:=by
  rcases Nat.lt_or_ge (k*Lib.bitLen f) n with c | c
  · exfalso;have h1:=halved_pow hk h0 h (Lib.bitLen f) (by omega);have h2:=bitLen_gt f hf;generalize Lib.bitLen f=b at *;have h3:((2 ^ b:Nat):Int)*x (k*b)<=x 0:=by rw [Int.natCast_pow];exact h1
    have h4:=h0 (k*b) (by omega)
    have h5:x (k*b)=0:=by
      rcases Int.lt_or_le 0 (x (k*b)) with g | g
      · have:((2 ^ b:Nat):Int)*1<=((2 ^ b:Nat):Int)*x (k*b):=Int.mul_le_mul_of_nonneg_left (by omega) (by omega);omega
      · omega
    have h6:=h (k*b) c;have h7:=h0 (k*b+1) (by omega);rw [h5,Int.mul_zero] at h6;have:0<=((k:Int)+1)*x (k*b+1):=Int.mul_nonneg (by omega) h7;omega
  · exact c
def topF (agg cap:Int):Int:=if agg=2 then cap*4096 else if agg=3 then cap*16777216 else if agg=4 then 8192 else cap
def mostS (agg k cap:Int):Int:=if (1<=agg/\agg<=4)/\1<=k/\k<=64/\1<=cap/\cap<=65536 then 2*k*(Lib.bitLen (topF agg cap).toNat:Nat)+2 else 0
theorem topF_pos {agg cap:Int} (h:1<=cap/\cap<=65536):1<=topF agg cap/\topF agg cap<=1099511627776:=by
  unfold topF;split
  · omega
  · split
    · omega
    · split<;>omega
theorem ofV_top {agg seq cap now w:Int} {m:Mk} (ha:1<=agg/\agg<=4) (h:oneP seq cap now w (leastV agg) m) (hc:cap<=65536):ofV agg m<=topF agg cap:=by
  obtain ⟨h1,h2,h3,h4,h5,h6,h7,h8,h9,p1,p2,p3,p4,p5⟩:=h;have hn:0<=m.n:=by omega
  have lg:=leastV_ge agg;have c:agg=1∨agg=2∨agg=3∨agg=4:=by omega
  rcases c with c | c | c | c
  · subst c;simp [ofV,topF];omega
  · subst c
    have b1:m.n*m.hi<=cap*4096:=by
      rcases Int.le_total 0 m.hi with g | g
      · exact Int.mul_le_mul h4 h8 g (by omega)
      · have:m.n*m.hi<=0:=Int.mul_nonpos_of_nonneg_of_nonpos hn g;omega
    simp [ofV,topF];omega
  · subst c;simp [ofV,topF];omega
  · subst c;simp only [ofV,topF];simp;omega
theorem few_marks {agg wd k cap now seq:Int} {l:List Mk} (hv:smValid agg wd k cap now seq l):(l.length:Int)<=mostS agg k cap:=by
  obtain ⟨⟨ha,g2,g3,g4,g5,g6,g7,g8,g9⟩,hm,hs⟩:=hv;obtain ⟨hq,hV⟩:=mvalid_iff.1 hm;obtain ⟨far,gap⟩:=smAt_iff.1 hs;have tp:=topF_pos (agg:=agg) ⟨g6,g7⟩;unfold mostS;rw [if_pos ⟨ha,g4,g5,g6,g7⟩];obtain ⟨kn,rfl⟩:∃ kn:Nat,k=(kn:Int):=⟨k.toNat,by omega⟩
  by_cases hl:l.length<=2
  · have:0<=2*(kn:Int)*((Lib.bitLen (topF agg cap).toNat:Nat):Int):=Int.mul_nonneg (by omega) (by omega);omega
  · have hfs:=few_steps (k:=kn) (by omega) (x:=fun j=>ofV agg (mkAt l (2*j))) (n:=(l.length-1) / 2) (f:=(topF agg cap).toNat) (by omega) (fun j hj=>(ofV_bound (hV.one _ (mkAt_mem (by omega))) (by omega)).1) (fun j hj=>?_) ?_
    · have e:((2*(kn:Int))*((Lib.bitLen (topF agg cap).toNat:Nat):Int))=((2*(kn*Lib.bitLen (topF agg cap).toNat):Nat):Int):=by
        rw [Int.natCast_mul,Int.natCast_mul,Int.mul_assoc];rfl
      rw [e];omega
    · have:=far (2*j) (by omega);unfold nearP at this;show ((kn:Int)+1)*ofV agg (mkAt l (2*(j+1)))<kn*ofV agg (mkAt l (2*j));rw [show 2*(j+1)=2*j+2 by omega];omega
    · have:=ofV_top ha (hV.one _ (mkAt_mem (i:=2*0) (by omega))) (by omega);show ofV agg (mkAt l (2*0))<=_;omega
end Go.Proofs.YtdipoojjlddohaaGreat
namespace Go.Proofs.YtdipoojjlddohaaGreat
open MC
open MT
open Go.RowKit Go.Shelf

theorem add64 (x y c:Int) (hx:0<=x) (hy:0<=y) (hc0:0<=c) (hc:c<=1) (w:World):(callFunc 165 #[.int .u64 x, .int .u64 y, .int .u64 c]).run Tryz.prog w =
    .ok (.value (.tuple #[.int .u64 ((x+y+c) % 18446744073709551616), .int .u64 ((x+y+c) / 18446744073709551616)])) w:=by
  obtain ⟨x,rfl⟩:=Int.eq_ofNat_of_zero_le hx;obtain ⟨y,rfl⟩:=Int.eq_ofNat_of_zero_le hy;obtain ⟨c,rfl⟩:=Int.eq_ofNat_of_zero_le hc0;rw [run_callFunc_extern Tryz.func165 (by kernel_rfl) (by kernel_rfl) (by kernel_rfl) (e:=add64Entry) (by kernel_rfl),run_add64 x y c (by omega) (by omega) (by omega) (by omega)];rfl
theorem add64_0 (x y:Int) (hx:0<=x) (hy:0<=y) (w:World):(callFunc 165 #[.int .u64 x, .int .u64 y, .int .u64 0]).run Tryz.prog w =
    .ok (.value (.tuple #[.int .u64 ((x+y) % 18446744073709551616), .int .u64 ((x+y) / 18446744073709551616)])) w:=by
  simpa using add64 x y 0 hx hy (Int.le_refl 0) (by decide) w


theorem sub64 (x y b:Int) (hx:0<=x) (hy:0<=y) (hy':y<18446744073709551616) (hb0:0<=b) (hb:b<=1) (w:World):(callFunc 247 #[.int .u64 x, .int .u64 y, .int .u64 b]).run Tryz.prog w =
    .ok (.value (.tuple #[.int .u64 ((x-y-b) % 18446744073709551616), .int .u64 (bor x (y+b))])) w:=by
  obtain ⟨x,rfl⟩:=Int.eq_ofNat_of_zero_le hx;obtain ⟨y,rfl⟩:=Int.eq_ofNat_of_zero_le hy;obtain ⟨b,rfl⟩:=Int.eq_ofNat_of_zero_le hb0;have e1:(((x+18446744073709551616-y-b) % 18446744073709551616:Nat):Int)=((x:Int)-y-b) % 18446744073709551616:=by omega
  have e2:((if x<y+b then 1 else 0:Nat):Int)=bor (x:Int) ((y:Int)+b):=by unfold bor;split<;>split<;>omega
  rw [<- e1,<- e2,run_callFunc_extern Tryz.func247 (by kernel_rfl) (by kernel_rfl) (by kernel_rfl) (e:=sub64Entry) (by kernel_rfl),run_sub64 x y b (by omega)];rfl
theorem sub64_0 (x y:Int) (hx:0<=x) (hy:0<=y) (hy':y<18446744073709551616) (w:World):(callFunc 247 #[.int .u64 x, .int .u64 y, .int .u64 0]).run Tryz.prog w =
    .ok (.value (.tuple #[.int .u64 ((x-y) % 18446744073709551616), .int .u64 (bor x y)])) w:=by
  simpa using sub64 x y 0 hx hy hy' (Int.le_refl 0) (by decide) w

theorem padd_fits (a b:Nat) (ha:a<big) (hb:b<big) (h:a+b<big) (w:World) :
    Calls Tryz.prog 77 #[W a,W b] w (Rr (.tuple #[W (a+b), .bool true]) w):=by
  have e1:=add_lo a b;have e2:=add_hi h;have e3:=add_over h;obtain ⟨a1,a2⟩:=hi_word ha;obtain ⟨b1,b2⟩:=hi_word hb;obtain ⟨c1,c2⟩:=lo_word a;obtain ⟨d1,d2⟩:=lo_word b;have k0:0<=(lo a+lo b) / 18446744073709551616:=by omega
  have k1:(lo a+lo b) / 18446744073709551616<=1:=by omega
  go_enter Tryz.func77,Tryz.ntmps77;go_wp2_with (first | simp only [add64_0 (lo a) (lo b) c1 d1] | simp only [add64 (hi a) (hi b) _ a1 b1 k0 k1]);simp [bodyPost,results,Tryz.results77,go_sem];exact ((((Below.refl _ _).alloc (Nat.le_refl _) _).alloc (by simp) _).alloc (by simp;omega) _)
theorem padd_over (a b:Nat) (ha:a<big) (hb:b<big) (h:¬ a+b<big) (w:World) :
    Calls Tryz.prog 77 #[W a,W b] w (Rr (.tuple #[W 0, .bool false]) w):=by
  have e1:=add_lo a b;have e3:=add_over1 ha hb h;obtain ⟨a1,a2⟩:=hi_word ha;obtain ⟨b1,b2⟩:=hi_word hb;obtain ⟨c1,c2⟩:=lo_word a;obtain ⟨d1,d2⟩:=lo_word b;have k0:0<=(lo a+lo b) / 18446744073709551616:=by omega
  have k1:(lo a+lo b) / 18446744073709551616<=1:=by omega
  go_enter Tryz.func77,Tryz.ntmps77;go_wp2_with (first | simp only [add64_0 (lo a) (lo b) c1 d1] | simp only [add64 (hi a) (hi b) _ a1 b1 k0 k1]);simp [bodyPost,results,Tryz.results77,go_sem];exact ⟨⟨rfl,rfl⟩,((((Below.refl _ _).alloc (Nat.le_refl _) _).alloc (by simp) _).alloc (by simp;omega) _)⟩
theorem pcmp_any (a b:Nat) (w:World) :
    Calls Tryz.prog 235 #[W a,W b] w (Rr (.int .i64 (cmp a b)) w):=by
  rcases Nat.lt_trichotomy a b with h | h | h
  · rw [cmp_lt h];rcases lt_words h with k | ⟨k,l⟩
    all_goals
      go_enter Tryz.func235,Tryz.ntmps235;go_wp2;go_ret;exact ⟨rfl,(((Below.refl _ _).alloc (Nat.le_refl _) _).alloc (by simp) _)⟩
  · subst h;rw [cmp_eq];go_enter Tryz.func235,Tryz.ntmps235;go_wp2;go_ret;exact ⟨rfl,(((Below.refl _ _).alloc (Nat.le_refl _) _).alloc (by simp) _)⟩
  · rw [cmp_gt h];rcases lt_words h with k | ⟨k,l⟩
    all_goals
      go_enter Tryz.func235,Tryz.ntmps235;go_wp2;go_ret;exact ⟨rfl,(((Below.refl _ _).alloc (Nat.le_refl _) _).alloc (by simp) _)⟩

theorem len64 (x:Int) (w:World) (h0:0<=x) (h1:x<=18446744073709551615) :
    Calls Tryz.prog 245 #[.int .u64 x] w (Rd (.int .i64 (Lib.bitLen x.toNat)) w):=Tryz.bits_Len64 x w h0 h1
theorem mul64 (x y:Int) (hx:Word x) (hy:Word y) (w:World) :
    Calls Tryz.prog 181 #[.int .u64 x, .int .u64 y] w (Rd (.tuple #[.int .u64 (hi (x.toNat*y.toNat)), .int .u64 (lo (x.toNat*y.toNat))]) w):=by
  obtain ⟨x,rfl⟩:=Int.eq_ofNat_of_zero_le hx.1;obtain ⟨y,rfl⟩:=Int.eq_ofNat_of_zero_le hy.1;exact Tryz.bits_Mul64 x y (by have:=hx.2;omega) (by have:=hy.2;omega) w

theorem pproduct (x y:Int) (hx:Word x) (hy:Word y) (w:World) :
    Calls Tryz.prog 89 #[.int .u64 x, .int .u64 y] w (Rr (W (x.toNat*y.toNat)) w):=by
  go_enter Tryz.func89,Tryz.ntmps89;go_wp2_with (go_at_call 181;refine (mul64 x y hx hy _).mono ?_;rintro e w' ⟨rfl,rfl⟩);simp [bodyPost,results,Tryz.results89,go_sem];exact ((Below.refl _ _).alloc (Nat.le_refl _) _)
theorem pof (n:Nat) (hn:n<18446744073709551616) (w:World) :
    Calls Tryz.prog 76 #[.int .u64 n] w (Rr (W n) w):=by
  have e1:=hi_small hn;have e2:=lo_small hn;go_enter Tryz.func76,Tryz.ntmps76;go_wp2;simp [bodyPost,results,Tryz.results76,go_sem,e1,e2];exact ((Below.refl _ _).alloc (Nat.le_refl _) _)
theorem pzero (n:Nat) (w:World) :
    Calls Tryz.prog 163 #[W n] w (Rr (.bool (decide (n=0))) w):=by
  by_cases h:n=0
  · subst h;go_enter Tryz.func163,Tryz.ntmps163;go_wp2;go_ret;exact ⟨rfl,(Below.refl _ _).alloc (Nat.le_refl _) _⟩
  · have hd:decide (n=0)=false:=by simpa using h
    rw [hd];clear hd;by_cases k:hi n=0
    · have l:¬ lo n=0:=fun l=>h (hi_inj (b:=0) k l);have l':(lo n == 0)=false:=by simpa using l
      go_enter Tryz.func163,Tryz.ntmps163;go_wp2;go_ret;exact ⟨rfl,(Below.refl _ _).alloc (Nat.le_refl _) _⟩
    · have k':(hi n == 0)=false:=by simpa using k
      go_enter Tryz.func163,Tryz.ntmps163;go_wp2;go_ret;exact ⟨rfl,(Below.refl _ _).alloc (Nat.le_refl _) _⟩
theorem psub_yes (a b:Nat) (ha:a<big) (hb:b<big) (h:b<=a) (w:World) :
    Calls Tryz.prog 180 #[W a,W b] w (Rr (.tuple #[W (a-b), .bool true]) w):=by
  have e1:=sub_lo h;have e2:=sub_hi ha h;have e3:=sub_under h;obtain ⟨a1,a2⟩:=hi_word ha;obtain ⟨b1,b2⟩:=hi_word hb;obtain ⟨c1,c2⟩:=lo_word a;obtain ⟨d1,d2⟩:=lo_word b;have k0:=bor_0 (lo a) (lo b);have k1:=bor_1 (lo a) (lo b);go_enter Tryz.func180,Tryz.ntmps180;go_wp2_with (first | simp only [sub64_0 (lo a) (lo b) c1 d1 d2] | simp only [sub64 (hi a) (hi b) _ a1 b1 b2 k0 k1]);simp [bodyPost,results,Tryz.results180,go_sem];exact ((((Below.refl _ _).alloc (Nat.le_refl _) _).alloc (by simp) _).alloc (by simp;omega) _)
end Go.Proofs.YtdipoojjlddohaaGreat
