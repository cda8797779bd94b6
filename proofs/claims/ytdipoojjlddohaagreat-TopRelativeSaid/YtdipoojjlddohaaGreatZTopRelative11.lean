/- What the law TopRelative needs, joined of its texts by a program (slim2.py); part 11. -/
import Derived.Test.YtdipoojjlddohaaGreatZTopRelative1
import Derived.Test.YtdipoojjlddohaaGreatZTopRelative2
import Derived.Test.YtdipoojjlddohaaGreatZTopRelative7
import Derived.Test.YtdipoojjlddohaaGreatZTopRelative10
set_option linter.unusedVariables false
set_option linter.unusedSimpArgs false
set_option linter.unusedSectionVars false
set_option linter.unnecessarySimpa false
set_option maxRecDepth 100000
namespace Go.Proofs.YtdipoojjlddohaaGreat
open MC
open MT
def tpM (m:Mk):Int:=tpI m.n m.s m.q
def closeM (k:Int) (a b:Mk):Prop:=closeP a.n a.s a.q b.n b.s b.q k
instance (k:Int) (a b:Mk):Decidable (closeM k a b):=by unfold closeM;infer_instance
def closeB (k:Int) (a b:Mk):Bool:=decide (closeM k a b)
def spGood (wd k cap now:Int):Prop:=1<=wd/\wd<=1048576/\1<=k/\k<=64/\1<=cap/\cap<=65536/\0<=now/\now<=16777216
instance (wd k cap now:Int):Decidable (spGood wd k cap now):=by unfold spGood;infer_instance
def spAt (k:Int) (l:List Mk) (i:Nat):Prop:=2<=i->¬ closeM k (mkAt l (i-2)) (mkAt l i)
instance (k:Int) (l:List Mk) (i:Nat):Decidable (spAt k l i):=by unfold spAt;infer_instance
def spValid (wd k cap now seq:Int) (l:List Mk):Prop:=spGood wd k cap now/\mvalid l seq cap now wd (-4096)/\∀ i,i<l.length->spAt k l i
instance (wd k cap now seq:Int) (l:List Mk):Decidable (spValid wd k cap now seq l):=by unfold spValid;infer_instance
def spvalE (wd k cap now seq:Int) (l:List Mk):Int:=if spValid wd k cap now seq l then 0 else 2
theorem spvalE_yes {wd k cap now seq:Int} {l:List Mk} (h:spValid wd k cap now seq l):spvalE wd k cap now seq l=0:=by unfold spvalE;rw [if_pos h]
theorem spvalE_no {wd k cap now seq:Int} {l:List Mk} (h:¬ spValid wd k cap now seq l):spvalE wd k cap now seq l=2:=by unfold spvalE;rw [if_neg h]
theorem of_spvalE {wd k cap now seq:Int} {l:List Mk} (h:spvalE wd k cap now seq l=0):spValid wd k cap now seq l:=by
  unfold spvalE at h;split at h
  · assumption
  · omega
theorem spvalE_two {wd k cap now seq:Int} {l:List Mk}:spvalE wd k cap now seq l=0∨spvalE wd k cap now seq l=2:=by
  unfold spvalE;split
  · exact .inl rfl
  · exact .inr rfl
structure SpOut where
  wd:Int
  k:Int
  cap:Int
  now:Int
  seq:Int
  ms:List Mk
  f:Int
def spZero (f:Int):SpOut:=⟨0,0,0,0,0,[],f⟩
def spTick (wd k cap now seq:Int) (l:List Mk) (tt:Int):SpOut :=
  if spvalE wd k cap now seq l=0 then if tt<now∨16777216<tt then spZero 3 else ⟨wd,k,cap,tt,seq,dropM tt wd l,0⟩ else spZero 2
def spAdd (wd k cap now seq:Int) (l:List Mk) (v:Int):SpOut :=
  if spvalE wd k cap now seq l=0 then if v < -4096∨4096<v then spZero 4 else if smFull cap seq l then spZero 5 else ⟨wd,k,cap,now,seq+1,prune (closeB k) (incl l (seq+1) now v),0⟩ else spZero 2
theorem spAt_iff {k:Int} {l:List Mk}:(∀ i,i<l.length->spAt k l i)↔Far (closeM k) l:=by
  constructor
  · intro h i hi;have:=h (i+2) hi (by omega)
    rwa [show i+2-2=i by omega] at this
  · intro h i hi h2;have:=h (i-2) (by omega)
    rwa [show i-2+2=i by omega] at this
def GapL (L:Mk->Mk->Prop) (l:List Mk):Prop:=∀ i,i+1<l.length->1<(mkAt l (i+1)).seq-(mkAt l i).seq->L (mkAt l i) (mkAt l (i+1))
theorem GapL.drop {L:Mk->Mk->Prop} {l:List Mk} (h:GapL L l) (k:Nat):GapL L (l.drop k):=fun i hi hg=>by
  rw [mkAt_drop,mkAt_drop] at hg |-
  have:=h (k+i) (by simp at hi;omega);rw [Nat.add_assoc] at this;exact this hg
theorem GapL.tail {L:Mk->Mk->Prop} {a:Mk} {l:List Mk} (h:GapL L (a :: l)):GapL L l:=fun i hi hg=>h (i+1) (by simpa using hi) hg
theorem prune_far2 {near:Mk->Mk->Prop} {nb:Mk->Mk->Bool} (hnb:∀ a b,nb a b=true↔near a b):∀ (k:Nat) (l:List Mk),l.length<=k->Far near (prune nb l)
  | 0,l,h=>by
    have:l=[]:=by cases l<;>simp_all
    subst this;rw [prune_nil];exact fun i hi=>by simp at hi
  | k+1,[],_=>by
    rw [prune_nil];exact fun i hi=>by simp at hi
  | k+1,a :: r,h=>by
    rw [prune_cons];have hr:r.length<=k:=by simpa using h
    have f1:=prune_far2 hnb k (r.drop (lastN (nb a) r)) (by simp;omega);intro i hi;cases i with
    | succ i =>
      rw [mkAt_succ,show i+1+2=(i+2)+1 by omega,mkAt_succ]
      exact f1 i (by have : i + 1 + 2 < (prune nb (List.drop (lastN (nb a) r) r)).length + 1 := by simpa using hi
                     omega)
    | zero =>
      rw [mkAt_zero,show 0+2=1+1 by omega,mkAt_succ]
      have hi:1<(prune nb (r.drop (lastN (nb a) r))).length:=by
        have:2<(prune nb (List.drop (lastN (nb a) r) r)).length+1:=by simpa using hi
        omega
      intro hc;have hc:=(hnb _ _).2 hc
      -- the second of the pruned rest lies behind its first
      cases hrr:r.drop (lastN (nb a) r) with
      | nil=>rw [hrr,prune_nil] at hi;simp at hi
      | cons b r2 =>
        rw [hrr,prune_cons,mkAt_succ] at hc;rw [hrr,prune_cons] at hi;have hi2:0<(prune nb (r2.drop (lastN (nb b) r2))).length:=by simpa using hi
        have sb:=prune_sub nb _ (r2.drop (lastN (nb b) r2)) (Nat.le_refl _);have hm:mkAt (prune nb (r2.drop (lastN (nb b) r2))) 0∈r2:=List.mem_of_mem_drop (sb.subset (mkAt_mem hi2));obtain ⟨j,hj,ej⟩:=mem_at hm;rw [<- ej] at hc
        have hlen:r2.length+1=r.length-lastN (nb a) r:=by
          have:=congrArg List.length hrr;simp at this;omega
        have e:mkAt r2 j=mkAt r (lastN (nb a) r+(j+1)):=by
          rw [<- mkAt_drop,hrr,mkAt_succ]
        rw [e] at hc;rcases lastN_spec (nb a) r with s | ⟨s1,s2,s3⟩
        · rw [s _ (by omega)] at hc;simp at hc
        · rw [s3 _ (by omega) (by omega)] at hc;simp at hc
theorem prune_gap {L:Mk->Mk->Prop} {nb:Mk->Mk->Bool} (hL:∀ a b,nb a b=true->L a b):∀ (k:Nat) (l:List Mk),l.length<=k->GapL L l->GapL L (prune nb l)
  | 0,l,h,_=>by
    have:l=[]:=by cases l<;>simp_all
    subst this;rw [prune_nil];exact fun i hi=>by simp at hi
  | k+1,[],_,_=>by
    rw [prune_nil];exact fun i hi=>by simp at hi
  | k+1,a :: r,h,hg=>by
    rw [prune_cons];have hr:r.length<=k:=by simpa using h
    have g1:=prune_gap hL k (r.drop (lastN (nb a) r)) (by simp;omega) (hg.tail.drop _);intro i hi hgap;cases i with
    | succ i=>exact g1 i (by simpa using hi) hgap
    | zero =>
      rw [mkAt_zero,mkAt_succ] at *;have hi:0<(prune nb (r.drop (lastN (nb a) r))).length:=by simpa using hi
      cases hrr:r.drop (lastN (nb a) r) with
      | nil=>rw [hrr,prune_nil] at hi;simp at hi
      | cons b r2 =>
        rw [hrr] at hgap;rw [prune_cons,mkAt_zero] at hgap |-
        have e:b=mkAt r (lastN (nb a) r):=by
          rw [<- Nat.add_zero (lastN (nb a) r),<- mkAt_drop,hrr,mkAt_zero]
        rcases lastN_spec (nb a) r with s | ⟨s1,s2,s3⟩
        · rw [lastN_none s] at e
          have:=hg 0 (by
            have:=congrArg List.length hrr;simp at this |-
            omega)
          rw [mkAt_zero,mkAt_succ,<- e] at this;exact this hgap
        · rw [e];exact hL _ _ s2
theorem tpI_snoc {n s q v:Int} (hn:0<=n) (h:0<=tpI n s q) (hz:n=0->s=0/\q=0):0<=tpI (n+1) (s+v) (q+v*v):=by
  by_cases n0:n=0
  · obtain ⟨rfl,rfl⟩:=hz n0;subst n0;unfold tpI
    grind
  · have e:=tpI_add (a:=n) (b:=1) (sa:=s) (sb:=v) (qa:=q) (qb:=v*v);have e1:tpI 1 v (v*v)=0:=by unfold tpI;grind
    rw [e1] at e;have h1:=sqn (s*1-v*n);have h2:=Int.mul_nonneg (show 0<=n+1 by omega) h;refine Int.le_of_mul_le_mul_left (a:=n) ?_ (by omega)
    grind
def LaterM (k:Int) (a b:Mk):Prop:=∃ cn cs cq:Int,0<=cn/\0<=tpI cn cs cq/\(cn=0->cs=0/\cq=0)/\1<=b.n-cn/\0<=tpI (b.n-cn) (b.s-cs) (b.q-cq) /\
  (6*k-1)*(a.n-cn)<=6*k*(b.n-cn)/\(6*k-1)*tpI (a.n-cn) (a.s-cs) (a.q-cq)*(b.n-cn)<=6*k*tpI (b.n-cn) (b.s-cs) (b.q-cq)*(a.n-cn)
theorem right_tp {n s q:Int} (h:rightP n s q):0<=tpI n s q/\(topN n s q:Int)=tpI n s q:=by
  have:=(right_top h).1;unfold tpI topN;omega
theorem LaterM.of_close {k:Int} {a b:Mk} (h:closeM k a b):LaterM k a b:=by
  obtain ⟨ha,hb,hk,h1,h2⟩:=h;obtain ⟨a0,ea⟩:=right_tp ha;obtain ⟨b0,eb⟩:=right_tp hb;refine ⟨0,0,0,Int.le_refl _,by unfold tpI;decide,fun _=>⟨rfl,rfl⟩,by have:=hb.1;omega,by simpa using b0,by simpa using h1,?_⟩;simp only [Int.sub_zero];have e1:((topN a.n a.s a.q*b.n.toNat*(6*k-1).toNat:Nat):Int)<=((topN b.n b.s b.q*a.n.toNat*(6*k).toNat:Nat):Int):=Int.ofNat_le.2 h2;rw [Int.natCast_mul,Int.natCast_mul,Int.natCast_mul,Int.natCast_mul,ea,eb,Int.toNat_of_nonneg (show 0<=b.n by have:=hb.1;omega),Int.toNat_of_nonneg (show 0<=6*k-1 by omega),Int.toNat_of_nonneg (show 0<=a.n by have:=ha.1;omega),Int.toNat_of_nonneg (show 0<=6*k by omega)] at e1
  grind
theorem LaterM.inc {k v:Int} {a b:Mk} (h:LaterM k a b):LaterM k (inc v a) (inc v b):=by
  obtain ⟨cn,cs,cq,h1,h2,h3,h4,h5,h6,h7⟩:=h;refine ⟨cn+1,cs+v,cq+v*v,by omega,tpI_snoc h1 h2 h3,fun h=>by omega,?_⟩;unfold Proofs.YtdipoojjlddohaaGreat.inc;dsimp only;rw [show b.n+1-(cn+1)=b.n-cn by omega,show a.n+1-(cn+1)=a.n-cn by omega,show b.s+v-(cs+v)=b.s-cs by omega,show a.s+v-(cs+v)=a.s-cs by omega,show b.q+v*v-(cq+v*v)=b.q-cq by omega,show a.q+v*v-(cq+v*v)=a.q-cq by omega];exact ⟨h4,h5,h6,h7⟩
theorem part_tp {n lo hi s q:Int} (h:partP n lo hi s q):0<=tpI n s q:=by
  obtain ⟨_,_,_,_,h⟩:=h;unfold tpI;omega
theorem one_tp {seq cap now w least:Int} {m:Mk} (h:oneP seq cap now w least m):0<=tpM m:=part_tp h.2.2.2.2.2.2.2.2.2
theorem one_right {seq cap now w:Int} {m:Mk} (h:oneP seq cap now w (-4096) m) (hc:cap<=65536):rightP m.n m.s m.q:=by
  obtain ⟨h1,h2,h3,h4,h5,h6,h7,h8,h9,p1,p2,p3,p4,p5⟩:=h;have a:=Int.mul_le_mul_of_nonneg_left h7 (show 0<=m.n by omega);have b:=Int.mul_le_mul_of_nonneg_left h8 (show 0<=m.n by omega);exact ⟨by omega,by omega,by grind,by omega,p3,p4,p5⟩
theorem two_n {seq cap now w least:Int} {a b:Mk} (ha:oneP seq cap now w least a) (hb:oneP seq cap now w least b) (h:twoP a b):1<=a.n-b.n:=by
  have:=ha.2.2.1;have:=hb.2.2.1;have:=h.1;omega
theorem two_spread {seq cap now w least:Int} {a b:Mk} (ha:oneP seq cap now w least a) (hb:oneP seq cap now w least b) (h:twoP a b):tpM b*a.n<=tpM a*b.n:=by
  have h1:=two_n ha hb h;have hb1:1<=b.n:=by have:=hb.2.2.1;have:=hb.2.1;omega
  have:=spread_mono (o:=a.n-b.n) (g:=b.n) (sO:=a.s-b.s) (qO:=a.q-b.q) (sG:=b.s) (qG:=b.q) (by omega) (by omega) (part_tp h.2.2.2.2) (fun e=>by omega);rw [show a.n-b.n+b.n=a.n by omega,show a.s-b.s+b.s=a.s by omega,show a.q-b.q+b.q=a.q by omega] at this;exact this
theorem later_spread {k seq cap now w least:Int} {a b:Mk} (hk:1<=k) (ha:oneP seq cap now w least a) (hb:oneP seq cap now w least b) (h:twoP a b) (hl:LaterM k a b):k*(tpM a*b.n)<=(k+1)*(tpM b*a.n):=by
  obtain ⟨cn,cs,cq,h1,h2,h3,h4,h5,h6,h7⟩:=hl;have ho:=two_n ha hb h
  have:=close_later (k:=k) (o:=a.n-b.n) (b:=b.n-cn) (c:=cn) (sO:=a.s-b.s) (qO:=a.q-b.q) (sB:=b.s-cs) (qB:=b.q-cq) (sC:=cs) (qC:=cq) hk (by omega) h4 h1 (part_tp h.2.2.2.2) (fun e=>by omega) h5 h2 h3
    (by rw [show a.n-b.n+(b.n-cn)=a.n-cn by omega];exact h6)
    (by rw [show a.n-b.n+(b.n-cn)=a.n-cn by omega,show a.s-b.s+(b.s-cs)=a.s-cs by omega,show a.q-b.q+(b.q-cq)=a.q-cq by omega];exact h7)
  rw [show a.n-b.n+(b.n-cn+cn)=a.n by omega,show b.n-cn+cn=b.n by omega,show a.s-b.s+(b.s-cs+cs)=a.s by omega,show b.s-cs+cs=b.s by omega,show a.q-b.q+(b.q-cq+cq)=a.q by omega,show b.q-cq+cq=b.q by omega] at this;exact this
theorem spTick_valid {wd k cap now seq tt:Int} {l:List Mk} (h:spValid wd k cap now seq l) (h0:¬ (tt<now∨16777216<tt)):spValid wd k cap tt seq (dropM tt wd l):=by
  obtain ⟨⟨h2,h3,h4,h5,h6,h7,h8,h9⟩,hm,hs⟩:=h;obtain ⟨hq,hV⟩:=mvalid_iff.1 hm;refine ⟨⟨h2,h3,h4,h5,h6,h7,by omega,by omega⟩,mvalid_iff.2 ⟨hq,hV.tick (by omega)⟩,?_⟩;have f:=spAt_iff.1 hs;obtain ⟨j,_,e⟩:=dropM_suffix tt wd l;rw [e];exact spAt_iff.2 (f.drop j)
theorem spAdd_valid {wd k cap now seq v:Int} {l:List Mk} (h:spValid wd k cap now seq l) (h0:¬ (v < -4096∨4096<v)) (h1:¬ smFull cap seq l):spValid wd k cap now (seq+1) (prune (closeB k) (incl l (seq+1) now v)):=by
  obtain ⟨hG,hm,hs⟩:=h;obtain ⟨hq,hV⟩:=mvalid_iff.1 hm;have hG':=hG;obtain ⟨h2,h3,h4,h5,h6,h7,h8,h9⟩:=hG;unfold smFull at h1;rw [not_or] at h1;refine ⟨hG',mvalid_iff.2 ⟨by omega,VL.prune (hV.incl (by omega) (hV.n_lt h1.1) (by omega) (by omega) (by omega) (by omega) (by omega) (by omega)) _⟩,?_⟩;exact spAt_iff.2 (prune_far2 (fun a b=>by unfold closeB;simp) _ _ (Nat.le_refl _))
def cntB (g:Nat->Bool):Nat->Nat
  | 0=>0
  | n+1=>cntB g n+if g n=true then 1 else 0
theorem cntB_not (g:Nat->Bool):∀ n,cntB g n+cntB (fun j => !g j) n=n
  | 0=>rfl
  | n+1=>by
    have ih:=cntB_not g n;unfold cntB;cases g n<;>simp<;>omega
theorem sub_drops {K:Nat} {x:Nat->Int} {g:Nat->Bool}:∀ {n:Nat},(∀ j,j<=n->0<=x j)->(∀ j,j<n->x (j+1)<=x j)->(∀ j,j<n->g j=true->((K:Int)+1)*x (j+1)<K*x j) ->
    ∃ y:Nat->Int,y 0=x 0/\(∀ j,j<cntB g n->((K:Int)+1)*y (j+1)<K*y j)/\(∀ j,j<=cntB g n->∃ i,i<=n/\y j=x i)/\x n<=y (cntB g n)
  | 0,_,_,_=>⟨fun _=>x 0,rfl,fun j h=>absurd h (by simp [cntB]),fun j _=>⟨0,Nat.le_refl _,rfl⟩,Int.le_refl _⟩
  | n+1,h0,hm,hg=>by
    obtain ⟨y,y0,y1,y2,y3⟩:=sub_drops (n:=n) (fun j hj=>h0 j (by omega)) (fun j hj=>hm j (by omega)) (fun j hj=>hg j (by omega));by_cases c:g n=true
    · have e:cntB g (n+1)=cntB g n+1:=by rw [cntB,if_pos c]
      rw [e];have hn:=hg n (by omega) c;refine ⟨fun j=>if j<=cntB g n then y j else x (n+1),by simp [y0],fun j hj=>?_,fun j hj=>?_,by show x (n+1)<=(if cntB g n+1<=cntB g n then y (cntB g n+1) else x (n+1));rw [if_neg (by omega)];exact Int.le_refl _⟩
      · show ((K:Int)+1)*(if j+1<=cntB g n then y (j+1) else x (n+1))<K*(if j<=cntB g n then y j else x (n+1));by_cases jc:j<cntB g n
        · rw [if_pos (by omega),if_pos (by omega)];exact y1 j jc
        · obtain rfl:j=cntB g n:=by omega
          rw [if_neg (by omega),if_pos (by omega)];have:(K:Int)*x n<=K*y (cntB g n):=Int.mul_le_mul_of_nonneg_left y3 (by omega);omega
      · by_cases jc:j<=cntB g n
        · obtain ⟨i,hi,e⟩:=y2 j jc;exact ⟨i,by omega,by simp only [if_pos jc];exact e⟩
        · exact ⟨n+1,Nat.le_refl _,by simp only [if_neg jc]⟩
    · have e:cntB g (n+1)=cntB g n:=by rw [cntB,if_neg c];rfl
      rw [e];refine ⟨y,y0,y1,fun j hj=>?_,?_⟩
      · obtain ⟨i,hi,e⟩:=y2 j hj;exact ⟨i,by omega,e⟩
      · have:=hm n (by omega);omega
theorem many_drops {K B n:Nat} {x:Nat->Int} {g:Nat->Bool} (hK:1<=K) (h0:∀ j,j<=n->0<=x j) (hm:∀ j,j<n->x (j+1)<=x j) (hg:∀ j,j<n->g j=true->((K:Int)+1)*x (j+1)<K*x j) (hc:K*B<cntB g n) :
    ∃ i,i<=n/\0<x i/\2 ^ B*x i<=x 0:=by
  obtain ⟨y,y0,y1,y2,y3⟩:=sub_drops h0 hm hg
  have yn:∀ j,j<=cntB g n->0<=y j:=fun j hj=>by
    obtain ⟨i,hi,e⟩:=y2 j hj;rw [e];exact h0 i hi
  have h1:=halved_pow hK yn y1 B (by omega);obtain ⟨i,hi,e⟩:=y2 (K*B) (by omega);have h2:=y1 (K*B) hc;have h3:=yn (K*B+1) (by omega);refine ⟨i,hi,?_,by rw [<- e,<- y0];exact h1⟩;rw [<- e];rcases Int.lt_or_le 0 (y (K*B)) with c | c
  · exact c
  · exfalso;have:(K:Int)*y (K*B)<=0:=Int.mul_nonpos_of_nonneg_of_nonpos (by omega) c;have:0<=((K:Int)+1)*y (K*B+1):=Int.mul_nonneg (by omega) h3;omega
theorem common (f:Nat->Int) (hf:∀ j,1<=f j):∀ n,∃ P:Int,1<=P/\∀ j,j<=n->∃ u,P=f j*u
  | 0=>⟨f 0,hf 0,fun j hj=>⟨1,by rw [show j=0 by omega,Int.mul_one]⟩⟩
  | n+1=>by
    obtain ⟨P,h1,h2⟩:=common f hf n;refine ⟨P*f (n+1),?_,fun j hj=>?_⟩
    · have:=Int.mul_le_mul h1 (hf (n+1)) (by omega) (by omega);omega
    · by_cases c:j=n+1
      · exact ⟨P,by rw [c,Int.mul_comm]⟩
      · obtain ⟨u,e⟩:=h2 j (by omega);exact ⟨u*f (n+1),by rw [e,Int.mul_assoc]⟩
theorem chain_few {K b N cap:Nat} {nn tt:Nat->Int} (hK:1<=K) (hcap:cap<2 ^ b) (hn:∀ j,1<=nn j) (hn2:∀ j,nn j<=cap) (ht:∀ j,0<=tt j) (ht2:∀ j,tt j<=nn j*(nn j*16777216))
    (mn:∀ j,j<N->nn (j+1)<=nn j) (mt:∀ j,j<N->tt (j+1)*nn j<=tt j*nn (j+1))
    (h:∀ j,j<N->((K:Int)+1)*nn (j+1)<K*nn j∨((K:Int)+1)*(tt (j+1)*nn j)<K*(tt j*nn (j+1))):N<=K*(3*b+24):=by
  have hB:=cntB_not (fun j=>decide (((K:Int)+1)*nn (j+1)<K*nn j)) N
  have hA:cntB (fun j=>decide (((K:Int)+1)*nn (j+1)<K*nn j)) N<=K*b:=by
    rcases Nat.lt_or_ge (K*b) (cntB (fun j=>decide (((K:Int)+1)*nn (j+1)<K*nn j)) N) with c | c
    · exfalso;obtain ⟨i,hi,i1,i2⟩:=many_drops hK (fun j _=>by have:=hn j;omega) mn (fun j _ hj=>of_decide_eq_true hj) c;have:=hn2 0;have h2:((2 ^ b:Nat):Int)*1<=((2 ^ b:Nat):Int)*nn i:=Int.mul_le_mul_of_nonneg_left (by omega) (by omega);have e2:((2 ^ b:Nat):Int)=(2:Int) ^ b:=by rw [Int.natCast_pow];rfl
      have:((cap:Nat):Int)<((2 ^ b:Nat):Int):=by omega
      rw [e2] at h2 this;omega
    · exact c
  obtain ⟨P,hP,hu⟩:=common nn hn N
  have hC:cntB (fun j => !decide (((K:Int)+1)*nn (j+1)<K*nn j)) N<=K*(2*b+24):=by
    rcases Nat.lt_or_ge (K*(2*b+24)) (cntB (fun j => !decide (((K:Int)+1)*nn (j+1)<K*nn j)) N) with c | c
    · exfalso
      have xe:∀ j,j<=N->nn j*(P / nn j)=P:=fun j hj=>by
        obtain ⟨u,e⟩:=hu j hj;rw [e,Int.mul_ediv_cancel_left _ (by have:=hn j;omega)]
      have x0:∀ j,j<=N->0<=P / nn j:=fun j _=>Int.ediv_nonneg (by omega) (by have:=hn j;omega)
      have cross:∀ j,j<N->∀ p q:Int,p*(tt (j+1)*nn j)<q*(tt j*nn (j+1))->p*(tt (j+1)*(P / nn (j+1)))<q*(tt j*(P / nn j)):=by
        intro j hj p q hpq;have e1:=xe j (by omega);have e2:=xe (j+1) (by omega);have p1:=hn j;have p2:=hn (j+1);generalize P / nn j=u at *;generalize P / nn (j+1)=v at *;refine Int.lt_of_mul_lt_mul_left (a:=nn j*nn (j+1)) ?_ (Int.mul_nonneg (by omega) (by omega));have s1:nn j*nn (j+1)*(p*(tt (j+1)*v))=(p*(tt (j+1)*nn j))*P:=by rw [<- e2];grind
        have s2:nn j*nn (j+1)*(q*(tt j*u))=(q*(tt j*nn (j+1)))*P:=by rw [<- e1];grind
        rw [s1,s2];exact Int.mul_lt_mul_of_pos_right hpq (by omega)
      have crossle:∀ j,j<N->tt (j+1)*(P / nn (j+1))<=tt j*(P / nn j):=by
        intro j hj;have e1:=xe j (by omega);have e2:=xe (j+1) (by omega);have p1:=hn j;have p2:=hn (j+1);have hm:=mt j hj;generalize P / nn j=u at *;generalize P / nn (j+1)=v at *;refine Int.le_of_mul_le_mul_left (a:=nn j*nn (j+1)) ?_ (Int.mul_pos (by omega) (by omega));have s1:nn j*nn (j+1)*(tt (j+1)*v)=(tt (j+1)*nn j)*P:=by rw [<- e2];grind
        have s2:nn j*nn (j+1)*(tt j*u)=(tt j*nn (j+1))*P:=by rw [<- e1];grind
        rw [s1,s2];exact Int.mul_le_mul_of_nonneg_right hm (by omega)
      obtain ⟨i,hi,i1,i2⟩:=many_drops (x:=fun j=>tt j*(P / nn j)) hK (fun j hj=>Int.mul_nonneg (ht j) (x0 j hj)) crossle (fun j hj hg=>by
        rcases h j hj with q | q
        · simp [q] at hg
        · exact cross j hj _ _ q) c
      -- the least positive spread, and the greatest one
      have ei:=xe i hi;have e0:=xe 0 (by omega);have ui:=x0 i hi;have u0:=x0 0 (by omega);have ni:=hn2 i;have n0:=hn2 0;have ti:=ht i;have t0:=ht2 0;have pn0:=hn 0;generalize P / nn i=u at *;generalize P / nn 0=v at *
      have ti1:1<=tt i:=by
        rcases Int.lt_or_le 0 (tt i) with q | q
        · omega
        · have:tt i=0:=by omega
          rw [this,Int.zero_mul] at i1;omega
      -- P <= cap * x i
      have a1:u<=tt i*u:=by have:=Int.mul_le_mul_of_nonneg_right ti1 ui;omega
      have a2:P<=(cap:Int)*(tt i*u):=by
        rw [<- ei];exact Int.mul_le_mul ni a1 ui (by omega)
      have a3:tt 0*v<=(cap:Int)*16777216*P:=by
        rw [<- e0];have b1:tt 0*v<=nn 0*(nn 0*16777216)*v:=Int.mul_le_mul_of_nonneg_right t0 u0;have b2:nn 0*16777216*(nn 0*v)<=(cap:Int)*16777216*(nn 0*v):=Int.mul_le_mul_of_nonneg_right (by omega) (Int.mul_nonneg (by omega) u0)
        grind
      have a4:(2:Int) ^ (2*b+24)*P<=(cap:Int)*((cap:Int)*16777216*P):=by
        have b1:(2:Int) ^ (2*b+24)*P<=(2:Int) ^ (2*b+24)*((cap:Int)*(tt i*u)):=Int.mul_le_mul_of_nonneg_left a2 (Int.pow_nonneg (by decide));have b2:(cap:Int)*((2:Int) ^ (2*b+24)*(tt i*u))<=(cap:Int)*(tt 0*v):=Int.mul_le_mul_of_nonneg_left i2 (by omega);have b3:(cap:Int)*(tt 0*v)<=(cap:Int)*((cap:Int)*16777216*P):=Int.mul_le_mul_of_nonneg_left a3 (by omega);have b4:(2:Int) ^ (2*b+24)*((cap:Int)*(tt i*u))=(cap:Int)*((2:Int) ^ (2*b+24)*(tt i*u)):=by grind
        omega
      have hc2:(cap:Int)*cap<(2:Int) ^ b*2 ^ b:=by
        have:(cap:Int)<(2:Int) ^ b:=by
          have:((cap:Nat):Int)<((2 ^ b:Nat):Int):=by omega
          rw [Int.natCast_pow] at this;exact this
        exact Int.mul_lt_mul this (by omega) (by omega) (by omega)
      have a5:(cap:Int)*((cap:Int)*16777216*P)<(2:Int) ^ (2*b+24)*P:=by
        have e1:(2:Int) ^ (2*b+24)=2 ^ b*2 ^ b*16777216:=by rw [Int.pow_add,show 2*b=b+b by omega,Int.pow_add];rfl
        rw [e1];have:(cap:Int)*cap*(16777216*P)<2 ^ b*2 ^ b*(16777216*P):=Int.mul_lt_mul_of_pos_right hc2 (by omega)
        grind
      omega
    · exact c
  have:K*(3*b+24)=K*b+K*(2*b+24):=by rw [<- Nat.mul_add];congr 1;omega
  omega
theorem sp_few {wd k cap now seq:Int} {l:List Mk} (hv:spValid wd k cap now seq l):(l.length:Int)<=mostV k cap:=by
  obtain ⟨⟨g2,g3,g4,g5,g6,g7,g8,g9⟩,hm,hs⟩:=hv;obtain ⟨hq,hV⟩:=mvalid_iff.1 hm;have far:=spAt_iff.1 hs;unfold mostV;rw [if_pos ⟨g4,g5,g6,g7⟩];obtain ⟨kn,rfl⟩:∃ kn:Nat,k=(kn:Int):=⟨k.toNat,by omega⟩
  obtain ⟨cn,rfl⟩:∃ cn:Nat,cap=(cn:Int):=⟨cap.toNat,by omega⟩
  rw [Int.toNat_natCast];have nb:0<=(12*(kn:Int))*(3*((Lib.bitLen cn:Nat):Int)+24):=Int.mul_nonneg (by omega) (by omega);by_cases hl:l.length<=2
  · omega
  · -- the marks at even places, up tt9 the last one
    have one:∀ i,i<l.length->oneP seq cn now wd (-4096) (mkAt l i):=fun i hi=>hV.one _ (mkAt_mem hi);let ix:Nat->Nat:=fun j=>if 2*j<l.length then 2*j else 0
    have hix:∀ j,ix j<l.length:=fun j=>by show (if 2*j<l.length then 2*j else 0)<l.length;split<;>omega
    have hx:∀ j,j<=(l.length-1) / 2->ix j=2*j:=fun j hj=>by show (if 2*j<l.length then 2*j else 0)=2*j;rw [if_pos (by omega)]
    have big1:cn<2 ^ Lib.bitLen cn:=bitLen_gt cn (by omega)
    have res:=chain_few (K:=6*kn-1) (b:=Lib.bitLen cn) (N:=(l.length-1) / 2) (cap:=cn) (nn:=fun j=>(mkAt l (ix j)).n) (tt:=fun j=>tpM (mkAt l (ix j))) (by omega) big1
      (fun j=>by have:=(one _ (hix j)).2.2.1;have:=(one _ (hix j)).2.1;show 1<=(mkAt l (ix j)).n;omega) (fun j=>(one _ (hix j)).2.2.2.1) (fun j=>one_tp (one _ (hix j)))
      (fun j=>by
        have o:=one _ (hix j);have n1:1<=(mkAt l (ix j)).n:=by have:=o.2.2.1;have:=o.2.1;omega
        have hq:=o.2.2.2.2.2.2.2.2.2.2.2.2.1;show tpI _ _ _<=_;have sq:=sqn (mkAt l (ix j)).s;have:(mkAt l (ix j)).n*(mkAt l (ix j)).q<=(mkAt l (ix j)).n*((mkAt l (ix j)).n*16777216):=Int.mul_le_mul_of_nonneg_left (by omega) (by omega);unfold tpI;try dsimp only
        omega)
      (fun j hj=>by
        try dsimp only
        rw [hx j (by omega),hx (j+1) (by omega)];have:=two_n (one (2*j) (by omega)) (one (2*(j+1)) (by omega)) (pairwise_at hV.two (show 2*j<2*(j+1) by omega) (by omega))
        omega)
      (fun j hj=>by
        try dsimp only
        rw [hx j (by omega),hx (j+1) (by omega)]
        exact two_spread (one (2*j) (by omega)) (one (2*(j+1)) (by omega)) (pairwise_at hV.two (show 2*j<2*(j+1) by omega) (by omega)))
      (fun j hj=>by
        try dsimp only
        rw [hx j (by omega),hx (j+1) (by omega)];have f:=far (2*j) (by omega);have oa:=one (2*j) (by omega);have ob:=one (2*j+2) (by omega);rw [show 2*(j+1)=2*j+2 by omega];have ra:=one_right oa (by omega);have rb:=one_right ob (by omega);generalize mkAt l (2*j)=a at *;generalize mkAt l (2*j+2)=b at *;have eK:(((6*kn-1:Nat)):Int)=6*(kn:Int)-1:=by omega
        rw [eK];by_cases c:(6*(kn:Int)-1)*a.n<=6*kn*b.n
        · refine .inr ?_;have nf:¬ topN a.n a.s a.q*b.n.toNat*(6*(kn:Int)-1).toNat<=topN b.n b.s b.q*a.n.toNat*(6*(kn:Int)).toNat:=fun h=>f ⟨ra,rb,⟨g4,g5⟩,c,h⟩;have nf:=Int.ofNat_lt.2 (Nat.lt_of_not_le nf);rw [Int.natCast_mul,Int.natCast_mul,Int.natCast_mul,Int.natCast_mul,(right_tp ra).2,(right_tp rb).2,Int.toNat_of_nonneg (show 0<=a.n by have:=ra.1;omega),Int.toNat_of_nonneg (show 0<=6*(kn:Int) by omega),Int.toNat_of_nonneg (show 0<=b.n by have:=rb.1;omega),Int.toNat_of_nonneg (show 0<=6*(kn:Int)-1 by omega)] at nf;unfold tpM
          grind
        · refine .inl ?_
          grind)
    have e:(12*(kn:Int))*(3*((Lib.bitLen cn:Nat):Int)+24)=((12*kn*(3*Lib.bitLen cn+24):Nat):Int):=by
      rw [Int.natCast_mul,Int.natCast_mul,Int.natCast_add,Int.natCast_mul];rfl
    rw [e];have h1:(6*kn-1)*(3*Lib.bitLen cn+24)<=6*kn*(3*Lib.bitLen cn+24):=Nat.mul_le_mul_right _ (by omega);have h2:12*kn*(3*Lib.bitLen cn+24)=2*(6*kn*(3*Lib.bitLen cn+24)):=by rw [<- Nat.mul_assoc,<- Nat.mul_assoc]
    omega
end Go.Proofs.YtdipoojjlddohaaGreat
