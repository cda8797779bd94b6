/- What the law TopRelative needs, joined of its texts by a program (slim2.py); part 14. -/
import Derived.Test.YtdipoojjlddohaaGreatZTopRelative1
import Derived.Test.YtdipoojjlddohaaGreatZTopRelative7
import Derived.Test.YtdipoojjlddohaaGreatZTopRelative11
import Derived.Test.YtdipoojjlddohaaGreatZTopRelative13
set_option linter.unusedVariables false
set_option linter.unusedSimpArgs false
set_option linter.unusedSectionVars false
set_option linter.unnecessarySimpa false
set_option maxRecDepth 100000
namespace Go.Proofs.YtdipoojjlddohaaGreat
open MC
open MT
def rn (T n:Nat):Nat:=T / Nat.gcd T n
def rd (T n:Nat):Nat:=n / Nat.gcd T n
theorem rat_g {T n:Nat} (hn:1<=n):∃ g,1<=g/\T=rn T n*g/\n=rd T n*g/\g=Nat.gcd T n:=by
  have hg:0<Nat.gcd T n:=Nat.gcd_pos_of_pos_right _ (by omega);exact ⟨_,hg,(Nat.div_mul_cancel (Nat.gcd_dvd_left T n)).symm,(Nat.div_mul_cancel (Nat.gcd_dvd_right T n)).symm,rfl⟩
theorem rat_ok {T n:Nat} (hT:T<4611686018427387904) (hn:1<=n) (hn2:n<=65536):RatOK (rn T n) (rd T n):=by
  have hg:0<Nat.gcd T n:=Nat.gcd_pos_of_pos_right _ (by omega);have h1:rn T n<=T:=Nat.div_le_self _ _;have h2:rd T n<=n:=Nat.div_le_self _ _;obtain ⟨g,g1,_,e2,_⟩:=rat_g (T:=T) hn;refine ⟨by omega,⟨?_,by omega⟩,by unfold rn rd;rw [Nat.gcd_div (Nat.gcd_dvd_left T n) (Nat.gcd_dvd_right T n),Nat.div_self hg]⟩;rcases Nat.eq_zero_or_pos (rd T n) with h | h
  · rw [h,Nat.zero_mul] at e2;omega
  · exact h
theorem rat_le {T n T' n':Nat} (hn:1<=n) (hn':1<=n') (h:T*n'<=T'*n):rn T n*rd T' n'<=rn T' n'*rd T n:=by
  obtain ⟨g,g1,e1,e2,_⟩:=rat_g (T:=T) hn;obtain ⟨g',g1',e1',e2',_⟩:=rat_g (T:=T') hn';generalize rn T n=a at *;generalize rd T n=b at *;generalize rn T' n'=c at *;generalize rd T' n'=d at *;subst e1 e2 e1' e2';have:(a*d)*(g*g')<=(c*b)*(g*g'):=by grind
  exact Nat.le_of_mul_le_mul_right this (Nat.mul_pos g1 g1')
theorem rat_within {k T1 n1 T2 n2 T n:Nat} (h1:1<=n1) (h2:1<=n2) (hn:1<=n) (hle:T2*n1<=T1*n2) (h:k*(T1*n2-T2*n1)*n<=T*(n2*n1)) :
    k*(rn T1 n1*rd T2 n2-rn T2 n2*rd T1 n1)*rd T n<=rn T n*(rd T2 n2*rd T1 n1):=by
  obtain ⟨g1,q1,e1,f1,_⟩:=rat_g (T:=T1) h1;obtain ⟨g2,q2,e2,f2,_⟩:=rat_g (T:=T2) h2;obtain ⟨g,q,e,f,_⟩:=rat_g (T:=T) hn;generalize rn T1 n1=a1 at *;generalize rd T1 n1=b1 at *;generalize rn T2 n2=a2 at *;generalize rd T2 n2=b2 at *;generalize rn T n=a at *;generalize rd T n=b at *;subst e1 f1 e2 f2 e f
  have s:a1*g1*(b2*g2)-a2*g2*(b1*g1)=(a1*b2-a2*b1)*(g1*g2):=by
    rw [Nat.sub_mul];congr 1<;>grind
  rw [s] at h;generalize a1*b2-a2*b1=d at *;have:(k*d*b)*(g1*g2*g)<=(a*(b2*b1))*(g1*g2*g):=by grind
  exact Nat.le_of_mul_le_mul_right this (Nat.mul_pos (Nat.mul_pos q1 q2) q)
def mT (m:Mk):Nat:=topN m.n m.s m.q
def mN (m:Mk):Nat:=m.n.toNat
theorem mT_eq {m:Mk} (h:rightP m.n m.s m.q):(mT m:Int)=tpM m:=(right_tp h).2
theorem mN_eq {m:Mk} (h:rightP m.n m.s m.q):(mN m:Int)=m.n:=Int.toNat_of_nonneg (by have:=h.1;omega)
theorem mT_lt {m:Mk} (h:rightP m.n m.s m.q):mT m<4611686018427387904:=by
  have:=right_top h;unfold mT topN;omega
theorem mN_pos {m:Mk} (h:rightP m.n m.s m.q):1<=mN m/\mN m<=65536:=by
  have h1:=h.1;have h2:=h.2.1;unfold mN;omega
theorem rat_mark {m:Mk} (h:rightP m.n m.s m.q):RatOK (rn (mT m) (mN m)) (rd (mT m) (mN m)):=rat_ok (mT_lt h) (mN_pos h).1 (mN_pos h).2
def loT (now wd:Int) (l:List Mk):Nat:=if l=[] then 0 else if now-wd<(mkAt l 0).t then mT (mkAt l 0) else mT (mkAt l 1)
def loN (now wd:Int) (l:List Mk):Nat:=if l=[] then 1 else if now-wd<(mkAt l 0).t then mN (mkAt l 0) else mN (mkAt l 1)
def hiT (now wd:Int) (l:List Mk):Nat:=if l=[] then 0 else if now-wd<(mkAt l 0).t then mT (mkAt l 0) else if (mkAt l 1).seq=(mkAt l 0).seq+1 then mT (mkAt l 1) else mT (mkAt l 0)
def hiN (now wd:Int) (l:List Mk):Nat:=if l=[] then 1 else if now-wd<(mkAt l 0).t then mN (mkAt l 0) else if (mkAt l 1).seq=(mkAt l 0).seq+1 then mN (mkAt l 1) else mN (mkAt l 0)
def itT (l:List Itm):Nat:=(l.length*isq l-isum l*isum l:Int).toNat
def itN (l:List Itm):Nat:=max l.length 1
theorem isq_isum:∀ l:List Itm,0<=tpI l.length (isum l) (isq l)
  | []=>by simp [tpI,isum,isq]
  | x :: l=>by
    have ih:=isq_isum l
    have:=tpI_snoc (n:=l.length) (s:=isum l) (q:=isq l) (v:=x.v) (by omega) ih (fun e=>by
      have:l=[]:=List.eq_nil_of_length_eq_zero (by omega)
      rw [this];exact ⟨rfl,rfl⟩)
    rw [isum,isq,List.length_cons];rw [show ((l.length+1:Nat):Int)=(l.length:Int)+1 by omega,Int.add_comm x.v,Int.add_comm (x.v*x.v)];exact this
theorem itT_eq (l:List Itm):(itT l:Int)=tpI l.length (isum l) (isq l):=by
  have:=isq_isum l;unfold itT;unfold tpI at *;omega
theorem mk_it {m:Mk} {l:List Itm} (h:MkIs m l) (hr:rightP m.n m.s m.q):mT m=itT l/\mN m=itN l:=by
  have h1:=mT_eq hr;have h2:=itT_eq l;have h3:=mN_eq hr;unfold tpM at h1;rw [h.n,h.s,h.q] at h1;have:=h.n;have:=hr.1;unfold itN;constructor
  · omega
  · omega
theorem it_mono (a b:List Itm) (hb:b≠[]):itT b*itN (a ++ b)<=itT (a ++ b)*itN b:=by
  have hbl:1<=b.length:=by cases b with | nil=>exact absurd rfl hb | cons x b=>simp
  have h:=spread_mono (o:=a.length) (g:=b.length) (sO:=isum a) (qO:=isq a) (sG:=isum b) (qG:=isq b) (by omega) (by omega) (isq_isum a) (fun e=>by
    have:a=[]:=List.eq_nil_of_length_eq_zero (by omega)
    rw [this];exact ⟨rfl,rfl⟩)
  rw [<- itT_eq b,<- isum_append,<- isq_append,show (a.length:Int)+(b.length:Int)=((a ++ b).length:Int) by simp,<- itT_eq (a ++ b)] at h;have e1:itN (a ++ b)=(a ++ b).length:=by unfold itN;simp;omega
  have e2:itN b=b.length:=by unfold itN;omega
  rw [e1,e2];have h':((itT b*(a ++ b).length:Nat):Int)<=((itT (a ++ b)*b.length:Nat):Int):=by rw [Int.natCast_mul,Int.natCast_mul];exact h
  omega
structure SpTrue (k lT lN hT hN vT vN:Nat):Prop where
  lo:RatOK (rn lT lN) (rd lT lN)
  hi:RatOK (rn hT hN) (rd hT hN)
  v:RatOK (rn vT vN) (rd vT vN)
  l1:1<=lN
  h1:1<=hN
  v1:1<=vN
  lv:lT*vN<=vT*lN
  vh:vT*hN<=hT*vN
  lh:lT*hN<=hT*lN
  nar:k*(hT*lN-lT*hN)*vN<=vT*(lN*hN)
theorem SpTrue.same {k T N:Nat} (h:RatOK (rn T N) (rd T N)) (h1:1<=N):SpTrue k T N T N T N :=
  ⟨h,h,h,h1,h1,h1,Nat.le_refl _,Nat.le_refl _,Nat.le_refl _,by rw [Nat.sub_self];simp⟩
theorem sp_true {wd k cap now seq:Int} {kn:Nat} {l:List Mk} {its:List Itm} (hk:k=(kn:Int)) (hv:spValid wd k cap now seq l) (h:HistOf l seq now wd its) (hg:GapL (LaterM k) l) :
    SpTrue kn (loT now wd l) (loN now wd l) (hiT now wd l) (hiN now wd l) (itT (liveI now wd its)) (itN (liveI now wd its)):=by
  obtain ⟨⟨g2,g3,g4,g5,g6,g7,g8,g9⟩,hm,hs⟩:=hv;obtain ⟨hq,hV⟩:=mvalid_iff.1 hm;obtain ⟨p,hp,el,lt,ge⟩:=live_drop (wd:=wd) h.ord;rw [el];cases l with
  | nil =>
    have:p=its.length:=by
      rcases Nat.lt_or_ge p its.length with c | c
      · have:=h.gone p c (fun e=>absurd rfl e);have:=ge p (Nat.le_refl _) c;omega
      · omega
    subst this;rw [List.drop_length];have e1:loT now wd []=0:=by unfold loT;rw [if_pos rfl]
    have e2:loN now wd []=1:=by unfold loN;rw [if_pos rfl]
    have e3:hiT now wd []=0:=by unfold hiT;rw [if_pos rfl]
    have e4:hiN now wd []=1:=by unfold hiN;rw [if_pos rfl]
    have e5:itT []=0:=by unfold itT;simp [isq,isum]
    have e6:itN []=1:=by unfold itN;simp
    rw [e1,e2,e3,e4,e5,e6];exact SpTrue.same (rat_ok (by omega) (by omega) (by omega)) (by omega)
  | cons a r =>
    obtain ⟨a1,a2,a3,a4⟩:=h.mks a (by simp);have hgone:∀ i:Nat,i<its.length->(i:Int)<a.seq-1->(itmAt its i).t<=now-wd:=fun i hi hc=>h.gone i hi (fun _=>hc);have oa:=hV.one a (by simp);have ra:=one_right oa g7;have ea:=mk_it a4 ra;have ne:(a :: r)≠[]:=List.cons_ne_nil _ _
    have pa:(a.seq-1).toNat<=p:=by
      rcases Nat.lt_or_ge p (a.seq-1).toNat with c | c
      · have:=hgone p (by omega) (by omega);have:=ge p (Nat.le_refl _) (by omega);omega
      · exact c
    by_cases hl:now-wd<a.t
    · have e1:loT now wd (a :: r)=mT a:=by unfold loT;rw [if_neg ne,mkAt_zero,if_pos hl]
      have e2:loN now wd (a :: r)=mN a:=by unfold loN;rw [if_neg ne,mkAt_zero,if_pos hl]
      have e3:hiT now wd (a :: r)=mT a:=by unfold hiT;rw [if_neg ne,mkAt_zero,if_pos hl]
      have e4:hiN now wd (a :: r)=mN a:=by unfold hiN;rw [if_neg ne,mkAt_zero,if_pos hl]
      have ep:p=(a.seq-1).toNat:=by
        rcases Nat.lt_or_ge (a.seq-1).toNat p with c | c
        · exact absurd hl (by rw [a3];exact lt _ c)
        · omega
      rw [e1,e2,e3,e4,ep,<- ea.1,<- ea.2];exact SpTrue.same (rat_mark ra) (mN_pos ra).1
    · cases r with
      | nil=>exact absurd (hV.alone a rfl) hl
      | cons b r =>
        obtain ⟨b1,b2,b3,b4⟩:=h.mks b (by simp);have ob:=hV.one b (by simp);have rb:=one_right ob g7;have eb:=mk_it b4 rb;have e1:loT now wd (a :: b :: r)=mT b:=by unfold loT;rw [if_neg ne,mkAt_zero,if_neg hl,mkAt_succ,mkAt_zero]
        have e2:loN now wd (a :: b :: r)=mN b:=by unfold loN;rw [if_neg ne,mkAt_zero,if_neg hl,mkAt_succ,mkAt_zero]
        have hbl:now-wd<b.t:=hV.live b (by simp)
        have pb:p<=(b.seq-1).toNat:=by
          rcases Nat.lt_or_ge (b.seq-1).toNat p with c | c
          · exact absurd hbl (by rw [b3];exact lt _ c)
          · exact c
        have pa2:(a.seq-1).toNat<p:=by
          rcases Nat.lt_or_ge (a.seq-1).toNat p with c | c
          · exact c
          · have:=ge (a.seq-1).toNat c (by omega);rw [<- a3] at this;exact absurd this hl
        have split:∀ i j,i<=j->its.drop i=(its.drop i).take (j-i) ++ its.drop j:=fun i j hij=>by
          rw [show its.drop j=(its.drop i).drop (j-i) by rw [List.drop_drop];congr 1;omega,List.take_append_drop]
        by_cases hsq:b.seq=a.seq+1
        · have e3:hiT now wd (a :: b :: r)=mT b:=by unfold hiT;rw [if_neg ne,mkAt_zero,if_neg hl,mkAt_succ,mkAt_zero,if_pos hsq]
          have e4:hiN now wd (a :: b :: r)=mN b:=by unfold hiN;rw [if_neg ne,mkAt_zero,if_neg hl,mkAt_succ,mkAt_zero,if_pos hsq]
          have ep:p=(b.seq-1).toNat:=by omega
          rw [e1,e2,e3,e4,ep,<- eb.1,<- eb.2];exact SpTrue.same (rat_mark rb) (mN_pos rb).1
        · have e3:hiT now wd (a :: b :: r)=mT a:=by unfold hiT;rw [if_neg ne,mkAt_zero,if_neg hl,mkAt_succ,mkAt_zero,if_neg hsq]
          have e4:hiN now wd (a :: b :: r)=mN a:=by unfold hiN;rw [if_neg ne,mkAt_zero,if_neg hl,mkAt_succ,mkAt_zero,if_neg hsq]
          have tw:twoP a b:=List.rel_of_pairwise_cons hV.two (by simp);have lat:=hg 0 (by simp) (by rw [mkAt_succ,mkAt_zero,mkAt_zero];have:=tw.1;omega);rw [mkAt_succ,mkAt_zero,mkAt_zero] at lat;have LS:=later_spread (k:=k) (by omega) oa ob tw lat;have TS:=two_spread oa ob tw;have m1:=it_mono ((its.drop p).take ((b.seq-1).toNat-p)) (its.drop (b.seq-1).toNat) (fun e=>by have:=congrArg List.length e;simp at this;omega);rw [<- split p _ pb,<- eb.1,<- eb.2] at m1;have m2:=it_mono ((its.drop (a.seq-1).toNat).take (p-(a.seq-1).toNat)) (its.drop p) (fun e=>by have:=congrArg List.length e;simp at this;omega);rw [<- split _ p pa,<- ea.1,<- ea.2] at m2
          have TS':mT b*mN a<=mT a*mN b:=by
            apply Int.ofNat_le.1;rw [Int.natCast_mul,Int.natCast_mul,mT_eq ra,mT_eq rb,mN_eq ra,mN_eq rb];exact TS
          have LS':kn*(mT a*mN b)<=(kn+1)*(mT b*mN a):=by
            apply Int.ofNat_le.1;rw [Int.natCast_mul,Int.natCast_mul,Int.natCast_mul,Int.natCast_mul,mT_eq ra,mT_eq rb,mN_eq ra,mN_eq rb,Int.natCast_add,<- hk];exact LS
          have vN1:1<=itN (its.drop p):=by unfold itN;omega
          have lenp:(its.drop p).length<=65536:=by
            have hc:=oa.2.2.2.1;have hn:=a4.n;have:(its.drop p).length<=(its.drop (a.seq-1).toNat).length:=by simp;omega
            omega
          have itl:itT (its.drop p)<4611686018427387904:=by
            -- at most the greater mark's spread times the number
            have h1:=mT_lt ra
            have h2:itN (its.drop p)<=mN a:=by
              rw [ea.2];unfold itN;simp;omega
            have h3:itT (its.drop p)*mN a<=mT a*mN a:=Nat.le_trans m2 (Nat.mul_le_mul_left _ h2);have:=Nat.le_of_mul_le_mul_right h3 (mN_pos ra).1;omega
          rw [e1,e2,e3,e4];refine ⟨rat_mark rb,rat_mark ra,rat_ok itl vN1 (by unfold itN;omega),(mN_pos rb).1,(mN_pos ra).1,vN1,m1,m2,TS',?_⟩
          have q1:kn*(mT a*mN b-mT b*mN a)<=mT b*mN a:=by
            rw [Nat.mul_sub];rw [Nat.add_mul,Nat.one_mul] at LS';omega
          calc kn*(mT a*mN b-mT b*mN a)*itN (its.drop p)<=mT b*mN a*itN (its.drop p):=Nat.mul_le_mul_right _ q1
            _=mT b*itN (its.drop p)*mN a:=by rw [Nat.mul_assoc,Nat.mul_comm (mN a),Nat.mul_assoc]
            _<=itT (its.drop p)*mN b*mN a:=Nat.mul_le_mul_right _ m1
            _=itT (its.drop p)*(mN b*mN a):=Nat.mul_assoc _ _ _
def exKey (g:Bool) (v:Int):Int:=if g then v else -v
def exR (g:Bool) (a b:Itm):Prop:=a.t<b.t/\exKey g b.v<exKey g a.v
structure DQ (g:Bool) (its:List Itm) (now wd:Int) (l:List Itm):Prop where
  sub:∀ y∈l,y∈its
  liv:∀ y∈l,now-wd<y.t
  cov:∀ x∈its,now-wd<x.t->∃ y∈l,x.t<=y.t/\exKey g x.v<=exKey g y.v
  ord:l.Pairwise (exR g)
  rng:∀ x∈its,(0<=x.t/\x.t<=now) /\ -4096<=x.v/\x.v<=4096
theorem DQ.nil (g:Bool) (now wd:Int):DQ g [] now wd []:=⟨by simp,by simp,by simp,List.Pairwise.nil,by simp⟩
theorem DQ.tick {g:Bool} {its l:List Itm} {now wd tt9:Int} (h:DQ g its now wd l) (hto:now<=tt9) (j:Nat) (hj:∀ y∈l.take j,y.t<=tt9-wd) (hl:∀ y∈l.drop j,tt9-wd<y.t):DQ g its tt9 wd (l.drop j):=by
  refine ⟨fun y hy=>h.sub y (List.mem_of_mem_drop hy),hl,fun x hx hxl=>?_,?_,fun x hx=>?_⟩
  · obtain ⟨y,hy,h1,h2⟩:=h.cov x hx (by omega);refine ⟨y,?_,h1,h2⟩;rw [<- List.take_append_drop j l] at hy;rcases List.mem_append.1 hy with hy | hy
    · have:=hj y hy;omega
    · exact hy
  · have:=h.ord;rw [<- List.take_append_drop j l] at this;exact (List.pairwise_append.1 this).2.1
  · have:=h.rng x hx;omega
theorem DQ.add {g:Bool} {its l:List Itm} {now wd v:Int} (h:DQ g its now wd l) (h0:0<=now) (hw:1<=wd) (hv : -4096<=v/\v<=4096) (j:Nat) (hj:∀ y∈l.drop j,exKey g y.v<=exKey g v) (hl:∀ y∈l.take j,exKey g v<exKey g y.v) :
    ((∀ y∈l.take j,y.t<now)->DQ g (its ++ [⟨now,v⟩]) now wd (l.take j ++ [⟨now,v⟩]))/\((∃ y∈l.take j,y.t=now)->DQ g (its ++ [⟨now,v⟩]) now wd (l.take j)):=by
  have hord:=h.ord;rw [<- List.take_append_drop j l] at hord;have hot:=(List.pairwise_append.1 hord).1
  have hrng:∀ x∈its ++ [(⟨now,v⟩:Itm)],(0<=x.t/\x.t<=now) /\ -4096<=x.v/\x.v<=4096:=fun x hx=>by
    rcases List.mem_append.1 hx with hx | hx
    · exact h.rng x hx
    · obtain rfl:x=⟨now,v⟩:=by simpa using hx
      exact ⟨⟨h0,Int.le_refl _⟩,hv⟩
  -- an item of the old list is covered by the front, or by the new one
  have hc:∀ x∈its,now-wd<x.t->(∃ y∈l.take j,x.t<=y.t/\exKey g x.v<=exKey g y.v)∨(x.t<=now/\exKey g x.v<=exKey g v):=fun x hx hxl=>by
    obtain ⟨y,hy,h1,h2⟩:=h.cov x hx hxl;rw [<- List.take_append_drop j l] at hy;rcases List.mem_append.1 hy with hy | hy
    · exact .inl ⟨y,hy,h1,h2⟩
    · have:=hj y hy;exact .inr ⟨(h.rng x hx).1.2,by omega⟩
  constructor
  · intro hlt;refine ⟨fun y hy=>?_,fun y hy=>?_,fun x hx hxl=>?_,?_,hrng⟩
    · rcases List.mem_append.1 hy with hy | hy
      · exact List.mem_append_left _ (h.sub y (List.mem_of_mem_take hy))
      · exact List.mem_append_right _ hy
    · rcases List.mem_append.1 hy with hy | hy
      · exact h.liv y (List.mem_of_mem_take hy)
      · obtain rfl:y=⟨now,v⟩:=by simpa using hy
        show now-wd<now;omega
    · rcases List.mem_append.1 hx with hx | hx
      · rcases hc x hx hxl with ⟨y,hy,h1,h2⟩ | ⟨h1,h2⟩
        · exact ⟨y,List.mem_append_left _ hy,h1,h2⟩
        · exact ⟨⟨now,v⟩,by simp,h1,h2⟩
      · obtain rfl:x=⟨now,v⟩:=by simpa using hx
        exact ⟨⟨now,v⟩,by simp,Int.le_refl _,Int.le_refl _⟩
    · refine List.pairwise_append.2 ⟨hot,by simp,fun a ha b hb=>?_⟩;obtain rfl:b=⟨now,v⟩:=by simpa using hb
      exact ⟨hlt a ha,hl a ha⟩
  · rintro ⟨z,hz,hzt⟩;refine ⟨fun y hy=>List.mem_append_left _ (h.sub y (List.mem_of_mem_take hy)),fun y hy=>h.liv y (List.mem_of_mem_take hy),fun x hx hxl=>?_,hot,hrng⟩;have hzk:=hl z hz;rcases List.mem_append.1 hx with hx | hx
    · rcases hc x hx hxl with ⟨y,hy,h1,h2⟩ | ⟨h1,h2⟩
      · exact ⟨y,hy,h1,h2⟩
      · exact ⟨z,hz,by omega,by omega⟩
    · obtain rfl:x=⟨now,v⟩:=by simpa using hx
      exact ⟨z,hz,by show now<=z.t;omega,by show exKey g v<=_;omega⟩
theorem DQ.ask {g:Bool} {its:List Itm} {now wd:Int} {y:Itm} {l:List Itm} (h:DQ g its now wd (y :: l)):y∈liveI now wd its/\∀ x∈liveI now wd its,exKey g x.v<=exKey g y.v:=by
  have hy:=h.sub y (by simp);refine ⟨List.mem_filter.2 ⟨hy,decide_eq_true ⟨h.liv y (by simp),(h.rng y hy).1.2⟩⟩,fun x hx=>?_⟩;obtain ⟨hx,hd⟩:=List.mem_filter.1 hx;have hd:=of_decide_eq_true hd;obtain ⟨z,hz,_,h2⟩:=h.cov x hx hd.1;rcases List.mem_cons.1 hz with rfl | hz
  · exact h2
  · have:=(List.pairwise_cons.1 h.ord).1 z hz;have:=this.2;omega
theorem DQ.none {g:Bool} {its:List Itm} {now wd:Int} (h:DQ g its now wd []):liveI now wd its=[]:=by
  unfold liveI;rw [List.filter_eq_nil_iff];intro x hx hd;obtain ⟨z,hz,_⟩:=h.cov x hx (of_decide_eq_true hd).1;cases hz
theorem exR_len {g:Bool}:∀ (l:List Itm) (lo hi:Int),l.Pairwise (exR g)->(∀ y∈l,lo<y.t/\y.t<=hi)->(l.length:Int)<=max (hi-lo) 0
  | [],lo,hi,_,_=>by simp;omega
  | y :: l,lo,hi,h,hb=>by
    have hy:=hb y (by simp);have:=exR_len l y.t hi (List.pairwise_cons.1 h).2 (fun z hz=>⟨((List.pairwise_cons.1 h).1 z hz).1,(hb z (List.mem_cons_of_mem _ hz)).2⟩);simp only [List.length_cons];omega
theorem DQ.len {g:Bool} {its l:List Itm} {now wd:Int} (h:DQ g its now wd l) (hw:0<=wd):(l.length:Int)<=wd:=by
  have:=exR_len l (now-wd) now h.ord (fun y hy=>⟨h.liv y hy,(h.rng y (h.sub y hy)).1.2⟩);omega
end Go.Proofs.YtdipoojjlddohaaGreat
