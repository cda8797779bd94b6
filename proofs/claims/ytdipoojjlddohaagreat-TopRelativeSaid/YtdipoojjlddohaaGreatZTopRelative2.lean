/- What the law TopRelative needs, joined of its texts by a program (slim2.py); part 2. -/
import Derived.Test.YtdipoojjlddohaaGreatZTopRelative1
set_option linter.unusedVariables false
set_option linter.unusedSimpArgs false
set_option linter.unusedSectionVars false
set_option linter.unnecessarySimpa false
set_option maxRecDepth 100000
namespace Go.Proofs.YtdipoojjlddohaaGreat
open MC
open MT
theorem sqn (x:Int):0<=x*x:=by
  rcases Int.le_total 0 x with h | h
  · exact Int.mul_nonneg h h
  · have:=Int.mul_nonneg (show 0 <= -x by omega) (show 0 <= -x by omega);rwa [Int.neg_mul_neg] at this
theorem close_H2 {k o b TO TB TA P:Int} (ho:0<=o) (e1:o*b*TA=(o+b)*(b*TO+o*TB)+P*P) (h2:(6*k-1)*TA*b<=6*k*TB*(o+b)) :
    (6*k-1)*((o+b)*b*TO+P*P)<=TB*(o+b)*o:=by
  have h:=Int.mul_le_mul_of_nonneg_left h2 ho;have e:o*((6*k-1)*TA*b)=(6*k-1)*((o+b)*(b*TO+o*TB)+P*P):=by rw [<- e1];grind
  rw [e] at h
  grind
theorem later_none {k o b TO TB P:Int} (hk:1<=k) (X0:0<=(o+b)*b*TO) (H2:(6*k-1)*((o+b)*b*TO+P*P)<=TB*(o+b)*o) :
    k*((o+b)*b*TO+P*P)<=TB*(o+b)*o:=by
  have hy:=sqn P;have:=Int.mul_le_mul_of_nonneg_right (show k<=6*k-1 by omega) (show 0<=(o+b)*b*TO+P*P by omega);omega
theorem later_i {k o b g TO TB P:Int} (hk:1<=k) (ho:0<=o) (hb:1<=b) (hg:b<=g) (T0:0<=TO) (H1:(6*k-1)*o<=b) (H2:(6*k-1)*((o+b)*b*TO+P*P)<=TB*(o+b)*o) :
    k*(o+g)*b*b*TO+2*k*g*(P*P)<=TB*(o+g)*o*b:=by
  have hy:=sqn P;have X0:0<=(o+b)*b*TO:=Int.mul_nonneg (Int.mul_nonneg (by omega) (by omega)) T0
  -- multiply by (o + b)
  refine Int.le_of_mul_le_mul_left (a:=o+b) ?_ (by omega)
  have a1:k*((o+g)*b*((o+b)*b*TO))<=(6*k-1)*((o+g)*b*((o+b)*b*TO)) :=
    Int.mul_le_mul_of_nonneg_right (by omega) (Int.mul_nonneg (Int.mul_nonneg (by omega) (by omega)) X0)
  have b1:2*k*(o+b)<=(6*k-1)*b:=by
    have c1:2*k*o<=(6*k-1)*o:=Int.mul_le_mul_of_nonneg_right (by omega) ho;have c2:(2*k+1)*b<=(6*k-1)*b:=Int.mul_le_mul_of_nonneg_right (by omega) (by omega);have c3:2*k*(o+b)=2*k*o+2*k*b:=by grind
    have c4:(2*k+1)*b=2*k*b+b:=by grind
    omega
  have b2:g*(2*k*(o+b))<=(o+g)*((6*k-1)*b):=Int.mul_le_mul (by omega) b1 (Int.mul_nonneg (by omega) (by omega)) (by omega);have a2:=Int.mul_le_mul_of_nonneg_right b2 hy;have a3:=Int.mul_le_mul_of_nonneg_left H2 (show 0<=(o+g)*b from Int.mul_nonneg (by omega) (by omega))
  grind
theorem later_ii {k o b c:Int} (hk:1<=k) (ho:0<=o) (hb:1<=b) (hc:0<=c) (H1:(6*k-1)*o<=b) (R:Int) :
    2*k*c*(o*o)*(R*R)<=(R*R)*(o+(b+c))*o*b:=by
  have hr:=sqn R
  have h1:2*k*o<=b:=by
    have:=Int.mul_le_mul_of_nonneg_right (show 2*k<=6*k-1 by omega) ho;omega
  have h2:c*(2*k*o)<=(o+(b+c))*b:=Int.mul_le_mul (by omega) h1 (Int.mul_nonneg (by omega) ho) (by omega);have h3:=Int.mul_le_mul_of_nonneg_left h2 (show 0<=o*(R*R) from Int.mul_nonneg ho hr)
  grind
theorem two_sq (x y:Int):(x+y)*(x+y)<=2*(x*x)+2*(y*y):=by
  have:=sqn (x-y)
  grind
theorem later_some {k o b c TO TB TC TG P PG R:Int} (hk:1<=k) (ho:0<=o) (hb:1<=b) (hc:1<=c) (T0:0<=TO) (TC0:0<=TC)
    (e3:b*PG=(b+c)*P+o*R) (e4:b*c*TG=(b+c)*(c*TB+b*TC)+R*R)
    (H1:(6*k-1)*o<=b) (H2:(6*k-1)*((o+b)*b*TO+P*P)<=TB*(o+b)*o) :
    k*((o+(b+c))*(b+c)*TO+PG*PG)<=TG*(o+(b+c))*o:=by
  have hi:=later_i (g:=b+c) hk ho hb (by omega) T0 H1 H2;have hii:=later_ii hk ho hb (show 0<=c by omega) H1 R;refine Int.le_of_mul_le_mul_left (a:=b*b*c) ?_ (Int.mul_pos (Int.mul_pos (by omega) (by omega)) (by omega))
  have s1:b*b*(PG*PG)<=2*((b+c)*(b+c)*(P*P))+2*(o*o*(R*R)):=by
    have:=two_sq ((b+c)*P) (o*R);rw [<- e3] at this
    grind
  have s2:=Int.mul_le_mul_of_nonneg_left s1 (show 0<=k*c from Int.mul_nonneg (by omega) (by omega));have s3:=Int.mul_le_mul_of_nonneg_left hi (show 0<=c*(b+c) from Int.mul_nonneg (by omega) (by omega));have s4:(b*c*TG)*((o+(b+c))*o*b)=((b+c)*(c*TB+b*TC)+R*R)*((o+(b+c))*o*b):=by rw [e4]
  have s5:0<=(b+c)*(b*TC)*((o+(b+c))*o*b):=Int.mul_nonneg (Int.mul_nonneg (by omega) (Int.mul_nonneg (by omega) TC0)) (Int.mul_nonneg (Int.mul_nonneg (by omega) ho) (by omega))
  grind
def tpI (n s q:Int):Int:=n*q-s*s
theorem tpI_add {a b sa sb qa qb:Int}:a*b*tpI (a+b) (sa+sb) (qa+qb)=(a+b)*(b*tpI a sa qa+a*tpI b sb qb)+(sa*b-sb*a)*(sa*b-sb*a):=by unfold tpI;grind
theorem close_later {k o b c sO qO sB qB sC qC:Int} (hk:1<=k) (ho:0<=o) (hb:1<=b) (hc:0<=c) (tO:0<=tpI o sO qO) (zO:o=0->sO=0/\qO=0) (tB:0<=tpI b sB qB) (tC:0<=tpI c sC qC) (zC:c=0->sC=0/\qC=0)
    (h1:(6*k-1)*(o+b)<=6*k*b) (h2:(6*k-1)*tpI (o+b) (sO+sB) (qO+qB)*b<=6*k*tpI b sB qB*(o+b)) :
    k*(tpI (o+(b+c)) (sO+(sB+sC)) (qO+(qB+qC))*(b+c))<=(k+1)*(tpI (b+c) (sB+sC) (qB+qC)*(o+(b+c))):=by
  have tG:0<=tpI (b+c) (sB+sC) (qB+qC):=by
    by_cases c0:c=0
    · obtain ⟨rfl,rfl⟩:=zC c0;subst c0;simpa using tB
    · refine Int.le_of_mul_le_mul_left (a:=b*c) ?_ (Int.mul_pos (by omega) (by omega));rw [tpI_add,Int.mul_zero];have:=sqn (sB*c-sC*b);have:=Int.mul_nonneg (show 0<=b+c by omega) (Int.add_nonneg (Int.mul_nonneg (show 0<=c by omega) tB) (Int.mul_nonneg (show 0<=b by omega) tC));omega
  by_cases o0:o=0
  · obtain ⟨rfl,rfl⟩:=zO o0;subst o0;simp only [Int.zero_add];have:=Int.mul_nonneg tG (show 0<=b+c by omega)
    grind
  · have e1:=tpI_add (a:=o) (b:=b) (sa:=sO) (sb:=sB) (qa:=qO) (qb:=qB);have e2:=tpI_add (a:=o) (b:=b+c) (sa:=sO) (sb:=sB+sC) (qa:=qO) (qb:=qB+qC);have e3:b*(sO*(b+c)-(sB+sC)*o)=(b+c)*(sO*b-sB*o)+o*(sB*c-sC*b):=by grind
    have e4:=tpI_add (a:=b) (b:=c) (sa:=sB) (sb:=sC) (qa:=qB) (qb:=qC);have H1:(6*k-1)*o<=b:=by grind
    have H2:=close_H2 ho e1 h2
    have key:k*((o+(b+c))*(b+c)*tpI o sO qO+(sO*(b+c)-(sB+sC)*o)*(sO*(b+c)-(sB+sC)*o))<=tpI (b+c) (sB+sC) (qB+qC)*(o+(b+c))*o:=by
      by_cases c0:c=0
      · obtain ⟨rfl,rfl⟩:=zC c0;subst c0;simp only [Int.add_zero];exact later_none hk (Int.mul_nonneg (Int.mul_nonneg (by omega) (by omega)) tO) H2
      · exact later_some hk ho hb (by omega) tO tC e3 e4 H1 H2
    refine Int.le_of_mul_le_mul_left (a:=o) ?_ (by omega);generalize tpI (o+(b+c)) (sO+(sB+sC)) (qO+(qB+qC))=TAC at e2 |-
    generalize tpI (b+c) (sB+sC) (qB+qC)=TG at e2 key |-
    generalize tpI o sO qO=TO at e2 key;generalize sO*(b+c)-(sB+sC)*o=PG at e2 key;clear e1 e3 e4 h1 h2 H1 H2 tO zO tB tC zC tG;have e2k:k*(o*(b+c)*TAC)=k*((o+(b+c))*((b+c)*TO+o*TG)+PG*PG):=by rw [e2]
    clear e2
    grind
theorem spread_mono {o g sO qO sG qG:Int} (ho:0<=o) (hg:0<=g) (tO:0<=tpI o sO qO) (zO:o=0->sO=0/\qO=0) :
    tpI g sG qG*(o+g)<=tpI (o+g) (sO+sG) (qO+qG)*g:=by
  by_cases o0:o=0
  · obtain ⟨rfl,rfl⟩:=zO o0;subst o0;simp only [Int.zero_add];exact Int.le_refl _
  · have e2:=tpI_add (a:=o) (b:=g) (sa:=sO) (sb:=sG) (qa:=qO) (qb:=qG);refine Int.le_of_mul_le_mul_left (a:=o) ?_ (by omega);have h:=sqn (sO*g-sG*o);have h2:=Int.mul_nonneg (Int.mul_nonneg (show 0<=o+g by omega) hg) tO;generalize tpI (o+g) (sO+sG) (qO+qG)=TA at e2 |-
    generalize tpI g sG qG=TG at e2 |-
    generalize tpI o sO qO=TO at e2 h2
    grind
end Go.Proofs.YtdipoojjlddohaaGreat
namespace Go.Proofs.YtdipoojjlddohaaGreat
open MC
open MT
open Go.RowKit

def big:Nat:=340282366920938463463374607431768211456
def hi (n:Nat):Int:=((n / 18446744073709551616:Nat):Int)
def lo (n:Nat):Int:=((n % 18446744073709551616:Nat):Int)
abbrev W (n:Nat):Value := .agg #[.int .u64 (hi n), .int .u64 (lo n)]
def Word (x:Int):Prop:=0<=x/\x<18446744073709551616

theorem hi_word {n:Nat} (h:n<big):Word (hi n):=by unfold Word hi big at *;omega
theorem lo_word (n:Nat):Word (lo n):=by unfold Word lo;omega
theorem hi_inj {a b:Nat} (h:hi a=hi b) (k:lo a=lo b):a=b:=by unfold hi lo at *;omega

theorem add_lo (a b:Nat):(lo a+lo b) % 18446744073709551616=lo (a+b):=by unfold lo;omega
theorem add_hi {a b:Nat} (h:a+b<big):(hi a+hi b+(lo a+lo b) / 18446744073709551616) % 18446744073709551616=hi (a+b):=by unfold hi lo big at *;omega
theorem add_over {a b:Nat} (h:a+b<big):(hi a+hi b+(lo a+lo b) / 18446744073709551616) / 18446744073709551616=0:=by unfold hi lo big at *;omega
theorem add_over1 {a b:Nat} (ha:a<big) (hb:b<big) (h:¬ a+b<big):(hi a+hi b+(lo a+lo b) / 18446744073709551616) / 18446744073709551616=1:=by unfold hi lo big at *;omega

def bor (x y:Int):Int:=if x<y then 1 else 0
theorem bor_0 (x y:Int):0<=bor x y:=by unfold bor;split<;>omega
theorem bor_1 (x y:Int):bor x y<=1:=by unfold bor;split<;>omega
theorem sub_lo {a b:Nat} (h:b<=a):(lo a-lo b) % 18446744073709551616=lo (a-b):=by unfold lo;omega
theorem sub_hi {a b:Nat} (ha:a<big) (h:b<=a):(hi a-hi b-bor (lo a) (lo b)) % 18446744073709551616=hi (a-b):=by unfold hi lo bor big at *;split<;>omega
theorem sub_under {a b:Nat} (h:b<=a):bor (hi a) (hi b+bor (lo a) (lo b))=0:=by unfold hi lo bor at *;split<;>split at * <;> omega
def cmp (a b:Nat):Int:=if a<b then -1 else if a=b then 0 else 1
theorem cmp_lt {a b:Nat} (h:a<b):cmp a b = -1:=by simp [cmp,h]
theorem cmp_eq (a:Nat):cmp a a=0:=by simp [cmp]
theorem cmp_gt {a b:Nat} (h:b<a):cmp a b=1:=by unfold cmp;rw [if_neg (by omega),if_neg (by omega)]
theorem lt_words {a b:Nat} (h:a<b):hi a<hi b∨hi a=hi b/\lo a<lo b:=by unfold hi lo;omega

theorem hi_small {n:Nat} (h:n<18446744073709551616):hi n=0:=by unfold hi;omega
theorem lo_small {n:Nat} (h:n<18446744073709551616):lo n=n:=by unfold lo;omega
theorem lo_toNat (n:Nat):(lo n).toNat=n % 18446744073709551616:=by unfold lo;omega
theorem hi_toNat (n:Nat):(hi n).toNat=n / 18446744073709551616:=by unfold hi;omega
theorem mul_big {x y:Nat} (hx:x<18446744073709551616) (hy:y<18446744073709551616):x*y<big:=by
  have:=Nat.mul_le_mul (show x<=18446744073709551615 by omega) (show y<=18446744073709551615 by omega);unfold big;omega

theorem bcell {W w1:World} (hb:Below W.heap.size W w1):(∀ b o,b<W.heap.size->w1.cell? ⟨b,o,none⟩=W.cell? ⟨b,o,none⟩)/\(∀ b o,b<W.heap.size->w1.frozen? ⟨b,o,none⟩=W.frozen? ⟨b,o,none⟩) :=
  ⟨fun b o h=>hb.cell (p:=⟨b,o,none⟩) h,fun b o h=>hb.frozen (p:=⟨b,o,none⟩) h⟩

theorem wrap_word {x:Int} (h:Word x):IntKind.u64.wrap x=x:=by
  obtain ⟨a,b⟩:=h;rw [IntKind.wrap_u64];omega
theorem cmp_nonneg {a b:Nat} (h:b<=a):0<=cmp a b:=by
  unfold cmp;rw [if_neg (by omega)];split<;>omega
end Go.Proofs.YtdipoojjlddohaaGreat
namespace Go.Proofs.YtdipoojjlddohaaGreat
open MC
open MT
def rightP (n s q:Int):Prop:=1<=n/\n<=65536 /\ -n*4096<=s/\s<=n*4096/\0<=q/\q<=n*4096*4096/\s*s<=n*q
instance (n s q:Int):Decidable (rightP n s q):=by unfold rightP;infer_instance
theorem sq_bound {s B:Int} (h0 : -B<=s) (h1:s<=B):0<=s*s/\s*s<=B*B:=by
  have hB:0<=B:=by omega
  constructor
  · rcases Int.le_total 0 s with h | h
    · exact Int.mul_nonneg h h
    · exact Int.mul_nonneg_of_nonpos_of_nonpos h h
  · rcases Int.le_total 0 s with h | h
    · exact Int.mul_le_mul h1 h1 h hB
    · have:s*s=(-s)*(-s):=by rw [Int.neg_mul_neg]
      rw [this];exact Int.mul_le_mul (by omega) (by omega) (by omega) hB
theorem sq_small {n s:Int} (h0:1<=n) (h1:n<=65536) (h2 : -n*4096<=s) (h3:s<=n*4096):0<=s*s/\s*s<=72057594037927936:=by
  have:=sq_bound (s:=s) (B:=268435456) (by omega) (by omega);exact this
theorem nq_small {n q:Int} (h0:1<=n) (h1:n<=65536) (h2:0<=q) (h3:q<=n*4096*4096):0<=n*q/\n*q<=72057594037927936:=by
  constructor
  · exact Int.mul_nonneg (by omega) h2
  · have:n*q<=65536*1099511627776:=Int.mul_le_mul h1 (by omega) h2 (by decide);exact this
def topN (n s q:Int):Nat:=(n*q-s*s).toNat
theorem right_top {n s q:Int} (h:rightP n s q):0<=n*q-s*s/\n*q-s*s<=72057594037927936/\0<=s*s/\s*s<=72057594037927936/\0<=n*q/\n*q<=72057594037927936:=by
  obtain ⟨h0,h1,h2,h3,h4,h5,h6⟩:=h;have a:=sq_small h0 h1 h2 h3;have b:=nq_small h0 h1 h4 h5;omega
theorem bits_fuel:∀ (f g x:Nat),x<2 ^ f->x<2 ^ g->Lib.bitLenAux f x=Lib.bitLenAux g x
  | 0,g,x,h,_=>by
    have:x=0:=by simpa using h
    subst this;cases g<;>simp [Lib.bitLenAux]
  | f+1,0,x,_,h=>by
    have:x=0:=by simpa using h
    subst this;simp [Lib.bitLenAux]
  | f+1,g+1,x,h1,h2=>by
    unfold Lib.bitLenAux;split
    · rfl
    · rw [bits_fuel f g (x / 2) (by rw [Nat.pow_succ] at h1;omega) (by rw [Nat.pow_succ] at h2;omega)]
theorem bits_step {x:Nat} (h:x≠0) (hx:x<18446744073709551616):Lib.bitLen x=Lib.bitLen (x / 2)+1:=by
  unfold Lib.bitLen;rw [show Lib.bitLenAux 64 x=1+Lib.bitLenAux 63 (x / 2) from by rw [Lib.bitLenAux,if_neg h],bits_fuel 63 64 (x / 2) (by omega) (by omega)];omega
theorem bits_zero:Lib.bitLen 0=0:=by decide
theorem bits_le:∀ (f x:Nat),Lib.bitLenAux f x<=f
  | 0,_=>Nat.le_refl _
  | f+1,x=>by
    unfold Lib.bitLenAux;split
    · omega
    · have:=bits_le f (x / 2);omega
structure Mk where
  seq:Int
  t:Int
  n:Int
  s:Int
  q:Int
  lo:Int
  hi:Int
def Mk.zero:Mk:=⟨0,0,0,0,0,0,0⟩
def mkAt (l:List Mk) (i:Nat):Mk:=l.getD i Mk.zero
theorem mkAt_zero (m:Mk) (l:List Mk):mkAt (m :: l) 0=m:=rfl
theorem mkAt_succ (m:Mk) (l:List Mk) (i:Nat):mkAt (m :: l) (i+1)=mkAt l i:=rfl
theorem mkAt_mem {l:List Mk} {i:Nat} (h:i<l.length):mkAt l i∈l:=by
  unfold mkAt;rw [List.getD_eq_getElem?_getD,List.getElem?_eq_getElem h];exact List.getElem_mem h
theorem drop_mk {l:List Mk} {i:Nat} (h:i<l.length):l.drop i=mkAt l i :: l.drop (i+1):=by
  rw [List.drop_eq_getElem_cons h];unfold mkAt;rw [List.getD_eq_getElem?_getD,List.getElem?_eq_getElem h];rfl
theorem mkAt_append_left {a b:List Mk} {i:Nat} (h:i<a.length):mkAt (a ++ b) i=mkAt a i:=by
  unfold mkAt;rw [List.getD_eq_getElem?_getD,List.getD_eq_getElem?_getD,List.getElem?_append_left h]
theorem mkAt_append_right {a b:List Mk} {i:Nat} (h:a.length<=i):mkAt (a ++ b) i=mkAt b (i-a.length):=by
  unfold mkAt;rw [List.getD_eq_getElem?_getD,List.getD_eq_getElem?_getD,List.getElem?_append_right h]
theorem mkAt_drop (l:List Mk) (k i:Nat):mkAt (l.drop k) i=mkAt l (k+i):=by
  unfold mkAt;rw [List.getD_eq_getElem?_getD,List.getD_eq_getElem?_getD,List.getElem?_drop]
theorem mkAt_map {f:Mk->Mk} {l:List Mk} {i:Nat} (h:i<l.length):mkAt (l.map f) i=f (mkAt l i):=by
  unfold mkAt;rw [List.getD_eq_getElem?_getD,List.getD_eq_getElem?_getD,List.getElem?_map,List.getElem?_eq_getElem h];rfl
def partP (n lo hi s q:Int):Prop:=n*lo<=s/\s<=n*hi/\0<=q/\q<=n*4096*4096/\s*s<=n*q
instance (n lo hi s q:Int):Decidable (partP n lo hi s q):=by unfold partP;infer_instance
def oneP (seq cap now w least:Int) (m:Mk):Prop :=
  1<=m.seq/\m.seq<=seq/\m.n=seq-m.seq+1/\m.n<=cap/\0<=m.t/\m.t<=now/\least<=m.lo/\m.hi<=4096/\m.lo<=m.hi/\partP m.n m.lo m.hi m.s m.q
instance (seq cap now w least:Int) (m:Mk):Decidable (oneP seq cap now w least m):=by unfold oneP;infer_instance
def twoP (o m:Mk):Prop:=o.seq<m.seq/\o.t<=m.t/\o.lo<=m.lo/\m.hi<=o.hi/\partP (o.n-m.n) o.lo o.hi (o.s-m.s) (o.q-m.q)
instance (o m:Mk):Decidable (twoP o m):=by unfold twoP;infer_instance
def lastP (seq:Int) (m:Mk):Prop:=m.seq=seq/\m.lo=m.s/\m.hi=m.s/\m.q=m.s*m.s
instance (seq:Int) (m:Mk):Decidable (lastP seq m):=by unfold lastP;infer_instance
def atP (l:List Mk) (seq cap now w least:Int) (i:Nat):Prop :=
  oneP seq cap now w least (mkAt l i)/\((0<i∨l.length=1)->now-w<(mkAt l i).t)/\(0<i->twoP (mkAt l (i-1)) (mkAt l i))
instance (l:List Mk) (seq cap now w least:Int) (i:Nat):Decidable (atP l seq cap now w least i):=by unfold atP;infer_instance
def mvalid (l:List Mk) (seq cap now w least:Int):Prop :=
  0<=seq/\seq<=1099511627776/\(∀ i,i<l.length->atP l seq cap now w least i)/\(l.length≠0->lastP seq (mkAt l (l.length-1)))
instance (l:List Mk) (seq cap now w least:Int):Decidable (mvalid l seq cap now w least):=by unfold mvalid;infer_instance
def inc (v:Int) (m:Mk):Mk:=⟨m.seq,m.t,m.n+1,m.s+v,m.q+v*v,min m.lo v,max m.hi v⟩
def newMk (seq t v:Int):Mk:=⟨seq,t,1,v,v*v,v,v⟩
def incl (l:List Mk) (seq t v:Int):List Mk:=l.map (inc v) ++ [newMk seq t v]
theorem incl_len (l:List Mk) (seq t v:Int):(incl l seq t v).length=l.length+1:=by unfold incl;simp
def lastN (f:Mk->Bool):List Mk->Nat
  | []=>0
  | x :: xs=>if xs.any f then lastN f xs+1 else 0
theorem lastN_le (f:Mk->Bool):∀ l,l≠[]->lastN f l<l.length
  | [],h=>absurd rfl h
  | x :: xs,_=>by
    unfold lastN;split
    · rename_i h;have:xs≠[]:=by rintro rfl;simp at h
      have:=lastN_le f xs this;simp;omega
    · simp
theorem lastN_none {f:Mk->Bool} {l:List Mk} (h:∀ i,i<l.length->f (mkAt l i)=false):lastN f l=0:=by
  cases l with
  | nil=>rfl
  | cons x xs =>
    unfold lastN;rw [if_neg];intro ha;rw [List.any_eq_true] at ha;obtain ⟨m,hm,hf⟩:=ha;obtain ⟨i,hi,e⟩:=List.getElem_of_mem hm;have:=h (i+1) (by simpa using hi);rw [mkAt_succ] at this;unfold mkAt at this;rw [List.getD_eq_getElem?_getD,List.getElem?_eq_getElem hi] at this;simp only [Option.getD_some,e] at this;rw [hf] at this;cases this
theorem lastN_is {f:Mk->Bool}:∀ {l:List Mk} {p:Nat},p<l.length->f (mkAt l p)=true->(∀ i,p<i->i<l.length->f (mkAt l i)=false)->lastN f l=p
  | [],p,h,_,_=>absurd h (by simp)
  | x :: xs,0,_,_,h=>by
    refine lastN_none' ?_;intro i hi;have:=h (i+1) (by omega) (by simpa using hi)
    rwa [mkAt_succ] at this
  | x :: xs,p+1,hp,hf,h=>by
    have hp':p<xs.length:=by simpa using hp
    rw [mkAt_succ] at hf;have ih:=lastN_is hp' hf (fun i h1 h2=>by have:=h (i+1) (by omega) (by simpa using h2);rwa [mkAt_succ] at this);unfold lastN;rw [if_pos,ih];rw [List.any_eq_true];exact ⟨_,mkAt_mem hp',hf⟩
where
  lastN_none' {f:Mk->Bool} {x:Mk} {xs:List Mk} (h:∀ i,i<xs.length->f (mkAt xs i)=false):lastN f (x :: xs)=0:=by
    unfold lastN;rw [if_neg];intro ha;rw [List.any_eq_true] at ha;obtain ⟨m,hm,hf⟩:=ha;obtain ⟨i,hi,e⟩:=List.getElem_of_mem hm;have:=h i hi;unfold mkAt at this;rw [List.getD_eq_getElem?_getD,List.getElem?_eq_getElem hi] at this;simp only [Option.getD_some,e] at this;rw [hf] at this;cases this
theorem lastN_spec (f:Mk->Bool):∀ (l:List Mk),(∀ i,i<l.length->f (mkAt l i)=false)∨(lastN f l<l.length/\f (mkAt l (lastN f l))=true/\∀ i,lastN f l<i->i<l.length->f (mkAt l i)=false)
  | [] => .inl (fun i h=>absurd h (by simp))
  | x :: xs=>by
    rcases lastN_spec f xs with h | ⟨h1,h2,h3⟩
    · cases hx:f x with
      | false =>
        refine .inl (fun i hi=>?_);cases i with
        | zero=>exact hx
        | succ i=>exact h i (by simpa using hi)
      | true =>
        have e:lastN f (x :: xs)=0:=lastN_is (p:=0) (by simp) hx (fun i h1 h2=>by
          cases i with
          | zero=>omega
          | succ i=>exact h i (by simpa using h2))
        rw [e]
        exact .inr ⟨by simp,hx,fun i h1 h2=>by
          cases i with
          | zero=>omega
          | succ i=>exact h i (by simpa using h2)⟩
    · have e:lastN f (x :: xs)=lastN f xs+1:=lastN_is (by simpa using h1) h2 (fun i h4 h5=>by
        cases i with
        | zero=>omega
        | succ i=>exact h3 i (by omega) (by simpa using h5))
      rw [e]
      exact .inr ⟨by simpa using h1,h2,fun i h4 h5=>by
        cases i with
        | zero=>omega
        | succ i=>exact h3 i (by omega) (by simpa using h5)⟩
def prune (near:Mk->Mk->Bool):List Mk->List Mk
  | []=>[]
  | a :: r=>a :: prune near (r.drop (lastN (near a) r))
termination_by l=>l.length
decreasing_by simp;omega
theorem prune_nil (near:Mk->Mk->Bool):prune near []=[]:=by rw [prune]
theorem prune_cons (near:Mk->Mk->Bool) (a:Mk) (r:List Mk):prune near (a :: r)=a :: prune near (r.drop (lastN (near a) r)):=by rw [prune]
theorem prune_len (near:Mk->Mk->Bool):∀ (k:Nat) (l:List Mk),l.length<=k->(prune near l).length<=l.length
  | 0,l,h=>by
    have:l=[]:=by cases l<;>simp_all
    subst this;simp [prune_nil]
  | k+1,[],_=>by simp [prune_nil]
  | k+1,a :: r,h=>by
    rw [prune_cons];have:=prune_len near k (r.drop (lastN (near a) r)) (by simp at h |-;omega);simp at this |-
    omega
def dropM (now w:Int):List Mk->List Mk
  | []=>[]
  | [a]=>if now-w<a.t then [a] else []
  | a :: b :: r=>if now-w<b.t then a :: b :: r else dropM now w (b :: r)
theorem dropM_nil (now w:Int):dropM now w []=[]:=by rw [dropM]
theorem dropM_one (now w:Int) (a:Mk):dropM now w [a]=if now-w<a.t then [a] else []:=by rw [dropM]
theorem dropM_two (now w:Int) (a b:Mk) (r:List Mk):dropM now w (a :: b :: r)=if now-w<b.t then a :: b :: r else dropM now w (b :: r):=by rw [dropM]
theorem dropM_suffix (now w:Int):∀ l,∃ k,k<=l.length/\dropM now w l=l.drop k
  | []=>⟨0,by simp,by rw [dropM_nil];rfl⟩
  | [a]=>by
    rw [dropM_one];split
    · exact ⟨0,by simp,rfl⟩
    · exact ⟨1,by simp,rfl⟩
  | a :: b :: r=>by
    rw [dropM_two];split
    · exact ⟨0,by simp,rfl⟩
    · obtain ⟨k,hk,e⟩:=dropM_suffix now w (b :: r);exact ⟨k+1,by simpa using hk,by rw [e];rfl⟩
theorem sq_nonneg (x:Int):0<=x*x:=by
  rcases Int.le_total 0 x with h | h
  · exact Int.mul_nonneg h h
  · exact Int.mul_nonneg_of_nonpos_of_nonpos h h
theorem le_of_sq {x y:Int} (hy:0<=y) (h:x*x<=y*y):x<=y:=by
  rcases Int.lt_or_le y x with g | g
  · have h1:y*y<=y*x:=Int.mul_le_mul_of_nonneg_left (by omega) hy;have h2:y*x<x*x:=Int.mul_lt_mul_of_pos_right g (by omega);omega
  · exact g
theorem cauchy {n1 q1 s1 n2 q2 s2:Int} (hn1:0<=n1) (hq1:0<=q1) (hn2:0<=n2) (hq2:0<=q2) (h1:s1*s1<=n1*q1) (h2:s2*s2<=n2*q2):(s1+s2)*(s1+s2)<=(n1+n2)*(q1+q2):=by
  have a0:0<=n1*q2:=Int.mul_nonneg hn1 hq2;have a1:0<=n2*q1:=Int.mul_nonneg hn2 hq1;have a2:0<=n1*q1:=Int.mul_nonneg hn1 hq1
  have key:2*(s1*s2)<=n1*q2+n2*q1:=by
    refine le_of_sq (by omega) ?_;have b1:(s1*s1)*(s2*s2)<=(n1*q1)*(n2*q2):=Int.mul_le_mul h1 h2 (sq_nonneg _) a2;have b2:=sq_nonneg (n1*q2-n2*q1);have e1:2*(s1*s2)*(2*(s1*s2))=4*((s1*s1)*(s2*s2)):=by grind
    have e2:(n1*q2+n2*q1)*(n1*q2+n2*q1)=(n1*q2-n2*q1)*(n1*q2-n2*q1)+4*((n1*q1)*(n2*q2)):=by grind
    omega
  have e3:(s1+s2)*(s1+s2)=s1*s1+s2*s2+2*(s1*s2):=by grind
  have e4:(n1+n2)*(q1+q2)=n1*q1+n2*q2+(n1*q2+n2*q1):=by grind
  omega
theorem part_wide {n lo hi s q lo' hi':Int} (hn:0<=n) (h:partP n lo hi s q) (hl:lo'<=lo) (hh:hi<=hi'):partP n lo' hi' s q:=by
  obtain ⟨h1,h2,h3,h4,h5⟩:=h;exact ⟨Int.le_trans (Int.mul_le_mul_of_nonneg_left hl hn) h1,Int.le_trans h2 (Int.mul_le_mul_of_nonneg_left hh hn),h3,h4,h5⟩
theorem part_add {n1 n2 lo hi s1 s2 q1 q2:Int} (hn1:0<=n1) (hn2:0<=n2) (h1:partP n1 lo hi s1 q1) (h2:partP n2 lo hi s2 q2):partP (n1+n2) lo hi (s1+s2) (q1+q2):=by
  obtain ⟨a1,a2,a3,a4,a5⟩:=h1;obtain ⟨b1,b2,b3,b4,b5⟩:=h2;refine ⟨?_,?_,by omega,?_,cauchy hn1 a3 hn2 b3 a5 b5⟩
  · rw [Int.add_mul];omega
  · rw [Int.add_mul];omega
  · rw [Int.add_mul,Int.add_mul];omega
theorem vv_small {v:Int} (h0 : -4096<=v) (h1:v<=4096):0<=v*v/\v*v<=16777216:=by
  have:=sq_bound (s:=v) (B:=4096) (by omega) (by omega);exact this
theorem part_one {v lo hi:Int} (h0 : -4096<=v) (h1:v<=4096) (hl:lo<=v) (hh:v<=hi):partP 1 lo hi v (v*v):=by
  have:=vv_small h0 h1;exact ⟨by omega,by omega,this.1,by omega,by omega⟩
theorem two_trans {seq cap now w least:Int} {a b c:Mk} (ha:oneP seq cap now w least a) (hb:oneP seq cap now w least b) (hc:oneP seq cap now w least c) (h1:twoP a b) (h2:twoP b c):twoP a c:=by
  obtain ⟨p1,p2,p3,p4,p5⟩:=h1;obtain ⟨q1,q2,q3,q4,q5⟩:=h2;have na:a.n=seq-a.seq+1:=ha.2.2.1;have nb:b.n=seq-b.seq+1:=hb.2.2.1;have nc:c.n=seq-c.seq+1:=hc.2.2.1;refine ⟨by omega,by omega,by omega,by omega,?_⟩;have:=part_add (by omega) (by omega) p5 (part_wide (by omega) q5 p3 p4);rw [show a.n-b.n+(b.n-c.n)=a.n-c.n by omega,show a.s-b.s+(b.s-c.s)=a.s-c.s by omega,show a.q-b.q+(b.q-c.q)=a.q-c.q by omega] at this;exact this
structure VL (l:List Mk) (seq cap now w least:Int):Prop where
  one:∀ m∈l,oneP seq cap now w least m
  two:l.Pairwise twoP
  live:∀ m∈l.tail,now-w<m.t
  alone:∀ a,l=[a]->now-w<a.t
  last:l≠[]->lastP seq (mkAt l (l.length-1))
theorem mem_at {l:List Mk} {m:Mk} (h:m∈l):∃ i,i<l.length/\mkAt l i=m:=by
  obtain ⟨i,hi,e⟩:=List.getElem_of_mem h;refine ⟨i,hi,?_⟩;unfold mkAt;rw [List.getD_eq_getElem?_getD,List.getElem?_eq_getElem hi];exact e
theorem pairwise_of_next {seq cap now w least:Int}:∀ {l:List Mk},(∀ m∈l,oneP seq cap now w least m)->(∀ i,i+1<l.length->twoP (mkAt l i) (mkAt l (i+1)))->l.Pairwise twoP
  | [],_,_=>List.Pairwise.nil
  | [a],_,_=>List.pairwise_singleton _ _
  | a :: b :: r,h1,h2=>by
    have ih:=pairwise_of_next (l:=b :: r) (fun m hm=>h1 m (List.mem_cons_of_mem _ hm)) (fun i hi=>by have:=h2 (i+1) (by simpa using hi);simpa [mkAt_succ] using this);have hab:twoP a b:=h2 0 (by simp);refine List.Pairwise.cons (fun c hc=>?_) ih;rcases List.mem_cons.1 hc with rfl | hc'
    · exact hab
    · exact two_trans (h1 a (by simp)) (h1 b (by simp)) (h1 c (by simp [hc'])) hab (List.rel_of_pairwise_cons ih hc')
theorem pairwise_at {l:List Mk} (h:l.Pairwise twoP) {i j:Nat} (hij:i<j) (hj:j<l.length):twoP (mkAt l i) (mkAt l j):=by
  have:=List.pairwise_iff_getElem.1 h i j (by omega) hj hij;unfold mkAt;rw [List.getD_eq_getElem?_getD,List.getD_eq_getElem?_getD,List.getElem?_eq_getElem (by omega),List.getElem?_eq_getElem hj];exact this
theorem mvalid_iff {l:List Mk} {seq cap now w least:Int}:mvalid l seq cap now w least↔(0<=seq/\seq<=1099511627776)/\VL l seq cap now w least:=by
  constructor
  · rintro ⟨h1,h2,h3,h4⟩
    have o:∀ m∈l,oneP seq cap now w least m:=fun m hm=>by
      obtain ⟨i,hi,rfl⟩:=mem_at hm;exact (h3 i hi).1
    refine ⟨⟨h1,h2⟩,o,pairwise_of_next o (fun i hi=>by have:=(h3 (i+1) hi).2.2 (by omega);simpa using this),fun m hm=>?_,fun a e=>?_,fun h=>h4 (by simpa using h)⟩
    · cases l with
      | nil=>simp at hm
      | cons a r =>
        obtain ⟨i,hi,rfl⟩:=mem_at hm;have:=(h3 (i+1) (by simpa using hi)).2.1 (.inl (by omega));exact this
    · subst e;exact (h3 0 (by simp)).2.1 (.inr rfl)
  · rintro ⟨⟨h1,h2⟩,h⟩;refine ⟨h1,h2,fun i hi=>⟨h.one _ (mkAt_mem hi),fun hh=>?_,fun hh=>?_⟩,fun hn=>h.last (by simpa using hn)⟩
    · cases l with
      | nil=>simp at hi
      | cons a r =>
        cases i with
        | zero =>
          have:r=[]:=by
            rcases hh with hh | hh
            · omega
            · simpa using hh
          subst this;exact h.alone a rfl
        | succ i=>exact h.live _ (by simpa [mkAt_succ] using mkAt_mem (l:=r) (i:=i) (by simpa using hi))
    · exact pairwise_at h.two (by omega) hi
theorem mkAt_last_suffix {l s:List Mk} (h:s <:+ l) (hs:s≠[]):mkAt s (s.length-1)=mkAt l (l.length-1):=by
  obtain ⟨t,rfl⟩:=h;have:0<s.length:=List.length_pos_iff.2 hs;rw [mkAt_append_right (by simp;omega),List.length_append];congr 1;omega
theorem dropM_spec (now w:Int):∀ l:List Mk,dropM now w l <:+ l/\(∀ a,dropM now w l=[a]->now-w<a.t)/\∀ a b r,dropM now w l=a :: b :: r->now-w<b.t
  | []=>by rw [dropM_nil];exact ⟨List.suffix_refl _,fun _ h=>by simp at h,fun _ _ _ h=>by simp at h⟩
  | [a]=>by
    rw [dropM_one];split
    · rename_i h;exact ⟨List.suffix_refl _,fun _ e=>by simp at e;subst e;exact h,fun _ _ _ e=>by simp at e⟩
    · exact ⟨List.nil_suffix,fun _ h=>by simp at h,fun _ _ _ h=>by simp at h⟩
  | a :: b :: r=>by
    rw [dropM_two];split
    · rename_i h;exact ⟨List.suffix_refl _,fun _ e=>by simp at e,fun _ _ _ e=>by simp at e;obtain ⟨_,rfl,_⟩:=e;exact h⟩
    · obtain ⟨h1,h2,h3⟩:=dropM_spec now w (b :: r);exact ⟨h1.trans (List.suffix_cons _ _),h2,h3⟩
theorem one_later {seq cap now now' w least:Int} {m:Mk} (h:oneP seq cap now w least m) (hn:now<=now'):oneP seq cap now' w least m:=by
  obtain ⟨h1,h2,h3,h4,h5,h6,h7⟩:=h;exact ⟨h1,h2,h3,h4,h5,by omega,h7⟩
theorem VL.tick {l:List Mk} {seq cap now now' w least:Int} (h:VL l seq cap now w least) (hn:now<=now'):VL (dropM now' w l) seq cap now' w least:=by
  obtain ⟨s1,s2,s3⟩:=dropM_spec now' w l;have two:=h.two.sublist s1.sublist;refine ⟨fun m hm=>one_later (h.one m (s1.subset hm)) hn,two,fun m hm=>?_,s2,fun hne=>?_⟩
  · cases hd:dropM now' w l with
    | nil=>rw [hd] at hm;simp at hm
    | cons a r =>
      cases r with
      | nil=>rw [hd] at hm;simp at hm
      | cons b r =>
        rw [hd] at hm two;have hb:=s3 a b r hd;simp only [List.tail_cons] at hm;rcases List.mem_cons.1 hm with rfl | hm
        · exact hb
        · have:=(List.rel_of_pairwise_cons (List.Pairwise.of_cons two) hm).2.1;omega
  · rw [mkAt_last_suffix s1 hne];exact h.last (fun e=>by subst e;exact hne (by rw [dropM_nil]))
theorem inc_one {seq cap now w least v:Int} {m:Mk} (h:oneP seq cap now w least m) (hc:m.n<cap) (hl:least<=v) (hv : -4096<=v) (hv':v<=4096):oneP (seq+1) cap now w least (inc v m):=by
  obtain ⟨h1,h2,h3,h4,h5,h6,h7,h8,h9,h10⟩:=h;have hn:0<=m.n:=by omega
  refine ⟨h1,by show m.seq<=_;omega,by show m.n+1=seq+1-m.seq+1;omega,by show m.n+1<=cap;omega,h5,h6,by show least<=min m.lo v;omega,by show max m.hi v<=4096;omega,by show min m.lo v<=max m.hi v;omega,?_⟩;exact part_add hn (by omega) (part_wide hn h10 (show min m.lo v<=m.lo by omega) (show m.hi<=max m.hi v by omega)) (part_one hv hv' (show min m.lo v<=v by omega) (show v<=max m.hi v by omega))
theorem inc_two {seq cap now w least v:Int} {a b:Mk} (ha:oneP seq cap now w least a) (hb:oneP seq cap now w least b) (h:twoP a b):twoP (inc v a) (inc v b):=by
  obtain ⟨h1,h2,h3,h4,h5⟩:=h;have na:a.n=seq-a.seq+1:=ha.2.2.1;have nb:b.n=seq-b.seq+1:=hb.2.2.1;refine ⟨h1,h2,by show min a.lo v<=min b.lo v;omega,by show max b.hi v<=max a.hi v;omega,?_⟩;have:=part_wide (lo':=min a.lo v) (hi':=max a.hi v) (by omega) h5 (by omega) (by omega);show partP (a.n+1-(b.n+1)) _ _ (a.s+v-(b.s+v)) (a.q+v*v-(b.q+v*v));rw [show a.n+1-(b.n+1)=a.n-b.n by omega,show a.s+v-(b.s+v)=a.s-b.s by omega,show a.q+v*v-(b.q+v*v)=a.q-b.q by omega];exact this
theorem new_two {seq cap now w least v:Int} {a:Mk} (ha:oneP seq cap now w least a) (hv : -4096<=v) (hv':v<=4096):twoP (inc v a) (newMk (seq+1) now v):=by
  obtain ⟨h1,h2,h3,h4,h5,h6,h7,h8,h9,h10⟩:=ha;have hn:0<=a.n:=by omega
  refine ⟨by show a.seq<seq+1;omega,h6,by show min a.lo v<=v;omega,by show v<=max a.hi v;omega,?_⟩;show partP (a.n+1-1) (min a.lo v) (max a.hi v) (a.s+v-v) (a.q+v*v-v*v);rw [show a.n+1-1=a.n by omega,show a.s+v-v=a.s by omega,show a.q+v*v-v*v=a.q by omega];exact part_wide hn h10 (by omega) (by omega)
theorem VL.incl {l:List Mk} {seq cap now w least v:Int} (h:VL l seq cap now w least) (hs:0<=seq) (hc:∀ m∈l,m.n<cap) (hcap:1<=cap) (hnow:0<=now) (hw:1<=w) (hl:least<=v) (hv : -4096<=v) (hv':v<=4096) :
    VL (incl l (seq+1) now v) (seq+1) cap now w least:=by
  unfold Proofs.YtdipoojjlddohaaGreat.incl
  have on:oneP (seq+1) cap now w least (newMk (seq+1) now v) :=
    ⟨by show 1<=seq+1;omega,Int.le_refl _,by show (1:Int)=_;show (1:Int)=seq+1-(seq+1)+1;omega,hcap,hnow,Int.le_refl _,hl,hv',Int.le_refl _,part_one hv hv' (Int.le_refl _) (Int.le_refl _)⟩
  refine ⟨fun m hm=>?_,?_,fun m hm=>?_,fun a e=>?_,fun _=>?_⟩
  · rcases List.mem_append.1 hm with hm | hm
    · obtain ⟨m,hm2,rfl⟩:=List.mem_map.1 hm;exact inc_one (h.one m hm2) (hc m hm2) hl hv hv'
    · obtain rfl:m=newMk (seq+1) now v:=by simpa using hm
      exact on
  · rw [List.pairwise_append];refine ⟨?_,List.pairwise_singleton _ _,fun a ha b hb=>?_⟩
    · rw [List.pairwise_map];exact List.Pairwise.imp_of_mem (fun ha hb hab=>inc_two (h.one _ ha) (h.one _ hb) hab) h.two
    · obtain ⟨m,hm,rfl⟩:=List.mem_map.1 ha;obtain rfl:b=newMk (seq+1) now v:=by simpa using hb
      exact new_two (h.one m hm) hv hv'
  · cases l with
    | nil=>simp at hm
    | cons a r =>
      simp only [List.map_cons,List.cons_append,List.tail_cons] at hm;rcases List.mem_append.1 hm with hm | hm
      · obtain ⟨m,hm2,rfl⟩:=List.mem_map.1 hm;exact h.live m hm2
      · obtain rfl:m=newMk (seq+1) now v:=by simpa using hm
        show now-w<now;omega
  · cases l with
    | nil =>
      simp at e;rw [<- e];show now-w<now;omega
    | cons b r=>simp at e
  · rw [mkAt_append_right (by simp)];simp only [List.length_append,List.length_map,List.length_cons,List.length_nil];rw [show l.length+(0+1)-1-l.length=0 by omega];exact ⟨rfl,rfl,rfl,rfl⟩
theorem prune_sub (near:Mk->Mk->Bool):∀ (k:Nat) (l:List Mk),l.length<=k->(prune near l).Sublist l
  | 0,l,h=>by
    have:l=[]:=by cases l<;>simp_all
    subst this;rw [prune_nil];exact List.Sublist.refl _
  | k+1,[],_=>by rw [prune_nil];exact List.Sublist.refl _
  | k+1,a :: r,h=>by
    rw [prune_cons];exact ((prune_sub near k _ (by simp at h |-;omega)).trans (List.drop_sublist _ _)).cons_cons a
theorem prune_last (near:Mk->Mk->Bool):∀ (k:Nat) (l:List Mk),l.length<=k->l≠[]->prune near l≠[]/\mkAt (prune near l) ((prune near l).length-1)=mkAt l (l.length-1)
  | 0,l,h,hn=>by
    have:l=[]:=by cases l<;>simp_all
    exact absurd this hn
  | k+1,[],_,hn=>absurd rfl hn
  | k+1,a :: r,h,_=>by
    rw [prune_cons];refine ⟨by simp,?_⟩;cases r with
    | nil=>rw [List.drop_nil,prune_nil]
    | cons b r =>
      have hp:=lastN_le (near a) (b :: r) (by simp)
      have hd:(b :: r).drop (lastN (near a) (b :: r))≠[]:=by
        intro e;have:=congrArg List.length e;rw [List.length_drop,List.length_nil] at this;omega
      obtain ⟨h1,h2⟩:=prune_last near k _ (by simp at h |-;omega) hd;have h3:=mkAt_last_suffix (List.drop_suffix (lastN (near a) (b :: r)) (b :: r)) hd;generalize hg:prune near (List.drop (lastN (near a) (b :: r)) (b :: r))=g at h1 h2;have gl:0<g.length:=List.length_pos_iff.2 h1;obtain ⟨g0,hg0⟩:∃ g0,g.length=g0+1:=⟨g.length-1,by omega⟩
      rw [h3] at h2;simp only [List.length_cons,Nat.add_sub_cancel,hg0] at h2 |-
      rw [mkAt_succ,mkAt_succ];exact h2
theorem VL.prune {l:List Mk} {seq cap now w least:Int} (h:VL l seq cap now w least) (near:Mk->Mk->Bool):VL (prune near l) seq cap now w least:=by
  have sb:=prune_sub near _ l (Nat.le_refl _);refine ⟨fun m hm=>h.one m (sb.subset hm),h.two.sublist sb,fun m hm=>?_,fun a e=>?_,fun hn=>?_⟩
  · cases l with
    | nil=>rw [prune_nil] at hm;simp at hm
    | cons a r =>
      rw [prune_cons] at hm;refine h.live m ?_;simp only [List.tail_cons] at hm |-
      exact ((prune_sub near _ _ (Nat.le_refl _)).trans (List.drop_sublist _ _)).subset hm
  · cases l with
    | nil=>rw [prune_nil] at e;simp at e
    | cons b r =>
      have hl:=(prune_last near _ (b :: r) (Nat.le_refl _) (by simp)).2;rw [e] at hl;have eb:b=a:=by rw [prune_cons] at e;simp at e;exact e.1
      cases r with
      | nil=>subst eb;exact h.alone _ rfl
      | cons c r =>
        have h1:mkAt (b :: c :: r) ((b :: c :: r).length-1)∈(c :: r):=by
          simp only [List.length_cons,Nat.add_sub_cancel];rw [mkAt_succ];exact mkAt_mem (by simp)
        have:=h.live _ h1;rw [<- hl] at this;exact this
  · have hne:l≠[]:=fun e=>by subst e;exact hn (by rw [prune_nil])
    rw [(prune_last near _ l (Nat.le_refl _) hne).2];exact h.last hne
end Go.Proofs.YtdipoojjlddohaaGreat
