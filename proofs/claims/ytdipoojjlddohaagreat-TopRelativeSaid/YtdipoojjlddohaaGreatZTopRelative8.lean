/- What the law TopRelative needs, joined of its texts by a program (slim2.py); part 8. -/
import Derived.Test.YtdipoojjlddohaaGreatZTopRelative1
import Derived.Test.YtdipoojjlddohaaGreatZTopRelative2
import Derived.Test.YtdipoojjlddohaaGreatZTopRelative3
import Derived.Test.YtdipoojjlddohaaGreatZTopRelative4
import Derived.Test.YtdipoojjlddohaaGreatZTopRelative5
import Derived.Test.YtdipoojjlddohaaGreatZTopRelative7
set_option linter.unusedVariables false
set_option linter.unusedSimpArgs false
set_option linter.unusedSectionVars false
set_option linter.unnecessarySimpa false
set_option maxRecDepth 100000
namespace Go.Proofs.YtdipoojjlddohaaGreat
open MC
open MT
open Go.RowKit

def dig (a n:Nat):Int:=((a / 2 ^ n % 2:Nat):Int)
theorem dig_0 (a n:Nat):0<=dig a n:=by unfold dig;omega
theorem dig_1 (a n:Nat):dig a n<=1:=by unfold dig;omega
theorem bit_hi_eq {a:Nat} {n:Int} (ha:a<big) (h:64<=n):bits BinOp.and IntKind.u64 (hi a / 2 ^ (n-64).toNat) 1=dig a n.toNat:=by
  have hb:=hi_word ha
  have e:hi a / 2 ^ (n-64).toNat=((a / 2 ^ n.toNat:Nat):Int):=by
    unfold hi;have e2:(2:Int) ^ (n-64).toNat=((2 ^ (n-64).toNat:Nat):Int):=by simp
    rw [e2,<- Int.natCast_ediv,Nat.div_div_eq_div_mul]
    have e3:18446744073709551616*2 ^ (n-64).toNat=2 ^ n.toNat:=by
      rw [show (18446744073709551616:Nat)=2 ^ 64 from by decide,<- Nat.pow_add];congr 1;omega
    rw [e3]
  have l:0<=hi a / 2 ^ (n-64).toNat:=by rw [e];exact Int.natCast_nonneg _
  have u:hi a / 2 ^ (n-64).toNat<=18446744073709551615:=by
    have:=Int.ediv_le_self (a:=hi a) (2 ^ (n-64).toNat) hb.1;have:=hb.2;omega
  rw [and_one_u64 _ l u,e];unfold dig;omega
theorem bit_lo_eq {a:Nat} {n:Int} (h0:0<=n) (h:n<64):bits BinOp.and IntKind.u64 (lo a / 2 ^ n.toNat) 1=dig a n.toNat:=by
  have hb:=lo_word a;have e2:(2:Int) ^ n.toNat=((2 ^ n.toNat:Nat):Int):=by simp
  have e:lo a / 2 ^ n.toNat=((a % 2 ^ 64 / 2 ^ n.toNat:Nat):Int):=by
    unfold lo;rw [e2,<- Int.natCast_ediv]
  have l:0<=lo a / 2 ^ n.toNat:=by rw [e];exact Int.natCast_nonneg _
  have u:lo a / 2 ^ n.toNat<=18446744073709551615:=by
    have:=Int.ediv_le_self (a:=lo a) (2 ^ n.toNat) hb.1;have:=hb.2;omega
  rw [and_one_u64 _ l u,e];unfold dig;have t:=Nat.testBit_mod_two_pow a 64 n.toNat;rw [Nat.testBit_eq_decide_div_mod_eq,Nat.testBit_eq_decide_div_mod_eq] at t;have hd:decide (n.toNat<64)=true:=by simp;omega
  rw [hd,Bool.true_and,decide_eq_decide] at t;omega

def dbl (r:Nat) (d:Int):Nat:=(2*r+d.toNat) % big
theorem dbl_lt (r:Nat) (d:Int):dbl r d<big:=Nat.mod_lt _ (by unfold big;omega)
theorem or_even {x b:Int} (h0:0<=b) (h1:b<=1):bits BinOp.or IntKind.u64 (IntKind.u64.wrap (x*2)) b=x*2 % 18446744073709551616+b:=by
  have e:IntKind.u64.wrap (x*2)=((2 ^ 1*((x*2 % 18446744073709551616).toNat / 2):Nat):Int):=by rw [IntKind.wrap_u64];omega
  obtain ⟨c,rfl⟩:=Int.eq_ofNat_of_zero_le h0;rw [e,bits_or_u64_nat _ c (by omega) (by omega),<- Nat.two_pow_add_eq_or_of_lt (by omega)];omega
theorem dbl_hi {r:Nat} {d:Int} (hr:r<big) (h0:0<=d) (h1:d<=1):bits BinOp.or IntKind.u64 (IntKind.u64.wrap (hi r*2)) (lo r / 9223372036854775808)=hi (dbl r d):=by
  rw [or_even (by unfold lo;omega) (by unfold lo;omega)];unfold hi lo dbl big at *;omega
theorem dbl_lo {r:Nat} {d:Int} (h0:0<=d) (h1:d<=1):bits BinOp.or IntKind.u64 (IntKind.u64.wrap (lo r*2)) d=lo (dbl r d):=by
  rw [or_even h0 h1];unfold lo dbl big at *;omega
theorem dbl_lo0 (r:Nat):IntKind.u64.wrap (lo r*2)=lo (dbl r 0):=by
  rw [IntKind.wrap_u64];unfold lo dbl big at *;omega
def topd (r:Nat):Int:=hi r / 9223372036854775808
theorem topd_eq (r:Nat):hi r / 9223372036854775808=topd r:=rfl
theorem topd_1 {r:Nat} (h:r<big):topd r=0/\2*r+1<big∨topd r=1/\big<=2*r:=by unfold topd hi big at *;omega
theorem or_one {q:Nat}:bits BinOp.or IntKind.u64 (lo (dbl q 0)) 1=lo (dbl q 1):=by
  rw [<- dbl_lo0,dbl_lo (by omega) (by omega)]
theorem hi_one {q:Nat}:hi (dbl q 0)=hi (dbl q 1):=by unfold hi dbl big;omega
def subw (x b:Nat):Nat:=(x+big-b) % big
theorem subw_lo {x b:Nat} (hx:x<big) (hb:b<big):(lo x-lo b) % 18446744073709551616=lo (subw x b):=by unfold lo subw big at *;omega
theorem subw_hi {x b:Nat} (hx:x<big) (hb:b<big):(hi x-hi b-bor (lo x) (lo b)) % 18446744073709551616=hi (subw x b):=by unfold hi lo subw bor big at *;split<;>omega

def blen (a:Nat):Nat:=if a / 18446744073709551616=0 then Lib.bitLen (a % 18446744073709551616) else 64+Lib.bitLen (a / 18446744073709551616)
theorem bitLen_bound:∀ (f x:Nat),x<2 ^ f->x<2 ^ Lib.bitLenAux f x
  | 0,x,h=>by simpa [Lib.bitLenAux] using h
  | f+1,x,h=>by
    unfold Lib.bitLenAux;by_cases hx:x=0
    · simp [hx]
    · rw [if_neg hx,Nat.add_comm,Nat.pow_succ];have:=bitLen_bound f (x / 2) (by rw [Nat.pow_succ] at h;omega);omega
theorem bitLen_max (x:Nat) (h:x<18446744073709551616):Lib.bitLen x<=64:=Lib.bitLenAux_le 64 x 64 (by simpa using h)
theorem blen_le {a:Nat} (h:a<big):blen a<=128:=by
  unfold blen big at *;have:=bitLen_max (a % 18446744073709551616) (by omega);have:=bitLen_max (a / 18446744073709551616) (by omega);split<;>omega
theorem lt_blen {a:Nat} (h:a<big):a<2 ^ blen a:=by
  unfold blen;unfold big at h;split
  · have:=bitLen_bound 64 (a % 18446744073709551616) (by omega);unfold Lib.bitLen;omega
  · have:=bitLen_bound 64 (a / 18446744073709551616) (by omega);rw [Nat.pow_add];unfold Lib.bitLen;generalize 2 ^ Lib.bitLenAux 64 (a / 18446744073709551616)=z at *;omega

def lenw (x:Int):Int:=Lib.bitLen x.toNat
theorem lenw_0 (x:Int):0<=lenw x:=by unfold lenw;omega
theorem lenw_64 {x:Int} (h:x<18446744073709551616):lenw x<=64:=by have:=bitLen_max x.toNat (by omega);unfold lenw;omega
def blenI (a:Nat):Int:=blen a
theorem blenI_lo {a:Nat} (h:a / 18446744073709551616=0):blenI a=lenw (lo a):=by unfold blenI lenw blen;rw [if_pos h,lo_toNat]
theorem blenI_hi {a:Nat} (h:¬ a / 18446744073709551616=0):blenI a=64+lenw (hi a):=by unfold blenI lenw blen;rw [if_neg h,hi_toNat];omega

def qat (a b k:Nat):Nat:=a / 2 ^ k / b
def rat (a b k:Nat):Nat:=a / 2 ^ k % b
theorem half_step (a k:Nat):a / 2 ^ k=2*(a / 2 ^ (k+1))+(dig a k).toNat:=by
  unfold dig;rw [Nat.pow_succ,<- Nat.div_div_eq_div_mul];omega
theorem qat_le (a b k:Nat):qat a b k<=a:=Nat.le_trans (Nat.div_le_self _ _) (Nat.div_le_self _ _)
theorem rat_lt {a b k:Nat} (hb:b≠0):rat a b k<b:=Nat.mod_lt _ (by omega)
theorem qat_start {a b k:Nat} (h:a<2 ^ k):qat a b k=0:=by unfold qat;rw [Nat.div_eq_of_lt h,Nat.zero_div]
theorem rat_start {a b k:Nat} (h:a<2 ^ k):rat a b k=0:=by unfold rat;rw [Nat.div_eq_of_lt h,Nat.zero_mod]
theorem div_mod_of {x b c d:Nat} (e:x=c*b+d) (h:d<b):x / b=c/\x % b=d:=by
  subst e;rw [Nat.mul_comm,Nat.mul_add_div (by omega),Nat.mul_add_mod,Nat.div_eq_of_lt h,Nat.mod_eq_of_lt h];omega
theorem step_one {a b k:Nat} (ha:a<big) (hb:b≠0) (hbb:b<big) (h:b<=2*rat a b (k+1)+(dig a k).toNat) :
    subw (dbl (rat a b (k+1)) (dig a k)) b=rat a b k/\dbl (qat a b (k+1)) 1=qat a b k:=by
  have hr:=rat_lt (a:=a) (k:=k+1) hb;have hs:=half_step a k;have hd:=dig_1 a k;have hm:=Nat.div_add_mod (a / 2 ^ (k+1)) b
  have hq:a / 2 ^ k / b=2*qat a b (k+1)+1/\a / 2 ^ k % b=2*rat a b (k+1)+(dig a k).toNat-b:=by
    unfold qat rat at *
    have e:a / 2 ^ k=(2*(a / 2 ^ (k+1) / b)+1)*b+(2*(a / 2 ^ (k+1) % b)+(dig a k).toNat-b):=by
      rw [hs,Nat.add_mul,Nat.mul_assoc,Nat.mul_comm (a / 2 ^ (k+1) / b) b];omega
    exact div_mod_of e (by omega)
  have hle:=qat_le a b k;have h1:rat a b k=_:=hq.2;have h2:qat a b k=_:=hq.1;rw [h2] at hle;rw [h1,h2];generalize rat a b (k+1)=r at *;generalize qat a b (k+1)=q at *;generalize dig a k=d at *;clear hq h1 h2 hm hs;unfold subw dbl big at *;omega
theorem step_none {a b k:Nat} (ha:a<big) (hbb:b<big) (h:2*rat a b (k+1)+(dig a k).toNat<b) :
    dbl (rat a b (k+1)) (dig a k)=rat a b k/\dbl (qat a b (k+1)) 0=qat a b k:=by
  have hs:=half_step a k;have hm:=Nat.div_add_mod (a / 2 ^ (k+1)) b
  have hq:a / 2 ^ k / b=2*qat a b (k+1)/\a / 2 ^ k % b=2*rat a b (k+1)+(dig a k).toNat:=by
    unfold qat rat at *
    have e:a / 2 ^ k=(2*(a / 2 ^ (k+1) / b))*b+(2*(a / 2 ^ (k+1) % b)+(dig a k).toNat):=by
      rw [hs,Nat.mul_assoc,Nat.mul_comm (a / 2 ^ (k+1) / b) b];omega
    exact div_mod_of e h
  have hle:=qat_le a b k;have h1:rat a b k=_:=hq.2;have h2:qat a b k=_:=hq.1;rw [h2] at hle;rw [h1,h2];generalize rat a b (k+1)=r at *;generalize qat a b (k+1)=q at *;generalize dig a k=d at *;clear hq h1 h2 hm hs;unfold dbl big at *;omega
theorem takes {a b k:Nat} (hb:b≠0) (hbb:b<big):(topd (rat a b (k+1))=1∨(topd (rat a b (k+1))=0/\b<=dbl (rat a b (k+1)) (dig a k)))/\b<=2*rat a b (k+1)+(dig a k).toNat ∨
    (topd (rat a b (k+1))=0/\dbl (rat a b (k+1)) (dig a k)<b)/\2*rat a b (k+1)+(dig a k).toNat<b:=by
  have hr:=rat_lt (a:=a) (k:=k+1) hb;have hd:=dig_1 a k;have ht:=topd_1 (r:=rat a b (k+1)) (by omega);have e:2*rat a b (k+1)+1<big->dbl (rat a b (k+1)) (dig a k)=2*rat a b (k+1)+(dig a k).toNat:=fun h=>by unfold dbl;rw [Nat.mod_eq_of_lt];omega
  omega
theorem blenI_0 (a:Nat):0<=blenI a:=by unfold blenI;omega
theorem blenI_128 {a:Nat} (h:a<big):blenI a<=128:=by have:=blen_le h;unfold blenI;omega
theorem qat_0 (a b:Nat):qat a b 0=a / b:=by unfold qat;simp
theorem rat_0 (a b:Nat):rat a b 0=a % b:=by unfold rat;simp
theorem hi_0:hi 0=0:=by decide
theorem lo_0:lo 0=0:=by decide
end Go.Proofs.YtdipoojjlddohaaGreat
namespace Go.Proofs.YtdipoojjlddohaaGreat
open MC
open MT
open Go.RowKit Go.Shelf

theorem pbit (a:Nat) (n:Int) (ha:a<big) (h0:0<=n) (h1:n<128) (w:World) :
    Calls Tryz.prog 249 #[W a,n] w (Rr (.int .u64 (dig a n.toNat)) w):=by
  by_cases h:64<=n
  · have E:=bit_hi_eq ha h;obtain ⟨a1,a2⟩:=hi_word ha;go_enter Tryz.func249,Tryz.ntmps249;go_wp2;go_ret;exact ⟨rfl,(Below.refl _ _).alloc (Nat.le_refl _) _⟩
  · have E:=bit_lo_eq (a:=a) h0 (by omega);obtain ⟨a1,a2⟩:=lo_word a;go_enter Tryz.func249,Tryz.ntmps249;go_wp2;go_ret;exact ⟨rfl,(Below.refl _ _).alloc (Nat.le_refl _) _⟩
theorem lenw64 (x:Int) (w:World) (h0:0<=x) (h1:x<18446744073709551616) :
    Calls Tryz.prog 245 #[.int .u64 x] w (Rd (.int .i64 (lenw x)) w):=len64 x w h0 (by omega)
theorem pbits (a:Nat) (ha:a<big) (w:World) :
    Calls Tryz.prog 164 #[W a] w (Rr (.int .i64 (blenI a)) w):=by
  obtain ⟨a1,a2⟩:=hi_word ha;obtain ⟨b1,b2⟩:=lo_word a;by_cases h:a / 18446744073709551616=0
  · have e1:hi a=0:=by unfold hi;omega
    rw [blenI_lo h];clear h;go_enter Tryz.func164,Tryz.ntmps164;go_wp2_with (go_at_call 245;refine (lenw64 (lo a) _ b1 b2).mono ?_;rintro e w' ⟨rfl,rfl⟩);go_ret;exact ⟨rfl,(Below.refl _ _).alloc (Nat.le_refl _) _⟩
  · have e1:(hi a != 0)=true:=by rw [bne_iff_ne];unfold hi;omega
    rw [blenI_hi h];clear h;have e3:=lenw_64 a2;have e4:=lenw_0 (hi a);go_enter Tryz.func164,Tryz.ntmps164;go_wp2_with (go_at_call 245;refine (lenw64 (hi a) _ a1 a2).mono ?_;rintro e w' ⟨rfl,rfl⟩);go_ret;exact ⟨rfl,(Below.refl _ _).alloc (Nat.le_refl _) _⟩
end Go.Proofs.YtdipoojjlddohaaGreat
namespace Go.Proofs.YtdipoojjlddohaaGreat
open MC
open MT
open Go.RowKit
abbrev Wc (n:Nat):Array Value:=#[.int .u64 (hi n), .int .u64 (lo n)]
abbrev WB (w:World) (b n:Nat):Prop:=Row w b 67 (Wc n)
structure DivS (w w':World) (b0 b1 b2 b3 g0 g1 a b q r:Nat):Prop where
  ra:WB w' b0 a
  rb:WB w' b1 b
  r2:Row w' b2 67 #[.int .u64 0, .int .u64 0]
  r3:Row w' b3 67 #[.int .u64 0, .int .u64 0]
  rq:WB w' g0 q
  rr:WB w' g1 r
  n0:b0≠g0
  n1:b1≠g0
  n2:b2≠g0
  n3:b3≠g0
  m0:b0≠g1
  m1:b1≠g1
  m2:b2≠g1
  m3:b3≠g1
  gg:g0≠g1
  old:w.heap.size<=g0
  old1:w.heap.size<=g1
  below:Below w w w'
section
variable {w w' w'':World} {b0 b1 b2 b3 g0 g1 a b q r:Nat}
theorem DivS.drew (h:DivS w w' b0 b1 b2 b3 g0 g1 a b q r):DivS w w'.drew b0 b1 b2 b3 g0 g1 a b q r :=
  { ra:=h.ra,rb:=h.rb,r2:=h.r2,r3:=h.r3,rq:=h.rq,rr:=h.rr,n0:=h.n0,n1:=h.n1,n2:=h.n2,n3:=h.n3,m0:=h.m0,m1:=h.m1,m2:=h.m2,m3:=h.m3,gg:=h.gg,old:=h.old,old1:=h.old1,below:=h.below.drew }
theorem DivS.call (h:DivS w w' b0 b1 b2 b3 g0 g1 a b q r) (k:Below w' w' w''):DivS w w'' b0 b1 b2 b3 g0 g1 a b q r :=
  { ra:=row_call h.ra k,rb:=row_call h.rb k,r2:=row_call h.r2 k,r3:=row_call h.r3 k,rq:=row_call h.rq k,rr:=row_call h.rr k,n0:=h.n0,n1:=h.n1,n2:=h.n2,n3:=h.n3,m0:=h.m0,m1:=h.m1,m2:=h.m2,m3:=h.m3,gg:=h.gg,old:=h.old,old1:=h.old1,below:=h.below.trans (k.mono h.below.size) }
theorem DivS.alloc (h:DivS w w' b0 b1 b2 b3 g0 g1 a b q r) (o:Obj):DivS w (w'.alloc o) b0 b1 b2 b3 g0 g1 a b q r :=
  { ra:=row_alloc h.ra o,rb:=row_alloc h.rb o,r2:=row_alloc h.r2 o,r3:=row_alloc h.r3 o,rq:=row_alloc h.rq o,rr:=row_alloc h.rr o,n0:=h.n0,n1:=h.n1,n2:=h.n2,n3:=h.n3,m0:=h.m0,m1:=h.m1,m2:=h.m2,m3:=h.m3,gg:=h.gg,old:=h.old,old1:=h.old1,below:=h.below.alloc h.below.size o }
theorem DivS.setr (h:DivS w w' b0 b1 b2 b3 g0 g1 a b q r) (r':Nat):DivS w ((w'.setCell ⟨g1,0,none⟩ (.int .u64 (hi r'))).setCell ⟨g1,1,none⟩ (.int .u64 (lo r'))) b0 b1 b2 b3 g0 g1 a b q r' :=
  { ra:=row_two_other h.ra h.m0,rb:=row_two_other h.rb h.m1,r2:=row_two_other h.r2 h.m2,r3:=row_two_other h.r3 h.m3,rq:=row_two_other h.rq h.gg,rr:=row_two_set h.rr,n0:=h.n0,n1:=h.n1,n2:=h.n2,n3:=h.n3,m0:=h.m0,m1:=h.m1,m2:=h.m2,m3:=h.m3,gg:=h.gg,old:=h.old,old1:=h.old1,below:=(h.below.setCell h.old1 _).setCell h.old1 _ }
theorem DivS.setq (h:DivS w w' b0 b1 b2 b3 g0 g1 a b q r) (q':Nat):DivS w ((w'.setCell ⟨g0,0,none⟩ (.int .u64 (hi q'))).setCell ⟨g0,1,none⟩ (.int .u64 (lo q'))) b0 b1 b2 b3 g0 g1 a b q' r :=
  { ra:=row_two_other h.ra h.n0,rb:=row_two_other h.rb h.n1,r2:=row_two_other h.r2 h.n2,r3:=row_two_other h.r3 h.n3,rq:=row_two_set h.rq,rr:=row_two_other h.rr h.gg.symm,n0:=h.n0,n1:=h.n1,n2:=h.n2,n3:=h.n3,m0:=h.m0,m1:=h.m1,m2:=h.m2,m3:=h.m3,gg:=h.gg,old:=h.old,old1:=h.old1,below:=(h.below.setCell h.old _).setCell h.old _ }
theorem DivS.setq1 (h:DivS w w' b0 b1 b2 b3 g0 g1 a b q r) (q':Nat) (e:hi q=hi q'):DivS w (w'.setCell ⟨g0,1,none⟩ (.int .u64 (lo q'))) b0 b1 b2 b3 g0 g1 a b q' r :=
  { ra:=row_other h.ra h.n0 _,rb:=row_other h.rb h.n1 _,r2:=row_other h.r2 h.n2 _,r3:=row_other h.r3 h.n3 _,rq:=(by have x:=row_set h.rq 1 (.int .u64 (lo q'));unfold WB Wc;rw [<- e];exact x),rr:=row_other h.rr h.gg.symm _,n0:=h.n0,n1:=h.n1,n2:=h.n2,n3:=h.n3,m0:=h.m0,m1:=h.m1,m2:=h.m2,m3:=h.m3,gg:=h.gg,old:=h.old,old1:=h.old1,below:=h.below.setCell h.old _ }
end
end Go.Proofs.YtdipoojjlddohaaGreat
namespace Go.Proofs.YtdipoojjlddohaaGreat
open MC
open MT
open Go.RowKit Go.Shelf
set_option maxHeartbeats 4000000 in
theorem pdiv_yes (a b:Nat) (ha:a<big) (hb:b<big) (h:b≠0) (w:World) :
    Calls Tryz.prog 177 #[W a,W b] w (Rr (.tuple #[W (a / b),W (a % b), .bool true]) w):=by
  have hz:decide (b=0)=false:=by simpa using h
  have l0:=blenI_0 a;have l1:=blenI_128 ha;go_enter Tryz.func177,Tryz.ntmps177;go_wp2_with (first | (go_at_call 163;refine (pzero b _).mono ?_;rintro e w1 ⟨rfl,hb1⟩;obtain ⟨hc1,hf1⟩:=bcell hb1;have hz1:=hb1.size;simp at hz1;have q1_0:w.heap.size<w1.heap.size:=(by omega);have q1_1:w.heap.size+1<w1.heap.size:=(by omega);have q1_2:w.heap.size+1+1<w1.heap.size:=(by omega);have q1_3:w.heap.size+1+1+1<w1.heap.size:=(by omega)) | (go_at_call 164;refine (pbits a ha _).mono ?_;rintro e w2 ⟨rfl,hb2⟩;obtain ⟨hc2,hf2⟩:=bcell hb2;have hz2:=hb2.size;simp at hz2;have q2_0:w.heap.size<w2.heap.size:=(by omega);have q2_1:w.heap.size+1<w2.heap.size:=(by omega);have q2_2:w.heap.size+1+1<w2.heap.size:=(by omega);have q2_3:w.heap.size+1+1+1<w2.heap.size:=(by omega);have q2_4:w1.heap.size<w2.heap.size:=(by omega);have q2_5:w1.heap.size+1<w2.heap.size:=(by omega)));have T0:=hi_0;have T1:=lo_0
  have L:DivS w w2 (w.heap.size) (w.heap.size+1) (w.heap.size+1+1) (w.heap.size+1+1+1) (w1.heap.size) (w1.heap.size+1) a b 0 0:=by
    have j0:Row w1 (w.heap.size) 67 (Wc a):=row_call row9 hb1;have j1:Row w1 (w.heap.size+1) 67 (Wc b):=row_call row9 hb1;have j2:Row w1 (w.heap.size+1+1) 67 #[.int .u64 0, .int .u64 0]:=row_call row9 hb1;have j3:Row w1 (w.heap.size+1+1+1) 67 #[.int .u64 0, .int .u64 0]:=row_call row9 hb1;have o2:Below w w w2:=bel9;refine ⟨row_call row9 hb2,row_call row9 hb2,row_call row9 hb2,row_call row9 hb2,row_call (w:=(w1.alloc (.cells #[.int .u64 0, .int .u64 0] 67)).alloc (.cells #[.int .u64 0, .int .u64 0] 67)) ?_ hb2,row_call (w:=(w1.alloc (.cells #[.int .u64 0, .int .u64 0] 67)).alloc (.cells #[.int .u64 0, .int .u64 0] 67)) ?_ hb2,by omega,by omega,by omega,by omega,by omega,by omega,by omega,by omega,by omega,by omega,by omega,o2⟩
    · rw [Wc,T0,T1];(exact row9)
    · rw [Wc,T0,T1];(exact row9)
  clear T0 T1 hc1 hf1 hc2 hf2 hb1 hb2;go_loopw [9] (fun i wr=>∃ n:Nat,n<=blen a/\i = .int .i64 ((n:Int)-1)/\DivS w wr (w.heap.size) (w.heap.size+1) (w.heap.size+1+1) (w.heap.size+1+1+1) (w1.heap.size) (w1.heap.size+1) a b (qat a b n) (rat a b n)) (fun i _=>(intOf i+1).toNat)
  case atStart =>
    refine ⟨blen a,Nat.le_refl _,rfl,?_⟩;rw [qat_start (lt_blen ha),rat_start (lt_blen ha)];exact L
  case round =>
    clear L;obtain ⟨n,hn,rfl,L⟩:=hrel;rcases n with _ | k
    · rw [qat_0,rat_0] at L;obtain ⟨A0,A1,_,_⟩:=row_two L.ra;obtain ⟨B0,B1,_,_⟩:=row_two L.rb;obtain ⟨Q0,Q1,U0,U1⟩:=row_two L.rq;obtain ⟨R0,R1,V0,V1⟩:=row_two L.rr;obtain ⟨Z0,Z1,Z2,Z3⟩:=row_two L.r2;obtain ⟨Y0,Y1,Y2,Y3⟩:=row_two L.r3;have hx:=L.below;go_wp2
      go_region
      go_wp2;simp [bodyPost,results,Tryz.results177,go_sem,Z0,Z1,Y0,Y1];(exact bel9)
    · have ei:(((k+1:Nat):Int)-1)=(k:Int):=by omega
      have C:=pbit a k ha (by omega) (by have:=blen_le ha;omega);rw [Int.toNat_natCast] at C;rw [ei];have hk:k<128:=by have:=blen_le ha;omega
      have D0:=dig_0 a k;have D1:=dig_1 a k;have hrb:rat a b (k+1)<big:=Nat.lt_trans (rat_lt h) hb;have hkn:k<=blen a:=by omega
      have hqb:qat a b (k+1)<big:=Nat.lt_of_le_of_lt (qat_le a b (k+1)) ha;have HT:=Lib.hid (takes (a:=a) (k:=k) h hb);have HE1:=Lib.hid (fun hge=>step_one (k:=k) ha h hb hge);have HE0:=Lib.hid (fun hlt=>step_none (b:=b) (k:=k) ha hb hlt);generalize rat a b (k+1)=r at *;generalize qat a b (k+1)=q at *;have F1:=dbl_hi hrb D0 D1;have F2:=dbl_lo (r:=r) D0 D1;have F3:=topd_eq r;have F4:=dbl_hi (d:=0) hqb (by omega) (by omega);have F5:=dbl_lo0 q;have HC:=Lib.hid C;clear ei C;obtain ⟨A0,A1,_,_⟩:=row_two L.ra;obtain ⟨B0,B1,_,_⟩:=row_two L.rb;obtain ⟨Q0,Q1,U0,U1⟩:=row_two L.rq;obtain ⟨R0,R1,V0,V1⟩:=row_two L.rr;go_upto_region 8 with (fail)
      refine wp_region_det 15 (fun w'=>DivS w w' (w.heap.size) (w.heap.size+1) (w.heap.size+1+1) (w.heap.size+1+1+1) (w1.heap.size) (w1.heap.size+1) a b q r) (by kernel_rfl) (by kernel_rfl) L.drew ?_;simp only [List.take_succ_cons,List.take_zero,List.drop_succ_cons,List.drop_zero];clear A0 A1 B0 B1 Q0 Q1 U0 U1 R0 R1 V0 V1;repeat (first | refine wpDet_nil ?_ | (refine wpDet_val ?_ rfl (fun w' hS=>?_) ?_;rotate_left;(obtain ⟨A0,A1,_,_⟩:=row_two hS.ra;obtain ⟨B0,B1,_,_⟩:=row_two hS.rb;obtain ⟨Q0,Q1,U0,U1⟩:=row_two hS.rq;obtain ⟨R0,R1,V0,V1⟩:=row_two hS.rr;go_simp;try with_reducible rfl);simp only [put9]))
      refine wpDet_call (.int .u64 (dig a k)) 249 #[W a,k] rfl (fun w' hS=>by go_simp) (fun w' hS=>(HC.out w').mono fun e w'' ⟨he,hb⟩=>⟨he,hS.call hb⟩) ?_;simp only [put9];repeat (first | refine wpDet_nil ?_ | (refine wpDet_val ?_ rfl (fun w' hS=>?_) ?_;rotate_left;(obtain ⟨A0,A1,_,_⟩:=row_two hS.ra;obtain ⟨B0,B1,_,_⟩:=row_two hS.rb;obtain ⟨Q0,Q1,U0,U1⟩:=row_two hS.rq;obtain ⟨R0,R1,V0,V1⟩:=row_two hS.rr;go_simp;try with_reducible rfl);simp only [put9]))
      intro w3 L3;clear L;obtain ⟨A0,A1,_,_⟩:=row_two L3.ra;obtain ⟨B0,B1,_,_⟩:=row_two L3.rb;obtain ⟨Q0,Q1,U0,U1⟩:=row_two L3.rq;obtain ⟨R0,R1,V0,V1⟩:=row_two L3.rr;go_upto_region 9 with (fail)
      clear A0 A1 B0 B1 Q0 Q1 U0 U1 R0 R1 V0 V1;have L4:=L3.setr (dbl r (dig a k));generalize (w3.setCell ⟨w1.heap.size+1,0,none⟩ (.int .u64 (hi (dbl r (dig a k))))).setCell ⟨w1.heap.size+1,1,none⟩ (.int .u64 (lo (dbl r (dig a k))))=w4 at L4 |-
      clear L3;obtain ⟨A0,A1,_,_⟩:=row_two L4.ra;obtain ⟨B0,B1,_,_⟩:=row_two L4.rb;obtain ⟨Q0,Q1,U0,U1⟩:=row_two L4.rq;obtain ⟨R0,R1,V0,V1⟩:=row_two L4.rr;go_upto_region 10 with (fail)
      clear A0 A1 B0 B1 Q0 Q1 U0 U1 R0 R1 V0 V1 F1 F2 F4;have L5:=L4.setq (dbl q 0);generalize (w4.setCell ⟨w1,0,none⟩ (.int .u64 (hi (dbl q 0)))).setCell ⟨w1,1,none⟩ (.int .u64 (lo (dbl q 0)))=w5 at L5 |-
      clear L4 F3 F5;have hxb:=dbl_lt r (dig a k);generalize dbl r (dig a k)=x at *;obtain ⟨A0,A1,_,_⟩:=row_two L5.ra;obtain ⟨B0,B1,_,_⟩:=row_two L5.rb;obtain ⟨Q0,Q1,U0,U1⟩:=row_two L5.rq;obtain ⟨R0,R1,V0,V1⟩:=row_two L5.rr;have KK:{x0:Nat // x0=0}:=⟨0,rfl⟩
      clear KK;have S1:=subw_lo hxb hb;have S2:=subw_hi hxb hb;have S5:=@or_one q;obtain ⟨e1,e2⟩:=hi_word hxb;obtain ⟨e3,e4⟩:=lo_word x;obtain ⟨e5,e6⟩:=hi_word hb;obtain ⟨e7,e8⟩:=lo_word b;have S3:=bor_0 (lo x) (lo b);have S4:=bor_1 (lo x) (lo b);have CM:=Lib.hid (fun w'=>pcmp_any x b w');rcases HT.out with ⟨ht,hge⟩ | ⟨⟨ht,hlt⟩,hnb⟩
      · obtain ⟨E1,E2⟩:=HE1.out hge;have G1:=Lib.hid E1;have G2:=Lib.hid E2;clear E1 E2 hge HE1 HE0 HT;rcases ht with ht | ⟨ht,hle⟩
        · go_upto_region 11 with (fail)
          go_upto_region 13 with (first | simp only [sub64_0 (lo x) (lo b) e3 e7 e8] | simp only [sub64 (hi x) (hi b) _ e1 e5 e6 S3 S4])
          clear A0 A1 B0 B1 Q0 Q1 U0 U1 R0 R1 V0 V1;obtain ⟨A0,A1,_,_⟩:=row_two L5.ra;obtain ⟨B0,B1,_,_⟩:=row_two L5.rb;obtain ⟨Q0,Q1,U0,U1⟩:=row_two L5.rq;obtain ⟨R0,R1,V0,V1⟩:=row_two L5.rr;go_upto_region 14 with (fail)
          have L7:=L5.setr (subw x b);generalize (w5.setCell ⟨w1.heap.size+1,0,none⟩ (.int .u64 (hi (subw x b)))).setCell ⟨w1.heap.size+1,1,none⟩ (.int .u64 (lo (subw x b)))=w7 at L7 |-
          clear L5 A0 A1 B0 B1 Q0 Q1 U0 U1 R0 R1 V0 V1 S1 S2 S3 S4;obtain ⟨A0,A1,_,_⟩:=row_two L7.ra;obtain ⟨B0,B1,_,_⟩:=row_two L7.rb;obtain ⟨Q0,Q1,U0,U1⟩:=row_two L7.rq;obtain ⟨R0,R1,V0,V1⟩:=row_two L7.rr;go_upto_region 6 with (fail)
          have L8:=L7.setq1 (dbl q 1) hi_one;rw [G1.out,G2.out] at L8;generalize hw8:w7.setCell ⟨w1,1,none⟩ (.int .u64 (lo (dbl q 1)))=w8 at *;rw [G2.out] at hw8;rw [hw8] at L8;clear L7 A0 A1 B0 B1 Q0 Q1 U0 U1 R0 R1 V0 V1 hw8;go_wp2;go_roundw
          case rel=>exact ⟨k,hkn,by go_num,L8⟩
          case measure=>first | (simp [intOf];done) | (simp [intOf];omega)
        · have hcm:¬ cmp x b<0:=by have:=cmp_nonneg hle;omega
          go_upto_region 11 with ((go_at_call 235;refine (CM.out _).mono ?_;rintro e w6 ⟨rfl,hb6⟩))
          have L6:=L5.call hb6;clear L5 A0 A1 B0 B1 Q0 Q1 U0 U1 R0 R1 V0 V1 hb6;obtain ⟨w5,rfl⟩:∃ x:World,x=w6:=⟨_,rfl⟩
          have L5:=L6;clear L6;obtain ⟨A0,A1,_,_⟩:=row_two L5.ra;obtain ⟨B0,B1,_,_⟩:=row_two L5.rb;obtain ⟨Q0,Q1,U0,U1⟩:=row_two L5.rq;obtain ⟨R0,R1,V0,V1⟩:=row_two L5.rr;go_upto_region 13 with (first | simp only [sub64_0 (lo x) (lo b) e3 e7 e8] | simp only [sub64 (hi x) (hi b) _ e1 e5 e6 S3 S4])
          clear A0 A1 B0 B1 Q0 Q1 U0 U1 R0 R1 V0 V1;obtain ⟨A0,A1,_,_⟩:=row_two L5.ra;obtain ⟨B0,B1,_,_⟩:=row_two L5.rb;obtain ⟨Q0,Q1,U0,U1⟩:=row_two L5.rq;obtain ⟨R0,R1,V0,V1⟩:=row_two L5.rr;go_upto_region 14 with (fail)
          have L7:=L5.setr (subw x b);generalize (w5.setCell ⟨w1.heap.size+1,0,none⟩ (.int .u64 (hi (subw x b)))).setCell ⟨w1.heap.size+1,1,none⟩ (.int .u64 (lo (subw x b)))=w7 at L7 |-
          clear L5 A0 A1 B0 B1 Q0 Q1 U0 U1 R0 R1 V0 V1 S1 S2 S3 S4;obtain ⟨A0,A1,_,_⟩:=row_two L7.ra;obtain ⟨B0,B1,_,_⟩:=row_two L7.rb;obtain ⟨Q0,Q1,U0,U1⟩:=row_two L7.rq;obtain ⟨R0,R1,V0,V1⟩:=row_two L7.rr;go_upto_region 6 with (fail)
          have L8:=L7.setq1 (dbl q 1) hi_one;rw [G1.out,G2.out] at L8;generalize hw8:w7.setCell ⟨w1,1,none⟩ (.int .u64 (lo (dbl q 1)))=w8 at *;rw [G2.out] at hw8;rw [hw8] at L8;clear L7 A0 A1 B0 B1 Q0 Q1 U0 U1 R0 R1 V0 V1 hw8;go_wp2;go_roundw
          case rel=>exact ⟨k,hkn,by go_num,L8⟩
          case measure=>first | (simp [intOf];done) | (simp [intOf];omega)
      · have G3:=Lib.hid (HE0.out hnb);have CL:=CM.out;rw [cmp_lt hlt] at CL;have CM:=Lib.hid CL;clear CL;clear HE1 HE0 HT hnb hlt;go_upto_region 6 with ((go_at_call 235;refine (CM.out _).mono ?_;rintro e w6 ⟨rfl,hb6⟩))
        have L6:=L5.call hb6;rw [G3.out.1,G3.out.2] at L6;clear L5 A0 A1 B0 B1 Q0 Q1 U0 U1 R0 R1 V0 V1 hb6;go_wp2;go_roundw
        case rel=>exact ⟨k,hkn,by go_num,L6⟩
        case measure=>first | (simp [intOf];done) | (simp [intOf];omega)
theorem run_eql_zero {b:Nat} (h:b≠0) (w':World):(binOp .eql 67 (.agg #[.int .u64 (hi b), .int .u64 (lo b)]) (.agg #[.int .u64 0, .int .u64 0])).run Tryz.prog w' = .ok (.bool false) w':=by
  go_simp;exact fun h1 h2=>h (hi_inj (b:=0) h1 h2)
def GcdS (w w':World) (a b x y:Nat):Prop:=x<big/\y<big/\Nat.gcd x y=Nat.gcd a b/\Row w' (w.heap.size) 67 (Wc x)/\Row w' (w.heap.size+1) 67 (Wc y)/\Row w' (w.heap.size+1+1) 67 #[.int .u64 0, .int .u64 0]/\Below w w w'
theorem GcdS.call {w w' w'':World} {a b x y:Nat} (h:GcdS w w' a b x y) (k:Below w' w' w''):GcdS w w'' a b x y :=
  ⟨h.1,h.2.1,h.2.2.1,row_call h.2.2.2.1 k,row_call h.2.2.2.2.1 k,row_call h.2.2.2.2.2.1 k,h.2.2.2.2.2.2.trans (k.mono h.2.2.2.2.2.2.size)⟩
theorem GcdS.drew {w w':World} {a b x y:Nat} (h:GcdS w w' a b x y):GcdS w w'.drew a b x y:=⟨h.1,h.2.1,h.2.2.1,h.2.2.2.1,h.2.2.2.2.1,h.2.2.2.2.2.1,h.2.2.2.2.2.2.drew⟩
theorem GcdS.step {w w':World} {a b x y:Nat} (h:GcdS w w' a b x y) (hy:y≠0):GcdS w ((((w'.setCell ⟨w,0,none⟩ (.int .u64 (hi y))).setCell ⟨w,1,none⟩ (.int .u64 (lo y))).setCell ⟨w.heap.size+1,0,none⟩ (.int .u64 (hi (x % y)))).setCell ⟨w.heap.size+1,1,none⟩ (.int .u64 (lo (x % y)))) a b y (x % y):=by
  obtain ⟨h1,h2,h3,h4,h5,h6,h7⟩:=h;refine ⟨h2,Nat.lt_trans (Nat.mod_lt _ (by omega)) h2,?_,row_two_other (row_two_set h4) (by omega),row_two_set (row_two_other h5 (by omega)),row_two_other (row_two_other h6 (by omega)) (by omega),?_⟩
  · rw [<- h3,Nat.gcd_comm x y,Nat.gcd_rec y x,Nat.gcd_comm]
  · exact (((h7.setCell (by simp) _).setCell (by simp) _).setCell (by simp) _).setCell (by simp) _
set_option maxHeartbeats 2000000 in
theorem pgcd (a b:Nat) (ha:a<big) (hb:b<big) (w:World) :
    Calls Tryz.prog 154 #[W a,W b] w (Rr (W (Nat.gcd a b)) w):=by
  go_enter Tryz.func154,Tryz.ntmps154;go_wp2_with fail
  have L:GcdS w (((w.alloc (.cells (Wc a) 67)).alloc (.cells (Wc b) 67)).alloc (.cells #[.int .u64 0, .int .u64 0] 67)) a b a b:=by
    refine ⟨ha,hb,rfl,?_,?_,?_,?_⟩
    · (exact row9)
    · (exact row9)
    · (exact row9)
    · (exact bel9)
  generalize (((w.alloc (.cells (Wc a) 67)).alloc (.cells (Wc b) 67)).alloc (.cells #[.int .u64 0, .int .u64 0] 67))=w2 at L |-
  go_loopg [] b (fun y wr=>∃ x,GcdS w wr a b x y)
  case atStart=>exact ⟨a,L⟩
  case round =>
    clear L;obtain ⟨x,L⟩:=hrel;have hx:=L.1;have hy:=L.2.1;have HG:=Lib.hid L.2.2.1;by_cases h0:gk=0
    · subst h0;have L1:=L.2.2.2;obtain ⟨A00,A01,A02,A03⟩:=row_two L1.1;obtain ⟨A10,A11,A12,A13⟩:=row_two L1.2.1;obtain ⟨A20,A21,A22,A23⟩:=row_two L1.2.2.1;go_upto_region 4 with (go_at_call 163;refine (pzero 0 _).mono ?_;rintro e w2 ⟨rfl,hb2⟩;obtain ⟨hc2,hf2⟩:=bcell hb2;have hz2:=hb2.size;(try simp at hz2))
      have M0:=row_call L1.1 hb2;have M2:=row_call L1.2.2.1 hb2;have B2:=L1.2.2.2.trans (hb2.mono L1.2.2.2.size);obtain ⟨C0,C1,_,_⟩:=row_two M0;obtain ⟨D0,D1,D2,D3⟩:=row_two M2;have e:Nat.gcd a b=x:=by rw [<- HG.out,Nat.gcd_zero_right]
      clear L L1 A00 A01 A02 A03 A10 A11 A12 A13 A20 A21 A22 A23 hb2 hc2 hf2;go_wp2;simp [bodyPost,results,Tryz.results154,go_sem,D0,D1,e];(exact bel9)
    · have hz:decide (gk=0)=false:=by simpa using h0
      have hq:=run_eql_zero h0;have L1:=L.2.2.2;obtain ⟨A00,A01,A02,A03⟩:=row_two L1.1;obtain ⟨A10,A11,A12,A13⟩:=row_two L1.2.1;obtain ⟨A20,A21,A22,A23⟩:=row_two L1.2.2.1;go_upto_region 2 with (go_at_call 163;refine (pzero gk _).mono ?_;rintro e w2 ⟨rfl,hb2⟩;obtain ⟨hc2,hf2⟩:=bcell hb2;have hz2:=hb2.size;(try simp at hz2))
      have L3:=L.call hb2;clear L L1 A00 A01 A02 A03 A10 A11 A12 A13 A20 A21 A22 A23 hb2 hc2 hf2 hz2;have L1:=L3.2.2.2;obtain ⟨A00,A01,A02,A03⟩:=row_two L1.1;obtain ⟨A10,A11,A12,A13⟩:=row_two L1.2.1;obtain ⟨A20,A21,A22,A23⟩:=row_two L1.2.2.1;clear hq hz;have HD:=Lib.hid (fun w'=>pdiv_yes x gk hx hy h0 w');go_wp2_with fail;refine (HD.out _).mono ?_;rintro e w4 ⟨rfl,hb4⟩;have L4:=L3.call hb4;clear L3 L1 A00 A01 A02 A03 A10 A11 A12 A13 A20 A21 A22 A23 hb4;have L1:=L4.2.2.2;obtain ⟨A00,A01,A02,A03⟩:=row_two L1.1;obtain ⟨A10,A11,A12,A13⟩:=row_two L1.2.1;obtain ⟨A20,A21,A22,A23⟩:=row_two L1.2.2.1;have s4:=row_lt L1.2.2.1
      have L5:GcdS w ((w4.alloc (.cells (Wc (x / gk)) 67)).alloc (.cells (Wc (x % gk)) 67)) a b x gk :=
        ⟨L4.1,L4.2.1,L4.2.2.1,row_alloc (row_alloc L1.1 _) _,row_alloc (row_alloc L1.2.1 _) _,row_alloc (row_alloc L1.2.2.1 _) _,(L1.2.2.2.alloc (by omega) _).alloc (by simp;omega) _⟩
      have N0:Row ((w4.alloc (.cells (Wc (x / gk)) 67)).alloc (.cells (Wc (x % gk)) 67)) (w4.heap.size+1) 67 (Wc (x % gk)):=row9;go_upto_region 3 with (fail)
      clear L4 L1 A00 A01 A02 A03 A10 A11 A12 A13 A20 A21 A22 A23;generalize ((w4.alloc (.cells (Wc (x / gk)) 67)).alloc (.cells (Wc (x % gk)) 67))=w5 at L5 N0 |-
      have L1:=L5.2.2.2;obtain ⟨A00,A01,A02,A03⟩:=row_two L1.1;obtain ⟨A10,A11,A12,A13⟩:=row_two L1.2.1;obtain ⟨A20,A21,A22,A23⟩:=row_two L1.2.2.1;obtain ⟨C0,C1,_,_⟩:=row_two N0;have L6:=L5.step h0
      go_region
      have L7:=L6.drew;clear L6 L5 N0 L1 A00 A01 A02 A03 A10 A11 A12 A13 A20 A21 A22 A23 C0 C1;generalize ((((w5.setCell ⟨w,0,none⟩ (.int .u64 (hi gk))).setCell ⟨w,1,none⟩ (.int .u64 (lo gk))).setCell ⟨w.heap.size+1,0,none⟩ (.int .u64 (hi (x % gk)))).setCell ⟨w.heap.size+1,1,none⟩ (.int .u64 (lo (x % gk)))).drew=w7 at L7 |-
      go_wp2
      go_roundg (x % gk)
      case measure=>exact Nat.mod_lt _ (by omega)
      case rel=>exact ⟨gk,L7⟩
theorem ret_i64 {k:IntKind} {a b:Int} (h:a=b):Ending.returned (.int k a) = .returned (.int k b):=by rw [h]
theorem ret_bool {a b:Bool} (h:a=b):Ending.returned (.bool a) = .returned (.bool b):=by rw [h]
theorem pright_0 (sq tk n s q lw hg:Int) (w:World)  (h:n<1):Calls Tryz.prog 232 #[.agg (J1 sq tk n s q lw hg)] w (Rr (.bool false) w):=by
  go_enter Tryz.func232,Tryz.ntmps232;go_wp2;go_ret;exact ⟨by first | rfl | exact ret_bool (by simp;omega),bel9⟩
theorem pright_1 (sq tk n s q lw hg:Int) (w:World) (h0:1<=n) (h:65536<n):Calls Tryz.prog 232 #[.agg (J1 sq tk n s q lw hg)] w (Rr (.bool false) w):=by
  go_enter Tryz.func232,Tryz.ntmps232;go_wp2;go_ret;exact ⟨by first | rfl | exact ret_bool (by simp;omega),bel9⟩
theorem pright_2 (sq tk n s q lw hg:Int) (w:World) (h0:1<=n) (h1:n<=65536) (h:s < -n*4096):Calls Tryz.prog 232 #[.agg (J1 sq tk n s q lw hg)] w (Rr (.bool false) w):=by
  have wn:IntKind.i64.wrap (-n) = -n:=IntWalk.i64_in _ (by omega);have wnm:IntKind.i64.wrap (-n*4096) = -n*4096:=IntWalk.i64_in _ (by omega);have wn2:IntKind.i64.wrap (n*4096)=n*4096:=IntWalk.i64_in _ (by omega);have wn3:IntKind.i64.wrap (n*4096*4096)=n*4096*4096:=IntWalk.i64_in _ (by omega);go_enter Tryz.func232,Tryz.ntmps232;go_wp2;go_ret;exact ⟨by first | rfl | exact ret_bool (by simp;omega),bel9⟩
theorem pright_3 (sq tk n s q lw hg:Int) (w:World) (h0:1<=n) (h1:n<=65536) (h2 : -n*4096<=s) (h:n*4096<s):Calls Tryz.prog 232 #[.agg (J1 sq tk n s q lw hg)] w (Rr (.bool false) w):=by
  have wn:IntKind.i64.wrap (-n) = -n:=IntWalk.i64_in _ (by omega);have wnm:IntKind.i64.wrap (-n*4096) = -n*4096:=IntWalk.i64_in _ (by omega);have wn2:IntKind.i64.wrap (n*4096)=n*4096:=IntWalk.i64_in _ (by omega);have wn3:IntKind.i64.wrap (n*4096*4096)=n*4096*4096:=IntWalk.i64_in _ (by omega);go_enter Tryz.func232,Tryz.ntmps232;go_wp2;go_ret;exact ⟨by first | rfl | exact ret_bool (by simp;omega),bel9⟩
theorem pright_4 (sq tk n s q lw hg:Int) (w:World) (h0:1<=n) (h1:n<=65536) (h2 : -n*4096<=s) (h3:s<=n*4096) (h:q<0):Calls Tryz.prog 232 #[.agg (J1 sq tk n s q lw hg)] w (Rr (.bool false) w):=by
  have wn:IntKind.i64.wrap (-n) = -n:=IntWalk.i64_in _ (by omega);have wnm:IntKind.i64.wrap (-n*4096) = -n*4096:=IntWalk.i64_in _ (by omega);have wn2:IntKind.i64.wrap (n*4096)=n*4096:=IntWalk.i64_in _ (by omega);have wn3:IntKind.i64.wrap (n*4096*4096)=n*4096*4096:=IntWalk.i64_in _ (by omega);go_enter Tryz.func232,Tryz.ntmps232;go_wp2;go_ret;exact ⟨by first | rfl | exact ret_bool (by simp;omega),bel9⟩
theorem pright_5 (sq tk n s q lw hg:Int) (w:World) (h0:1<=n) (h1:n<=65536) (h2 : -n*4096<=s) (h3:s<=n*4096) (h4:0<=q) (h:n*4096*4096<q):Calls Tryz.prog 232 #[.agg (J1 sq tk n s q lw hg)] w (Rr (.bool false) w):=by
  have wn:IntKind.i64.wrap (-n) = -n:=IntWalk.i64_in _ (by omega);have wnm:IntKind.i64.wrap (-n*4096) = -n*4096:=IntWalk.i64_in _ (by omega);have wn2:IntKind.i64.wrap (n*4096)=n*4096:=IntWalk.i64_in _ (by omega);have wn3:IntKind.i64.wrap (n*4096*4096)=n*4096*4096:=IntWalk.i64_in _ (by omega);go_enter Tryz.func232,Tryz.ntmps232;go_wp2;go_ret;exact ⟨by first | rfl | exact ret_bool (by simp;omega),bel9⟩
theorem pright_6 (sq tk n s q lw hg:Int) (w:World) (h0:1<=n) (h1:n<=65536) (h2 : -n*4096<=s) (h3:s<=n*4096) (h4:0<=q) (h5:q<=n*4096*4096) (h:n*q<s*s):Calls Tryz.prog 232 #[.agg (J1 sq tk n s q lw hg)] w (Rr (.bool false) w):=by
  have wn:IntKind.i64.wrap (-n) = -n:=IntWalk.i64_in _ (by omega);have wnm:IntKind.i64.wrap (-n*4096) = -n*4096:=IntWalk.i64_in _ (by omega);have wn2:IntKind.i64.wrap (n*4096)=n*4096:=IntWalk.i64_in _ (by omega);have wn3:IntKind.i64.wrap (n*4096*4096)=n*4096*4096:=IntWalk.i64_in _ (by omega);have b1:=sq_small h0 h1 h2 h3;have b2:=nq_small h0 h1 h4 h5;have wss:IntKind.i64.wrap (s*s)=s*s:=IntWalk.i64_in _ (by omega);have wnq:IntKind.i64.wrap (n*q)=n*q:=IntWalk.i64_in _ (by omega);go_enter Tryz.func232,Tryz.ntmps232;go_wp2;go_ret;exact ⟨by first | rfl | exact ret_bool (decide_eq_false (Int.not_le.2 h)) | exact ret_bool (by simp [h0,h1,h2,h3,h4,h5,h]) | exact ret_bool (by simp;omega),bel9⟩
theorem pright_7 (sq tk n s q lw hg:Int) (w:World) (h0:1<=n) (h1:n<=65536) (h2 : -n*4096<=s) (h3:s<=n*4096) (h4:0<=q) (h5:q<=n*4096*4096) (h6:s*s<=n*q):Calls Tryz.prog 232 #[.agg (J1 sq tk n s q lw hg)] w (Rr (.bool true) w):=by
  have wn:IntKind.i64.wrap (-n) = -n:=IntWalk.i64_in _ (by omega);have wnm:IntKind.i64.wrap (-n*4096) = -n*4096:=IntWalk.i64_in _ (by omega);have wn2:IntKind.i64.wrap (n*4096)=n*4096:=IntWalk.i64_in _ (by omega);have wn3:IntKind.i64.wrap (n*4096*4096)=n*4096*4096:=IntWalk.i64_in _ (by omega);have b1:=sq_small h0 h1 h2 h3;have b2:=nq_small h0 h1 h4 h5;have wss:IntKind.i64.wrap (s*s)=s*s:=IntWalk.i64_in _ (by omega);have wnq:IntKind.i64.wrap (n*q)=n*q:=IntWalk.i64_in _ (by omega);go_enter Tryz.func232,Tryz.ntmps232;go_wp2;go_ret;exact ⟨by first | rfl | exact ret_bool (decide_eq_true h6) | exact ret_bool (by simp [h0,h1,h2,h3,h4,h5,h6]) | exact ret_bool (by simp;omega),bel9⟩
theorem pright (sq tk n s q lw hg:Int) (w:World):Calls Tryz.prog 232 #[.agg (J1 sq tk n s q lw hg)] w (Rr (.bool (decide (rightP n s q))) w):=by
  by_cases h0:1<=n
  · skip
    by_cases h1:n<=65536
    · skip
      by_cases h2 : -n*4096<=s
      · skip
        by_cases h3:s<=n*4096
        · skip
          by_cases h4:0<=q
          · skip
            by_cases h5:q<=n*4096*4096
            · skip
              by_cases h6:s*s<=n*q
              · skip
                rw [show decide (rightP n s q)=true from decide_eq_true ⟨h0,h1,h2,h3,h4,h5,h6⟩];exact pright_7 sq tk n s q lw hg w h0 h1 h2 h3 h4 h5 h6
              · rw [show decide (rightP n s q)=false from decide_eq_false (fun a=>h6 a.2.2.2.2.2.2)];exact pright_6 sq tk n s q lw hg w h0 h1 h2 h3 h4 h5 (Int.not_le.1 h6)
            · rw [show decide (rightP n s q)=false from decide_eq_false (fun a=>h5 a.2.2.2.2.2.1)];exact pright_5 sq tk n s q lw hg w h0 h1 h2 h3 h4 (Int.not_le.1 h5)
          · rw [show decide (rightP n s q)=false from decide_eq_false (fun a=>h4 a.2.2.2.2.1)];exact pright_4 sq tk n s q lw hg w h0 h1 h2 h3 (Int.not_le.1 h4)
        · rw [show decide (rightP n s q)=false from decide_eq_false (fun a=>h3 a.2.2.2.1)];exact pright_3 sq tk n s q lw hg w h0 h1 h2 (Int.not_le.1 h3)
      · rw [show decide (rightP n s q)=false from decide_eq_false (fun a=>h2 a.2.2.1)];exact pright_2 sq tk n s q lw hg w h0 h1 (Int.not_le.1 h2)
    · rw [show decide (rightP n s q)=false from decide_eq_false (fun a=>h1 a.2.1)];exact pright_1 sq tk n s q lw hg w h0 (Int.not_le.1 h1)
  · rw [show decide (rightP n s q)=false from decide_eq_false (fun a=>h0 a.1)];exact pright_0 sq tk n s q lw hg w  (Int.not_le.1 h0)
end Go.Proofs.YtdipoojjlddohaaGreat
