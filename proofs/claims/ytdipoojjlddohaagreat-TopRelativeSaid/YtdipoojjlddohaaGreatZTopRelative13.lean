/- What the law TopRelative needs, joined of its texts by a program (slim2.py); part 13. -/
import Derived.Test.YtdipoojjlddohaaGreatZTopRelative1
import Derived.Test.YtdipoojjlddohaaGreatZTopRelative4
import Derived.Test.YtdipoojjlddohaaGreatZTopRelative5
import Derived.Test.YtdipoojjlddohaaGreatZTopRelative7
import Derived.Test.YtdipoojjlddohaaGreatZTopRelative8
import Derived.Test.YtdipoojjlddohaaGreatZTopRelative12
set_option linter.unusedVariables false
set_option linter.unusedSimpArgs false
set_option linter.unusedSectionVars false
set_option linter.unnecessarySimpa false
set_option maxRecDepth 100000
namespace Go.Proofs.YtdipoojjlddohaaGreat
open MC
open MT
open Go.RowKit Go.Shelf
theorem ret_eqX {k:IntKind} {a b:Int} (h:a=b):Ending.returned (.int k a) = .returned (.int k b):=by rw [h]
theorem neg_wrap (a:Int) (h : -9223372036854775808<=a) (k:a<0):IntKind.u64.wrap (-IntKind.u64.wrap a)=(a.natAbs:Int):=by
  rw [IntKind.wrap_u64,IntKind.wrap_u64];omega
theorem wpsize (a:Int) (h : -9223372036854775808<=a/\a<=9223372036854775807) (w:World) :
    Calls Tryz.prog 274 #[a] w (Rd (.int .u64 (a.natAbs:Int)) w):=by
  obtain ⟨h1,h2⟩:=h;by_cases hn:a<0
  all_goals
    go_enter Tryz.func274,Tryz.ntmps274;go_wp2;go_ret;exact ⟨ret_eqX (by first | omega | exact neg_wrap a h1 hn),rfl⟩
theorem pprodn (x y:Nat) (hx:x<18446744073709551616) (hy:y<18446744073709551616) (w:World) :
    Calls Tryz.prog 89 #[.int .u64 x, .int .u64 y] w (Rr (W (x*y)) w):=pproduct x y ⟨by omega,by omega⟩ ⟨by omega,by omega⟩ w
theorem psigned (a b:Int) (ha : -9223372036854775808<=a/\a<=9223372036854775807) (hb : -9223372036854775808<=b/\b<=9223372036854775807) (w:World) :
    Calls Tryz.prog 241 #[a,b] w (Rr (.tuple #[.bool (sneg a b),W (pabs a b)]) w):=by
  have HA:=Lib.hid (fun w=>wpsize a ha w);have HB:=Lib.hid (fun w=>wpsize b hb w);have HP:=Lib.hid (fun w=>pprodn a.natAbs b.natAbs (i64_abs ha) (i64_abs hb) w);clear ha hb;unfold sneg pabs;generalize a.natAbs*b.natAbs=z at HP |-
  generalize a.natAbs=x at HA HP;generalize b.natAbs=y at HB HP;go_enter Tryz.func241,Tryz.ntmps241;go_wp2_with (first | (go_at_call 274;(first | with_reducible refine (HA.out _).mono ?_ | with_reducible refine (HB.out _).mono ?_);rintro e w9 ⟨rfl,rfl⟩) | (go_at_call 89;refine (HP.out _).mono ?_;rintro e w1 ⟨rfl,hb1⟩;have hz1:=hb1.size;(try simp at hz1);have q1_0:w.heap.size<w1.heap.size:=(by omega);have r1_0:Row w1 (w.heap.size) 67 #[.int .u64 0, .int .u64 0]:=row_call row9 hb1;cases r2 r1_0));have r2:=row_two_set (u := .int .u64 (hi z)) (v := .int .u64 (lo z)) r1_0
  have o2:Below w w ((w1.setCell ⟨w,0,none⟩ (.int .u64 (hi z))).setCell ⟨w,1,none⟩ (.int .u64 (lo z))):=by
    (exact bel9)
  generalize ((w1.setCell ⟨w,0,none⟩ (.int .u64 (hi z))).setCell ⟨w,1,none⟩ (.int .u64 (lo z)))=w2 at r2 o2 |-
  obtain ⟨d1,d2,_,_⟩:=row_two r2;exact bodyPost_ret (v := .tuple #[.bool (decide (a<0) != decide (b<0)),W z]) (by simp [results,Tryz.results241,go_sem,bne,W,d1,d2]) rfl ⟨rfl,o2⟩
theorem pcross_in (a b c d:Int) (s1 s2 z1 z2:Bool) (x y:Nat)
    (H1:RowKit.Hid (∀ w,Calls Tryz.prog 241 #[a,b] w (Rr (.tuple #[.bool s1,W x]) w)))
    (H2:RowKit.Hid (∀ w,Calls Tryz.prog 241 #[c,d] w (Rr (.tuple #[.bool s2,W y]) w)))
    (Z1:RowKit.Hid (∀ w,Calls Tryz.prog 163 #[W x] w (Rr (.bool z1) w)))
    (Z2:RowKit.Hid (∀ w,Calls Tryz.prog 163 #[W y] w (Rr (.bool z2) w))) (w:World) :
    Calls Tryz.prog 153 (J25 a b c d) w (Rr (.int .i64 (pcrossV (s1 && !z1) (s2 && !z2) x y)) w):=by
  cases s1<;>cases s2<;>cases z1<;>cases z2
  all_goals
    go_enter Tryz.func153,Tryz.ntmps153;go_wp2_with (first | (go_at_call 241;with_reducible refine (H1.out _).mono ?_;rintro e w1 ⟨rfl,hb1⟩;have hz1:=hb1.size;(try simp at hz1)) | (go_at_call 241;with_reducible refine (H2.out _).mono ?_;rintro e w2 ⟨rfl,hb2⟩;have hz2:=hb2.size;(try simp at hz2);have q2_0:w1.heap.size<w2.heap.size:=(by omega);have r2_0:Row w2 (w1.heap.size) 67 (Wc x):=row_call row9 hb2;cases r2 r2_0) | (go_at_call 163;with_reducible refine (Z1.out _).mono ?_;rintro e w3 ⟨rfl,hb3⟩;have hz3:=hb3.size;(try simp at hz3);have q3_0:w1.heap.size<w3.heap.size:=(by omega);have r3_0:Row w3 (w1.heap.size) 67 (Wc x):=row_call row9 hb3;cases r2 r3_0;have q3_1:w2.heap.size<w3.heap.size:=(by omega);have r3_1:Row w3 (w2.heap.size) 67 (Wc y):=row_call row9 hb3;cases r2 r3_1) | (go_at_call 163;with_reducible refine (Z2.out _).mono ?_;rintro e w4 ⟨rfl,hb4⟩;have hz4:=hb4.size;(try simp at hz4);have q4_0:w1.heap.size<w4.heap.size:=(by omega);have r4_0:Row w4 (w1.heap.size) 67 (Wc x):=row_call row9 hb4;cases r2 r4_0;have q4_1:w2.heap.size<w4.heap.size:=(by omega);have r4_1:Row w4 (w2.heap.size) 67 (Wc y):=row_call row9 hb4;cases r2 r4_1) | (go_at_call 235;refine (pcmp_any _ _ _).mono ?_;rintro e w5 ⟨rfl,hb5⟩;have hz5:=hb5.size;(try simp at hz5)))
    all_goals
      go_ret;refine ⟨rfl,?_⟩;(exact bel9)
theorem pcross (a b c d:Int) (ha : -9223372036854775808<=a/\a<=9223372036854775807) (hb : -9223372036854775808<=b/\b<=9223372036854775807) (hc : -9223372036854775808<=c/\c<=9223372036854775807) (hd : -9223372036854775808<=d/\d<=9223372036854775807) (w:World) :
    Calls Tryz.prog 153 (J25 a b c d) w (Rr (.int .i64 (icmp (a*b) (c*d))) w):=by
  have h:=pcross_in a b c d _ _ _ _ _ _ (Lib.hid fun w=>psigned a b ha hb w) (Lib.hid fun w=>psigned c d hc hd w) (Lib.hid fun w=>pzero (pabs a b) w) (Lib.hid fun w=>pzero (pabs c d) w) w;rw [show (sneg a b && !decide (pabs a b=0))=pneg a b from rfl,show (sneg c d && !decide (pabs c d=0))=pneg c d from rfl,cross_is] at h;exact h
def qd (i N:Nat):Nat:=N / 18446744073709551616 ^ i % 18446744073709551616
def qc (N n i:Nat):Nat:=N % 18446744073709551616 ^ i*n / 18446744073709551616 ^ i
def QV (N:Nat):Value := .agg (J25 (.int .u64 (qd 0 N)) (.int .u64 (qd 1 N)) (.int .u64 (qd 2 N)) (.int .u64 (qd 3 N)))
theorem qd_lt (i N:Nat):qd i N<18446744073709551616:=Nat.mod_lt _ (by decide)
theorem pow_pos64 (i:Nat):0<18446744073709551616 ^ i:=Nat.pow_pos (by decide)
theorem qc_split (N n i:Nat):N*n / 18446744073709551616 ^ i=N / 18446744073709551616 ^ i*n+qc N n i:=by
  have h:=pow_pos64 i;unfold qc;generalize 18446744073709551616 ^ i=b at *
  have e:N*n=N % b*n+b*(N / b*n):=by
    have:=Nat.mod_add_div N b
    calc N*n=(N % b+b*(N / b))*n:=by rw [this]
      _=N % b*n+b*(N / b*n):=by rw [Nat.add_mul,Nat.mul_assoc]
  rw [e,Nat.add_mul_div_left _ _ h,Nat.add_comm]
theorem qc_lt {N n i:Nat} (hn:n<18446744073709551616):qc N n i<18446744073709551616:=by
  have h:=pow_pos64 i;unfold qc;generalize 18446744073709551616 ^ i=b at *;have h1:N % b*n<=b*n:=Nat.mul_le_mul_right _ (Nat.le_of_lt (Nat.mod_lt _ h));have h2:N % b*n / b<=b*n / b:=Nat.div_le_div_right h1;rw [Nat.mul_div_cancel_left _ h] at h2;omega
theorem qd_step (N i:Nat):N / 18446744073709551616 ^ i=qd i N+18446744073709551616*(N / 18446744073709551616 ^ (i+1)):=by
  unfold qd;rw [Nat.pow_succ,<- Nat.div_div_eq_div_mul];exact (Nat.mod_add_div _ _).symm
theorem q_mod (N n i:Nat):(qd i N*n+qc N n i) % 18446744073709551616=qd i (N*n):=by
  have h:=qc_split N n i;have e:qd i (N*n)=(N / 18446744073709551616 ^ i*n+qc N n i) % 18446744073709551616:=by rw [<- h];rfl
  rw [e,qd_step N i,Nat.add_mul,Nat.mul_assoc,Nat.add_right_comm,Nat.add_mul_mod_self_left]
theorem q_div (N n i:Nat):(qd i N*n+qc N n i) / 18446744073709551616=qc N n (i+1):=by
  have h:=qc_split N n i;have h2:=qc_split N n (i+1);have h3:N*n / 18446744073709551616 ^ (i+1)=N*n / 18446744073709551616 ^ i / 18446744073709551616:=by rw [Nat.pow_succ,Nat.div_div_eq_div_mul]
  have h4:(N / 18446744073709551616 ^ i*n+qc N n i) / 18446744073709551616=(qd i N*n+qc N n i) / 18446744073709551616+N / 18446744073709551616 ^ (i+1)*n:=by
    rw [qd_step N i,Nat.add_mul,Nat.mul_assoc,Nat.add_right_comm,Nat.add_mul_div_left _ _ (by decide)]
  rw [h3,h,h4] at h2;generalize N / 18446744073709551616 ^ (i+1)*n=y at h2;generalize (qd i N*n+qc N n i) / 18446744073709551616=z at h2 |-
  omega
theorem qc_zero (N n:Nat):qc N n 0=0:=by unfold qc;simp [Nat.mod_one]
theorem lo_hi_add {P c:Nat} (hP:P<big) (hc:c<18446744073709551616):(lo P+(c:Int)) % 18446744073709551616=(((P+c) % 18446744073709551616:Nat):Int)/\hi P+(lo P+(c:Int)) / 18446744073709551616=(((P+c) / 18446744073709551616:Nat):Int):=by
  unfold lo hi;omega
theorem q_words {N n i:Nat} (hn:n<18446744073709551616):(lo (qd i N*n)+(qc N n i:Int)) % 18446744073709551616=(qd i (N*n):Nat)/\IntKind.u64.wrap (hi (qd i N*n)+(lo (qd i N*n)+(qc N n i:Int)) / 18446744073709551616)=(qc N n (i+1):Nat):=by
  obtain ⟨h1,h2⟩:=lo_hi_add (P:=qd i N*n) (c:=qc N n i) (mul_big (qd_lt i N) hn) (qc_lt hn);rw [h1,h2,q_mod,q_div];exact ⟨rfl,wrap_word ⟨by omega,by have:=@qc_lt N n (i+1) hn;omega⟩⟩
theorem qmul64 (x n:Nat) (hx:x<18446744073709551616) (hn:n<18446744073709551616) (w:World):Calls Tryz.prog 181 #[.int .u64 (x:Nat), .int .u64 (n:Nat)] w (Rd (.tuple #[.int .u64 (hi (x*n)), .int .u64 (lo (x*n))]) w):=by
  have h:=mul64 (x:Int) (n:Int) ⟨by omega,by omega⟩ ⟨by omega,by omega⟩ w;rw [Int.toNat_natCast,Int.toNat_natCast] at h;exact h
set_option maxHeartbeats 4000000 in
theorem ptimes_flat (x0 x1 x2 x3 r0 r1 r2 r3 k1 k2 k3 k4:Int) (N n:Nat) (w:World) (hn:n<18446744073709551616)
    (hx0:x0=(qd 0 N:Nat)) (hx1:x1=(qd 1 N:Nat)) (hx2:x2=(qd 2 N:Nat)) (hx3:x3=(qd 3 N:Nat))
    (hr0:r0=(qd 0 (N*n):Nat)) (hr1:r1=(qd 1 (N*n):Nat)) (hr2:r2=(qd 2 (N*n):Nat)) (hr3:r3=(qd 3 (N*n):Nat))
    (hk1:k1=(qc N n 1:Nat)) (hk2:k2=(qc N n 2:Nat)) (hk3:k3=(qc N n 3:Nat)) (hk4:k4=(qc N n 4:Nat)) :
    Calls Tryz.prog 88 #[.agg (J25 (.int .u64 x0) (.int .u64 x1) (.int .u64 x2) (.int .u64 x3)), .int .u64 (n:Nat)] w (Rr (.agg (J25 (.int .u64 r0) (.int .u64 r1) (.int .u64 r2) (.int .u64 r3))) w):=by
  obtain ⟨p0,s0⟩:=q_words (N:=N) (n:=n) (i:=0) hn;have M0:=fun w=>qmul64 (qd 0 N) n (qd_lt 0 N) hn w;have l0:=(lo_word (qd 0 N*n)).1;rw [qc_zero] at p0 s0;rw [<- hx0] at M0;rw [<- hr0] at p0;rw [show 0+1=1 from rfl,<- hk1] at s0;generalize lo (qd 0 N*n)=lo0 at M0 p0 s0 l0;generalize hi (qd 0 N*n)=hi0 at M0 s0;replace M0:=Lib.hid M0;obtain ⟨p1,s1⟩:=q_words (N:=N) (n:=n) (i:=1) hn;have M1:=fun w=>qmul64 (qd 1 N) n (qd_lt 1 N) hn w;have l1:=(lo_word (qd 1 N*n)).1;rw [<- hx1] at M1;rw [<- hr1] at p1;rw [show 1+1=2 from rfl,<- hk2] at s1;rw [<- hk1] at p1 s1;have b1:0<=k1:=by omega
  generalize lo (qd 1 N*n)=lo1 at M1 p1 s1 l1;generalize hi (qd 1 N*n)=hi1 at M1 s1;replace M1:=Lib.hid M1;obtain ⟨p2,s2⟩:=q_words (N:=N) (n:=n) (i:=2) hn;have M2:=fun w=>qmul64 (qd 2 N) n (qd_lt 2 N) hn w;have l2:=(lo_word (qd 2 N*n)).1;rw [<- hx2] at M2;rw [<- hr2] at p2;rw [show 2+1=3 from rfl,<- hk3] at s2;rw [<- hk2] at p2 s2;have b2:0<=k2:=by omega
  generalize lo (qd 2 N*n)=lo2 at M2 p2 s2 l2;generalize hi (qd 2 N*n)=hi2 at M2 s2;replace M2:=Lib.hid M2;obtain ⟨p3,s3⟩:=q_words (N:=N) (n:=n) (i:=3) hn;have M3:=fun w=>qmul64 (qd 3 N) n (qd_lt 3 N) hn w;have l3:=(lo_word (qd 3 N*n)).1;rw [<- hx3] at M3;rw [<- hr3] at p3;rw [show 3+1=4 from rfl,<- hk4] at s3;rw [<- hk3] at p3 s3;have b3:0<=k3:=by omega
  generalize lo (qd 3 N*n)=lo3 at M3 p3 s3 l3;generalize hi (qd 3 N*n)=hi3 at M3 s3;replace M3:=Lib.hid M3;rw [show (((0:Nat):Int))=0 from rfl,Int.add_zero] at p0 s0;clear hx0 hx1 hx2 hx3 hr0 hr1 hr2 hr3 hk1 hk2 hk3 hk4;go_enter Tryz.func88,Tryz.ntmps88;go_upto_region 3 with (fail)
  have W0:Row (((w.alloc (.cells (J25 (.int .u64 x0) (.int .u64 x1) (.int .u64 x2) (.int .u64 x3)) 180)).alloc (.cells J20 180)).alloc (.cells J20 180)) (w.heap.size) 180 (J25 (.int .u64 x0) (.int .u64 x1) (.int .u64 x2) (.int .u64 x3)):=row_alloc (row_alloc (row_new rfl) _) _;have W1:Row (((w.alloc (.cells (J25 (.int .u64 x0) (.int .u64 x1) (.int .u64 x2) (.int .u64 x3)) 180)).alloc (.cells J20 180)).alloc (.cells J20 180)) (w.heap.size+1) 180 J20:=row_alloc (row_new (by simp)) _;have W2:Row (((w.alloc (.cells (J25 (.int .u64 x0) (.int .u64 x1) (.int .u64 x2) (.int .u64 x3)) 180)).alloc (.cells J20 180)).alloc (.cells J20 180)) (w.heap.size+2) 180 J20:=row_new (by simp);have o:Below w w (((w.alloc (.cells (J25 (.int .u64 x0) (.int .u64 x1) (.int .u64 x2) (.int .u64 x3)) 180)).alloc (.cells J20 180)).alloc (.cells J20 180)):=bel9;generalize (((w.alloc (.cells (J25 (.int .u64 x0) (.int .u64 x1) (.int .u64 x2) (.int .u64 x3)) 180)).alloc (.cells J20 180)).alloc (.cells J20 180))=w3 at W0 W1 W2 o |-
  go_upto_region 4 with (fail)
  go_loopw [6,12] (fun cv i wr=>(i = .int .i64 0/\cv = .int .u64 0/\Row wr (w.heap.size) 180 (J25 (.int .u64 x0) (.int .u64 x1) (.int .u64 x2) (.int .u64 x3))/\Row wr (w.heap.size+1) 180 J20/\Row wr (w.heap.size+2) 180 J20/\Below w w wr)∨(i = .int .i64 1/\cv = .int .u64 k1/\Row wr (w.heap.size) 180 (J25 (.int .u64 x0) (.int .u64 x1) (.int .u64 x2) (.int .u64 x3))/\Row wr (w.heap.size+1) 180 J20/\Row wr (w.heap.size+2) 180 (J19 (.int .u64 r0))/\Below w w wr)∨(i = .int .i64 2/\cv = .int .u64 k2/\Row wr (w.heap.size) 180 (J25 (.int .u64 x0) (.int .u64 x1) (.int .u64 x2) (.int .u64 x3))/\Row wr (w.heap.size+1) 180 J20/\Row wr (w.heap.size+2) 180 #[.int .u64 r0, .int .u64 r1, .int .u64 0, .int .u64 0]/\Below w w wr)∨(i = .int .i64 3/\cv = .int .u64 k3/\Row wr (w.heap.size) 180 (J25 (.int .u64 x0) (.int .u64 x1) (.int .u64 x2) (.int .u64 x3))/\Row wr (w.heap.size+1) 180 J20/\Row wr (w.heap.size+2) 180 #[.int .u64 r0, .int .u64 r1, .int .u64 r2, .int .u64 0]/\Below w w wr)∨(i = .int .i64 4/\cv = .int .u64 k4/\Row wr (w.heap.size) 180 (J25 (.int .u64 x0) (.int .u64 x1) (.int .u64 x2) (.int .u64 x3))/\Row wr (w.heap.size+1) 180 J20/\Row wr (w.heap.size+2) 180 (J25 (.int .u64 r0) (.int .u64 r1) (.int .u64 r2) (.int .u64 r3))/\Below w w wr)) (fun _ i _=>4-(intOf i).toNat)
  case atStart=>exact .inl ⟨rfl,rfl,W0,W1,W2,o⟩
  case round =>
    clear W0 W1 W2 o;rcases hrel with ⟨rfl,rfl,W0,W1,W2,o⟩ | ⟨rfl,rfl,W0,W1,W2,o⟩ | ⟨rfl,rfl,W0,W1,W2,o⟩ | ⟨rfl,rfl,W0,W1,W2,o⟩ | ⟨rfl,rfl,W0,W1,W2,o⟩
    · cases r4 W0;cases r4 W2;go_wp2_with (first | (go_at_call 181;refine (M0.out _).mono ?_;rintro e w' ⟨rfl,h9⟩;obtain rfl:=h9.symm) | simp only [add64_0 lo0 0 l0 (Int.le_refl 0)]);go_roundw
      case rel=>exact .inr (.inl ⟨rfl,rfl,row_other W0 (by show w.heap.size≠w.heap.size+2;omega) _,row_other W1 (by show w.heap.size+1≠w.heap.size+2;omega) _,row_set W2 0 _,o.setCell (by show w.heap.size<=w.heap.size+2;omega) _⟩)
      case measure=>simp [intOf]
    · cases r4 W0;cases r4 W2;go_wp2_with (first | (go_at_call 181;refine (M1.out _).mono ?_;rintro e w' ⟨rfl,h9⟩;obtain rfl:=h9.symm) | simp only [add64_0 lo1 k1 l1 b1]);go_roundw
      case rel=>exact .inr (.inr (.inl ⟨rfl,rfl,row_other W0 (by show w.heap.size≠w.heap.size+2;omega) _,row_other W1 (by show w.heap.size+1≠w.heap.size+2;omega) _,row_set W2 1 _,o.setCell (by show w.heap.size<=w.heap.size+2;omega) _⟩))
      case measure=>simp [intOf]
    · cases r4 W0;cases r4 W2;go_wp2_with (first | (go_at_call 181;refine (M2.out _).mono ?_;rintro e w' ⟨rfl,h9⟩;obtain rfl:=h9.symm) | simp only [add64_0 lo2 k2 l2 b2]);go_roundw
      case rel=>exact .inr (.inr (.inr (.inl ⟨rfl,rfl,row_other W0 (by show w.heap.size≠w.heap.size+2;omega) _,row_other W1 (by show w.heap.size+1≠w.heap.size+2;omega) _,row_set W2 2 _,o.setCell (by show w.heap.size<=w.heap.size+2;omega) _⟩)))
      case measure=>simp [intOf]
    · cases r4 W0;cases r4 W2;go_wp2_with (first | (go_at_call 181;refine (M3.out _).mono ?_;rintro e w' ⟨rfl,h9⟩;obtain rfl:=h9.symm) | simp only [add64_0 lo3 k3 l3 b3]);go_roundw
      case rel=>exact .inr (.inr (.inr (.inr (⟨rfl,rfl,row_other W0 (by show w.heap.size≠w.heap.size+2;omega) _,row_other W1 (by show w.heap.size+1≠w.heap.size+2;omega) _,row_set W2 3 _,o.setCell (by show w.heap.size<=w.heap.size+2;omega) _⟩))))
      case measure=>simp [intOf]
    · cases r4 W2;cases r4 W1;have hbge:w.heap.size<=w.heap.size+1:=by omega
      go_wp2;have R9:Row ((((wr.setCell ⟨w.heap.size+1,0,none⟩ (.int .u64 r0)).setCell ⟨w.heap.size+1,1,none⟩ (.int .u64 r1)).setCell ⟨w.heap.size+1,2,none⟩ (.int .u64 r2)).setCell ⟨w.heap.size+1,3,none⟩ (.int .u64 r3)) (w.heap.size+1) 180 (J25 (.int .u64 r0) (.int .u64 r1) (.int .u64 r2) (.int .u64 r3)):=(row_set (row_set (row_set (row_set W1 0 (.int .u64 r0)) 1 (.int .u64 r1)) 2 (.int .u64 r2)) 3 (.int .u64 r3))
      have o9:Below w w ((((wr.setCell ⟨w.heap.size+1,0,none⟩ (.int .u64 r0)).setCell ⟨w.heap.size+1,1,none⟩ (.int .u64 r1)).setCell ⟨w.heap.size+1,2,none⟩ (.int .u64 r2)).setCell ⟨w.heap.size+1,3,none⟩ (.int .u64 r3)):=(Below.setCell (p:=⟨w.heap.size+1,3,none⟩) (Below.setCell (p:=⟨w.heap.size+1,2,none⟩) (Below.setCell (p:=⟨w.heap.size+1,1,none⟩) (Below.setCell (p:=⟨w.heap.size+1,0,none⟩) o hbge (.int .u64 r0)) hbge (.int .u64 r1)) hbge (.int .u64 r2)) hbge (.int .u64 r3))
      generalize ((((wr.setCell ⟨w.heap.size+1,0,none⟩ (.int .u64 r0)).setCell ⟨w.heap.size+1,1,none⟩ (.int .u64 r1)).setCell ⟨w.heap.size+1,2,none⟩ (.int .u64 r2)).setCell ⟨w.heap.size+1,3,none⟩ (.int .u64 r3))=w9 at R9 o9 |-
      obtain ⟨N0,N1,N2,N3,Nf0,Nf1,Nf2,Nf3⟩:=row_four R9;exact bodyPost_ret (v := .agg (J25 (.int .u64 r0) (.int .u64 r1) (.int .u64 r2) (.int .u64 r3))) (by simp [results,Tryz.results88,go_sem,List.getElem?_toArray,N0,N1,N2,N3]) rfl ⟨rfl,o9⟩
theorem ptimes (N n:Nat) (w:World) (hn:n<18446744073709551616):Calls Tryz.prog 88 #[QV N, .int .u64 (n:Nat)] w (Rr (QV (N*n)) w) :=
  ptimes_flat _ _ _ _ _ _ _ _ _ _ _ _ N n w hn rfl rfl rfl rfl rfl rfl rfl rfl rfl rfl rfl rfl
def RatOK (a b:Nat):Prop:=a<4611686018427387904/\(1<=b/\b<=4294967295)/\Nat.gcd a b=1
theorem ratOK_one {a:Nat} (h:a<4611686018427387904):RatOK a 1:=⟨h,⟨by omega,by omega⟩,Nat.gcd_one_right a⟩
theorem pvR {a b:Nat} (h:RatOK a b) (w:World):Calls Tryz.prog 56 #[.agg #[.int .i64 (a:Nat), .int .i64 (b:Nat)]] w (Rr (.bool true) w):=pratval a b w (by have:=h.1;omega) h.2.1.1 (by have:=h.2.1.2;omega) h.2.2
theorem pcmpR {a b c d:Nat} (h1:RatOK a b) (h2:RatOK c d) (w:World):Calls Tryz.prog 55 #[.agg #[.int .i64 (a:Nat), .int .i64 (b:Nat)], .agg #[.int .i64 (c:Nat), .int .i64 (d:Nat)]] w (Rr (.int .i64 (icmp ((a:Int)*(d:Int)) ((c:Int)*(b:Int)))) w):=by
  have P1:=Lib.hid (fun w=>pvR h1 w);have P2:=Lib.hid (fun w=>pvR h2 w);have P3:=fun w=>pcross (a:Int) (d:Int) (c:Int) (b:Int) (by have:=h1.1;omega) (by have:=h2.2.1.2;omega) (by have:=h2.1;omega) (by have:=h1.2.1.2;omega) w;generalize icmp ((a:Int)*(d:Int)) ((c:Int)*(b:Int))=r at P3 |-
  replace P3:=Lib.hid P3;clear h1 h2;go_enter Tryz.func55,Tryz.ntmps55;go_wp2_with (first | (go_at_call 56;with_reducible refine (P1.out _).mono ?_;rintro e w1 ⟨rfl,hb1⟩;have hz1:=hb1.size;(try simp at hz1);have o1:Below w w w1:=bel9;have q1_0:w.heap.size<w1.heap.size:=(by omega);have r1_0:Row w1 (w.heap.size) 62 #[.int .i64 (a:Nat), .int .i64 (b:Nat)]:=row_call row9 hb1;cases r2 r1_0;have q1_1:w.heap.size+1<w1.heap.size:=(by omega);have r1_1:Row w1 (w.heap.size+1) 62 #[.int .i64 (c:Nat), .int .i64 (d:Nat)]:=row_call row9 hb1;cases r2 r1_1) | (go_at_call 56;with_reducible refine (P2.out _).mono ?_;rintro e w2 ⟨rfl,hb2⟩;have hz2:=hb2.size;(try simp at hz2);have o2:Below w w w2:=bel9;have q2_0:w.heap.size<w2.heap.size:=(by omega);have r2_0:Row w2 (w.heap.size) 62 #[.int .i64 (a:Nat), .int .i64 (b:Nat)]:=row_call row9 hb2;cases r2 r2_0;have q2_1:w.heap.size+1<w2.heap.size:=(by omega);have r2_1:Row w2 (w.heap.size+1) 62 #[.int .i64 (c:Nat), .int .i64 (d:Nat)]:=row_call row9 hb2;cases r2 r2_1) | (go_at_call 153;with_reducible refine (P3.out _).mono ?_;rintro e w3 ⟨rfl,hb3⟩;have hz3:=hb3.size;(try simp at hz3);have o3:Below w w w3:=bel9));go_ret;exact ⟨rfl,o3⟩
theorem icmp_le {p q:Int} (h:p<=q):icmp p q<=0:=by unfold icmp;split<;>(try split)<;>omega
theorem pleR {a b c d:Nat} (h1:RatOK a b) (h2:RatOK c d) (h:a*d<=c*b):∃ r:Int,r<=0/\∀ w,Calls Tryz.prog 55 #[.agg #[.int .i64 (a:Nat), .int .i64 (b:Nat)], .agg #[.int .i64 (c:Nat), .int .i64 (d:Nat)]] w (Rr (.int .i64 r) w) :=
  ⟨_,icmp_le (by rw [<- Int.natCast_mul,<- Int.natCast_mul];exact Int.ofNat_le.2 h),fun w=>pcmpR h1 h2 w⟩
structure BndOK (l1 l2 m1 m2 h1 h2:Nat):Prop where
  lo:RatOK l1 l2
  md:RatOK m1 m2
  hi:RatOK h1 h2
  lm:l1*m2<=m1*l2
  mh:m1*h2<=h1*m2
set_option maxHeartbeats 1000000 in
theorem pbvalid {l1 l2 m1 m2 h1 h2:Nat} (h:BndOK l1 l2 m1 m2 h1 h2) (w:World):Calls Tryz.prog 14 #[.agg (J6 (l1:Nat) (l2:Nat) (m1:Nat) (m2:Nat) (h1:Nat) (h2:Nat))] w (Rr (.bool true) w):=by
  have P1:=Lib.hid (fun w=>pvR h.lo w);have P2:=Lib.hid (fun w=>pvR h.md w);have P3:=Lib.hid (fun w=>pvR h.hi w);obtain ⟨r4,i4,P4⟩:=pleR h.lo h.md h.lm;obtain ⟨r5,i5,P5⟩:=pleR h.md h.hi h.mh;replace P4:=Lib.hid P4;replace P5:=Lib.hid P5;clear h;go_enter Tryz.func14,Tryz.ntmps14;go_upto_region 1 with (fail)
  have X:Row (w.alloc (.cells (J6 (l1:Nat) (l2:Nat) (m1:Nat) (m2:Nat) (h1:Nat) (h2:Nat)) 64)) w.heap.size 64 (J6 (l1:Nat) (l2:Nat) (m1:Nat) (m2:Nat) (h1:Nat) (h2:Nat)):=row_new rfl;have o:Below w w (w.alloc (.cells (J6 (l1:Nat) (l2:Nat) (m1:Nat) (m2:Nat) (h1:Nat) (h2:Nat)) 64)):=bel9;generalize (w.alloc (.cells (J6 (l1:Nat) (l2:Nat) (m1:Nat) (m2:Nat) (h1:Nat) (h2:Nat)) 64))=w0 at X o |-
  obtain ⟨X0,X1,X2,X3,X4,X5,Xf0,Xf1,Xf2,Xf3,Xf4,Xf5⟩:=row_six X;go_wp2_with fail;refine (P1.out _).mono ?_;rintro e w1 ⟨rfl,hb⟩;replace X:=row_call X hb;replace o:=o.trans (hb.mono o.size);clear hb X0 Xf0 X1 Xf1 X2 Xf2 X3 Xf3 X4 Xf4 X5 Xf5;obtain ⟨X0,X1,X2,X3,X4,X5,Xf0,Xf1,Xf2,Xf3,Xf4,Xf5⟩:=row_six X;go_wp2_with fail;refine (P2.out _).mono ?_;rintro e w2 ⟨rfl,hb⟩;replace X:=row_call X hb;replace o:=o.trans (hb.mono o.size);clear hb X0 Xf0 X1 Xf1 X2 Xf2 X3 Xf3 X4 Xf4 X5 Xf5;obtain ⟨X0,X1,X2,X3,X4,X5,Xf0,Xf1,Xf2,Xf3,Xf4,Xf5⟩:=row_six X;go_wp2_with fail;refine (P3.out _).mono ?_;rintro e w3 ⟨rfl,hb⟩;replace X:=row_call X hb;replace o:=o.trans (hb.mono o.size);clear hb X0 Xf0 X1 Xf1 X2 Xf2 X3 Xf3 X4 Xf4 X5 Xf5;obtain ⟨X0,X1,X2,X3,X4,X5,Xf0,Xf1,Xf2,Xf3,Xf4,Xf5⟩:=row_six X;go_wp2_with fail;refine (P4.out _).mono ?_;rintro e w4 ⟨rfl,hb⟩;replace X:=row_call X hb;replace o:=o.trans (hb.mono o.size);clear hb X0 Xf0 X1 Xf1 X2 Xf2 X3 Xf3 X4 Xf4 X5 Xf5;obtain ⟨X0,X1,X2,X3,X4,X5,Xf0,Xf1,Xf2,Xf3,Xf4,Xf5⟩:=row_six X;go_wp2_with fail;refine (P5.out _).mono ?_;rintro e w5 ⟨rfl,hb⟩;replace X:=row_call X hb;replace o:=o.trans (hb.mono o.size);clear hb X0 Xf0 X1 Xf1 X2 Xf2 X3 Xf3 X4 Xf4 X5 Xf5;go_wp2;go_ret;exact ⟨by first | rfl | (simp;omega),o⟩
set_option maxHeartbeats 1000000 in
theorem pholds {l1 l2 m1 m2 h1 h2 v1 v2:Nat} (h:BndOK l1 l2 m1 m2 h1 h2) (hv:RatOK v1 v2) (hl:l1*v2<=v1*l2) (hh:v1*h2<=h1*v2) (w:World):Calls Tryz.prog 16 #[.agg (J6 (l1:Nat) (l2:Nat) (m1:Nat) (m2:Nat) (h1:Nat) (h2:Nat)), .agg #[.int .i64 (v1:Nat), .int .i64 (v2:Nat)]] w (Rr (.bool true) w):=by
  have P1:=Lib.hid (fun w=>pbvalid h w);have P2:=Lib.hid (fun w=>pvR hv w);obtain ⟨r4,i4,P3⟩:=pleR h.lo hv hl;obtain ⟨r5,i5,P4⟩:=pleR hv h.hi hh;replace P3:=Lib.hid P3;replace P4:=Lib.hid P4;clear h hv hl hh;go_enter Tryz.func16,Tryz.ntmps16;go_upto_region 1 with (fail)
  have X:Row ((w.alloc (.cells (J6 (l1:Nat) (l2:Nat) (m1:Nat) (m2:Nat) (h1:Nat) (h2:Nat)) 64)).alloc (.cells #[.int .i64 (v1:Nat), .int .i64 (v2:Nat)] 62)) w.heap.size 64 (J6 (l1:Nat) (l2:Nat) (m1:Nat) (m2:Nat) (h1:Nat) (h2:Nat)):=row_alloc (row_new rfl) _;have Y:Row ((w.alloc (.cells (J6 (l1:Nat) (l2:Nat) (m1:Nat) (m2:Nat) (h1:Nat) (h2:Nat)) 64)).alloc (.cells #[.int .i64 (v1:Nat), .int .i64 (v2:Nat)] 62)) (w.heap.size+1) 62 #[.int .i64 (v1:Nat), .int .i64 (v2:Nat)]:=row_new (by simp);have o:Below w w ((w.alloc (.cells (J6 (l1:Nat) (l2:Nat) (m1:Nat) (m2:Nat) (h1:Nat) (h2:Nat)) 64)).alloc (.cells #[.int .i64 (v1:Nat), .int .i64 (v2:Nat)] 62)):=bel9;generalize ((w.alloc (.cells (J6 (l1:Nat) (l2:Nat) (m1:Nat) (m2:Nat) (h1:Nat) (h2:Nat)) 64)).alloc (.cells #[.int .i64 (v1:Nat), .int .i64 (v2:Nat)] 62))=w0 at X Y o |-
  obtain ⟨X0,X1,X2,X3,X4,X5,Xf0,Xf1,Xf2,Xf3,Xf4,Xf5⟩:=row_six X;obtain ⟨Y0,Y1,Yf0,Yf1⟩:=row_two Y;go_wp2_with fail;refine (P1.out _).mono ?_;rintro e w1 ⟨rfl,hb⟩;replace X:=row_call X hb;replace Y:=row_call Y hb;replace o:=o.trans (hb.mono o.size);clear hb X0 Xf0 X1 Xf1 X2 Xf2 X3 Xf3 X4 Xf4 X5 Xf5 Y0 Yf0 Y1 Yf1;obtain ⟨X0,X1,X2,X3,X4,X5,Xf0,Xf1,Xf2,Xf3,Xf4,Xf5⟩:=row_six X;obtain ⟨Y0,Y1,Yf0,Yf1⟩:=row_two Y;go_wp2_with fail;refine (P2.out _).mono ?_;rintro e w2 ⟨rfl,hb⟩;replace X:=row_call X hb;replace Y:=row_call Y hb;replace o:=o.trans (hb.mono o.size);clear hb X0 Xf0 X1 Xf1 X2 Xf2 X3 Xf3 X4 Xf4 X5 Xf5 Y0 Yf0 Y1 Yf1;obtain ⟨X0,X1,X2,X3,X4,X5,Xf0,Xf1,Xf2,Xf3,Xf4,Xf5⟩:=row_six X;obtain ⟨Y0,Y1,Yf0,Yf1⟩:=row_two Y;go_wp2_with fail;refine (P3.out _).mono ?_;rintro e w3 ⟨rfl,hb⟩;replace X:=row_call X hb;replace Y:=row_call Y hb;replace o:=o.trans (hb.mono o.size);clear hb X0 Xf0 X1 Xf1 X2 Xf2 X3 Xf3 X4 Xf4 X5 Xf5 Y0 Yf0 Y1 Yf1;obtain ⟨X0,X1,X2,X3,X4,X5,Xf0,Xf1,Xf2,Xf3,Xf4,Xf5⟩:=row_six X;obtain ⟨Y0,Y1,Yf0,Yf1⟩:=row_two Y;go_wp2_with fail;refine (P4.out _).mono ?_;rintro e w4 ⟨rfl,hb⟩;replace X:=row_call X hb;replace Y:=row_call Y hb;replace o:=o.trans (hb.mono o.size);clear hb X0 Xf0 X1 Xf1 X2 Xf2 X3 Xf3 X4 Xf4 X5 Xf5 Y0 Yf0 Y1 Yf1;go_wp2;go_ret;exact ⟨by first | rfl | (simp;omega),o⟩
theorem pbsize (a:Nat) (h:a<9223372036854775808) (w:World):Calls Tryz.prog 179 #[.int .i64 (a:Nat)] w (Rd (.int .u64 (a:Nat)) w):=by
  have h0:¬ (a:Int)<0:=by omega
  have hw:IntKind.u64.wrap (a:Int)=a:=IntWalk.u64_in _ (by omega);go_enter Tryz.func179,Tryz.ntmps179;go_wp2;go_ret;exact ⟨rfl,rfl⟩
set_option maxHeartbeats 2000000 in
theorem pwidth {l1 l2 m1 m2 h1 h2:Nat} (hb:BndOK l1 l2 m1 m2 h1 h2) (hle:l1*h2<=h1*l2) (w:World):Calls Tryz.prog 87 #[.agg (J6 (l1:Nat) (l2:Nat) (m1:Nat) (m2:Nat) (h1:Nat) (h2:Nat))] w (Rr (W (h1*l2-l1*h2)) w):=by
  have z1:=hb.hi.1;have z2:=hb.lo.1;have z3:=hb.hi.2.1.2;have z4:=hb.lo.2.1.2;have PS1:=Lib.hid (fun w=>pbsize h1 (by omega) w);have PS2:=Lib.hid (fun w=>pbsize l1 (by omega) w);have PX:=fun w=>pprodn h1 l2 (by omega) (by omega) w;have PY:=fun w=>pprodn l1 h2 (by omega) (by omega) w;have x1:h1*l2<big:=mul_big (by omega) (by omega);have y1:l1*h2<big:=mul_big (by omega) (by omega);have hw1:IntKind.u64.wrap (l2:Int)=l2:=IntWalk.u64_in _ (by omega);have hw2:IntKind.u64.wrap (h2:Int)=h2:=IntWalk.u64_in _ (by omega);have n1:¬ (h1:Int)<0:=by omega
  have n2:¬ (l1:Int)<0:=by omega
  generalize h1*l2=x at PX x1 hle |-
  generalize l1*h2=y at PY y1 hle |-
  have PD:=Lib.hid (fun w=>psub_yes x y x1 y1 hle w);replace PX:=Lib.hid PX;replace PY:=Lib.hid PY;generalize x-y=d at PD |-
  clear hb x1 y1 hle z1 z2 z3 z4;go_enter Tryz.func87,Tryz.ntmps87;go_upto_region 1 with (fail)
  have X:Row ((w.alloc (.cells (J6 (l1:Nat) (l2:Nat) (m1:Nat) (m2:Nat) (h1:Nat) (h2:Nat)) 64)).alloc (.cells #[.int .u64 0, .int .u64 0] 67)) w.heap.size 64 (J6 (l1:Nat) (l2:Nat) (m1:Nat) (m2:Nat) (h1:Nat) (h2:Nat)):=row_alloc (row_new rfl) _;have R:Row ((w.alloc (.cells (J6 (l1:Nat) (l2:Nat) (m1:Nat) (m2:Nat) (h1:Nat) (h2:Nat)) 64)).alloc (.cells #[.int .u64 0, .int .u64 0] 67)) (w.heap.size+1) 67 #[.int .u64 0, .int .u64 0]:=row_new (by simp);have o:Below w w ((w.alloc (.cells (J6 (l1:Nat) (l2:Nat) (m1:Nat) (m2:Nat) (h1:Nat) (h2:Nat)) 64)).alloc (.cells #[.int .u64 0, .int .u64 0] 67)):=bel9;generalize hW:((w.alloc (.cells (J6 (l1:Nat) (l2:Nat) (m1:Nat) (m2:Nat) (h1:Nat) (h2:Nat)) 64)).alloc (.cells #[.int .u64 0, .int .u64 0] 67))=w0 at X R o |-
  have rlt:=row_lt R;clear hW;refine wp_region_free2 [0,1,2,3,4,5,6,7,8,9,10,11,12,13,14,15,16,17] [] [0,1,2,3,4,5,6,7,8,9,10,11,12,13,14,15,16,17,18,19] (18,67,#[.int .u64 0, .int .u64 0]) (19,67,#[.int .u64 0, .int .u64 0]) 3 4 20 (fun w'=>Row w' (w.heap.size) 64 (J6 (l1:Nat) (l2:Nat) (m1:Nat) (m2:Nat) (h1:Nat) (h2:Nat))/\Row w' (w.heap.size+1) 67 #[.int .u64 0, .int .u64 0]/\Below w w w') (by kernel_rfl) (by kernel_rfl) ⟨_,_,rfl,rfl,rfl,fun ρ w'=>by go_simp⟩ ⟨_,_,rfl,rfl,rfl,fun ρ w'=>by go_simp⟩ rfl rfl (by simp) (by simp) (fun _ h=>⟨row_alloc h.1 _,row_alloc h.2.1 _,h.2.2.alloc h.2.2.size _⟩) (fun _ h=>⟨row_alloc h.1 _,row_alloc h.2.1 _,h.2.2.alloc h.2.2.size _⟩) (fun _ _ d _ _ h=>by cases d<;>exact h) ?_ ?_
  · exact ⟨X,R,o.drew⟩
  iterate 2 (refine plp rfl rfl ?_;simp only [put9])
  (refine plv rfl rfl rfl (fun w' hS=>by obtain ⟨X0,X1,X2,X3,X4,X5,Xf0,Xf1,Xf2,Xf3,Xf4,Xf5⟩:=row_six hS.1;exact gs9) ?_;simp only [put9]);refine plan_call (.int .u64 (h1:Nat)) 179 #[.int .i64 (h1:Nat)] rfl rfl rfl (fun _ _ h hb=>⟨row_call h.1 hb,row_call h.2.1 hb,h.2.2.trans (hb.mono h.2.2.size)⟩) (fun w' hS=>by obtain ⟨X0,X1,X2,X3,X4,X5,Xf0,Xf1,Xf2,Xf3,Xf4,Xf5⟩:=row_six hS.1;go_simp) (fun w' hS=>(PS1.out w').mono (fun e w'' h=>⟨h.1,by rw [h.2];exact Below.refl _ _⟩)) ?_;simp only [put9];iterate 2 (refine plp rfl rfl ?_;simp only [put9])
  (refine plv rfl rfl rfl (fun w' hS=>by obtain ⟨X0,X1,X2,X3,X4,X5,Xf0,Xf1,Xf2,Xf3,Xf4,Xf5⟩:=row_six hS.1;exact gs9) ?_;simp only [put9]);(refine plp rfl rfl ?_;simp only [put9]);refine plan_call (W x) 89 #[.int .u64 (h1:Nat), .int .u64 (l2:Nat)] rfl rfl rfl (fun _ _ h hb=>⟨row_call h.1 hb,row_call h.2.1 hb,h.2.2.trans (hb.mono h.2.2.size)⟩) (fun w' hS=>by obtain ⟨X0,X1,X2,X3,X4,X5,Xf0,Xf1,Xf2,Xf3,Xf4,Xf5⟩:=row_six hS.1;go_simp) (fun w' hS=>PX.out w') ?_;simp only [put9];iterate 2 (refine plp rfl rfl ?_;simp only [put9])
  (refine plv rfl rfl rfl (fun w' hS=>by obtain ⟨X0,X1,X2,X3,X4,X5,Xf0,Xf1,Xf2,Xf3,Xf4,Xf5⟩:=row_six hS.1;exact gs9) ?_;simp only [put9]);refine plan_call (.int .u64 (l1:Nat)) 179 #[.int .i64 (l1:Nat)] rfl rfl rfl (fun _ _ h hb=>⟨row_call h.1 hb,row_call h.2.1 hb,h.2.2.trans (hb.mono h.2.2.size)⟩) (fun w' hS=>by obtain ⟨X0,X1,X2,X3,X4,X5,Xf0,Xf1,Xf2,Xf3,Xf4,Xf5⟩:=row_six hS.1;go_simp) (fun w' hS=>(PS2.out w').mono (fun e w'' h=>⟨h.1,by rw [h.2];exact Below.refl _ _⟩)) ?_;simp only [put9];iterate 2 (refine plp rfl rfl ?_;simp only [put9])
  (refine plv rfl rfl rfl (fun w' hS=>by obtain ⟨X0,X1,X2,X3,X4,X5,Xf0,Xf1,Xf2,Xf3,Xf4,Xf5⟩:=row_six hS.1;exact gs9) ?_;simp only [put9]);(refine plp rfl rfl ?_;simp only [put9]);refine plan_call (W y) 89 #[.int .u64 (l1:Nat), .int .u64 (h2:Nat)] rfl rfl rfl (fun _ _ h hb=>⟨row_call h.1 hb,row_call h.2.1 hb,h.2.2.trans (hb.mono h.2.2.size)⟩) (fun w' hS=>by obtain ⟨X0,X1,X2,X3,X4,X5,Xf0,Xf1,Xf2,Xf3,Xf4,Xf5⟩:=row_six hS.1;go_simp) (fun w' hS=>PY.out w') ?_;simp only [put9];refine plan_nil ?_;intro g1 g2 w3 L hr1 hr2 hne hg1 hg2;simp only [List.drop_succ_cons,List.drop_zero];try simp only [put9]
  obtain ⟨X',R',o'⟩:=L;clear X R o;unfold W;have q1:w.heap.size+1≠g1:=by omega
  have q2:w.heap.size+1≠g2:=by omega
  have q3:w.heap.size≠g1:=by omega
  have q4:w.heap.size≠g2:=by omega
  have q5:w.heap.size<=g1:=by omega
  have q6:w.heap.size<=g2:=by omega
  obtain ⟨A0,A1,Af0,Af1⟩:=row_two hr1;obtain ⟨C0,C1,Cf0,Cf1⟩:=row_two hr2;go_upto_region 2 with (fail)
  have Rg:=row_two_other (c:=g2) (u := .int .u64 (hi y)) (v := .int .u64 (lo y)) (row_two_set (u := .int .u64 (hi x)) (v := .int .u64 (lo x)) hr1) hne;have Rk:=row_two_set (u := .int .u64 (hi y)) (v := .int .u64 (lo y)) (row_two_other (c:=g1) (u := .int .u64 (hi x)) (v := .int .u64 (lo x)) hr2 (Ne.symm hne));have X:=row_two_other (c:=g2) (u := .int .u64 (hi y)) (v := .int .u64 (lo y)) (row_two_other (c:=g1) (u := .int .u64 (hi x)) (v := .int .u64 (lo x)) X' q3) q4;have R:=row_two_other (c:=g2) (u := .int .u64 (hi y)) (v := .int .u64 (lo y)) (row_two_other (c:=g1) (u := .int .u64 (hi x)) (v := .int .u64 (lo x)) R' q1) q2;have o:=(((o'.setCell (p:=⟨g1,0,none⟩) q5 (.int .u64 (hi x))).setCell (p:=⟨g1,1,none⟩) q5 (.int .u64 (lo x))).setCell (p:=⟨g2,0,none⟩) q6 (.int .u64 (hi y))).setCell (p:=⟨g2,1,none⟩) q6 (.int .u64 (lo y));generalize (((w3.setCell ⟨g1,0,none⟩ (.int .u64 (hi x))).setCell ⟨g1,1,none⟩ (.int .u64 (lo x))).setCell ⟨g2,0,none⟩ (.int .u64 (hi y))).setCell ⟨g2,1,none⟩ (.int .u64 (lo y))=w5 at Rg Rk X R o |-
  clear hr1 hr2 X' R' o' A0 A1 Af0 Af1 C0 C1 Cf0 Cf1;have gl1:=row_lt Rg;have gl2:=row_lt Rk;have rl5:=row_lt R;go_upto_region 4 with (fail)
  have D:=row_new (w:=w5) (t:=67) (cs:=#[.int .u64 0, .int .u64 0]) rfl;replace Rg:=row_alloc Rg (.cells #[.int .u64 0, .int .u64 0] 67);replace Rk:=row_alloc Rk (.cells #[.int .u64 0, .int .u64 0] 67);replace X:=row_alloc X (.cells #[.int .u64 0, .int .u64 0] 67);replace R:=row_alloc R (.cells #[.int .u64 0, .int .u64 0] 67);replace o:=o.alloc o.size (.cells #[.int .u64 0, .int .u64 0] 67);generalize w5.alloc (.cells #[.int .u64 0, .int .u64 0] 67)=w6 at Rg Rk X R D o |-
  have d1:w.heap.size<=w5.heap.size:=by omega
  have d2:w.heap.size+1≠w5.heap.size:=by omega
  generalize w5.heap.size=db at D d1 d2 gl1 gl2 rl5 |-
  obtain ⟨X0,X1,X2,X3,X4,X5,Xf0,Xf1,Xf2,Xf3,Xf4,Xf5⟩:=row_six X;obtain ⟨A0,A1,Af0,Af1⟩:=row_two Rg;obtain ⟨C0,C1,Cf0,Cf1⟩:=row_two Rk;have PD2:=PD.out;unfold W at PD2;replace PD2:=Lib.hid PD2;go_wp2_with fail;refine (PD2.out _).mono ?_;rintro e w7 ⟨rfl,hb⟩;replace D:=row_call D hb;replace R:=row_call R hb;replace o:=o.trans (hb.mono o.size);clear hb X X0 X1 X2 X3 X4 X5 Xf0 Xf1 Xf2 Xf3 Xf4 Xf5 Rg Rk A0 A1 Af0 Af1 C0 C1 Cf0 Cf1;obtain ⟨D0,D1,Df0,Df1⟩:=row_two D;go_upto_region 8 with (fail)
  have D':=row_two_set (u := .int .u64 (hi d)) (v := .int .u64 (lo d)) D;replace R:=row_two_other (c:=db) (u := .int .u64 (hi d)) (v := .int .u64 (lo d)) R d2;replace o:=(o.setCell (p:=⟨db,0,none⟩) d1 (.int .u64 (hi d))).setCell (p:=⟨db,1,none⟩) d1 (.int .u64 (lo d));generalize (w7.setCell ⟨db,0,none⟩ (.int .u64 (hi d))).setCell ⟨db,1,none⟩ (.int .u64 (lo d))=w8 at D' R o |-
  clear D D0 D1 Df0 Df1;obtain ⟨D0,D1,Df0,Df1⟩:=row_two D';cases r2 R;go_wp2;have r9:=row_two_set (u := .int .u64 (hi d)) (v := .int .u64 (lo d)) R;have hbr:w.heap.size<=w.heap.size+1:=by omega
  have o9:Below w w ((w8.setCell ⟨w.heap.size+1,0,none⟩ (.int .u64 (hi d))).setCell ⟨w.heap.size+1,1,none⟩ (.int .u64 (lo d))):=(o.setCell (p:=⟨w.heap.size+1,0,none⟩) hbr (.int .u64 (hi d))).setCell (p:=⟨w.heap.size+1,1,none⟩) hbr (.int .u64 (lo d));generalize (w8.setCell ⟨w.heap.size+1,0,none⟩ (.int .u64 (hi d))).setCell ⟨w.heap.size+1,1,none⟩ (.int .u64 (lo d))=w9 at r9 o9 |-
  obtain ⟨e1,e2,_,_⟩:=row_two r9;exact bodyPost_ret (v:=W d) (by simp [results,Tryz.results87,go_sem,W,e1,e2]) rfl ⟨rfl,o9⟩
end Go.Proofs.YtdipoojjlddohaaGreat
