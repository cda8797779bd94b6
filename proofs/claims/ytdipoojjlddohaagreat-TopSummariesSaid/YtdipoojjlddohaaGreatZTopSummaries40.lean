/- What the law TopSummaries needs, joined of its texts by a program (slim2.py); part 40. -/
import Derived.Test.YtdipoojjlddohaaGreatZTopSummaries1
import Derived.Test.YtdipoojjlddohaaGreatZTopSummaries2
import Derived.Test.YtdipoojjlddohaaGreatZTopSummaries3
import Derived.Test.YtdipoojjlddohaaGreatZTopSummaries4
import Derived.Test.YtdipoojjlddohaaGreatZTopSummaries5
import Derived.Test.YtdipoojjlddohaaGreatZTopSummaries6
import Derived.Test.YtdipoojjlddohaaGreatZTopSummaries8
import Derived.Test.YtdipoojjlddohaaGreatZTopSummaries11
import Derived.Test.YtdipoojjlddohaaGreatZTopSummaries12
import Derived.Test.YtdipoojjlddohaaGreatZTopSummaries14
import Derived.Test.YtdipoojjlddohaaGreatZTopSummaries15
import Derived.Test.YtdipoojjlddohaaGreatZTopSummaries16
import Derived.Test.YtdipoojjlddohaaGreatZTopSummaries27
import Derived.Test.YtdipoojjlddohaaGreatZTopSummaries30
import Derived.Test.YtdipoojjlddohaaGreatZTopSummaries39
set_option linter.unusedVariables false
set_option linter.unusedSimpArgs false
set_option linter.unusedSectionVars false
set_option linter.unnecessarySimpa false
section
/- Ratios are compared, intervals are valid and hold a number: for ratios that are not negative, walked. -/
namespace Go.Proofs.YtdipoojjlddohaaGreat
open Go.RowKit Go.Shelf
def RatOK (a b:Nat):Prop:=a<4611686018427387904∧(1≤b∧b≤4294967295)∧Nat.gcd a b=1
theorem ratOK_one {a:Nat} (h:a<4611686018427387904):RatOK a 1:=⟨h,⟨by omega,by omega⟩,Nat.gcd_one_right a⟩
theorem pvR {a b:Nat} (h:RatOK a b) (w:World):Calls Tryz.prog 56 #[.agg #[.int .i64 (a:Nat), .int .i64 (b:Nat)]] w fun e w'=>e = .returned (.bool true)∧Below w.heap.size w w':=pratval a b w (by have:=h.1;omega) h.2.1.1 (by have:=h.2.1.2;omega) h.2.2
theorem pcmpR {a b c d:Nat} (h1:RatOK a b) (h2:RatOK c d) (w:World):Calls Tryz.prog 55 #[.agg #[.int .i64 (a:Nat), .int .i64 (b:Nat)], .agg #[.int .i64 (c:Nat), .int .i64 (d:Nat)]] w fun e w'=>e = .returned (.int .i64 (icmp ((a:Int)*(d:Int)) ((c:Int)*(b:Int))))∧Below w.heap.size w w':=by
  have P1:=Lib.hid (fun w=>pvR h1 w)
  have P2:=Lib.hid (fun w=>pvR h2 w)
  have P3:=fun w=>pcross (a:Int) (d:Int) (c:Int) (b:Int) (by have:=h1.1;omega) (by have:=h2.2.1.2;omega) (by have:=h2.1;omega) (by have:=h1.2.1.2;omega) w
  generalize icmp ((a:Int)*(d:Int)) ((c:Int)*(b:Int))=r at P3 ⊢
  replace P3:=Lib.hid P3
  clear h1 h2
  go_enter Tryz.func55,Tryz.ntmps55
  go_wp2_with (first | (go_at_call 56;with_reducible refine (P1.out _).mono ?_;rintro e w1 ⟨rfl,hb1⟩;have hz1:=hb1.size;(try simp at hz1);have o1:Below w.heap.size w w1:=(by (repeat (first | exact Below.refl _ _ | refine Below.setCell ?_ (by (try simp)<;>omega) _ | refine Below.alloc ?_ (by (try simp)<;>omega) _ | refine Below.drew ?_ | refine Below.trans ?_ (Below.mono (by assumption) (by (try simp)<;>omega)))));have q1_0:w.heap.size<w1.heap.size:=(by omega);have r1_0:Row w1 (w.heap.size) 62 #[.int .i64 (a:Nat), .int .i64 (b:Nat)]:=row_call (by (repeat (first | assumption | (refine row_new ?_;(first | (simp;done) | omega)) | refine row_alloc ?_ _ | refine row_drew ?_ | refine row_call ?_ (by assumption)))) hb1;obtain ⟨c1_0a,c1_0b,f1_0a,f1_0b⟩:=row_two r1_0;have q1_1:w.heap.size+1<w1.heap.size:=(by omega);have r1_1:Row w1 (w.heap.size+1) 62 #[.int .i64 (c:Nat), .int .i64 (d:Nat)]:=row_call (by (repeat (first | assumption | (refine row_new ?_;(first | (simp;done) | omega)) | refine row_alloc ?_ _ | refine row_drew ?_ | refine row_call ?_ (by assumption)))) hb1;obtain ⟨c1_1a,c1_1b,f1_1a,f1_1b⟩:=row_two r1_1) | (go_at_call 56;with_reducible refine (P2.out _).mono ?_;rintro e w2 ⟨rfl,hb2⟩;have hz2:=hb2.size;(try simp at hz2);have o2:Below w.heap.size w w2:=(by (repeat (first | exact Below.refl _ _ | refine Below.setCell ?_ (by (try simp)<;>omega) _ | refine Below.alloc ?_ (by (try simp)<;>omega) _ | refine Below.drew ?_ | refine Below.trans ?_ (Below.mono (by assumption) (by (try simp)<;>omega)))));have q2_0:w.heap.size<w2.heap.size:=(by omega);have r2_0:Row w2 (w.heap.size) 62 #[.int .i64 (a:Nat), .int .i64 (b:Nat)]:=row_call (by (repeat (first | assumption | (refine row_new ?_;(first | (simp;done) | omega)) | refine row_alloc ?_ _ | refine row_drew ?_ | refine row_call ?_ (by assumption)))) hb2;obtain ⟨c2_0a,c2_0b,f2_0a,f2_0b⟩:=row_two r2_0;have q2_1:w.heap.size+1<w2.heap.size:=(by omega);have r2_1:Row w2 (w.heap.size+1) 62 #[.int .i64 (c:Nat), .int .i64 (d:Nat)]:=row_call (by (repeat (first | assumption | (refine row_new ?_;(first | (simp;done) | omega)) | refine row_alloc ?_ _ | refine row_drew ?_ | refine row_call ?_ (by assumption)))) hb2;obtain ⟨c2_1a,c2_1b,f2_1a,f2_1b⟩:=row_two r2_1) | (go_at_call 153;with_reducible refine (P3.out _).mono ?_;rintro e w3 ⟨rfl,hb3⟩;have hz3:=hb3.size;(try simp at hz3);have o3:Below w.heap.size w w3:=(by (repeat (first | exact Below.refl _ _ | refine Below.setCell ?_ (by (try simp)<;>omega) _ | refine Below.alloc ?_ (by (try simp)<;>omega) _ | refine Below.drew ?_ | refine Below.trans ?_ (Below.mono (by assumption) (by (try simp)<;>omega)))))))
  go_ret
  exact ⟨rfl,o3⟩
theorem icmp_le {p q:Int} (h:p≤q):icmp p q≤0:=by unfold icmp;split<;>(try split)<;>omega
theorem pleR {a b c d:Nat} (h1:RatOK a b) (h2:RatOK c d) (h:a*d≤c*b):∃ r:Int,r≤0∧∀ w,Calls Tryz.prog 55 #[.agg #[.int .i64 (a:Nat), .int .i64 (b:Nat)], .agg #[.int .i64 (c:Nat), .int .i64 (d:Nat)]] w fun e w'=>e = .returned (.int .i64 r)∧Below w.heap.size w w' :=
  ⟨_,icmp_le (by rw [← Int.natCast_mul,← Int.natCast_mul];exact Int.ofNat_le.2 h),fun w=>pcmpR h1 h2 w⟩
structure BndOK (l1 l2 m1 m2 h1 h2:Nat):Prop where
  lo:RatOK l1 l2
  md:RatOK m1 m2
  hi:RatOK h1 h2
  lm:l1*m2≤m1*l2
  mh:m1*h2≤h1*m2
set_option maxHeartbeats 1000000 in
theorem pbvalid {l1 l2 m1 m2 h1 h2:Nat} (h:BndOK l1 l2 m1 m2 h1 h2) (w:World):Calls Tryz.prog 14 #[.agg #[.int .i64 (l1:Nat), .int .i64 (l2:Nat), .int .i64 (m1:Nat), .int .i64 (m2:Nat), .int .i64 (h1:Nat), .int .i64 (h2:Nat)]] w fun e w'=>e = .returned (.bool true)∧Below w.heap.size w w':=by
  have P1:=Lib.hid (fun w=>pvR h.lo w)
  have P2:=Lib.hid (fun w=>pvR h.md w)
  have P3:=Lib.hid (fun w=>pvR h.hi w)
  obtain ⟨r4,i4,P4⟩:=pleR h.lo h.md h.lm
  obtain ⟨r5,i5,P5⟩:=pleR h.md h.hi h.mh
  replace P4:=Lib.hid P4
  replace P5:=Lib.hid P5
  clear h
  go_enter Tryz.func14,Tryz.ntmps14
  go_upto_region 1 with (fail)
  have X:Row (w.alloc (.cells #[.int .i64 (l1:Nat), .int .i64 (l2:Nat), .int .i64 (m1:Nat), .int .i64 (m2:Nat), .int .i64 (h1:Nat), .int .i64 (h2:Nat)] 64)) w.heap.size 64 #[.int .i64 (l1:Nat), .int .i64 (l2:Nat), .int .i64 (m1:Nat), .int .i64 (m2:Nat), .int .i64 (h1:Nat), .int .i64 (h2:Nat)]:=row_new rfl
  have o:Below w.heap.size w (w.alloc (.cells #[.int .i64 (l1:Nat), .int .i64 (l2:Nat), .int .i64 (m1:Nat), .int .i64 (m2:Nat), .int .i64 (h1:Nat), .int .i64 (h2:Nat)] 64)):=by (repeat (first | exact Below.refl _ _ | refine Below.setCell ?_ (by (try simp)<;>omega) _ | refine Below.alloc ?_ (by (try simp)<;>omega) _ | refine Below.drew ?_ | refine Below.trans ?_ (Below.mono (by assumption) (by (try simp)<;>omega))))
  generalize (w.alloc (.cells #[.int .i64 (l1:Nat), .int .i64 (l2:Nat), .int .i64 (m1:Nat), .int .i64 (m2:Nat), .int .i64 (h1:Nat), .int .i64 (h2:Nat)] 64))=w0 at X o ⊢
  obtain ⟨X0,X1,X2,X3,X4,X5,Xf0,Xf1,Xf2,Xf3,Xf4,Xf5⟩:=row_six X
  go_wp2_with fail
  refine (P1.out _).mono ?_
  rintro e w1 ⟨rfl,hb⟩
  replace X:=row_call X hb
  replace o:=o.trans (hb.mono o.size)
  clear hb X0 Xf0 X1 Xf1 X2 Xf2 X3 Xf3 X4 Xf4 X5 Xf5
  obtain ⟨X0,X1,X2,X3,X4,X5,Xf0,Xf1,Xf2,Xf3,Xf4,Xf5⟩:=row_six X
  go_wp2_with fail
  refine (P2.out _).mono ?_
  rintro e w2 ⟨rfl,hb⟩
  replace X:=row_call X hb
  replace o:=o.trans (hb.mono o.size)
  clear hb X0 Xf0 X1 Xf1 X2 Xf2 X3 Xf3 X4 Xf4 X5 Xf5
  obtain ⟨X0,X1,X2,X3,X4,X5,Xf0,Xf1,Xf2,Xf3,Xf4,Xf5⟩:=row_six X
  go_wp2_with fail
  refine (P3.out _).mono ?_
  rintro e w3 ⟨rfl,hb⟩
  replace X:=row_call X hb
  replace o:=o.trans (hb.mono o.size)
  clear hb X0 Xf0 X1 Xf1 X2 Xf2 X3 Xf3 X4 Xf4 X5 Xf5
  obtain ⟨X0,X1,X2,X3,X4,X5,Xf0,Xf1,Xf2,Xf3,Xf4,Xf5⟩:=row_six X
  go_wp2_with fail
  refine (P4.out _).mono ?_
  rintro e w4 ⟨rfl,hb⟩
  replace X:=row_call X hb
  replace o:=o.trans (hb.mono o.size)
  clear hb X0 Xf0 X1 Xf1 X2 Xf2 X3 Xf3 X4 Xf4 X5 Xf5
  obtain ⟨X0,X1,X2,X3,X4,X5,Xf0,Xf1,Xf2,Xf3,Xf4,Xf5⟩:=row_six X
  go_wp2_with fail
  refine (P5.out _).mono ?_
  rintro e w5 ⟨rfl,hb⟩
  replace X:=row_call X hb
  replace o:=o.trans (hb.mono o.size)
  clear hb X0 Xf0 X1 Xf1 X2 Xf2 X3 Xf3 X4 Xf4 X5 Xf5
  go_wp2
  go_ret
  exact ⟨by first | rfl | (simp;omega),o⟩
set_option maxHeartbeats 1000000 in
theorem pholds {l1 l2 m1 m2 h1 h2 v1 v2:Nat} (h:BndOK l1 l2 m1 m2 h1 h2) (hv:RatOK v1 v2) (hl:l1*v2≤v1*l2) (hh:v1*h2≤h1*v2) (w:World):Calls Tryz.prog 16 #[.agg #[.int .i64 (l1:Nat), .int .i64 (l2:Nat), .int .i64 (m1:Nat), .int .i64 (m2:Nat), .int .i64 (h1:Nat), .int .i64 (h2:Nat)], .agg #[.int .i64 (v1:Nat), .int .i64 (v2:Nat)]] w fun e w'=>e = .returned (.bool true)∧Below w.heap.size w w':=by
  have P1:=Lib.hid (fun w=>pbvalid h w)
  have P2:=Lib.hid (fun w=>pvR hv w)
  obtain ⟨r4,i4,P3⟩:=pleR h.lo hv hl
  obtain ⟨r5,i5,P4⟩:=pleR hv h.hi hh
  replace P3:=Lib.hid P3
  replace P4:=Lib.hid P4
  clear h hv hl hh
  go_enter Tryz.func16,Tryz.ntmps16
  go_upto_region 1 with (fail)
  have X:Row ((w.alloc (.cells #[.int .i64 (l1:Nat), .int .i64 (l2:Nat), .int .i64 (m1:Nat), .int .i64 (m2:Nat), .int .i64 (h1:Nat), .int .i64 (h2:Nat)] 64)).alloc (.cells #[.int .i64 (v1:Nat), .int .i64 (v2:Nat)] 62)) w.heap.size 64 #[.int .i64 (l1:Nat), .int .i64 (l2:Nat), .int .i64 (m1:Nat), .int .i64 (m2:Nat), .int .i64 (h1:Nat), .int .i64 (h2:Nat)]:=row_alloc (row_new rfl) _
  have Y:Row ((w.alloc (.cells #[.int .i64 (l1:Nat), .int .i64 (l2:Nat), .int .i64 (m1:Nat), .int .i64 (m2:Nat), .int .i64 (h1:Nat), .int .i64 (h2:Nat)] 64)).alloc (.cells #[.int .i64 (v1:Nat), .int .i64 (v2:Nat)] 62)) (w.heap.size+1) 62 #[.int .i64 (v1:Nat), .int .i64 (v2:Nat)]:=row_new (by simp)
  have o:Below w.heap.size w ((w.alloc (.cells #[.int .i64 (l1:Nat), .int .i64 (l2:Nat), .int .i64 (m1:Nat), .int .i64 (m2:Nat), .int .i64 (h1:Nat), .int .i64 (h2:Nat)] 64)).alloc (.cells #[.int .i64 (v1:Nat), .int .i64 (v2:Nat)] 62)):=by (repeat (first | exact Below.refl _ _ | refine Below.setCell ?_ (by (try simp)<;>omega) _ | refine Below.alloc ?_ (by (try simp)<;>omega) _ | refine Below.drew ?_ | refine Below.trans ?_ (Below.mono (by assumption) (by (try simp)<;>omega))))
  generalize ((w.alloc (.cells #[.int .i64 (l1:Nat), .int .i64 (l2:Nat), .int .i64 (m1:Nat), .int .i64 (m2:Nat), .int .i64 (h1:Nat), .int .i64 (h2:Nat)] 64)).alloc (.cells #[.int .i64 (v1:Nat), .int .i64 (v2:Nat)] 62))=w0 at X Y o ⊢
  obtain ⟨X0,X1,X2,X3,X4,X5,Xf0,Xf1,Xf2,Xf3,Xf4,Xf5⟩:=row_six X
  obtain ⟨Y0,Y1,Yf0,Yf1⟩:=row_two Y
  go_wp2_with fail
  refine (P1.out _).mono ?_
  rintro e w1 ⟨rfl,hb⟩
  replace X:=row_call X hb
  replace Y:=row_call Y hb
  replace o:=o.trans (hb.mono o.size)
  clear hb X0 Xf0 X1 Xf1 X2 Xf2 X3 Xf3 X4 Xf4 X5 Xf5 Y0 Yf0 Y1 Yf1
  obtain ⟨X0,X1,X2,X3,X4,X5,Xf0,Xf1,Xf2,Xf3,Xf4,Xf5⟩:=row_six X
  obtain ⟨Y0,Y1,Yf0,Yf1⟩:=row_two Y
  go_wp2_with fail
  refine (P2.out _).mono ?_
  rintro e w2 ⟨rfl,hb⟩
  replace X:=row_call X hb
  replace Y:=row_call Y hb
  replace o:=o.trans (hb.mono o.size)
  clear hb X0 Xf0 X1 Xf1 X2 Xf2 X3 Xf3 X4 Xf4 X5 Xf5 Y0 Yf0 Y1 Yf1
  obtain ⟨X0,X1,X2,X3,X4,X5,Xf0,Xf1,Xf2,Xf3,Xf4,Xf5⟩:=row_six X
  obtain ⟨Y0,Y1,Yf0,Yf1⟩:=row_two Y
  go_wp2_with fail
  refine (P3.out _).mono ?_
  rintro e w3 ⟨rfl,hb⟩
  replace X:=row_call X hb
  replace Y:=row_call Y hb
  replace o:=o.trans (hb.mono o.size)
  clear hb X0 Xf0 X1 Xf1 X2 Xf2 X3 Xf3 X4 Xf4 X5 Xf5 Y0 Yf0 Y1 Yf1
  obtain ⟨X0,X1,X2,X3,X4,X5,Xf0,Xf1,Xf2,Xf3,Xf4,Xf5⟩:=row_six X
  obtain ⟨Y0,Y1,Yf0,Yf1⟩:=row_two Y
  go_wp2_with fail
  refine (P4.out _).mono ?_
  rintro e w4 ⟨rfl,hb⟩
  replace X:=row_call X hb
  replace Y:=row_call Y hb
  replace o:=o.trans (hb.mono o.size)
  clear hb X0 Xf0 X1 Xf1 X2 Xf2 X3 Xf3 X4 Xf4 X5 Xf5 Y0 Yf0 Y1 Yf1
  go_wp2
  go_ret
  exact ⟨by first | rfl | (simp;omega),o⟩
end Go.Proofs.YtdipoojjlddohaaGreat
end
section
/- Synopses of kind Count: the clock moved on, an item more, walked. -/
namespace Go.Proofs.YtdipoojjlddohaaGreat
open Go.RowKit
set_option maxRecDepth 100000 in
set_option maxHeartbeats 4000000 in
theorem pyAddCount (A:Option Addr) (m c:Nat) (wd:Int) (k cap:Nat) (now:Int) (v:Int) (w:World) (IN:Option Addr→Nat→Nat→World→Prop) (hIN:InOK IN) (Fr:Nat→Prop) (hFr:∀ b,Fr b→b<w.heap.size) (HV:RowKit.Hid (∀ w',Below w.heap.size w w'→Calls Tryz.prog 133 #[.agg #[.int .i64 wd, .int .i64 (k:Nat), .int .i64 (cap:Nat), .int .i64 now, .slice A m c]] w' fun e w''=>e = .returned (.int .i64 0)∧Below w'.heap.size w' w'')) (HC:RowKit.Hid (∀ w',Calls Tryz.prog 108 #[.agg #[.int .i64 2, .int .i64 0, .int .i64 wd, .int .i64 (k:Nat), .int .i64 (cap:Nat), .int .i64 0, .int .i64 0, .int .i64 0]] w' fun e w''=>e = .returned (.int .i64 0)∧Below w'.heap.size w' w'')) (HA:RowKit.Hid (∀ w',Below w.heap.size w w'→Calls Tryz.prog 121 #[.agg #[.int .i64 wd, .int .i64 (k:Nat), .int .i64 (cap:Nat), .int .i64 now, .slice A m c]] w' (GRet IN (fun A m c=>#[.int .i64 wd, .int .i64 (k:Nat), .int .i64 (cap:Nat), .int .i64 now, .slice A m c]) 0 Fr w'))) (v0 : -4096≤v) (v1:v≤4096):Calls Tryz.prog 38 #[.agg #[.int .i64 2, .int .i64 0, .int .i64 wd, .int .i64 (k:Nat), .int .i64 (cap:Nat), .int .i64 0, .int .i64 0, .int .i64 0, .int .i64 0, .int .i64 0, .int .i64 0, .slice none 0 0, .int .i64 wd, .int .i64 (k:Nat), .int .i64 (cap:Nat), .int .i64 now, .slice A m c, .int .i64 0, .int .i64 0, .int .i64 0, .int .i64 0, .int .i64 0, .slice none 0 0, .int .i64 0, .int .i64 0, .int .i64 0, .int .i64 0, .int .i64 0, .int .i64 0, .slice none 0 0, .int .i64 0, .int .i64 0, .int .i64 0, .int .i64 0, .int .i64 0, .slice none 0 0, .int .i64 0, .int .i64 0, .int .i64 0, .slice none 0 0, .int .i64 0, .slice none 0 0, .bool false, .int .i64 0, .int .i64 0, .int .i64 0, .slice none 0 0, .slice none 0 0, .int .i64 0, .int .i64 0, .int .i64 0, .slice none 0 0, .int .i64 0, .int .i64 0, .int .i64 0, .int .i64 0, .slice none 0 0], .int .i64 v, .slice none 0 0] w (GRet IN (fun A m c=>#[.int .i64 2, .int .i64 0, .int .i64 wd, .int .i64 (k:Nat), .int .i64 (cap:Nat), .int .i64 0, .int .i64 0, .int .i64 0, .int .i64 0, .int .i64 0, .int .i64 0, .slice none 0 0, .int .i64 wd, .int .i64 (k:Nat), .int .i64 (cap:Nat), .int .i64 now, .slice A m c, .int .i64 0, .int .i64 0, .int .i64 0, .int .i64 0, .int .i64 0, .slice none 0 0, .int .i64 0, .int .i64 0, .int .i64 0, .int .i64 0, .int .i64 0, .int .i64 0, .slice none 0 0, .int .i64 0, .int .i64 0, .int .i64 0, .int .i64 0, .int .i64 0, .slice none 0 0, .int .i64 0, .int .i64 0, .int .i64 0, .slice none 0 0, .int .i64 0, .slice none 0 0, .bool false, .int .i64 0, .int .i64 0, .int .i64 0, .slice none 0 0, .slice none 0 0, .int .i64 0, .int .i64 0, .int .i64 0, .slice none 0 0, .int .i64 0, .int .i64 0, .int .i64 0, .int .i64 0, .slice none 0 0]) 0 Fr w):=by
  have PVd:=Lib.hid (fun w' (hb:Below w.heap.size w w')=>pvCount A m c wd k cap now w' (Lib.hid (fun w'' hb2=>HV.out w'' (hb.trans (hb2.mono hb.size)))) HC)
  have v2:¬ v < -4096:=by omega
  have v3:¬ 4096<v:=by omega
  go_enter Tryz.func38,Tryz.ntmps38
  go_upto_region 1 with (fail)
  refine start2 (fun w1 X R o=>?_)
  go_wp2_with (with_reducible refine wpList_lsyn X rfl rfl _ rfl rfl ?_)
  refine (PVd.out _ o).mono ?_
  rintro e w2 ⟨rfl,hb⟩
  replace X:=row_call X hb
  replace R:=row_call R hb
  replace o:=o.trans (hb.mono o.size)
  clear hb PVd
  have k0:w2.cell? ⟨w.heap.size,0,none⟩=some (.int .i64 2):=row_cell X 0
  have q0:w2.cell? ⟨w.heap.size,12,none⟩=some (.int .i64 wd):=row_cell X 12
  have q1:w2.cell? ⟨w.heap.size,13,none⟩=some (.int .i64 (k:Nat)):=row_cell X 13
  have q2:w2.cell? ⟨w.heap.size,14,none⟩=some (.int .i64 (cap:Nat)):=row_cell X 14
  have q3:w2.cell? ⟨w.heap.size,15,none⟩=some (.int .i64 now):=row_cell X 15
  have q4:w2.cell? ⟨w.heap.size,16,none⟩=some (.slice A m c):=row_cell X 16
  go_wp2_with fail
  refine (HA.out _ o).mono ?_
  rintro e w3 ⟨A5,m5,c5,rfl,in5,hb,fr5⟩
  have z6:=row_lt R
  have zo:=o.size
  have fr6:0<m5→∀ a,A5=some a→(w.heap.size≠a.block∧w.heap.size+1≠a.block)∧(w.heap.size≤a.block∨Fr a.block):=fun h0 a e=>by
    rcases fr5 h0 a e with h | h
    · exact ⟨by omega, .inl (by omega)⟩
    · have:=hFr _ h
      exact ⟨by omega, .inr h⟩
  replace X:=row_call X hb
  replace R:=row_call R hb
  replace o:=o.trans (hb.mono o.size)
  clear hb fr5 HA q0 q1 q2 q3 q4 k0
  have q0:w3.cell? ⟨w.heap.size,12,none⟩=some (.int .i64 wd):=row_cell X 12
  have q1:w3.cell? ⟨w.heap.size,13,none⟩=some (.int .i64 (k:Nat)):=row_cell X 13
  have q2:w3.cell? ⟨w.heap.size,14,none⟩=some (.int .i64 (cap:Nat)):=row_cell X 14
  have q3:w3.cell? ⟨w.heap.size,15,none⟩=some (.int .i64 now):=row_cell X 15
  have q4:w3.cell? ⟨w.heap.size,16,none⟩=some (.slice A m c):=row_cell X 16
  have f0:=row_free X 12
  have f1:=row_free X 13
  have f2:=row_free X 14
  have f3:=row_free X 15
  have f4:=row_free X 16
  go_upto_region 29 with (fail)
  clear q0 f0 q1 f1 q2 f2 q3 f3 q4 f4
  show Code.wp _ _ _ _ (setL w3 (w.heap.size) 12 [.int .i64 wd, .int .i64 (k:Nat), .int .i64 (cap:Nat), .int .i64 now, .slice A5 m5 c5])
  refine layS 12 [.int .i64 wd, .int .i64 (k:Nat), .int .i64 (cap:Nat), .int .i64 now, .slice A5 m5 c5] X R o hIN in5 (fun h0 a e=>(fr6 h0 a e).1.1) (by omega) (Nat.le_refl _) ?_
  clear X R o in5
  intro w4 X R o in5
  replace X:Row w4 (w.heap.size) 58 #[.int .i64 2, .int .i64 0, .int .i64 wd, .int .i64 (k:Nat), .int .i64 (cap:Nat), .int .i64 0, .int .i64 0, .int .i64 0, .int .i64 0, .int .i64 0, .int .i64 0, .slice none 0 0, .int .i64 wd, .int .i64 (k:Nat), .int .i64 (cap:Nat), .int .i64 now, .slice A5 m5 c5, .int .i64 0, .int .i64 0, .int .i64 0, .int .i64 0, .int .i64 0, .slice none 0 0, .int .i64 0, .int .i64 0, .int .i64 0, .int .i64 0, .int .i64 0, .int .i64 0, .slice none 0 0, .int .i64 0, .int .i64 0, .int .i64 0, .int .i64 0, .int .i64 0, .slice none 0 0, .int .i64 0, .int .i64 0, .int .i64 0, .slice none 0 0, .int .i64 0, .slice none 0 0, .bool false, .int .i64 0, .int .i64 0, .int .i64 0, .slice none 0 0, .slice none 0 0, .int .i64 0, .int .i64 0, .int .i64 0, .slice none 0 0, .int .i64 0, .int .i64 0, .int .i64 0, .int .i64 0, .slice none 0 0]:=X
  have k0:w4.cell? ⟨w.heap.size,0,none⟩=some (.int .i64 2):=row_cell X 0
  have hone:(#[.int .i64 2, .int .i64 0, .int .i64 wd, .int .i64 (k:Nat), .int .i64 (cap:Nat), .int .i64 0, .int .i64 0, .int .i64 0, .int .i64 0, .int .i64 0, .int .i64 0, .slice none 0 0, .int .i64 wd, .int .i64 (k:Nat), .int .i64 (cap:Nat), .int .i64 now, .slice A5 m5 c5, .int .i64 0, .int .i64 0, .int .i64 0, .int .i64 0, .int .i64 0, .slice none 0 0, .int .i64 0, .int .i64 0, .int .i64 0, .int .i64 0, .int .i64 0, .int .i64 0, .slice none 0 0, .int .i64 0, .int .i64 0, .int .i64 0, .int .i64 0, .int .i64 0, .slice none 0 0, .int .i64 0, .int .i64 0, .int .i64 0, .slice none 0 0, .int .i64 0, .slice none 0 0, .bool false, .int .i64 0, .int .i64 0, .int .i64 0, .slice none 0 0, .slice none 0 0, .int .i64 0, .int .i64 0, .int .i64 0, .slice none 0 0, .int .i64 0, .int .i64 0, .int .i64 0, .int .i64 0, .slice none 0 0]:Array Value).all (·.oneCell')=true:=all_one rfl
  go_wp2_with (first | (with_reducible refine wpList_lsyn X rfl rfl _ rfl rfl ?_) | (with_reducible refine wpList_ssyn R rfl rfl hone rfl _ _ rfl rfl rfl ?_))
  have R9:=row_setRow (cs:=#[.int .i64 2, .int .i64 0, .int .i64 wd, .int .i64 (k:Nat), .int .i64 (cap:Nat), .int .i64 0, .int .i64 0, .int .i64 0, .int .i64 0, .int .i64 0, .int .i64 0, .slice none 0 0, .int .i64 wd, .int .i64 (k:Nat), .int .i64 (cap:Nat), .int .i64 now, .slice A5 m5 c5, .int .i64 0, .int .i64 0, .int .i64 0, .int .i64 0, .int .i64 0, .slice none 0 0, .int .i64 0, .int .i64 0, .int .i64 0, .int .i64 0, .int .i64 0, .int .i64 0, .slice none 0 0, .int .i64 0, .int .i64 0, .int .i64 0, .int .i64 0, .int .i64 0, .slice none 0 0, .int .i64 0, .int .i64 0, .int .i64 0, .slice none 0 0, .int .i64 0, .slice none 0 0, .bool false, .int .i64 0, .int .i64 0, .int .i64 0, .slice none 0 0, .slice none 0 0, .int .i64 0, .int .i64 0, .int .i64 0, .slice none 0 0, .int .i64 0, .int .i64 0, .int .i64 0, .int .i64 0, .slice none 0 0]) R
  refine bodyPost_ret (v := .tuple #[.agg #[.int .i64 2, .int .i64 0, .int .i64 wd, .int .i64 (k:Nat), .int .i64 (cap:Nat), .int .i64 0, .int .i64 0, .int .i64 0, .int .i64 0, .int .i64 0, .int .i64 0, .slice none 0 0, .int .i64 wd, .int .i64 (k:Nat), .int .i64 (cap:Nat), .int .i64 now, .slice A5 m5 c5, .int .i64 0, .int .i64 0, .int .i64 0, .int .i64 0, .int .i64 0, .slice none 0 0, .int .i64 0, .int .i64 0, .int .i64 0, .int .i64 0, .int .i64 0, .int .i64 0, .slice none 0 0, .int .i64 0, .int .i64 0, .int .i64 0, .int .i64 0, .int .i64 0, .slice none 0 0, .int .i64 0, .int .i64 0, .int .i64 0, .slice none 0 0, .int .i64 0, .slice none 0 0, .bool false, .int .i64 0, .int .i64 0, .int .i64 0, .slice none 0 0, .slice none 0 0, .int .i64 0, .int .i64 0, .int .i64 0, .slice none 0 0, .int .i64 0, .int .i64 0, .int .i64 0, .int .i64 0, .slice none 0 0], .int .i64 0]) ?_ rfl ?_
  · exact results_syn (p:=6) (q:=7) rfl _ R9 rfl rfl
  · exact ⟨A5,m5,c5,rfl,hIN.setr _ in5 (fun h0 a e=>(fr6 h0 a e).1.2),below_setRow o (by omega) _,fun h0 a e=>(fr6 h0 a e).2⟩
end Go.Proofs.YtdipoojjlddohaaGreat
end
section
/- Synopses of counts, with what they know of the stream. -/
namespace Go.Proofs.YtdipoojjlddohaaGreat
open Go.RowKit
def CtI (wd:Int) (k cap:Nat) (now:Int) (ts:List Int) (A:Option Addr) (m c:Nat) (w:World):Prop:=∃ l,BIn A m c l w∧(CtS wd k cap now l∧BHist ts now wd l)
theorem ctI_ok (wd:Int) (k cap:Nat) (now:Int) (ts:List Int):InOK (CtI wd k cap now ts):=inOK_bk _
def ctGood (wd:Int) (k cap:Nat):Prop:=1≤wd∧wd≤1048576∧1≤k∧k≤64∧1≤cap∧cap≤65536
theorem cov_tot {ts:List Int} {now wd:Int} {l:List Bk} (h:BHist ts now wd l):btot l≤ts.length:=by
  obtain ⟨dead,live,e,_,hc⟩:=h.cov
  rw [← hc.len,e,List.length_append]
  omega
theorem ct_new {wd:Int} {k cap:Nat} {now:Int} (h:ctGood wd k cap) (n0:0≤now) (n1:now≤16777216):CtS wd k cap now []∧BHist [] now wd [] :=
  ⟨⟨by unfold ctGood at h;omega,BV.nil k,by simp [btot],by simp⟩,BHist.nil now wd⟩
theorem ct_add {wd:Int} {k cap n:Nat} {now:Int} {ts:List Int} {l l':List Bk} (h:CtS wd k cap now l) (hh:BHist ts now wd l) (hr:btot l+n≤cap) (hi:Ins k l now n l'):CtS wd k cap now l'∧BHist (ts ++ List.replicate n now) now wd l':=by
  have g:=h.good
  refine ⟨⟨h.good,hi.val,by rw [hi.tot];omega,fun b hb=>?_⟩,hh.add (by omega) (by omega) hi⟩
  rcases hi.ticks b hb with e | ⟨b0,hb0,e⟩
  · omega
  · have:=h.live b0 hb0
    omega
theorem ct_cfg {wd:Int} {k cap:Nat} (h:ctGood wd k cap) (w:World):Calls Tryz.prog 108 #[.agg #[.int .i64 2, .int .i64 0, .int .i64 wd, .int .i64 (k:Nat), .int .i64 (cap:Nat), .int .i64 0, .int .i64 0, .int .i64 0]] w fun e w'=>e = .returned (.int .i64 0)∧Below w.heap.size w w':=by
  unfold ctGood at h
  exact pcfgCount (k:Nat) (cap:Nat) wd w (by omega) (by omega) (by omega) (by omega) (by omega) (by omega)
theorem tcNew {wd:Int} {k cap:Nat} {now:Int} (h:ctGood wd k cap) (n0:0≤now) (n1:now≤16777216) (w:World):Calls Tryz.prog 37 #[.agg #[.int .i64 2, .int .i64 0, .int .i64 wd, .int .i64 (k:Nat), .int .i64 (cap:Nat), .int .i64 0, .int .i64 0, .int .i64 0], .int .i64 now] w (GRet (CtI wd k cap now []) (fun A m c=>#[.int .i64 2, .int .i64 0, .int .i64 wd, .int .i64 (k:Nat), .int .i64 (cap:Nat), .int .i64 0, .int .i64 0, .int .i64 0, .int .i64 0, .int .i64 0, .int .i64 0, .slice none 0 0, .int .i64 wd, .int .i64 (k:Nat), .int .i64 (cap:Nat), .int .i64 now, .slice A m c, .int .i64 0, .int .i64 0, .int .i64 0, .int .i64 0, .int .i64 0, .slice none 0 0, .int .i64 0, .int .i64 0, .int .i64 0, .int .i64 0, .int .i64 0, .int .i64 0, .slice none 0 0, .int .i64 0, .int .i64 0, .int .i64 0, .int .i64 0, .int .i64 0, .slice none 0 0, .int .i64 0, .int .i64 0, .int .i64 0, .slice none 0 0, .int .i64 0, .slice none 0 0, .bool false, .int .i64 0, .int .i64 0, .int .i64 0, .slice none 0 0, .slice none 0 0, .int .i64 0, .int .i64 0, .int .i64 0, .slice none 0 0, .int .i64 0, .int .i64 0, .int .i64 0, .int .i64 0, .slice none 0 0]) 0 (fun _=>False) w):=by
  have HG:1≤wd∧wd≤1048576∧1≤k∧k≤64∧1≤cap∧cap≤65536∧0≤now∧now≤16777216:=by unfold ctGood at h;omega
  refine (pyNewCount wd k cap now w n0 n1 (Lib.hid (ct_cfg h)) (Lib.hid (fun w'=>pctnew wd k cap now w' HG))).mono fun e w' ⟨he,hb⟩=>?_
  exact ⟨none,0,0,he,⟨[],BIn.nil,ct_new h n0 n1⟩,hb,fun _ a e=>by cases e⟩
theorem tcHV {A:Option Addr} {m c:Nat} {wd:Int} {k cap:Nat} {now:Int} {ts:List Int} {w:World} (h:CtI wd k cap now ts A m c w):RowKit.Hid (∀ w',Below w.heap.size w w'→Calls Tryz.prog 133 #[.agg #[.int .i64 wd, .int .i64 (k:Nat), .int .i64 (cap:Nat), .int .i64 now, .slice A m c]] w' fun e w''=>e = .returned (.int .i64 0)∧Below w'.heap.size w' w''):=by
  obtain ⟨l,hin,hs,_⟩:=h
  exact Lib.hid (fun w' hb=>pctval A m c l wd k cap now w' (hin.below hb) hs)
theorem CtI.good {A:Option Addr} {m c:Nat} {wd:Int} {k cap:Nat} {now:Int} {ts:List Int} {w:World} (h:CtI wd k cap now ts A m c w):ctGood wd k cap∧0≤now∧now≤16777216:=by
  obtain ⟨l,_,hs,_⟩:=h
  have:=hs.good
  unfold ctGood
  omega
theorem tcAdd {A:Option Addr} {m c:Nat} {wd:Int} {k cap:Nat} {now v:Int} {ts:List Int} {w:World} (h:CtI wd k cap now ts A m c w) (hr:ts.length<cap) (v0 : -4096≤v) (v1:v≤4096):Calls Tryz.prog 38 #[.agg #[.int .i64 2, .int .i64 0, .int .i64 wd, .int .i64 (k:Nat), .int .i64 (cap:Nat), .int .i64 0, .int .i64 0, .int .i64 0, .int .i64 0, .int .i64 0, .int .i64 0, .slice none 0 0, .int .i64 wd, .int .i64 (k:Nat), .int .i64 (cap:Nat), .int .i64 now, .slice A m c, .int .i64 0, .int .i64 0, .int .i64 0, .int .i64 0, .int .i64 0, .slice none 0 0, .int .i64 0, .int .i64 0, .int .i64 0, .int .i64 0, .int .i64 0, .int .i64 0, .slice none 0 0, .int .i64 0, .int .i64 0, .int .i64 0, .int .i64 0, .int .i64 0, .slice none 0 0, .int .i64 0, .int .i64 0, .int .i64 0, .slice none 0 0, .int .i64 0, .slice none 0 0, .bool false, .int .i64 0, .int .i64 0, .int .i64 0, .slice none 0 0, .slice none 0 0, .int .i64 0, .int .i64 0, .int .i64 0, .slice none 0 0, .int .i64 0, .int .i64 0, .int .i64 0, .int .i64 0, .slice none 0 0], .int .i64 v, .slice none 0 0] w (GRet (CtI wd k cap now (ts ++ [now])) (fun A m c=>#[.int .i64 2, .int .i64 0, .int .i64 wd, .int .i64 (k:Nat), .int .i64 (cap:Nat), .int .i64 0, .int .i64 0, .int .i64 0, .int .i64 0, .int .i64 0, .int .i64 0, .slice none 0 0, .int .i64 wd, .int .i64 (k:Nat), .int .i64 (cap:Nat), .int .i64 now, .slice A m c, .int .i64 0, .int .i64 0, .int .i64 0, .int .i64 0, .int .i64 0, .slice none 0 0, .int .i64 0, .int .i64 0, .int .i64 0, .int .i64 0, .int .i64 0, .int .i64 0, .slice none 0 0, .int .i64 0, .int .i64 0, .int .i64 0, .int .i64 0, .int .i64 0, .slice none 0 0, .int .i64 0, .int .i64 0, .int .i64 0, .slice none 0 0, .int .i64 0, .slice none 0 0, .bool false, .int .i64 0, .int .i64 0, .int .i64 0, .slice none 0 0, .slice none 0 0, .int .i64 0, .int .i64 0, .int .i64 0, .slice none 0 0, .int .i64 0, .int .i64 0, .int .i64 0, .int .i64 0, .slice none 0 0]) 0 (fun _=>False) w):=by
  have hg:=h.good.1
  have HV:=tcHV h
  obtain ⟨l,hin,hs,hh⟩:=h
  have hbt:=cov_tot hh
  refine pyAddCount A m c wd k cap now v w _ (ctI_ok wd k cap now (ts ++ [now])) _ (fun b hb=>hb.elim) HV (Lib.hid (ct_cfg hg)) (Lib.hid (fun w' hb=>(pctadd A m c l wd k cap now w' (hin.below hb) hs (by omega)).mono fun e w'' hq=>?_)) v0 v1
  obtain ⟨A',m',c',l',he,hin',hP,hb',hf⟩:=hq
  exact ⟨A',m',c',he,⟨l',hin',ct_add hs hh (by omega) hP⟩,hb',fun _ a e => .inl (hf a e)⟩
def CtA (wd:Int) (k:Nat) (now:Int) (ts:List Int) (w:World) (e:Ending) (w':World):Prop:=∃ lo hi:Nat,e = .returned (.tuple #[.agg #[.int .i64 (lo:Nat), .int .i64 1, .int .i64 ((lo+hi) / 2:Nat), .int .i64 1, .int .i64 (hi:Nat), .int .i64 1, .slice none 0 0, .int .u64 0, .int .u64 0, .int .u64 0, .int .u64 0], .int .i64 0])∧(lo≤liveT (now-wd) ts∧liveT (now-wd) ts≤hi∧hi≤65536∧(k*(hi-lo)+1≤lo∨lo=0∧hi=0))∧Below w.heap.size w w'
theorem tcAsk {A:Option Addr} {m c:Nat} {wd:Int} {k cap:Nat} {now:Int} {ts:List Int} {w:World} (h:CtI wd k cap now ts A m c w) (qa qb:Int):Calls Tryz.prog 12 #[.agg #[.int .i64 2, .int .i64 0, .int .i64 wd, .int .i64 (k:Nat), .int .i64 (cap:Nat), .int .i64 0, .int .i64 0, .int .i64 0, .int .i64 0, .int .i64 0, .int .i64 0, .slice none 0 0, .int .i64 wd, .int .i64 (k:Nat), .int .i64 (cap:Nat), .int .i64 now, .slice A m c, .int .i64 0, .int .i64 0, .int .i64 0, .int .i64 0, .int .i64 0, .slice none 0 0, .int .i64 0, .int .i64 0, .int .i64 0, .int .i64 0, .int .i64 0, .int .i64 0, .slice none 0 0, .int .i64 0, .int .i64 0, .int .i64 0, .int .i64 0, .int .i64 0, .slice none 0 0, .int .i64 0, .int .i64 0, .int .i64 0, .slice none 0 0, .int .i64 0, .slice none 0 0, .bool false, .int .i64 0, .int .i64 0, .int .i64 0, .slice none 0 0, .slice none 0 0, .int .i64 0, .int .i64 0, .int .i64 0, .slice none 0 0, .int .i64 0, .int .i64 0, .int .i64 0, .int .i64 0, .slice none 0 0], .agg #[.int .i64 1, .int .i64 qa, .int .i64 qb]] w (CtA wd k now ts w):=by
  have hg:=h.good.1
  have HV:=tcHV h
  obtain ⟨l,hin,hs,hh⟩:=h
  have HC:=Lib.hid (ct_cfg hg)
  have hB:qLo l≤liveT (now-wd) ts∧liveT (now-wd) ts≤btot l∧(k*(btot l-qLo l)+1≤qLo l∨qLo l=0∧btot l=0):=by
    unfold qLo
    by_cases e:l=[]
    · rw [if_pos e]
      subst e
      rw [hh.none]
      exact ⟨Nat.le_refl _,Nat.zero_le _, .inr ⟨rfl,rfl⟩⟩
    · rw [if_neg e]
      have:=hh.query e
      have hn:=hs.val.narrow e
      have p1:=Nat.one_le_two_pow (n:=topL l)
      generalize 2 ^ topL l=p at this hn p1 ⊢
      have e2:btot l-(btot l-p+1)=p-1:=by omega
      rw [e2]
      generalize k*(p-1)=q at hn ⊢
      omega
  have hc:=hs.cap
  have hgg:=hs.good
  refine (pyAskCount A m c wd k cap now qa qb (qLo l:Nat) 1 ((qLo l+btot l) / 2:Nat) 1 (btot l:Nat) 1 w HV HC (Lib.hid (fun w'=>pansCount wd k cap w' HC)) (Lib.hid (fun w' hb=>pctask A m c l wd k cap now w' (hin.below hb) hs))).mono fun e w' ⟨he,hb⟩=>?_
  exact ⟨qLo l,btot l,he,⟨hB.1,hB.2.1,by omega,hB.2.2⟩,hb⟩
end Go.Proofs.YtdipoojjlddohaaGreat
end
section
/- Smooth histograms: the answer, walked. -/
namespace Go.Proofs.YtdipoojjlddohaaGreat
open Go.RowKit
def askV (ve lo hi:Int):Value:=if ve=0 then .tuple #[.agg #[.int .i64 lo, .int .i64 1, .int .i64 ((lo+hi) / 2), .int .i64 1, .int .i64 hi, .int .i64 1], .int .i64 0] else .tuple #[.agg #[.int .i64 0, .int .i64 0, .int .i64 0, .int .i64 0, .int .i64 0, .int .i64 0], .int .i64 ve]
theorem rwholeN (n:Nat) (hn:n<9223372036854775808) (w:World):Calls Tryz.prog 17 #[.int .i64 (n:Nat)] w fun e w'=>e = .returned (.agg #[.int .i64 (n:Nat), .int .i64 1, .int .i64 (n:Nat), .int .i64 1, .int .i64 (n:Nat), .int .i64 1])∧Below w.heap.size w w':=by
  have P1:=Lib.hid (fun w=>rratio (n:Int) w)
  have P2:=Lib.hid (fun w=>rexactR n 1 w hn (by omega) (by omega) (Nat.gcd_one_right n))
  clear hn
  go_enter Tryz.func17,Tryz.ntmps17
  go_wp2_with fail
  have R:Row (w.alloc (.cells #[.int .i64 0, .int .i64 0, .int .i64 0, .int .i64 0, .int .i64 0, .int .i64 0] 64)) w.heap.size 64 #[.int .i64 0, .int .i64 0, .int .i64 0, .int .i64 0, .int .i64 0, .int .i64 0]:=row_new rfl
  have o:Below w.heap.size w (w.alloc (.cells #[.int .i64 0, .int .i64 0, .int .i64 0, .int .i64 0, .int .i64 0, .int .i64 0] 64)):=by (repeat (first | exact Below.refl _ _ | refine Below.setCell ?_ (by (try simp)<;>omega) _ | refine Below.alloc ?_ (by (try simp)<;>omega) _ | refine Below.drew ?_ | refine Below.trans ?_ (Below.mono (by assumption) (by (try simp)<;>omega))))
  generalize (w.alloc (.cells #[.int .i64 0, .int .i64 0, .int .i64 0, .int .i64 0, .int .i64 0, .int .i64 0] 64))=w1 at R o ⊢
  refine (P1.out _).mono ?_
  rintro e w2 ⟨rfl,hb2⟩
  replace R:=row_call R hb2
  replace o:=o.trans (hb2.mono o.size)
  clear hb2
  go_wp2_with fail
  refine (P2.out _).mono ?_
  rintro e w3 ⟨rfl,hb3⟩
  replace R:=row_call R hb3
  replace o:=o.trans (hb3.mono o.size)
  clear hb3
  obtain ⟨R0,R1,R2,R3,R4,R5,Rf0,Rf1,Rf2,Rf3,Rf4,Rf5⟩:=row_six R
  go_wp2
  exact bodyPost_ret (v := .agg #[.int .i64 (n:Nat), .int .i64 1, .int .i64 (n:Nat), .int .i64 1, .int .i64 (n:Nat), .int .i64 1]) (by simp [results,Tryz.results17,go_sem,R0,R1,R2,R3,R4,R5]) rfl ⟨rfl,below_six o (by omega) _ _ _ _ _ _⟩
end Go.Proofs.YtdipoojjlddohaaGreat
end
section
/- What the histogram of a played stream is: plain (out of the law SmoothTruth). -/
namespace Go.Proofs.YtdipoojjlddohaaGreat
structure PlayedSm (agg wd k cap now seq:Int) (ms:List Mk) (ad:List Itm) (q:Nat):Prop where
  val:smValid agg wd k cap now seq ms
  hist:HistOf ms seq now wd ad
  vals:ValsOK agg ad
  ml:ms.length≤q
  al:ad.length≤q
end Go.Proofs.YtdipoojjlddohaaGreat
end
section
/- Synopses of smooth histograms, with what they know of the stream. -/
namespace Go.Proofs.YtdipoojjlddohaaGreat
open Go.RowKit
def SmI (agg wd k cap:Int) (ad:List Itm) (now:Int) (A:Option Addr) (m c:Nat) (w:World):Prop:=∃ l,MIn A m c l w∧PlayedSm agg wd k cap now (ad.length:Nat) l ad ad.length∧ad.length≤65536
def smArg (agg wd k cap:Int):Prop:=(1≤agg∧agg≤4)∧1≤wd∧wd≤1048576∧1≤k∧k≤64∧1≤cap∧cap≤65536
def SmA (agg wd k now:Int) (ad:List Itm) (w:World) (e:Ending) (w':World):Prop:=∃ lo hi:Int,e = .returned (.tuple #[.agg #[.int .i64 lo, .int .i64 1, .int .i64 ((lo+hi) / 2), .int .i64 1, .int .i64 hi, .int .i64 1, .slice none 0 0, .int .u64 0, .int .u64 0, .int .u64 0, .int .u64 0], .int .i64 0])∧(∀ n,AggIs agg (liveI now wd ad) n→lo≤n∧n≤hi∧k*(hi-lo)≤n)∧(0≤lo∧lo≤hi∧hi≤1099511627776)∧Below w.heap.size w w'
end Go.Proofs.YtdipoojjlddohaaGreat
end
section
/- Counts and smooth histograms, as the run of the top asks of a kind; the live items counted both ways. -/
namespace Go.Proofs.YtdipoojjlddohaaGreat
open Go.RowKit
def CtK (wd:Int) (k cap:Nat) (ad:List Itm) (now:Int):Option Addr→Nat→Nat→World→Prop:=CtI wd k cap now (ad.map (·.t))
def RunC (wd:Int) (k cap:Nat) (l:List Itm) (w:World) (e:Ending) (w':World):Prop :=
  ∃ (A:Option Addr) (m c:Nat) (v:Value),e = .returned (.tuple #[.agg #[.int .i64 2, .int .i64 0, .int .i64 wd, .int .i64 (k:Nat), .int .i64 (cap:Nat), .int .i64 0, .int .i64 0, .int .i64 0, .int .i64 0, .int .i64 0, .int .i64 0, .slice none 0 0, .int .i64 wd, .int .i64 (k:Nat), .int .i64 (cap:Nat), .int .i64 (nowK l l.length), .slice A m c, .int .i64 0, .int .i64 0, .int .i64 0, .int .i64 0, .int .i64 0, .slice none 0 0, .int .i64 0, .int .i64 0, .int .i64 0, .int .i64 0, .int .i64 0, .int .i64 0, .slice none 0 0, .int .i64 0, .int .i64 0, .int .i64 0, .int .i64 0, .int .i64 0, .slice none 0 0, .int .i64 0, .int .i64 0, .int .i64 0, .slice none 0 0, .int .i64 0, .slice none 0 0, .bool false, .int .i64 0, .int .i64 0, .int .i64 0, .slice none 0 0, .slice none 0 0, .int .i64 0, .int .i64 0, .int .i64 0, .slice none 0 0, .int .i64 0, .int .i64 0, .int .i64 0, .int .i64 0, .slice none 0 0],v, .bool true])∧CtI wd k cap (nowK l l.length) (l.map (·.t)) A m c w'∧Below w.heap.size w w'
def RunS (agg wd k cap:Int) (l:List Itm) (w:World) (e:Ending) (w':World):Prop :=
  ∃ (A:Option Addr) (m c:Nat) (v:Value),e = .returned (.tuple #[.agg #[.int .i64 4, .int .i64 agg, .int .i64 wd, .int .i64 k, .int .i64 cap, .int .i64 0, .int .i64 0, .int .i64 0, .int .i64 0, .int .i64 0, .int .i64 0, .slice none 0 0, .int .i64 0, .int .i64 0, .int .i64 0, .int .i64 0, .slice none 0 0, .int .i64 0, .int .i64 0, .int .i64 0, .int .i64 0, .int .i64 0, .slice none 0 0, .int .i64 agg, .int .i64 wd, .int .i64 k, .int .i64 cap, .int .i64 (nowK l l.length), .int .i64 (l.length:Nat), .slice A m c, .int .i64 0, .int .i64 0, .int .i64 0, .int .i64 0, .int .i64 0, .slice none 0 0, .int .i64 0, .int .i64 0, .int .i64 0, .slice none 0 0, .int .i64 0, .slice none 0 0, .bool false, .int .i64 0, .int .i64 0, .int .i64 0, .slice none 0 0, .slice none 0 0, .int .i64 0, .int .i64 0, .int .i64 0, .slice none 0 0, .int .i64 0, .int .i64 0, .int .i64 0, .int .i64 0, .slice none 0 0],v, .bool true])∧SmI agg wd k cap l (nowK l l.length) A m c w'∧Below w.heap.size w w'
theorem made_run {st lo hi last:Int} {l:List Itm} (h:Made st lo hi last l) (hl:st*l.length≤16777216):∀ i,i<l.length→nowK l i≤(itmAt l i).t∧(itmAt l i).t≤16777216∧(lo≤(itmAt l i).v∧(itmAt l i).v≤hi):=by
  intro i hi'
  obtain ⟨h1,h2,h3⟩:=h
  obtain ⟨a,b,c,d,e⟩:=h1 i hi'
  refine ⟨?_,by omega,d,e⟩
  unfold nowK
  split
  · exact a
  · exact c (i-1) (by omega)
theorem meetB {l1 h1 l2 h2 n:Nat} (a1:l1≤n) (a2:n≤h1) (b1:l2≤n) (b2:n≤h2) (c1:h1<4611686018427387904) (c2:h2<4611686018427387904):max l1 l2≤min h1 h2∧BndOK (max l1 l2) 1 (min (max ((l1+h1) / 2) (max l1 l2)) (min h1 h2)) 1 (min h1 h2) 1 :=
  ⟨by omega,ratOK_one (by omega),ratOK_one (by omega),ratOK_one (by omega),by omega,by omega⟩
theorem bndW {l h:Nat} (a:l≤h) (c:h<4611686018427387904):BndOK l 1 ((l+h) / 2) 1 h 1:=⟨ratOK_one (by omega),ratOK_one (by omega),ratOK_one (by omega),by omega,by omega⟩
end Go.Proofs.YtdipoojjlddohaaGreat
end
