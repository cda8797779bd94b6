/- Smooth histograms: the law of answers, walked. -/
import Derived.Test.YthknkdjpfanlnaaSmR
import Derived.Test.YthknkdjpfanlnaaSmF
set_option linter.unusedVariables false
set_option linter.unusedSimpArgs false
set_option linter.unusedSectionVars false
set_option linter.unnecessarySimpa false
namespace Go.Proofs.Ythknkdjpfanlnaa
open Go.RowKit
theorem askV_form (ve lo hi : Int) : ∃ b0 b1 b2 b3 b4 b5 e0 : Int, askV ve lo hi = .tuple #[.agg #[.int .i64 b0, .int .i64 b1, .int .i64 b2, .int .i64 b3, .int .i64 b4, .int .i64 b5], .int .i64 e0] := by
  unfold askV
  split
  · exact ⟨_, _, _, _, _, _, _, rfl⟩
  · exact ⟨_, _, _, _, _, _, _, rfl⟩
theorem smoothAsk_no (A : Option Addr) (m c : Nat) (l : List Mk) (agg wd k cap now seq : Int) (w : World) (hm : ¬ m ≤ 300) : Calls Try.prog 8 #[.agg #[.int .i64 agg, .int .i64 wd, .int .i64 k, .int .i64 cap, .int .i64 now, .int .i64 seq, .slice A m c]] w fun e w' => e = .returned (.bool true) ∧ Below w.heap.size w w' := by
  go_enter Try.func8, Try.ntmps8
  go_wp2_with fail
  have X : Row (w.alloc (.cells #[.int .i64 agg, .int .i64 wd, .int .i64 k, .int .i64 cap, .int .i64 now, .int .i64 seq, .slice A m c] 24)) w.heap.size 24 #[.int .i64 agg, .int .i64 wd, .int .i64 k, .int .i64 cap, .int .i64 now, .int .i64 seq, .slice A m c] := row_new rfl
  have o : Below w.heap.size w (w.alloc (.cells #[.int .i64 agg, .int .i64 wd, .int .i64 k, .int .i64 cap, .int .i64 now, .int .i64 seq, .slice A m c] 24)) := by (repeat (first | exact Below.refl _ _ | refine Below.setCell ?_ (by first | (simp; done) | (simp; omega) | omega) _ | refine Below.alloc ?_ (by first | (simp; done) | (simp; omega) | omega) _ | refine Below.drew ?_ | refine Below.trans ?_ (Below.mono (by assumption) (by first | (simp; done) | (simp; omega) | omega))))
  generalize (w.alloc (.cells #[.int .i64 agg, .int .i64 wd, .int .i64 k, .int .i64 cap, .int .i64 now, .int .i64 seq, .slice A m c] 24)) = w0 at X o ⊢
  refine (few13_no A m c l agg wd k cap now seq w0 hm).mono ?_
  rintro e w1 ⟨rfl, hb1⟩
  replace X := row_call X hb1
  replace o := o.trans (hb1.mono o.size)
  clear hb1
  clear X hm
  go_wp2_with fail
  refine (awake13 _).mono ?_
  rintro e w2 ⟨rfl, hb2⟩
  replace o := o.trans (hb2.mono o.size)
  go_wp2
  go_ret
  exact ⟨rfl, o⟩
theorem smoothAsk_yes (A : Option Addr) (m c : Nat) (l : List Mk) (agg wd k cap now seq : Int) (w : World) (hin : MIn A m c l w) (sB : I64 seq) (hm : m ≤ 300) : Calls Try.prog 8 #[.agg #[.int .i64 agg, .int .i64 wd, .int .i64 k, .int .i64 cap, .int .i64 now, .int .i64 seq, .slice A m c]] w fun e w' => e = .returned (.bool true) ∧ Below w.heap.size w w' := by
  have PA := fun w' (hb : Below w.heap.size w w') => psmask A m c l agg wd k cap now seq w' (hin.below hb) sB
  have RA := fun w' (hb : Below w.heap.size w w') => rsmask A m c l agg wd k cap now seq w' (hin.below hb) sB
  obtain ⟨b0, b1, b2, b3, b4, b5, e0, hV⟩ := askV_form (smvalE agg wd k cap now seq l) (askLo agg now wd l) (askHi agg now wd l)
  rw [hV] at PA RA
  replace PA := Lib.hid PA
  replace RA := Lib.hid RA
  clear hV hin sB
  go_enter Try.func8, Try.ntmps8
  go_wp2_with fail
  have X : Row (w.alloc (.cells #[.int .i64 agg, .int .i64 wd, .int .i64 k, .int .i64 cap, .int .i64 now, .int .i64 seq, .slice A m c] 24)) w.heap.size 24 #[.int .i64 agg, .int .i64 wd, .int .i64 k, .int .i64 cap, .int .i64 now, .int .i64 seq, .slice A m c] := row_new rfl
  have o : Below w.heap.size w (w.alloc (.cells #[.int .i64 agg, .int .i64 wd, .int .i64 k, .int .i64 cap, .int .i64 now, .int .i64 seq, .slice A m c] 24)) := by (repeat (first | exact Below.refl _ _ | refine Below.setCell ?_ (by first | (simp; done) | (simp; omega) | omega) _ | refine Below.alloc ?_ (by first | (simp; done) | (simp; omega) | omega) _ | refine Below.drew ?_ | refine Below.trans ?_ (Below.mono (by assumption) (by first | (simp; done) | (simp; omega) | omega))))
  generalize (w.alloc (.cells #[.int .i64 agg, .int .i64 wd, .int .i64 k, .int .i64 cap, .int .i64 now, .int .i64 seq, .slice A m c] 24)) = w0 at X o ⊢
  refine (few13_yes A m c l agg wd k cap now seq w0 hm).mono ?_
  rintro e w1 ⟨rfl, hb1⟩
  replace X := row_call X hb1
  replace o := o.trans (hb1.mono o.size)
  clear hb1
  clear hm
  obtain ⟨X0, X1, X2, X3, X4, X5, X6, Xf0, Xf1, Xf2, Xf3, Xf4, Xf5, Xf6⟩ := row_seven X
  go_wp2_with fail
  refine (PA.out _ o).mono ?_
  rintro e w2 ⟨rfl, hb⟩
  replace X := row_call X hb
  replace o := o.trans (hb.mono o.size)
  clear hb X0 Xf0 X1 Xf1 X2 Xf2 X3 Xf3 X4 Xf4 X5 Xf5 X6 Xf6
  go_upto_region 4 with (fail)
  have y : Row (w2.alloc (.cells #[.int .i64 b0, .int .i64 b1, .int .i64 b2, .int .i64 b3, .int .i64 b4, .int .i64 b5] 50)) w2.heap.size 50 #[.int .i64 b0, .int .i64 b1, .int .i64 b2, .int .i64 b3, .int .i64 b4, .int .i64 b5] := row_new rfl
  replace X := row_alloc X (.cells #[.int .i64 b0, .int .i64 b1, .int .i64 b2, .int .i64 b3, .int .i64 b4, .int .i64 b5] 50)
  replace o := o.alloc o.size (.cells #[.int .i64 b0, .int .i64 b1, .int .i64 b2, .int .i64 b3, .int .i64 b4, .int .i64 b5] 50)
  generalize w2.alloc (.cells #[.int .i64 b0, .int .i64 b1, .int .i64 b2, .int .i64 b3, .int .i64 b4, .int .i64 b5] 50) = w3 at X y o ⊢
  generalize w2.heap.size = yb at y ⊢
  obtain ⟨X0, X1, X2, X3, X4, X5, X6, Xf0, Xf1, Xf2, Xf3, Xf4, Xf5, Xf6⟩ := row_seven X
  go_wp2_with fail
  refine (RA.out _ o).mono ?_
  rintro e w4 ⟨rfl, hb⟩
  replace X := row_call X hb
  replace y := row_call y hb
  replace o := o.trans (hb.mono o.size)
  clear hb X0 Xf0 X1 Xf1 X2 Xf2 X3 Xf3 X4 Xf4 X5 Xf5 X6 Xf6
  go_upto_region 5 with (fail)
  have z : Row (w4.alloc (.cells #[.int .i64 b0, .int .i64 b1, .int .i64 b2, .int .i64 b3, .int .i64 b4, .int .i64 b5] 50)) w4.heap.size 50 #[.int .i64 b0, .int .i64 b1, .int .i64 b2, .int .i64 b3, .int .i64 b4, .int .i64 b5] := row_new rfl
  replace X := row_alloc X (.cells #[.int .i64 b0, .int .i64 b1, .int .i64 b2, .int .i64 b3, .int .i64 b4, .int .i64 b5] 50)
  replace y := row_alloc y (.cells #[.int .i64 b0, .int .i64 b1, .int .i64 b2, .int .i64 b3, .int .i64 b4, .int .i64 b5] 50)
  replace o := o.alloc o.size (.cells #[.int .i64 b0, .int .i64 b1, .int .i64 b2, .int .i64 b3, .int .i64 b4, .int .i64 b5] 50)
  generalize w4.alloc (.cells #[.int .i64 b0, .int .i64 b1, .int .i64 b2, .int .i64 b3, .int .i64 b4, .int .i64 b5] 50) = w5 at X y z o ⊢
  generalize w4.heap.size = zb at z ⊢
  clear X PA RA
  obtain ⟨Y0, Y1, Y2, Y3, Y4, Y5, Yf0, Yf1, Yf2, Yf3, Yf4, Yf5⟩ := row_six y
  obtain ⟨Z0, Z1, Z2, Z3, Z4, Z5, Zf0, Zf1, Zf2, Zf3, Zf4, Zf5⟩ := row_six z
  go_wp2_with (go_at_call 11; refine (awake13 _).mono ?_; rintro e w12 ⟨rfl, hb12⟩)
  go_ret
  exact ⟨rfl, o.trans (hb12.mono o.size)⟩
theorem smoothAsk (A : Option Addr) (m c : Nat) (l : List Mk) (agg wd k cap now seq : Int) (w : World) (hin : MIn A m c l w) (sB : I64 seq) : Calls Try.prog 8 #[.agg #[.int .i64 agg, .int .i64 wd, .int .i64 k, .int .i64 cap, .int .i64 now, .int .i64 seq, .slice A m c]] w fun e w' => e = .returned (.bool true) ∧ Below w.heap.size w w' := by
  by_cases hm : m ≤ 300
  · exact smoothAsk_yes A m c l agg wd k cap now seq w hin sB hm
  · exact smoothAsk_no A m c l agg wd k cap now seq w hm
end Go.Proofs.Ythknkdjpfanlnaa
