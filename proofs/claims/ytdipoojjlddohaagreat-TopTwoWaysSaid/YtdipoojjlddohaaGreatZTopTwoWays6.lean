/- What the law TopTwoWays needs, joined of its texts by a program (slim.py); part 6. -/
import Derived.Test.YtdipoojjlddohaaGreatZTopTwoWays5
section
/- Intervals of whole numbers meet: bounds.least, most, Meet, walked. -/
set_option linter.unusedVariables false
set_option linter.unusedSimpArgs false
set_option linter.unusedSectionVars false
set_option linter.unnecessarySimpa false
namespace Go.Proofs.YtdipoojjlddohaaGreat
open Go.RowKit
theorem icmpW (a b : Nat) : icmp ((a : Int) * ((1 : Nat) : Int)) ((b : Int) * ((1 : Nat) : Int)) = if a < b then -1 else if a = b then 0 else 1 := by
  unfold icmp
  by_cases h : a < b
  · rw [if_pos (by omega), if_pos h]
  · by_cases h2 : a = b
    · rw [if_neg (by omega), if_pos (by omega), if_neg h, if_pos h2]
    · rw [if_neg (by omega), if_neg (by omega), if_neg h, if_neg h2]
theorem pleastW_a (a b : Nat) (w : World) (HC : RowKit.Hid (∀ w, Calls Tryz.prog 55 #[.agg #[.int .i64 (a : Nat), .int .i64 1], .agg #[.int .i64 (b : Nat), .int .i64 1]] w fun e w' => e = .returned (.int .i64 (-1)) ∧ Below w.heap.size w w')) : Calls Tryz.prog 54 #[.agg #[.int .i64 (a : Nat), .int .i64 1], .agg #[.int .i64 (b : Nat), .int .i64 1]] w fun e w' => e = .returned (.agg #[.int .i64 (a : Nat), .int .i64 1]) ∧ Below w.heap.size w w' := by
  go_enter Tryz.func54, Tryz.ntmps54
  go_upto_region 1 with (fail)
  have X : Row (((w.alloc (.cells #[.int .i64 (a : Nat), .int .i64 1] 62)).alloc (.cells #[.int .i64 (b : Nat), .int .i64 1] 62)).alloc (.cells #[.int .i64 0, .int .i64 0] 62)) w.heap.size 62 #[.int .i64 (a : Nat), .int .i64 1] := row_alloc (row_alloc (row_new rfl) _) _
  have Y : Row (((w.alloc (.cells #[.int .i64 (a : Nat), .int .i64 1] 62)).alloc (.cells #[.int .i64 (b : Nat), .int .i64 1] 62)).alloc (.cells #[.int .i64 0, .int .i64 0] 62)) (w.heap.size + 1) 62 #[.int .i64 (b : Nat), .int .i64 1] := row_alloc (row_new (by simp)) _
  have R : Row (((w.alloc (.cells #[.int .i64 (a : Nat), .int .i64 1] 62)).alloc (.cells #[.int .i64 (b : Nat), .int .i64 1] 62)).alloc (.cells #[.int .i64 0, .int .i64 0] 62)) (w.heap.size + 2) 62 #[.int .i64 0, .int .i64 0] := row_new (by simp)
  have o : Below w.heap.size w (((w.alloc (.cells #[.int .i64 (a : Nat), .int .i64 1] 62)).alloc (.cells #[.int .i64 (b : Nat), .int .i64 1] 62)).alloc (.cells #[.int .i64 0, .int .i64 0] 62)) := by (repeat (first | exact Below.refl _ _ | refine Below.setCell ?_ (by first | (simp; done) | (simp; omega) | omega) _ | refine Below.alloc ?_ (by first | (simp; done) | (simp; omega) | omega) _ | refine Below.drew ?_ | refine Below.trans ?_ (Below.mono (by assumption) (by first | (simp; done) | (simp; omega) | omega))))
  generalize (((w.alloc (.cells #[.int .i64 (a : Nat), .int .i64 1] 62)).alloc (.cells #[.int .i64 (b : Nat), .int .i64 1] 62)).alloc (.cells #[.int .i64 0, .int .i64 0] 62)) = w0 at X Y R o ⊢
  obtain ⟨X0, X1, Xf0, Xf1⟩ := row_two X
  obtain ⟨Y0, Y1, Yf0, Yf1⟩ := row_two Y
  go_wp2_with fail
  refine (HC.out _).mono ?_
  rintro e w1 ⟨rfl, hb⟩
  replace X := row_call X hb
  replace Y := row_call Y hb
  replace R := row_call R hb
  replace o := o.trans (hb.mono o.size)
  clear hb X0 X1 Xf0 Xf1 Y0 Y1 Yf0 Yf1
  obtain ⟨X0, X1, Xf0, Xf1⟩ := row_two X
  obtain ⟨Y0, Y1, Yf0, Yf1⟩ := row_two Y
  obtain ⟨R0, R1, Rf0, Rf1⟩ := row_two R
  go_wp2
  have Sr0 := row_set R 0 (.int .i64 (a : Nat))
  have Sr1 := row_set Sr0 1 (.int .i64 1)
  have o90 := o.setCell (p := ⟨w.heap.size + 2, 0, none⟩) (by show w.heap.size ≤ w.heap.size + 2; omega) (.int .i64 (a : Nat))
  have o91 := o90.setCell (p := ⟨w.heap.size + 2, 1, none⟩) (by show w.heap.size ≤ w.heap.size + 2; omega) (.int .i64 1)
  obtain ⟨S0, S1, _, _⟩ := row_two Sr1
  exact bodyPost_ret (v := .agg #[.int .i64 (a : Nat), .int .i64 1]) (by simp [results, Tryz.results54, go_sem, S0, S1]) rfl ⟨rfl, o91⟩
theorem pleastW_b (a b : Nat) (w : World) (HC : RowKit.Hid (∀ w, Calls Tryz.prog 55 #[.agg #[.int .i64 (a : Nat), .int .i64 1], .agg #[.int .i64 (b : Nat), .int .i64 1]] w fun e w' => e = .returned (.int .i64 (0)) ∧ Below w.heap.size w w')) : Calls Tryz.prog 54 #[.agg #[.int .i64 (a : Nat), .int .i64 1], .agg #[.int .i64 (b : Nat), .int .i64 1]] w fun e w' => e = .returned (.agg #[.int .i64 (a : Nat), .int .i64 1]) ∧ Below w.heap.size w w' := by
  go_enter Tryz.func54, Tryz.ntmps54
  go_upto_region 1 with (fail)
  have X : Row (((w.alloc (.cells #[.int .i64 (a : Nat), .int .i64 1] 62)).alloc (.cells #[.int .i64 (b : Nat), .int .i64 1] 62)).alloc (.cells #[.int .i64 0, .int .i64 0] 62)) w.heap.size 62 #[.int .i64 (a : Nat), .int .i64 1] := row_alloc (row_alloc (row_new rfl) _) _
  have Y : Row (((w.alloc (.cells #[.int .i64 (a : Nat), .int .i64 1] 62)).alloc (.cells #[.int .i64 (b : Nat), .int .i64 1] 62)).alloc (.cells #[.int .i64 0, .int .i64 0] 62)) (w.heap.size + 1) 62 #[.int .i64 (b : Nat), .int .i64 1] := row_alloc (row_new (by simp)) _
  have R : Row (((w.alloc (.cells #[.int .i64 (a : Nat), .int .i64 1] 62)).alloc (.cells #[.int .i64 (b : Nat), .int .i64 1] 62)).alloc (.cells #[.int .i64 0, .int .i64 0] 62)) (w.heap.size + 2) 62 #[.int .i64 0, .int .i64 0] := row_new (by simp)
  have o : Below w.heap.size w (((w.alloc (.cells #[.int .i64 (a : Nat), .int .i64 1] 62)).alloc (.cells #[.int .i64 (b : Nat), .int .i64 1] 62)).alloc (.cells #[.int .i64 0, .int .i64 0] 62)) := by (repeat (first | exact Below.refl _ _ | refine Below.setCell ?_ (by first | (simp; done) | (simp; omega) | omega) _ | refine Below.alloc ?_ (by first | (simp; done) | (simp; omega) | omega) _ | refine Below.drew ?_ | refine Below.trans ?_ (Below.mono (by assumption) (by first | (simp; done) | (simp; omega) | omega))))
  generalize (((w.alloc (.cells #[.int .i64 (a : Nat), .int .i64 1] 62)).alloc (.cells #[.int .i64 (b : Nat), .int .i64 1] 62)).alloc (.cells #[.int .i64 0, .int .i64 0] 62)) = w0 at X Y R o ⊢
  obtain ⟨X0, X1, Xf0, Xf1⟩ := row_two X
  obtain ⟨Y0, Y1, Yf0, Yf1⟩ := row_two Y
  go_wp2_with fail
  refine (HC.out _).mono ?_
  rintro e w1 ⟨rfl, hb⟩
  replace X := row_call X hb
  replace Y := row_call Y hb
  replace R := row_call R hb
  replace o := o.trans (hb.mono o.size)
  clear hb X0 X1 Xf0 Xf1 Y0 Y1 Yf0 Yf1
  obtain ⟨X0, X1, Xf0, Xf1⟩ := row_two X
  obtain ⟨Y0, Y1, Yf0, Yf1⟩ := row_two Y
  obtain ⟨R0, R1, Rf0, Rf1⟩ := row_two R
  go_wp2
  have Sr0 := row_set R 0 (.int .i64 (a : Nat))
  have Sr1 := row_set Sr0 1 (.int .i64 1)
  have o90 := o.setCell (p := ⟨w.heap.size + 2, 0, none⟩) (by show w.heap.size ≤ w.heap.size + 2; omega) (.int .i64 (a : Nat))
  have o91 := o90.setCell (p := ⟨w.heap.size + 2, 1, none⟩) (by show w.heap.size ≤ w.heap.size + 2; omega) (.int .i64 1)
  obtain ⟨S0, S1, _, _⟩ := row_two Sr1
  exact bodyPost_ret (v := .agg #[.int .i64 (a : Nat), .int .i64 1]) (by simp [results, Tryz.results54, go_sem, S0, S1]) rfl ⟨rfl, o91⟩
theorem pleastW_c (a b : Nat) (w : World) (HC : RowKit.Hid (∀ w, Calls Tryz.prog 55 #[.agg #[.int .i64 (a : Nat), .int .i64 1], .agg #[.int .i64 (b : Nat), .int .i64 1]] w fun e w' => e = .returned (.int .i64 (1)) ∧ Below w.heap.size w w')) : Calls Tryz.prog 54 #[.agg #[.int .i64 (a : Nat), .int .i64 1], .agg #[.int .i64 (b : Nat), .int .i64 1]] w fun e w' => e = .returned (.agg #[.int .i64 (b : Nat), .int .i64 1]) ∧ Below w.heap.size w w' := by
  go_enter Tryz.func54, Tryz.ntmps54
  go_upto_region 1 with (fail)
  have X : Row (((w.alloc (.cells #[.int .i64 (a : Nat), .int .i64 1] 62)).alloc (.cells #[.int .i64 (b : Nat), .int .i64 1] 62)).alloc (.cells #[.int .i64 0, .int .i64 0] 62)) w.heap.size 62 #[.int .i64 (a : Nat), .int .i64 1] := row_alloc (row_alloc (row_new rfl) _) _
  have Y : Row (((w.alloc (.cells #[.int .i64 (a : Nat), .int .i64 1] 62)).alloc (.cells #[.int .i64 (b : Nat), .int .i64 1] 62)).alloc (.cells #[.int .i64 0, .int .i64 0] 62)) (w.heap.size + 1) 62 #[.int .i64 (b : Nat), .int .i64 1] := row_alloc (row_new (by simp)) _
  have R : Row (((w.alloc (.cells #[.int .i64 (a : Nat), .int .i64 1] 62)).alloc (.cells #[.int .i64 (b : Nat), .int .i64 1] 62)).alloc (.cells #[.int .i64 0, .int .i64 0] 62)) (w.heap.size + 2) 62 #[.int .i64 0, .int .i64 0] := row_new (by simp)
  have o : Below w.heap.size w (((w.alloc (.cells #[.int .i64 (a : Nat), .int .i64 1] 62)).alloc (.cells #[.int .i64 (b : Nat), .int .i64 1] 62)).alloc (.cells #[.int .i64 0, .int .i64 0] 62)) := by (repeat (first | exact Below.refl _ _ | refine Below.setCell ?_ (by first | (simp; done) | (simp; omega) | omega) _ | refine Below.alloc ?_ (by first | (simp; done) | (simp; omega) | omega) _ | refine Below.drew ?_ | refine Below.trans ?_ (Below.mono (by assumption) (by first | (simp; done) | (simp; omega) | omega))))
  generalize (((w.alloc (.cells #[.int .i64 (a : Nat), .int .i64 1] 62)).alloc (.cells #[.int .i64 (b : Nat), .int .i64 1] 62)).alloc (.cells #[.int .i64 0, .int .i64 0] 62)) = w0 at X Y R o ⊢
  obtain ⟨X0, X1, Xf0, Xf1⟩ := row_two X
  obtain ⟨Y0, Y1, Yf0, Yf1⟩ := row_two Y
  go_wp2_with fail
  refine (HC.out _).mono ?_
  rintro e w1 ⟨rfl, hb⟩
  replace X := row_call X hb
  replace Y := row_call Y hb
  replace R := row_call R hb
  replace o := o.trans (hb.mono o.size)
  clear hb X0 X1 Xf0 Xf1 Y0 Y1 Yf0 Yf1
  obtain ⟨X0, X1, Xf0, Xf1⟩ := row_two X
  obtain ⟨Y0, Y1, Yf0, Yf1⟩ := row_two Y
  obtain ⟨R0, R1, Rf0, Rf1⟩ := row_two R
  go_wp2
  have Sr0 := row_set R 0 (.int .i64 (b : Nat))
  have Sr1 := row_set Sr0 1 (.int .i64 1)
  have o90 := o.setCell (p := ⟨w.heap.size + 2, 0, none⟩) (by show w.heap.size ≤ w.heap.size + 2; omega) (.int .i64 (b : Nat))
  have o91 := o90.setCell (p := ⟨w.heap.size + 2, 1, none⟩) (by show w.heap.size ≤ w.heap.size + 2; omega) (.int .i64 1)
  obtain ⟨S0, S1, _, _⟩ := row_two Sr1
  exact bodyPost_ret (v := .agg #[.int .i64 (b : Nat), .int .i64 1]) (by simp [results, Tryz.results54, go_sem, S0, S1]) rfl ⟨rfl, o91⟩
theorem pleastW {a b : Nat} (ha : a < 4611686018427387904) (hb : b < 4611686018427387904) (w : World) : Calls Tryz.prog 54 #[.agg #[.int .i64 (a : Nat), .int .i64 1], .agg #[.int .i64 (b : Nat), .int .i64 1]] w fun e w' => e = .returned (.agg #[.int .i64 (min a b : Nat), .int .i64 1]) ∧ Below w.heap.size w w' := by
  have P := fun w => pcmpR (ratOK_one ha) (ratOK_one hb) w
  rw [icmpW] at P
  rcases Nat.lt_trichotomy a b with h | h | h
  · rw [if_pos h] at P
    rw [show min a b = a by omega]
    exact pleastW_a a b w (Lib.hid P)
  · rw [if_neg (by omega), if_pos h] at P
    rw [show min a b = a by omega]
    exact pleastW_b a b w (Lib.hid P)
  · rw [if_neg (by omega), if_neg (by omega)] at P
    rw [show min a b = b by omega]
    exact pleastW_c a b w (Lib.hid P)
theorem pmostW_a (a b : Nat) (w : World) (HC : RowKit.Hid (∀ w, Calls Tryz.prog 55 #[.agg #[.int .i64 (a : Nat), .int .i64 1], .agg #[.int .i64 (b : Nat), .int .i64 1]] w fun e w' => e = .returned (.int .i64 (-1)) ∧ Below w.heap.size w w')) : Calls Tryz.prog 53 #[.agg #[.int .i64 (a : Nat), .int .i64 1], .agg #[.int .i64 (b : Nat), .int .i64 1]] w fun e w' => e = .returned (.agg #[.int .i64 (b : Nat), .int .i64 1]) ∧ Below w.heap.size w w' := by
  go_enter Tryz.func53, Tryz.ntmps53
  go_upto_region 1 with (fail)
  have X : Row (((w.alloc (.cells #[.int .i64 (a : Nat), .int .i64 1] 62)).alloc (.cells #[.int .i64 (b : Nat), .int .i64 1] 62)).alloc (.cells #[.int .i64 0, .int .i64 0] 62)) w.heap.size 62 #[.int .i64 (a : Nat), .int .i64 1] := row_alloc (row_alloc (row_new rfl) _) _
  have Y : Row (((w.alloc (.cells #[.int .i64 (a : Nat), .int .i64 1] 62)).alloc (.cells #[.int .i64 (b : Nat), .int .i64 1] 62)).alloc (.cells #[.int .i64 0, .int .i64 0] 62)) (w.heap.size + 1) 62 #[.int .i64 (b : Nat), .int .i64 1] := row_alloc (row_new (by simp)) _
  have R : Row (((w.alloc (.cells #[.int .i64 (a : Nat), .int .i64 1] 62)).alloc (.cells #[.int .i64 (b : Nat), .int .i64 1] 62)).alloc (.cells #[.int .i64 0, .int .i64 0] 62)) (w.heap.size + 2) 62 #[.int .i64 0, .int .i64 0] := row_new (by simp)
  have o : Below w.heap.size w (((w.alloc (.cells #[.int .i64 (a : Nat), .int .i64 1] 62)).alloc (.cells #[.int .i64 (b : Nat), .int .i64 1] 62)).alloc (.cells #[.int .i64 0, .int .i64 0] 62)) := by (repeat (first | exact Below.refl _ _ | refine Below.setCell ?_ (by first | (simp; done) | (simp; omega) | omega) _ | refine Below.alloc ?_ (by first | (simp; done) | (simp; omega) | omega) _ | refine Below.drew ?_ | refine Below.trans ?_ (Below.mono (by assumption) (by first | (simp; done) | (simp; omega) | omega))))
  generalize (((w.alloc (.cells #[.int .i64 (a : Nat), .int .i64 1] 62)).alloc (.cells #[.int .i64 (b : Nat), .int .i64 1] 62)).alloc (.cells #[.int .i64 0, .int .i64 0] 62)) = w0 at X Y R o ⊢
  obtain ⟨X0, X1, Xf0, Xf1⟩ := row_two X
  obtain ⟨Y0, Y1, Yf0, Yf1⟩ := row_two Y
  go_wp2_with fail
  refine (HC.out _).mono ?_
  rintro e w1 ⟨rfl, hb⟩
  replace X := row_call X hb
  replace Y := row_call Y hb
  replace R := row_call R hb
  replace o := o.trans (hb.mono o.size)
  clear hb X0 X1 Xf0 Xf1 Y0 Y1 Yf0 Yf1
  obtain ⟨X0, X1, Xf0, Xf1⟩ := row_two X
  obtain ⟨Y0, Y1, Yf0, Yf1⟩ := row_two Y
  obtain ⟨R0, R1, Rf0, Rf1⟩ := row_two R
  go_wp2
  have Sr0 := row_set R 0 (.int .i64 (b : Nat))
  have Sr1 := row_set Sr0 1 (.int .i64 1)
  have o90 := o.setCell (p := ⟨w.heap.size + 2, 0, none⟩) (by show w.heap.size ≤ w.heap.size + 2; omega) (.int .i64 (b : Nat))
  have o91 := o90.setCell (p := ⟨w.heap.size + 2, 1, none⟩) (by show w.heap.size ≤ w.heap.size + 2; omega) (.int .i64 1)
  obtain ⟨S0, S1, _, _⟩ := row_two Sr1
  exact bodyPost_ret (v := .agg #[.int .i64 (b : Nat), .int .i64 1]) (by simp [results, Tryz.results53, go_sem, S0, S1]) rfl ⟨rfl, o91⟩
theorem pmostW_b (a b : Nat) (w : World) (HC : RowKit.Hid (∀ w, Calls Tryz.prog 55 #[.agg #[.int .i64 (a : Nat), .int .i64 1], .agg #[.int .i64 (b : Nat), .int .i64 1]] w fun e w' => e = .returned (.int .i64 (0)) ∧ Below w.heap.size w w')) : Calls Tryz.prog 53 #[.agg #[.int .i64 (a : Nat), .int .i64 1], .agg #[.int .i64 (b : Nat), .int .i64 1]] w fun e w' => e = .returned (.agg #[.int .i64 (a : Nat), .int .i64 1]) ∧ Below w.heap.size w w' := by
  go_enter Tryz.func53, Tryz.ntmps53
  go_upto_region 1 with (fail)
  have X : Row (((w.alloc (.cells #[.int .i64 (a : Nat), .int .i64 1] 62)).alloc (.cells #[.int .i64 (b : Nat), .int .i64 1] 62)).alloc (.cells #[.int .i64 0, .int .i64 0] 62)) w.heap.size 62 #[.int .i64 (a : Nat), .int .i64 1] := row_alloc (row_alloc (row_new rfl) _) _
  have Y : Row (((w.alloc (.cells #[.int .i64 (a : Nat), .int .i64 1] 62)).alloc (.cells #[.int .i64 (b : Nat), .int .i64 1] 62)).alloc (.cells #[.int .i64 0, .int .i64 0] 62)) (w.heap.size + 1) 62 #[.int .i64 (b : Nat), .int .i64 1] := row_alloc (row_new (by simp)) _
  have R : Row (((w.alloc (.cells #[.int .i64 (a : Nat), .int .i64 1] 62)).alloc (.cells #[.int .i64 (b : Nat), .int .i64 1] 62)).alloc (.cells #[.int .i64 0, .int .i64 0] 62)) (w.heap.size + 2) 62 #[.int .i64 0, .int .i64 0] := row_new (by simp)
  have o : Below w.heap.size w (((w.alloc (.cells #[.int .i64 (a : Nat), .int .i64 1] 62)).alloc (.cells #[.int .i64 (b : Nat), .int .i64 1] 62)).alloc (.cells #[.int .i64 0, .int .i64 0] 62)) := by (repeat (first | exact Below.refl _ _ | refine Below.setCell ?_ (by first | (simp; done) | (simp; omega) | omega) _ | refine Below.alloc ?_ (by first | (simp; done) | (simp; omega) | omega) _ | refine Below.drew ?_ | refine Below.trans ?_ (Below.mono (by assumption) (by first | (simp; done) | (simp; omega) | omega))))
  generalize (((w.alloc (.cells #[.int .i64 (a : Nat), .int .i64 1] 62)).alloc (.cells #[.int .i64 (b : Nat), .int .i64 1] 62)).alloc (.cells #[.int .i64 0, .int .i64 0] 62)) = w0 at X Y R o ⊢
  obtain ⟨X0, X1, Xf0, Xf1⟩ := row_two X
  obtain ⟨Y0, Y1, Yf0, Yf1⟩ := row_two Y
  go_wp2_with fail
  refine (HC.out _).mono ?_
  rintro e w1 ⟨rfl, hb⟩
  replace X := row_call X hb
  replace Y := row_call Y hb
  replace R := row_call R hb
  replace o := o.trans (hb.mono o.size)
  clear hb X0 X1 Xf0 Xf1 Y0 Y1 Yf0 Yf1
  obtain ⟨X0, X1, Xf0, Xf1⟩ := row_two X
  obtain ⟨Y0, Y1, Yf0, Yf1⟩ := row_two Y
  obtain ⟨R0, R1, Rf0, Rf1⟩ := row_two R
  go_wp2
  have Sr0 := row_set R 0 (.int .i64 (a : Nat))
  have Sr1 := row_set Sr0 1 (.int .i64 1)
  have o90 := o.setCell (p := ⟨w.heap.size + 2, 0, none⟩) (by show w.heap.size ≤ w.heap.size + 2; omega) (.int .i64 (a : Nat))
  have o91 := o90.setCell (p := ⟨w.heap.size + 2, 1, none⟩) (by show w.heap.size ≤ w.heap.size + 2; omega) (.int .i64 1)
  obtain ⟨S0, S1, _, _⟩ := row_two Sr1
  exact bodyPost_ret (v := .agg #[.int .i64 (a : Nat), .int .i64 1]) (by simp [results, Tryz.results53, go_sem, S0, S1]) rfl ⟨rfl, o91⟩
theorem pmostW_c (a b : Nat) (w : World) (HC : RowKit.Hid (∀ w, Calls Tryz.prog 55 #[.agg #[.int .i64 (a : Nat), .int .i64 1], .agg #[.int .i64 (b : Nat), .int .i64 1]] w fun e w' => e = .returned (.int .i64 (1)) ∧ Below w.heap.size w w')) : Calls Tryz.prog 53 #[.agg #[.int .i64 (a : Nat), .int .i64 1], .agg #[.int .i64 (b : Nat), .int .i64 1]] w fun e w' => e = .returned (.agg #[.int .i64 (a : Nat), .int .i64 1]) ∧ Below w.heap.size w w' := by
  go_enter Tryz.func53, Tryz.ntmps53
  go_upto_region 1 with (fail)
  have X : Row (((w.alloc (.cells #[.int .i64 (a : Nat), .int .i64 1] 62)).alloc (.cells #[.int .i64 (b : Nat), .int .i64 1] 62)).alloc (.cells #[.int .i64 0, .int .i64 0] 62)) w.heap.size 62 #[.int .i64 (a : Nat), .int .i64 1] := row_alloc (row_alloc (row_new rfl) _) _
  have Y : Row (((w.alloc (.cells #[.int .i64 (a : Nat), .int .i64 1] 62)).alloc (.cells #[.int .i64 (b : Nat), .int .i64 1] 62)).alloc (.cells #[.int .i64 0, .int .i64 0] 62)) (w.heap.size + 1) 62 #[.int .i64 (b : Nat), .int .i64 1] := row_alloc (row_new (by simp)) _
  have R : Row (((w.alloc (.cells #[.int .i64 (a : Nat), .int .i64 1] 62)).alloc (.cells #[.int .i64 (b : Nat), .int .i64 1] 62)).alloc (.cells #[.int .i64 0, .int .i64 0] 62)) (w.heap.size + 2) 62 #[.int .i64 0, .int .i64 0] := row_new (by simp)
  have o : Below w.heap.size w (((w.alloc (.cells #[.int .i64 (a : Nat), .int .i64 1] 62)).alloc (.cells #[.int .i64 (b : Nat), .int .i64 1] 62)).alloc (.cells #[.int .i64 0, .int .i64 0] 62)) := by (repeat (first | exact Below.refl _ _ | refine Below.setCell ?_ (by first | (simp; done) | (simp; omega) | omega) _ | refine Below.alloc ?_ (by first | (simp; done) | (simp; omega) | omega) _ | refine Below.drew ?_ | refine Below.trans ?_ (Below.mono (by assumption) (by first | (simp; done) | (simp; omega) | omega))))
  generalize (((w.alloc (.cells #[.int .i64 (a : Nat), .int .i64 1] 62)).alloc (.cells #[.int .i64 (b : Nat), .int .i64 1] 62)).alloc (.cells #[.int .i64 0, .int .i64 0] 62)) = w0 at X Y R o ⊢
  obtain ⟨X0, X1, Xf0, Xf1⟩ := row_two X
  obtain ⟨Y0, Y1, Yf0, Yf1⟩ := row_two Y
  go_wp2_with fail
  refine (HC.out _).mono ?_
  rintro e w1 ⟨rfl, hb⟩
  replace X := row_call X hb
  replace Y := row_call Y hb
  replace R := row_call R hb
  replace o := o.trans (hb.mono o.size)
  clear hb X0 X1 Xf0 Xf1 Y0 Y1 Yf0 Yf1
  obtain ⟨X0, X1, Xf0, Xf1⟩ := row_two X
  obtain ⟨Y0, Y1, Yf0, Yf1⟩ := row_two Y
  obtain ⟨R0, R1, Rf0, Rf1⟩ := row_two R
  go_wp2
  have Sr0 := row_set R 0 (.int .i64 (a : Nat))
  have Sr1 := row_set Sr0 1 (.int .i64 1)
  have o90 := o.setCell (p := ⟨w.heap.size + 2, 0, none⟩) (by show w.heap.size ≤ w.heap.size + 2; omega) (.int .i64 (a : Nat))
  have o91 := o90.setCell (p := ⟨w.heap.size + 2, 1, none⟩) (by show w.heap.size ≤ w.heap.size + 2; omega) (.int .i64 1)
  obtain ⟨S0, S1, _, _⟩ := row_two Sr1
  exact bodyPost_ret (v := .agg #[.int .i64 (a : Nat), .int .i64 1]) (by simp [results, Tryz.results53, go_sem, S0, S1]) rfl ⟨rfl, o91⟩
theorem pmostW {a b : Nat} (ha : a < 4611686018427387904) (hb : b < 4611686018427387904) (w : World) : Calls Tryz.prog 53 #[.agg #[.int .i64 (a : Nat), .int .i64 1], .agg #[.int .i64 (b : Nat), .int .i64 1]] w fun e w' => e = .returned (.agg #[.int .i64 (max a b : Nat), .int .i64 1]) ∧ Below w.heap.size w w' := by
  have P := fun w => pcmpR (ratOK_one ha) (ratOK_one hb) w
  rw [icmpW] at P
  rcases Nat.lt_trichotomy a b with h | h | h
  · rw [if_pos h] at P
    rw [show max a b = b by omega]
    exact pmostW_a a b w (Lib.hid P)
  · rw [if_neg (by omega), if_pos h] at P
    rw [show max a b = a by omega]
    exact pmostW_b a b w (Lib.hid P)
  · rw [if_neg (by omega), if_neg (by omega)] at P
    rw [show max a b = a by omega]
    exact pmostW_c a b w (Lib.hid P)
set_option maxRecDepth 100000 in
set_option maxHeartbeats 4000000 in
theorem pmeet {l1 m1 h1 l2 m2 h2 : Nat} (b1 : BndOK l1 1 m1 1 h1 1) (b2 : BndOK l2 1 m2 1 h2 1) (hle : max l1 l2 ≤ min h1 h2) (w : World) : Calls Tryz.prog 13 #[.agg #[.int .i64 (l1 : Nat), .int .i64 1, .int .i64 (m1 : Nat), .int .i64 1, .int .i64 (h1 : Nat), .int .i64 1], .agg #[.int .i64 (l2 : Nat), .int .i64 1, .int .i64 (m2 : Nat), .int .i64 1, .int .i64 (h2 : Nat), .int .i64 1]] w fun e w' => e = .returned (.tuple #[.agg #[.int .i64 (max l1 l2 : Nat), .int .i64 1, .int .i64 (min (max m1 (max l1 l2)) (min h1 h2) : Nat), .int .i64 1, .int .i64 (min h1 h2 : Nat), .int .i64 1], .bool true]) ∧ Below w.heap.size w w' := by
  have PV1 : RowKit.Hid (∀ w, Calls Tryz.prog 14 #[.agg #[.int .i64 (l1 : Nat), .int .i64 1, .int .i64 (m1 : Nat), .int .i64 1, .int .i64 (h1 : Nat), .int .i64 1]] w fun e w' => e = .returned (.bool true) ∧ Below w.heap.size w w') := Lib.hid (fun w => pbvalid b1 w)
  have PV2 : RowKit.Hid (∀ w, Calls Tryz.prog 14 #[.agg #[.int .i64 (l2 : Nat), .int .i64 1, .int .i64 (m2 : Nat), .int .i64 1, .int .i64 (h2 : Nat), .int .i64 1]] w fun e w' => e = .returned (.bool true) ∧ Below w.heap.size w w') := Lib.hid (fun w => pbvalid b2 w)
  have q1 := b1.lo.1
  have q2 := b2.lo.1
  have q3 := b1.hi.1
  have q4 := b2.hi.1
  have q5 := b1.md.1
  have PL := fun w => pmostW q1 q2 w
  have PH := fun w => pleastW q3 q4 w
  have PM := fun w => pmostW q5 (show max l1 l2 < 4611686018427387904 by omega) w
  have PN := fun w => pleastW (show max m1 (max l1 l2) < 4611686018427387904 by omega) (show min h1 h2 < 4611686018427387904 by omega) w
  obtain ⟨r4, i4, P4⟩ := pleR (ratOK_one (show max l1 l2 < 4611686018427387904 by omega)) (ratOK_one (show min h1 h2 < 4611686018427387904 by omega)) (by omega)
  clear b1 b2 hle q1 q2 q3 q4 q5
  generalize min (max m1 (max l1 l2)) (min h1 h2) = md at PN ⊢
  generalize max m1 (max l1 l2) = mx at PM PN
  generalize max l1 l2 = lo at *
  generalize min h1 h2 = hi at *
  replace PL := Lib.hid PL
  replace PH := Lib.hid PH
  replace PM := Lib.hid PM
  replace PN := Lib.hid PN
  have P4 : RowKit.Hid (∀ w, Calls Tryz.prog 55 #[.agg #[.int .i64 (lo : Nat), .int .i64 1], .agg #[.int .i64 (hi : Nat), .int .i64 1]] w fun e w' => e = .returned (.int .i64 r4) ∧ Below w.heap.size w w') := Lib.hid P4
  have i5 : ¬ 0 < r4 := by omega
  go_enter Tryz.func13, Tryz.ntmps13
  go_upto_region 1 with (fail)
  have X : Row (((w.alloc (.cells #[.int .i64 (l1 : Nat), .int .i64 1, .int .i64 (m1 : Nat), .int .i64 1, .int .i64 (h1 : Nat), .int .i64 1] 64)).alloc (.cells #[.int .i64 (l2 : Nat), .int .i64 1, .int .i64 (m2 : Nat), .int .i64 1, .int .i64 (h2 : Nat), .int .i64 1] 64)).alloc (.cells #[.int .i64 0, .int .i64 0, .int .i64 0, .int .i64 0, .int .i64 0, .int .i64 0] 64)) (w.heap.size) 64 #[.int .i64 (l1 : Nat), .int .i64 1, .int .i64 (m1 : Nat), .int .i64 1, .int .i64 (h1 : Nat), .int .i64 1] := row_alloc (row_alloc (row_new rfl) _) _
  have Y : Row (((w.alloc (.cells #[.int .i64 (l1 : Nat), .int .i64 1, .int .i64 (m1 : Nat), .int .i64 1, .int .i64 (h1 : Nat), .int .i64 1] 64)).alloc (.cells #[.int .i64 (l2 : Nat), .int .i64 1, .int .i64 (m2 : Nat), .int .i64 1, .int .i64 (h2 : Nat), .int .i64 1] 64)).alloc (.cells #[.int .i64 0, .int .i64 0, .int .i64 0, .int .i64 0, .int .i64 0, .int .i64 0] 64)) (w.heap.size + 1) 64 #[.int .i64 (l2 : Nat), .int .i64 1, .int .i64 (m2 : Nat), .int .i64 1, .int .i64 (h2 : Nat), .int .i64 1] := row_alloc (row_new (by simp)) _
  have R : Row (((w.alloc (.cells #[.int .i64 (l1 : Nat), .int .i64 1, .int .i64 (m1 : Nat), .int .i64 1, .int .i64 (h1 : Nat), .int .i64 1] 64)).alloc (.cells #[.int .i64 (l2 : Nat), .int .i64 1, .int .i64 (m2 : Nat), .int .i64 1, .int .i64 (h2 : Nat), .int .i64 1] 64)).alloc (.cells #[.int .i64 0, .int .i64 0, .int .i64 0, .int .i64 0, .int .i64 0, .int .i64 0] 64)) (w.heap.size + 2) 64 #[.int .i64 0, .int .i64 0, .int .i64 0, .int .i64 0, .int .i64 0, .int .i64 0] := row_new (by simp)
  have o : Below w.heap.size w (((w.alloc (.cells #[.int .i64 (l1 : Nat), .int .i64 1, .int .i64 (m1 : Nat), .int .i64 1, .int .i64 (h1 : Nat), .int .i64 1] 64)).alloc (.cells #[.int .i64 (l2 : Nat), .int .i64 1, .int .i64 (m2 : Nat), .int .i64 1, .int .i64 (h2 : Nat), .int .i64 1] 64)).alloc (.cells #[.int .i64 0, .int .i64 0, .int .i64 0, .int .i64 0, .int .i64 0, .int .i64 0] 64)) := by (repeat (first | exact Below.refl _ _ | refine Below.setCell ?_ (by first | (simp; done) | (simp; omega) | omega) _ | refine Below.alloc ?_ (by first | (simp; done) | (simp; omega) | omega) _ | refine Below.drew ?_ | refine Below.trans ?_ (Below.mono (by assumption) (by first | (simp; done) | (simp; omega) | omega))))
  generalize (((w.alloc (.cells #[.int .i64 (l1 : Nat), .int .i64 1, .int .i64 (m1 : Nat), .int .i64 1, .int .i64 (h1 : Nat), .int .i64 1] 64)).alloc (.cells #[.int .i64 (l2 : Nat), .int .i64 1, .int .i64 (m2 : Nat), .int .i64 1, .int .i64 (h2 : Nat), .int .i64 1] 64)).alloc (.cells #[.int .i64 0, .int .i64 0, .int .i64 0, .int .i64 0, .int .i64 0, .int .i64 0] 64)) = w0 at X Y R o ⊢
  obtain ⟨X0, X1, X2, X3, X4, X5, Xf0, Xf1, Xf2, Xf3, Xf4, Xf5⟩ := row_six X
  go_wp2_with fail
  refine (PV1.out _).mono ?_
  rintro e w1 ⟨rfl, hb⟩
  replace X := row_call X hb
  replace Y := row_call Y hb
  replace R := row_call R hb
  replace o := o.trans (hb.mono o.size)
  clear hb X0 Xf0 X1 Xf1 X2 Xf2 X3 Xf3 X4 Xf4 X5 Xf5
  obtain ⟨Y0, Y1, Y2, Y3, Y4, Y5, Yf0, Yf1, Yf2, Yf3, Yf4, Yf5⟩ := row_six Y
  go_wp2_with fail
  refine (PV2.out _).mono ?_
  rintro e w2 ⟨rfl, hb⟩
  replace X := row_call X hb
  replace Y := row_call Y hb
  replace R := row_call R hb
  replace o := o.trans (hb.mono o.size)
  clear hb Y0 Yf0 Y1 Yf1 Y2 Yf2 Y3 Yf3 Y4 Yf4 Y5 Yf5
  have zx := row_lt X
  have zy := row_lt Y
  have rlt := row_lt R
  go_upto_region 3 with (fail)
  refine wp_region_free2 [0, 1, 2, 3, 4, 5, 6, 7, 8, 9] [] [0, 1, 2, 3, 4, 5, 6, 7, 8, 9, 10, 11] (10, 62, #[.int .i64 0, .int .i64 0]) (11, 62, #[.int .i64 0, .int .i64 0]) 6 7 12 (fun w' => Row w' (w.heap.size) 64 #[.int .i64 (l1 : Nat), .int .i64 1, .int .i64 (m1 : Nat), .int .i64 1, .int .i64 (h1 : Nat), .int .i64 1] ∧ Row w' (w.heap.size + 1) 64 #[.int .i64 (l2 : Nat), .int .i64 1, .int .i64 (m2 : Nat), .int .i64 1, .int .i64 (h2 : Nat), .int .i64 1] ∧ Row w' (w.heap.size + 2) 64 #[.int .i64 0, .int .i64 0, .int .i64 0, .int .i64 0, .int .i64 0, .int .i64 0] ∧ Below w.heap.size w w') (by kernel_rfl) (by kernel_rfl) ⟨_, _, rfl, rfl, rfl, fun ρ w' => by go_simp⟩ ⟨_, _, rfl, rfl, rfl, fun ρ w' => by go_simp⟩ rfl rfl (by simp) (by simp) (fun _ h => ⟨row_alloc h.1 _, row_alloc h.2.1 _, row_alloc h.2.2.1 _, h.2.2.2.alloc h.2.2.2.size _⟩) (fun _ h => ⟨row_alloc h.1 _, row_alloc h.2.1 _, row_alloc h.2.2.1 _, h.2.2.2.alloc h.2.2.2.size _⟩) (fun _ _ d _ _ h => by cases d <;> exact h) ?_ ?_
  · exact ⟨X, Y, R, o.drew⟩
  (refine plan_pure ?_ rfl rfl (fun w' => ?_) ?_; rotate_left; (go_simp; try with_reducible rfl); simp only [Act.put, List.setIfInBounds_toArray, List.set_cons_zero, List.set_cons_succ])
  (refine plan_val ?_ rfl rfl rfl (fun w' hS => ?_) ?_; rotate_left; (obtain ⟨X0, X1, X2, X3, X4, X5, Xf0, Xf1, Xf2, Xf3, Xf4, Xf5⟩ := row_six hS.1; obtain ⟨Y0, Y1, Y2, Y3, Y4, Y5, Yf0, Yf1, Yf2, Yf3, Yf4, Yf5⟩ := row_six hS.2.1; go_simp; try with_reducible rfl); simp only [Act.put, List.setIfInBounds_toArray, List.set_cons_zero, List.set_cons_succ])
  (refine plan_pure ?_ rfl rfl (fun w' => ?_) ?_; rotate_left; (go_simp; try with_reducible rfl); simp only [Act.put, List.setIfInBounds_toArray, List.set_cons_zero, List.set_cons_succ])
  (refine plan_val ?_ rfl rfl rfl (fun w' hS => ?_) ?_; rotate_left; (obtain ⟨X0, X1, X2, X3, X4, X5, Xf0, Xf1, Xf2, Xf3, Xf4, Xf5⟩ := row_six hS.1; obtain ⟨Y0, Y1, Y2, Y3, Y4, Y5, Yf0, Yf1, Yf2, Yf3, Yf4, Yf5⟩ := row_six hS.2.1; go_simp; try with_reducible rfl); simp only [Act.put, List.setIfInBounds_toArray, List.set_cons_zero, List.set_cons_succ])
  refine plan_call (.agg #[.int .i64 (lo : Nat), .int .i64 1]) 53 #[.agg #[.int .i64 (l1 : Nat), .int .i64 1], .agg #[.int .i64 (l2 : Nat), .int .i64 1]] rfl rfl rfl (fun _ _ h hb => ⟨row_call h.1 hb, row_call h.2.1 hb, row_call h.2.2.1 hb, h.2.2.2.trans (hb.mono h.2.2.2.size)⟩) (fun w' hS => by obtain ⟨X0, X1, X2, X3, X4, X5, Xf0, Xf1, Xf2, Xf3, Xf4, Xf5⟩ := row_six hS.1; obtain ⟨Y0, Y1, Y2, Y3, Y4, Y5, Yf0, Yf1, Yf2, Yf3, Yf4, Yf5⟩ := row_six hS.2.1; go_simp) (fun w' hS => PL.out w') ?_
  simp only [Act.put, List.setIfInBounds_toArray, List.set_cons_zero, List.set_cons_succ]
  (refine plan_pure ?_ rfl rfl (fun w' => ?_) ?_; rotate_left; (go_simp; try with_reducible rfl); simp only [Act.put, List.setIfInBounds_toArray, List.set_cons_zero, List.set_cons_succ])
  (refine plan_val ?_ rfl rfl rfl (fun w' hS => ?_) ?_; rotate_left; (obtain ⟨X0, X1, X2, X3, X4, X5, Xf0, Xf1, Xf2, Xf3, Xf4, Xf5⟩ := row_six hS.1; obtain ⟨Y0, Y1, Y2, Y3, Y4, Y5, Yf0, Yf1, Yf2, Yf3, Yf4, Yf5⟩ := row_six hS.2.1; go_simp; try with_reducible rfl); simp only [Act.put, List.setIfInBounds_toArray, List.set_cons_zero, List.set_cons_succ])
  (refine plan_pure ?_ rfl rfl (fun w' => ?_) ?_; rotate_left; (go_simp; try with_reducible rfl); simp only [Act.put, List.setIfInBounds_toArray, List.set_cons_zero, List.set_cons_succ])
  (refine plan_val ?_ rfl rfl rfl (fun w' hS => ?_) ?_; rotate_left; (obtain ⟨X0, X1, X2, X3, X4, X5, Xf0, Xf1, Xf2, Xf3, Xf4, Xf5⟩ := row_six hS.1; obtain ⟨Y0, Y1, Y2, Y3, Y4, Y5, Yf0, Yf1, Yf2, Yf3, Yf4, Yf5⟩ := row_six hS.2.1; go_simp; try with_reducible rfl); simp only [Act.put, List.setIfInBounds_toArray, List.set_cons_zero, List.set_cons_succ])
  refine plan_call (.agg #[.int .i64 (hi : Nat), .int .i64 1]) 54 #[.agg #[.int .i64 (h1 : Nat), .int .i64 1], .agg #[.int .i64 (h2 : Nat), .int .i64 1]] rfl rfl rfl (fun _ _ h hb => ⟨row_call h.1 hb, row_call h.2.1 hb, row_call h.2.2.1 hb, h.2.2.2.trans (hb.mono h.2.2.2.size)⟩) (fun w' hS => by obtain ⟨X0, X1, X2, X3, X4, X5, Xf0, Xf1, Xf2, Xf3, Xf4, Xf5⟩ := row_six hS.1; obtain ⟨Y0, Y1, Y2, Y3, Y4, Y5, Yf0, Yf1, Yf2, Yf3, Yf4, Yf5⟩ := row_six hS.2.1; go_simp) (fun w' hS => PH.out w') ?_
  simp only [Act.put, List.setIfInBounds_toArray, List.set_cons_zero, List.set_cons_succ]
  refine plan_nil ?_
  intro g1 g2 w3 L hr1 hr2 hne hg1 hg2
  simp only [List.drop_succ_cons, List.drop_zero]
  try simp only [Act.put, List.setIfInBounds_toArray, List.set_cons_zero, List.set_cons_succ]
  obtain ⟨X', Y', R', o'⟩ := L
  clear X Y R o
  have n1 : w.heap.size + 2 ≠ g1 := by omega
  have n2 : w.heap.size + 2 ≠ g2 := by omega
  have n3 : w.heap.size ≠ g1 := by omega
  have n4 : w.heap.size ≠ g2 := by omega
  have n5 : w.heap.size ≤ g1 := by omega
  have n6 : w.heap.size ≤ g2 := by omega
  obtain ⟨A0, A1, Af0, Af1⟩ := row_two hr1
  obtain ⟨C0, C1, Cf0, Cf1⟩ := row_two hr2
  go_upto_region 4 with (fail)
  have Rg := row_two_other (c := g2) (u := .int .i64 (hi : Nat)) (v := .int .i64 1) (row_two_set (u := .int .i64 (lo : Nat)) (v := .int .i64 1) hr1) hne
  have Rk := row_two_set (u := .int .i64 (hi : Nat)) (v := .int .i64 1) (row_two_other (c := g1) (u := .int .i64 (lo : Nat)) (v := .int .i64 1) hr2 (Ne.symm hne))
  have X := row_two_other (c := g2) (u := .int .i64 (hi : Nat)) (v := .int .i64 1) (row_two_other (c := g1) (u := .int .i64 (lo : Nat)) (v := .int .i64 1) X' n3) n4
  have R := row_two_other (c := g2) (u := .int .i64 (hi : Nat)) (v := .int .i64 1) (row_two_other (c := g1) (u := .int .i64 (lo : Nat)) (v := .int .i64 1) R' n1) n2
  have o := (((o'.setCell (p := ⟨g1, 0, none⟩) n5 (.int .i64 (lo : Nat))).setCell (p := ⟨g1, 1, none⟩) n5 (.int .i64 1)).setCell (p := ⟨g2, 0, none⟩) n6 (.int .i64 (hi : Nat))).setCell (p := ⟨g2, 1, none⟩) n6 (.int .i64 1)
  generalize (((w3.setCell ⟨g1, 0, none⟩ (.int .i64 (lo : Nat))).setCell ⟨g1, 1, none⟩ (.int .i64 1)).setCell ⟨g2, 0, none⟩ (.int .i64 (hi : Nat))).setCell ⟨g2, 1, none⟩ (.int .i64 1) = w5 at Rg Rk X R o ⊢
  clear hr1 hr2 X' Y' R' o' A0 A1 Af0 Af1 C0 C1 Cf0 Cf1
  obtain ⟨A0, A1, Af0, Af1⟩ := row_two Rg
  obtain ⟨C0, C1, Cf0, Cf1⟩ := row_two Rk
  go_wp2_with fail
  refine (P4.out _).mono ?_
  rintro e w6 ⟨rfl, hb⟩
  replace X := row_call X hb
  replace R := row_call R hb
  replace Rg := row_call Rg hb
  replace Rk := row_call Rk hb
  replace o := o.trans (hb.mono o.size)
  clear hb A0 Af0 A1 Af1 C0 Cf0 C1 Cf1
  go_upto_region 6 with (fail)
  refine wp_region_free0 [0, 1, 2, 3, 4, 5, 6, 7, 8] [] [0, 1, 2, 3, 4, 5, 6, 7, 8] 9 (fun w' => Row w' (w.heap.size) 64 #[.int .i64 (l1 : Nat), .int .i64 1, .int .i64 (m1 : Nat), .int .i64 1, .int .i64 (h1 : Nat), .int .i64 1] ∧ Row w' (w.heap.size + 2) 64 #[.int .i64 0, .int .i64 0, .int .i64 0, .int .i64 0, .int .i64 0, .int .i64 0] ∧ Row w' (g1) 62 #[.int .i64 (lo : Nat), .int .i64 1] ∧ Row w' (g2) 62 #[.int .i64 (hi : Nat), .int .i64 1] ∧ Below w.heap.size w w') (by kernel_rfl) (by kernel_rfl) (fun _ _ d _ _ h => by cases d <;> exact h) ?_ ?_
  · exact ⟨X, R, Rg, Rk, o.drew⟩
  (refine plan_val ?_ rfl rfl rfl (fun w' hS => ?_) ?_; rotate_left; (obtain ⟨X0, X1, X2, X3, X4, X5, Xf0, Xf1, Xf2, Xf3, Xf4, Xf5⟩ := row_six hS.1; obtain ⟨A0, A1, Af0, Af1⟩ := row_two hS.2.2.1; obtain ⟨C0, C1, Cf0, Cf1⟩ := row_two hS.2.2.2.1; go_simp; try with_reducible rfl); simp only [Act.put, List.setIfInBounds_toArray, List.set_cons_zero, List.set_cons_succ])
  (refine plan_pure ?_ rfl rfl (fun w' => ?_) ?_; rotate_left; (go_simp; try with_reducible rfl); simp only [Act.put, List.setIfInBounds_toArray, List.set_cons_zero, List.set_cons_succ])
  (refine plan_val ?_ rfl rfl rfl (fun w' hS => ?_) ?_; rotate_left; (obtain ⟨X0, X1, X2, X3, X4, X5, Xf0, Xf1, Xf2, Xf3, Xf4, Xf5⟩ := row_six hS.1; obtain ⟨A0, A1, Af0, Af1⟩ := row_two hS.2.2.1; obtain ⟨C0, C1, Cf0, Cf1⟩ := row_two hS.2.2.2.1; go_simp; try with_reducible rfl); simp only [Act.put, List.setIfInBounds_toArray, List.set_cons_zero, List.set_cons_succ])
  (refine plan_val ?_ rfl rfl rfl (fun w' hS => ?_) ?_; rotate_left; (obtain ⟨X0, X1, X2, X3, X4, X5, Xf0, Xf1, Xf2, Xf3, Xf4, Xf5⟩ := row_six hS.1; obtain ⟨A0, A1, Af0, Af1⟩ := row_two hS.2.2.1; obtain ⟨C0, C1, Cf0, Cf1⟩ := row_two hS.2.2.2.1; go_simp; try with_reducible rfl); simp only [Act.put, List.setIfInBounds_toArray, List.set_cons_zero, List.set_cons_succ])
  refine plan_call (.agg #[.int .i64 (mx : Nat), .int .i64 1]) 53 #[.agg #[.int .i64 (m1 : Nat), .int .i64 1], .agg #[.int .i64 (lo : Nat), .int .i64 1]] rfl rfl rfl (fun _ _ h hb => ⟨row_call h.1 hb, row_call h.2.1 hb, row_call h.2.2.1 hb, row_call h.2.2.2.1 hb, h.2.2.2.2.trans (hb.mono h.2.2.2.2.size)⟩) (fun w' hS => by obtain ⟨X0, X1, X2, X3, X4, X5, Xf0, Xf1, Xf2, Xf3, Xf4, Xf5⟩ := row_six hS.1; obtain ⟨A0, A1, Af0, Af1⟩ := row_two hS.2.2.1; obtain ⟨C0, C1, Cf0, Cf1⟩ := row_two hS.2.2.2.1; go_simp) (fun w' hS => PM.out w') ?_
  simp only [Act.put, List.setIfInBounds_toArray, List.set_cons_zero, List.set_cons_succ]
  (refine plan_val ?_ rfl rfl rfl (fun w' hS => ?_) ?_; rotate_left; (obtain ⟨X0, X1, X2, X3, X4, X5, Xf0, Xf1, Xf2, Xf3, Xf4, Xf5⟩ := row_six hS.1; obtain ⟨A0, A1, Af0, Af1⟩ := row_two hS.2.2.1; obtain ⟨C0, C1, Cf0, Cf1⟩ := row_two hS.2.2.2.1; go_simp; try with_reducible rfl); simp only [Act.put, List.setIfInBounds_toArray, List.set_cons_zero, List.set_cons_succ])
  refine plan_call (.agg #[.int .i64 (md : Nat), .int .i64 1]) 54 #[.agg #[.int .i64 (mx : Nat), .int .i64 1], .agg #[.int .i64 (hi : Nat), .int .i64 1]] rfl rfl rfl (fun _ _ h hb => ⟨row_call h.1 hb, row_call h.2.1 hb, row_call h.2.2.1 hb, row_call h.2.2.2.1 hb, h.2.2.2.2.trans (hb.mono h.2.2.2.2.size)⟩) (fun w' hS => by obtain ⟨X0, X1, X2, X3, X4, X5, Xf0, Xf1, Xf2, Xf3, Xf4, Xf5⟩ := row_six hS.1; obtain ⟨A0, A1, Af0, Af1⟩ := row_two hS.2.2.1; obtain ⟨C0, C1, Cf0, Cf1⟩ := row_two hS.2.2.2.1; go_simp) (fun w' hS => PN.out w') ?_
  simp only [Act.put, List.setIfInBounds_toArray, List.set_cons_zero, List.set_cons_succ]
  (refine plan_val ?_ rfl rfl rfl (fun w' hS => ?_) ?_; rotate_left; (obtain ⟨X0, X1, X2, X3, X4, X5, Xf0, Xf1, Xf2, Xf3, Xf4, Xf5⟩ := row_six hS.1; obtain ⟨A0, A1, Af0, Af1⟩ := row_two hS.2.2.1; obtain ⟨C0, C1, Cf0, Cf1⟩ := row_two hS.2.2.2.1; go_simp; try with_reducible rfl); simp only [Act.put, List.setIfInBounds_toArray, List.set_cons_zero, List.set_cons_succ])
  (refine plan_pure ?_ rfl rfl (fun w' => ?_) ?_; rotate_left; (go_simp; try with_reducible rfl); simp only [Act.put, List.setIfInBounds_toArray, List.set_cons_zero, List.set_cons_succ])
  refine plan_nil ?_
  intro w7 L7
  simp only [List.drop_succ_cons, List.drop_zero]
  try simp only [Act.put, List.setIfInBounds_toArray, List.set_cons_zero, List.set_cons_succ]
  obtain ⟨X', R', Rg', Rk', o'⟩ := L7
  clear X R Rg Rk o
  obtain ⟨R0, R1, R2, R3, R4, R5, Rf0, Rf1, Rf2, Rf3, Rf4, Rf5⟩ := row_six R'
  go_wp2
  have Sr0 := row_set R' 0 (.int .i64 (lo : Nat))
  have Sr1 := row_set Sr0 1 (.int .i64 1)
  have Sr2 := row_set Sr1 2 (.int .i64 (md : Nat))
  have Sr3 := row_set Sr2 3 (.int .i64 1)
  have Sr4 := row_set Sr3 4 (.int .i64 (hi : Nat))
  have Sr5 := row_set Sr4 5 (.int .i64 1)
  have o90 := o'.setCell (p := ⟨w.heap.size + 2, 0, none⟩) (by show w.heap.size ≤ w.heap.size + 2; omega) (.int .i64 (lo : Nat))
  have o91 := o90.setCell (p := ⟨w.heap.size + 2, 1, none⟩) (by show w.heap.size ≤ w.heap.size + 2; omega) (.int .i64 1)
  have o92 := o91.setCell (p := ⟨w.heap.size + 2, 2, none⟩) (by show w.heap.size ≤ w.heap.size + 2; omega) (.int .i64 (md : Nat))
  have o93 := o92.setCell (p := ⟨w.heap.size + 2, 3, none⟩) (by show w.heap.size ≤ w.heap.size + 2; omega) (.int .i64 1)
  have o94 := o93.setCell (p := ⟨w.heap.size + 2, 4, none⟩) (by show w.heap.size ≤ w.heap.size + 2; omega) (.int .i64 (hi : Nat))
  have o95 := o94.setCell (p := ⟨w.heap.size + 2, 5, none⟩) (by show w.heap.size ≤ w.heap.size + 2; omega) (.int .i64 1)
  obtain ⟨S0, S1, S2, S3, S4, S5, _, _, _, _, _, _⟩ := row_six Sr5
  exact bodyPost_ret (v := .tuple #[.agg #[.int .i64 (lo : Nat), .int .i64 1, .int .i64 (md : Nat), .int .i64 1, .int .i64 (hi : Nat), .int .i64 1], .bool true]) (by simp [results, Tryz.results13, go_sem, S0, S1, S2, S3, S4, S5]) rfl ⟨rfl, o95⟩
end Go.Proofs.YtdipoojjlddohaaGreat
end
section
/- The example of the top: the layers below answer. -/
set_option linter.unusedVariables false
set_option linter.unusedSimpArgs false
set_option linter.unusedSectionVars false
set_option linter.unnecessarySimpa false
namespace Go.Proofs.YtdipoojjlddohaaGreat
open Go.RowKit
set_option maxRecDepth 100000 in
set_option maxHeartbeats 4000000 in
theorem awakeT (w : World) : Calls Tryz.prog 15 #[] w fun e w' => e = .returned (.bool true) ∧ Below w.heap.size w w' := by
  have hg : ctGood 5 1 5 := by unfold ctGood; omega
  have PN : RowKit.Hid (∀ w, Calls Tryz.prog 37 #[.agg #[.int .i64 2, .int .i64 0, .int .i64 5, .int .i64 1, .int .i64 5, .int .i64 0, .int .i64 0, .int .i64 0], .int .i64 0] w (GRet (CtI 5 1 5 0 []) (fun A m c => #[.int .i64 2, .int .i64 0, .int .i64 5, .int .i64 1, .int .i64 5, .int .i64 0, .int .i64 0, .int .i64 0, .int .i64 0, .int .i64 0, .int .i64 0, .slice none 0 0, .int .i64 5, .int .i64 1, .int .i64 5, .int .i64 0, .slice A m c, .int .i64 0, .int .i64 0, .int .i64 0, .int .i64 0, .int .i64 0, .slice none 0 0, .int .i64 0, .int .i64 0, .int .i64 0, .int .i64 0, .int .i64 0, .int .i64 0, .slice none 0 0, .int .i64 0, .int .i64 0, .int .i64 0, .int .i64 0, .int .i64 0, .slice none 0 0, .int .i64 0, .int .i64 0, .int .i64 0, .slice none 0 0, .int .i64 0, .slice none 0 0, .bool false, .int .i64 0, .int .i64 0, .int .i64 0, .slice none 0 0, .slice none 0 0, .int .i64 0, .int .i64 0, .int .i64 0, .slice none 0 0, .int .i64 0, .int .i64 0, .int .i64 0, .int .i64 0, .slice none 0 0]) 0 (fun _ => False) w)) := Lib.hid (fun w => tcNew hg (by omega) (by omega) w)
  have PA : RowKit.Hid (∀ A m c w, CtI 5 1 5 0 [] A m c w → Calls Tryz.prog 38 #[.agg #[.int .i64 2, .int .i64 0, .int .i64 5, .int .i64 1, .int .i64 5, .int .i64 0, .int .i64 0, .int .i64 0, .int .i64 0, .int .i64 0, .int .i64 0, .slice none 0 0, .int .i64 5, .int .i64 1, .int .i64 5, .int .i64 0, .slice A m c, .int .i64 0, .int .i64 0, .int .i64 0, .int .i64 0, .int .i64 0, .slice none 0 0, .int .i64 0, .int .i64 0, .int .i64 0, .int .i64 0, .int .i64 0, .int .i64 0, .slice none 0 0, .int .i64 0, .int .i64 0, .int .i64 0, .int .i64 0, .int .i64 0, .slice none 0 0, .int .i64 0, .int .i64 0, .int .i64 0, .slice none 0 0, .int .i64 0, .slice none 0 0, .bool false, .int .i64 0, .int .i64 0, .int .i64 0, .slice none 0 0, .slice none 0 0, .int .i64 0, .int .i64 0, .int .i64 0, .slice none 0 0, .int .i64 0, .int .i64 0, .int .i64 0, .int .i64 0, .slice none 0 0], .int .i64 1, .slice none 0 0] w (GRet (CtI 5 1 5 0 [0]) (fun A m c => #[.int .i64 2, .int .i64 0, .int .i64 5, .int .i64 1, .int .i64 5, .int .i64 0, .int .i64 0, .int .i64 0, .int .i64 0, .int .i64 0, .int .i64 0, .slice none 0 0, .int .i64 5, .int .i64 1, .int .i64 5, .int .i64 0, .slice A m c, .int .i64 0, .int .i64 0, .int .i64 0, .int .i64 0, .int .i64 0, .slice none 0 0, .int .i64 0, .int .i64 0, .int .i64 0, .int .i64 0, .int .i64 0, .int .i64 0, .slice none 0 0, .int .i64 0, .int .i64 0, .int .i64 0, .int .i64 0, .int .i64 0, .slice none 0 0, .int .i64 0, .int .i64 0, .int .i64 0, .slice none 0 0, .int .i64 0, .slice none 0 0, .bool false, .int .i64 0, .int .i64 0, .int .i64 0, .slice none 0 0, .slice none 0 0, .int .i64 0, .int .i64 0, .int .i64 0, .slice none 0 0, .int .i64 0, .int .i64 0, .int .i64 0, .int .i64 0, .slice none 0 0]) 0 (fun _ => False) w)) := Lib.hid (fun A m c w h => tcAdd h (by decide) (by omega) (by omega))
  have PQ : RowKit.Hid (∀ A m c w, CtI 5 1 5 0 [0] A m c w → Calls Tryz.prog 12 #[.agg #[.int .i64 2, .int .i64 0, .int .i64 5, .int .i64 1, .int .i64 5, .int .i64 0, .int .i64 0, .int .i64 0, .int .i64 0, .int .i64 0, .int .i64 0, .slice none 0 0, .int .i64 5, .int .i64 1, .int .i64 5, .int .i64 0, .slice A m c, .int .i64 0, .int .i64 0, .int .i64 0, .int .i64 0, .int .i64 0, .slice none 0 0, .int .i64 0, .int .i64 0, .int .i64 0, .int .i64 0, .int .i64 0, .int .i64 0, .slice none 0 0, .int .i64 0, .int .i64 0, .int .i64 0, .int .i64 0, .int .i64 0, .slice none 0 0, .int .i64 0, .int .i64 0, .int .i64 0, .slice none 0 0, .int .i64 0, .slice none 0 0, .bool false, .int .i64 0, .int .i64 0, .int .i64 0, .slice none 0 0, .slice none 0 0, .int .i64 0, .int .i64 0, .int .i64 0, .slice none 0 0, .int .i64 0, .int .i64 0, .int .i64 0, .int .i64 0, .slice none 0 0], .agg #[.int .i64 1, .int .i64 0, .int .i64 0]] w fun e w' => e = .returned (.tuple #[.agg #[.int .i64 1, .int .i64 1, .int .i64 1, .int .i64 1, .int .i64 1, .int .i64 1, .slice none 0 0, .int .u64 0, .int .u64 0, .int .u64 0, .int .u64 0], .int .i64 0]) ∧ Below w.heap.size w w') := Lib.hid (fun A m c w h => (tcAsk h 0 0).mono fun e w' ⟨lo, hi, he, ⟨h1, h2, _, h3⟩, hb⟩ => by
    have hl : liveT (0 - 5) [0] = 1 := by decide
    rw [hl] at h1 h2
    obtain rfl : lo = 1 := by omega
    obtain rfl : hi = 1 := by omega
    exact ⟨he, hb⟩)
  have PBV : RowKit.Hid (∀ w, Calls Tryz.prog 14 #[.agg #[.int .i64 1, .int .i64 1, .int .i64 1, .int .i64 1, .int .i64 1, .int .i64 1]] w fun e w' => e = .returned (.bool true) ∧ Below w.heap.size w w') := Lib.hid (fun w => pbvalid (l1 := 1) (l2 := 1) (m1 := 1) (m2 := 1) (h1 := 1) (h2 := 1) ⟨ratOK_one (by decide), ratOK_one (by decide), ratOK_one (by decide), by decide, by decide⟩ w)
  have PRO := Lib.hid (fun w => pratio 1 w)
  have IO0 := ctI_ok 5 1 5 0 []
  have IO1 := ctI_ok 5 1 5 0 [0]
  go_enter Tryz.func15, Tryz.ntmps15
  go_wp2_with fail
  refine (PN.out _).mono ?_
  rintro e w1 ⟨A1, m1, c1, rfl, in1, o, _⟩
  have h1 : (#[.int .i64 2, .int .i64 0, .int .i64 5, .int .i64 1, .int .i64 5, .int .i64 0, .int .i64 0, .int .i64 0, .int .i64 0, .int .i64 0, .int .i64 0, .slice none 0 0, .int .i64 5, .int .i64 1, .int .i64 5, .int .i64 0, .slice A1 m1 c1, .int .i64 0, .int .i64 0, .int .i64 0, .int .i64 0, .int .i64 0, .slice none 0 0, .int .i64 0, .int .i64 0, .int .i64 0, .int .i64 0, .int .i64 0, .int .i64 0, .slice none 0 0, .int .i64 0, .int .i64 0, .int .i64 0, .int .i64 0, .int .i64 0, .slice none 0 0, .int .i64 0, .int .i64 0, .int .i64 0, .slice none 0 0, .int .i64 0, .slice none 0 0, .bool false, .int .i64 0, .int .i64 0, .int .i64 0, .slice none 0 0, .slice none 0 0, .int .i64 0, .int .i64 0, .int .i64 0, .slice none 0 0, .int .i64 0, .int .i64 0, .int .i64 0, .int .i64 0, .slice none 0 0] : Array Value).all (·.oneCell') = true := all_one rfl
  have SZ : Row (w1.alloc (.cells #[.int .i64 0, .int .i64 0, .int .i64 0, .int .i64 0, .int .i64 0, .int .i64 0, .int .i64 0, .int .i64 0, .int .i64 0, .int .i64 0, .int .i64 0, .slice none 0 0, .int .i64 0, .int .i64 0, .int .i64 0, .int .i64 0, .slice none 0 0, .int .i64 0, .int .i64 0, .int .i64 0, .int .i64 0, .int .i64 0, .slice none 0 0, .int .i64 0, .int .i64 0, .int .i64 0, .int .i64 0, .int .i64 0, .int .i64 0, .slice none 0 0, .int .i64 0, .int .i64 0, .int .i64 0, .int .i64 0, .int .i64 0, .slice none 0 0, .int .i64 0, .int .i64 0, .int .i64 0, .slice none 0 0, .int .i64 0, .slice none 0 0, .bool false, .int .i64 0, .int .i64 0, .int .i64 0, .slice none 0 0, .slice none 0 0, .int .i64 0, .int .i64 0, .int .i64 0, .slice none 0 0, .int .i64 0, .int .i64 0, .int .i64 0, .int .i64 0, .slice none 0 0] 58)) w1.heap.size 58 #[.int .i64 0, .int .i64 0, .int .i64 0, .int .i64 0, .int .i64 0, .int .i64 0, .int .i64 0, .int .i64 0, .int .i64 0, .int .i64 0, .int .i64 0, .slice none 0 0, .int .i64 0, .int .i64 0, .int .i64 0, .int .i64 0, .slice none 0 0, .int .i64 0, .int .i64 0, .int .i64 0, .int .i64 0, .int .i64 0, .slice none 0 0, .int .i64 0, .int .i64 0, .int .i64 0, .int .i64 0, .int .i64 0, .int .i64 0, .slice none 0 0, .int .i64 0, .int .i64 0, .int .i64 0, .int .i64 0, .int .i64 0, .slice none 0 0, .int .i64 0, .int .i64 0, .int .i64 0, .slice none 0 0, .int .i64 0, .slice none 0 0, .bool false, .int .i64 0, .int .i64 0, .int .i64 0, .slice none 0 0, .slice none 0 0, .int .i64 0, .int .i64 0, .int .i64 0, .slice none 0 0, .int .i64 0, .int .i64 0, .int .i64 0, .int .i64 0, .slice none 0 0] := row_new rfl
  go_upto_region 2 with (with_reducible refine wpList_ssyn SZ rfl rfl h1 rfl _ _ rfl rfl rfl ?_)
  have S := row_setRow (cs := #[.int .i64 2, .int .i64 0, .int .i64 5, .int .i64 1, .int .i64 5, .int .i64 0, .int .i64 0, .int .i64 0, .int .i64 0, .int .i64 0, .int .i64 0, .slice none 0 0, .int .i64 5, .int .i64 1, .int .i64 5, .int .i64 0, .slice A1 m1 c1, .int .i64 0, .int .i64 0, .int .i64 0, .int .i64 0, .int .i64 0, .slice none 0 0, .int .i64 0, .int .i64 0, .int .i64 0, .int .i64 0, .int .i64 0, .int .i64 0, .slice none 0 0, .int .i64 0, .int .i64 0, .int .i64 0, .int .i64 0, .int .i64 0, .slice none 0 0, .int .i64 0, .int .i64 0, .int .i64 0, .slice none 0 0, .int .i64 0, .slice none 0 0, .bool false, .int .i64 0, .int .i64 0, .int .i64 0, .slice none 0 0, .slice none 0 0, .int .i64 0, .int .i64 0, .int .i64 0, .slice none 0 0, .int .i64 0, .int .i64 0, .int .i64 0, .int .i64 0, .slice none 0 0]) SZ
  have z1 := o.size
  have b1 := IO0.blk in1
  replace in1 := IO0.setr (g := w1.heap.size) #[.int .i64 2, .int .i64 0, .int .i64 5, .int .i64 1, .int .i64 5, .int .i64 0, .int .i64 0, .int .i64 0, .int .i64 0, .int .i64 0, .int .i64 0, .slice none 0 0, .int .i64 5, .int .i64 1, .int .i64 5, .int .i64 0, .slice A1 m1 c1, .int .i64 0, .int .i64 0, .int .i64 0, .int .i64 0, .int .i64 0, .slice none 0 0, .int .i64 0, .int .i64 0, .int .i64 0, .int .i64 0, .int .i64 0, .int .i64 0, .slice none 0 0, .int .i64 0, .int .i64 0, .int .i64 0, .int .i64 0, .int .i64 0, .slice none 0 0, .int .i64 0, .int .i64 0, .int .i64 0, .slice none 0 0, .int .i64 0, .slice none 0 0, .bool false, .int .i64 0, .int .i64 0, .int .i64 0, .slice none 0 0, .slice none 0 0, .int .i64 0, .int .i64 0, .int .i64 0, .slice none 0 0, .int .i64 0, .int .i64 0, .int .i64 0, .int .i64 0, .slice none 0 0] (IO0.below in1 ((Below.refl _ _).alloc (Nat.le_refl _) (.cells #[.int .i64 0, .int .i64 0, .int .i64 0, .int .i64 0, .int .i64 0, .int .i64 0, .int .i64 0, .int .i64 0, .int .i64 0, .int .i64 0, .int .i64 0, .slice none 0 0, .int .i64 0, .int .i64 0, .int .i64 0, .int .i64 0, .slice none 0 0, .int .i64 0, .int .i64 0, .int .i64 0, .int .i64 0, .int .i64 0, .slice none 0 0, .int .i64 0, .int .i64 0, .int .i64 0, .int .i64 0, .int .i64 0, .int .i64 0, .slice none 0 0, .int .i64 0, .int .i64 0, .int .i64 0, .int .i64 0, .int .i64 0, .slice none 0 0, .int .i64 0, .int .i64 0, .int .i64 0, .slice none 0 0, .int .i64 0, .slice none 0 0, .bool false, .int .i64 0, .int .i64 0, .int .i64 0, .slice none 0 0, .slice none 0 0, .int .i64 0, .int .i64 0, .int .i64 0, .slice none 0 0, .int .i64 0, .int .i64 0, .int .i64 0, .int .i64 0, .slice none 0 0] 58))) (fun hm a e => by have := b1 hm a e; omega)
  replace o := below_setRow (g := w1.heap.size) (o.alloc o.size (.cells #[.int .i64 0, .int .i64 0, .int .i64 0, .int .i64 0, .int .i64 0, .int .i64 0, .int .i64 0, .int .i64 0, .int .i64 0, .int .i64 0, .int .i64 0, .slice none 0 0, .int .i64 0, .int .i64 0, .int .i64 0, .int .i64 0, .slice none 0 0, .int .i64 0, .int .i64 0, .int .i64 0, .int .i64 0, .int .i64 0, .slice none 0 0, .int .i64 0, .int .i64 0, .int .i64 0, .int .i64 0, .int .i64 0, .int .i64 0, .slice none 0 0, .int .i64 0, .int .i64 0, .int .i64 0, .int .i64 0, .int .i64 0, .slice none 0 0, .int .i64 0, .int .i64 0, .int .i64 0, .slice none 0 0, .int .i64 0, .slice none 0 0, .bool false, .int .i64 0, .int .i64 0, .int .i64 0, .slice none 0 0, .slice none 0 0, .int .i64 0, .int .i64 0, .int .i64 0, .slice none 0 0, .int .i64 0, .int .i64 0, .int .i64 0, .int .i64 0, .slice none 0 0] 58)) o.size #[.int .i64 2, .int .i64 0, .int .i64 5, .int .i64 1, .int .i64 5, .int .i64 0, .int .i64 0, .int .i64 0, .int .i64 0, .int .i64 0, .int .i64 0, .slice none 0 0, .int .i64 5, .int .i64 1, .int .i64 5, .int .i64 0, .slice A1 m1 c1, .int .i64 0, .int .i64 0, .int .i64 0, .int .i64 0, .int .i64 0, .slice none 0 0, .int .i64 0, .int .i64 0, .int .i64 0, .int .i64 0, .int .i64 0, .int .i64 0, .slice none 0 0, .int .i64 0, .int .i64 0, .int .i64 0, .int .i64 0, .int .i64 0, .slice none 0 0, .int .i64 0, .int .i64 0, .int .i64 0, .slice none 0 0, .int .i64 0, .slice none 0 0, .bool false, .int .i64 0, .int .i64 0, .int .i64 0, .slice none 0 0, .slice none 0 0, .int .i64 0, .int .i64 0, .int .i64 0, .slice none 0 0, .int .i64 0, .int .i64 0, .int .i64 0, .int .i64 0, .slice none 0 0]
  obtain ⟨w2, hw2⟩ : ∃ x, x = (w1.alloc (.cells #[.int .i64 0, .int .i64 0, .int .i64 0, .int .i64 0, .int .i64 0, .int .i64 0, .int .i64 0, .int .i64 0, .int .i64 0, .int .i64 0, .int .i64 0, .slice none 0 0, .int .i64 0, .int .i64 0, .int .i64 0, .int .i64 0, .slice none 0 0, .int .i64 0, .int .i64 0, .int .i64 0, .int .i64 0, .int .i64 0, .slice none 0 0, .int .i64 0, .int .i64 0, .int .i64 0, .int .i64 0, .int .i64 0, .int .i64 0, .slice none 0 0, .int .i64 0, .int .i64 0, .int .i64 0, .int .i64 0, .int .i64 0, .slice none 0 0, .int .i64 0, .int .i64 0, .int .i64 0, .slice none 0 0, .int .i64 0, .slice none 0 0, .bool false, .int .i64 0, .int .i64 0, .int .i64 0, .slice none 0 0, .slice none 0 0, .int .i64 0, .int .i64 0, .int .i64 0, .slice none 0 0, .int .i64 0, .int .i64 0, .int .i64 0, .int .i64 0, .slice none 0 0] 58)).setRow w1.heap.size #[.int .i64 2, .int .i64 0, .int .i64 5, .int .i64 1, .int .i64 5, .int .i64 0, .int .i64 0, .int .i64 0, .int .i64 0, .int .i64 0, .int .i64 0, .slice none 0 0, .int .i64 5, .int .i64 1, .int .i64 5, .int .i64 0, .slice A1 m1 c1, .int .i64 0, .int .i64 0, .int .i64 0, .int .i64 0, .int .i64 0, .slice none 0 0, .int .i64 0, .int .i64 0, .int .i64 0, .int .i64 0, .int .i64 0, .int .i64 0, .slice none 0 0, .int .i64 0, .int .i64 0, .int .i64 0, .int .i64 0, .int .i64 0, .slice none 0 0, .int .i64 0, .int .i64 0, .int .i64 0, .slice none 0 0, .int .i64 0, .slice none 0 0, .bool false, .int .i64 0, .int .i64 0, .int .i64 0, .slice none 0 0, .slice none 0 0, .int .i64 0, .int .i64 0, .int .i64 0, .slice none 0 0, .int .i64 0, .int .i64 0, .int .i64 0, .int .i64 0, .slice none 0 0] := ⟨_, rfl⟩
  rw [← hw2] at S in1 o ⊢
  clear hw2 SZ h1
  generalize w1.heap.size = sb at S z1 ⊢
  go_wp2_with (with_reducible refine wpList_lsyn S rfl rfl _ rfl rfl ?_)
  refine (PA.out _ _ _ _ in1).mono ?_
  rintro e w3 ⟨A2, m2, c2, rfl, in2, hb, fr2⟩
  have zs := row_lt S
  replace S := row_call S hb
  replace o := o.trans (hb.mono o.size)
  have h2 : (#[.int .i64 2, .int .i64 0, .int .i64 5, .int .i64 1, .int .i64 5, .int .i64 0, .int .i64 0, .int .i64 0, .int .i64 0, .int .i64 0, .int .i64 0, .slice none 0 0, .int .i64 5, .int .i64 1, .int .i64 5, .int .i64 0, .slice A2 m2 c2, .int .i64 0, .int .i64 0, .int .i64 0, .int .i64 0, .int .i64 0, .slice none 0 0, .int .i64 0, .int .i64 0, .int .i64 0, .int .i64 0, .int .i64 0, .int .i64 0, .slice none 0 0, .int .i64 0, .int .i64 0, .int .i64 0, .int .i64 0, .int .i64 0, .slice none 0 0, .int .i64 0, .int .i64 0, .int .i64 0, .slice none 0 0, .int .i64 0, .slice none 0 0, .bool false, .int .i64 0, .int .i64 0, .int .i64 0, .slice none 0 0, .slice none 0 0, .int .i64 0, .int .i64 0, .int .i64 0, .slice none 0 0, .int .i64 0, .int .i64 0, .int .i64 0, .int .i64 0, .slice none 0 0] : Array Value).all (·.oneCell') = true := all_one rfl
  go_upto_region 3 with (with_reducible refine wpList_ssyn S rfl rfl h2 rfl _ _ rfl rfl rfl ?_)
  replace S := row_setRow (cs := #[.int .i64 2, .int .i64 0, .int .i64 5, .int .i64 1, .int .i64 5, .int .i64 0, .int .i64 0, .int .i64 0, .int .i64 0, .int .i64 0, .int .i64 0, .slice none 0 0, .int .i64 5, .int .i64 1, .int .i64 5, .int .i64 0, .slice A2 m2 c2, .int .i64 0, .int .i64 0, .int .i64 0, .int .i64 0, .int .i64 0, .slice none 0 0, .int .i64 0, .int .i64 0, .int .i64 0, .int .i64 0, .int .i64 0, .int .i64 0, .slice none 0 0, .int .i64 0, .int .i64 0, .int .i64 0, .int .i64 0, .int .i64 0, .slice none 0 0, .int .i64 0, .int .i64 0, .int .i64 0, .slice none 0 0, .int .i64 0, .slice none 0 0, .bool false, .int .i64 0, .int .i64 0, .int .i64 0, .slice none 0 0, .slice none 0 0, .int .i64 0, .int .i64 0, .int .i64 0, .slice none 0 0, .int .i64 0, .int .i64 0, .int .i64 0, .int .i64 0, .slice none 0 0]) S
  replace in2 := IO1.setr (g := sb) #[.int .i64 2, .int .i64 0, .int .i64 5, .int .i64 1, .int .i64 5, .int .i64 0, .int .i64 0, .int .i64 0, .int .i64 0, .int .i64 0, .int .i64 0, .slice none 0 0, .int .i64 5, .int .i64 1, .int .i64 5, .int .i64 0, .slice A2 m2 c2, .int .i64 0, .int .i64 0, .int .i64 0, .int .i64 0, .int .i64 0, .slice none 0 0, .int .i64 0, .int .i64 0, .int .i64 0, .int .i64 0, .int .i64 0, .int .i64 0, .slice none 0 0, .int .i64 0, .int .i64 0, .int .i64 0, .int .i64 0, .int .i64 0, .slice none 0 0, .int .i64 0, .int .i64 0, .int .i64 0, .slice none 0 0, .int .i64 0, .slice none 0 0, .bool false, .int .i64 0, .int .i64 0, .int .i64 0, .slice none 0 0, .slice none 0 0, .int .i64 0, .int .i64 0, .int .i64 0, .slice none 0 0, .int .i64 0, .int .i64 0, .int .i64 0, .int .i64 0, .slice none 0 0] in2 (fun hm a e => by rcases fr2 hm a e with h | h; omega; exact h.elim)
  replace o := below_setRow (g := sb) o z1 #[.int .i64 2, .int .i64 0, .int .i64 5, .int .i64 1, .int .i64 5, .int .i64 0, .int .i64 0, .int .i64 0, .int .i64 0, .int .i64 0, .int .i64 0, .slice none 0 0, .int .i64 5, .int .i64 1, .int .i64 5, .int .i64 0, .slice A2 m2 c2, .int .i64 0, .int .i64 0, .int .i64 0, .int .i64 0, .int .i64 0, .slice none 0 0, .int .i64 0, .int .i64 0, .int .i64 0, .int .i64 0, .int .i64 0, .int .i64 0, .slice none 0 0, .int .i64 0, .int .i64 0, .int .i64 0, .int .i64 0, .int .i64 0, .slice none 0 0, .int .i64 0, .int .i64 0, .int .i64 0, .slice none 0 0, .int .i64 0, .slice none 0 0, .bool false, .int .i64 0, .int .i64 0, .int .i64 0, .slice none 0 0, .slice none 0 0, .int .i64 0, .int .i64 0, .int .i64 0, .slice none 0 0, .int .i64 0, .int .i64 0, .int .i64 0, .int .i64 0, .slice none 0 0]
  obtain ⟨w4, hw4⟩ : ∃ x, x = w3.setRow sb #[.int .i64 2, .int .i64 0, .int .i64 5, .int .i64 1, .int .i64 5, .int .i64 0, .int .i64 0, .int .i64 0, .int .i64 0, .int .i64 0, .int .i64 0, .slice none 0 0, .int .i64 5, .int .i64 1, .int .i64 5, .int .i64 0, .slice A2 m2 c2, .int .i64 0, .int .i64 0, .int .i64 0, .int .i64 0, .int .i64 0, .slice none 0 0, .int .i64 0, .int .i64 0, .int .i64 0, .int .i64 0, .int .i64 0, .int .i64 0, .slice none 0 0, .int .i64 0, .int .i64 0, .int .i64 0, .int .i64 0, .int .i64 0, .slice none 0 0, .int .i64 0, .int .i64 0, .int .i64 0, .slice none 0 0, .int .i64 0, .slice none 0 0, .bool false, .int .i64 0, .int .i64 0, .int .i64 0, .slice none 0 0, .slice none 0 0, .int .i64 0, .int .i64 0, .int .i64 0, .slice none 0 0, .int .i64 0, .int .i64 0, .int .i64 0, .int .i64 0, .slice none 0 0] := ⟨_, rfl⟩
  rw [← hw4] at S in2 o ⊢
  clear hw4 h2 hb
  go_wp2_with (with_reducible refine wpList_lsyn S rfl rfl _ rfl rfl ?_)
  refine (PQ.out _ _ _ _ in2).mono ?_
  rintro e w5 ⟨rfl, hb⟩
  replace o := o.trans (hb.mono o.size)
  clear hb S in2 in1
  have h3 : (#[.int .i64 1, .int .i64 1, .int .i64 1, .int .i64 1, .int .i64 1, .int .i64 1, .slice none 0 0, .int .u64 0, .int .u64 0, .int .u64 0, .int .u64 0] : Array Value).all (·.oneCell') = true := all_one rfl
  have AZ : Row (w5.alloc (.cells #[.int .i64 0, .int .i64 0, .int .i64 0, .int .i64 0, .int .i64 0, .int .i64 0, .slice none 0 0, .int .u64 0, .int .u64 0, .int .u64 0, .int .u64 0] 71)) w5.heap.size 71 #[.int .i64 0, .int .i64 0, .int .i64 0, .int .i64 0, .int .i64 0, .int .i64 0, .slice none 0 0, .int .u64 0, .int .u64 0, .int .u64 0, .int .u64 0] := row_new rfl
  go_upto_region 4 with (with_reducible refine wpList_sans AZ rfl rfl h3 rfl _ _ rfl rfl rfl ?_)
  have V := row_setRow (cs := #[.int .i64 1, .int .i64 1, .int .i64 1, .int .i64 1, .int .i64 1, .int .i64 1, .slice none 0 0, .int .u64 0, .int .u64 0, .int .u64 0, .int .u64 0]) AZ
  replace o := below_setRow (g := w5.heap.size) (o.alloc o.size (.cells #[.int .i64 0, .int .i64 0, .int .i64 0, .int .i64 0, .int .i64 0, .int .i64 0, .slice none 0 0, .int .u64 0, .int .u64 0, .int .u64 0, .int .u64 0] 71)) o.size #[.int .i64 1, .int .i64 1, .int .i64 1, .int .i64 1, .int .i64 1, .int .i64 1, .slice none 0 0, .int .u64 0, .int .u64 0, .int .u64 0, .int .u64 0]
  obtain ⟨w6, hw6⟩ : ∃ x, x = (w5.alloc (.cells #[.int .i64 0, .int .i64 0, .int .i64 0, .int .i64 0, .int .i64 0, .int .i64 0, .slice none 0 0, .int .u64 0, .int .u64 0, .int .u64 0, .int .u64 0] 71)).setRow w5.heap.size #[.int .i64 1, .int .i64 1, .int .i64 1, .int .i64 1, .int .i64 1, .int .i64 1, .slice none 0 0, .int .u64 0, .int .u64 0, .int .u64 0, .int .u64 0] := ⟨_, rfl⟩
  rw [← hw6] at V o ⊢
  clear hw6 AZ
  generalize w5.heap.size = vb at V ⊢
  have VF := Lib.hid (fun w' (hb : Below w6.heap.size w6 w') => (⟨row_cell (row_call V hb) 0, row_cell (row_call V hb) 1, row_cell (row_call V hb) 2, row_cell (row_call V hb) 3, row_cell (row_call V hb) 4, row_cell (row_call V hb) 5⟩ : w'.cell? ⟨vb, 0, none⟩ = some (.int .i64 1) ∧ w'.cell? ⟨vb, 1, none⟩ = some (.int .i64 1) ∧ w'.cell? ⟨vb, 2, none⟩ = some (.int .i64 1) ∧ w'.cell? ⟨vb, 3, none⟩ = some (.int .i64 1) ∧ w'.cell? ⟨vb, 4, none⟩ = some (.int .i64 1) ∧ w'.cell? ⟨vb, 5, none⟩ = some (.int .i64 1)))
  refine wp_region_free0 [0, 1, 2, 3, 4, 5, 6, 7, 8, 9, 10, 11, 12, 13, 14, 15, 16, 17, 18, 19, 20, 21] [] [0, 1, 2, 3, 4, 5, 6, 7, 8, 9, 10, 11, 12, 13, 14, 15, 16, 17, 18, 19, 20, 21] 22 (fun w' => Below w6.heap.size w6 w') (by kernel_rfl) (by kernel_rfl) (fun _ _ d _ _ h => by cases d <;> exact h) ?_ ?_
  · exact (Below.refl _ _).drew
  (refine plan_pure ?_ rfl rfl (fun w' => ?_) ?_; rotate_left; (go_simp; try with_reducible rfl); simp only [Act.put, List.setIfInBounds_toArray, List.set_cons_zero, List.set_cons_succ])
  (refine plan_pure ?_ rfl rfl (fun w' => ?_) ?_; rotate_left; (go_simp; try with_reducible rfl); simp only [Act.put, List.setIfInBounds_toArray, List.set_cons_zero, List.set_cons_succ])
  (refine plan_pure ?_ rfl rfl (fun w' => ?_) ?_; rotate_left; (go_simp; try with_reducible rfl); simp only [Act.put, List.setIfInBounds_toArray, List.set_cons_zero, List.set_cons_succ])
  (refine plan_pure ?_ rfl rfl (fun w' => ?_) ?_; rotate_left; (go_simp; try with_reducible rfl); simp only [Act.put, List.setIfInBounds_toArray, List.set_cons_zero, List.set_cons_succ])
  (refine plan_pure ?_ rfl rfl (fun w' => ?_) ?_; rotate_left; (go_simp; try with_reducible rfl); simp only [Act.put, List.setIfInBounds_toArray, List.set_cons_zero, List.set_cons_succ])
  (refine plan_pure ?_ rfl rfl (fun w' => ?_) ?_; rotate_left; (go_simp; try with_reducible rfl); simp only [Act.put, List.setIfInBounds_toArray, List.set_cons_zero, List.set_cons_succ])
  (refine plan_pure ?_ rfl rfl (fun w' => ?_) ?_; rotate_left; (go_simp; try with_reducible rfl); simp only [Act.put, List.setIfInBounds_toArray, List.set_cons_zero, List.set_cons_succ])
  (refine plan_pure ?_ rfl rfl (fun w' => ?_) ?_; rotate_left; (go_simp; try with_reducible rfl); simp only [Act.put, List.setIfInBounds_toArray, List.set_cons_zero, List.set_cons_succ])
  (refine plan_pure ?_ rfl rfl (fun w' => ?_) ?_; rotate_left; (go_simp; try with_reducible rfl); simp only [Act.put, List.setIfInBounds_toArray, List.set_cons_zero, List.set_cons_succ])
  (refine plan_pure ?_ rfl rfl (fun w' => ?_) ?_; rotate_left; (go_simp; try with_reducible rfl); simp only [Act.put, List.setIfInBounds_toArray, List.set_cons_zero, List.set_cons_succ])
  (refine plan_pure ?_ rfl rfl (fun w' => ?_) ?_; rotate_left; (go_simp; try with_reducible rfl); simp only [Act.put, List.setIfInBounds_toArray, List.set_cons_zero, List.set_cons_succ])
  (refine plan_pure ?_ rfl rfl (fun w' => ?_) ?_; rotate_left; (go_simp; try with_reducible rfl); simp only [Act.put, List.setIfInBounds_toArray, List.set_cons_zero, List.set_cons_succ])
  (refine plan_val ?_ rfl rfl rfl (fun w' hS => ?_) ?_; rotate_left; (obtain ⟨v0, v1, v2, v3, v4, v5⟩ := VF.out _ hS; go_simp; try with_reducible rfl); simp only [Act.put, List.setIfInBounds_toArray, List.set_cons_zero, List.set_cons_succ])
  refine plan_call (.bool true) 14 #[.agg #[.int .i64 1, .int .i64 1, .int .i64 1, .int .i64 1, .int .i64 1, .int .i64 1]] rfl rfl rfl (fun _ _ h hb => h.trans (hb.mono h.size)) (fun w' hS => by obtain ⟨v0, v1, v2, v3, v4, v5⟩ := VF.out _ hS; go_simp) (fun w' hS => PBV.out w') ?_
  simp only [Act.put, List.setIfInBounds_toArray, List.set_cons_zero, List.set_cons_succ]
  (refine plan_pure ?_ rfl rfl (fun w' => ?_) ?_; rotate_left; (go_simp; try with_reducible rfl); simp only [Act.put, List.setIfInBounds_toArray, List.set_cons_zero, List.set_cons_succ])
  (refine plan_pure ?_ rfl rfl (fun w' => ?_) ?_; rotate_left; (go_simp; try with_reducible rfl); simp only [Act.put, List.setIfInBounds_toArray, List.set_cons_zero, List.set_cons_succ])
  (refine plan_pure ?_ rfl rfl (fun w' => ?_) ?_; rotate_left; (go_simp; try with_reducible rfl); simp only [Act.put, List.setIfInBounds_toArray, List.set_cons_zero, List.set_cons_succ])
  (refine plan_pure ?_ rfl rfl (fun w' => ?_) ?_; rotate_left; (go_simp; try with_reducible rfl); simp only [Act.put, List.setIfInBounds_toArray, List.set_cons_zero, List.set_cons_succ])
  (refine plan_val ?_ rfl rfl rfl (fun w' hS => ?_) ?_; rotate_left; (obtain ⟨v0, v1, v2, v3, v4, v5⟩ := VF.out _ hS; go_simp; try with_reducible rfl); simp only [Act.put, List.setIfInBounds_toArray, List.set_cons_zero, List.set_cons_succ])
  refine plan_call (.agg #[.int .i64 1, .int .i64 1]) 57 #[.int .i64 1] rfl rfl rfl (fun _ _ h hb => h.trans (hb.mono h.size)) (fun w' hS => by obtain ⟨v0, v1, v2, v3, v4, v5⟩ := VF.out _ hS; go_simp) (fun w' hS => PRO.out w') ?_
  simp only [Act.put, List.setIfInBounds_toArray, List.set_cons_zero, List.set_cons_succ]
  (refine plan_pure ?_ rfl rfl (fun w' => ?_) ?_; rotate_left; (go_simp; try with_reducible rfl); simp only [Act.put, List.setIfInBounds_toArray, List.set_cons_zero, List.set_cons_succ])
  (refine plan_pure ?_ rfl rfl (fun w' => ?_) ?_; rotate_left; (go_simp; try with_reducible rfl); simp only [Act.put, List.setIfInBounds_toArray, List.set_cons_zero, List.set_cons_succ])
  refine plan_nil ?_
  intro w7 L7
  simp only [List.drop_succ_cons, List.drop_zero]
  try simp only [Act.put, List.setIfInBounds_toArray, List.set_cons_zero, List.set_cons_succ]
  replace o := o.trans (L7.mono o.size)
  go_wp2
  go_ret
  exact ⟨by first | rfl | exact ret_bool (by simp) | simp, o⟩
end Go.Proofs.YtdipoojjlddohaaGreat
end
section
/- The law TopTwoWays, walked. -/
set_option linter.unusedVariables false
set_option linter.unusedSimpArgs false
set_option linter.unusedSectionVars false
set_option linter.unnecessarySimpa false
namespace Go.Proofs.YtdipoojjlddohaaGreat
open Go.RowKit
set_option maxRecDepth 100000 in
set_option maxHeartbeats 8000000 in
theorem topTwoWays (A : Option Addr) (m c : Nat) (l : List Itm) (wd0 k0 j0 : Int) (w : World) (hin : RIn A m c l w) : Calls Tryz.prog 3 #[.slice A m c, .int .i64 wd0, .int .i64 k0, .int .i64 j0] w fun e w' => e = .returned (.bool true) ∧ Below w.heap.size w w' := by
  have PM := fun w => pmod wd0 20 (by omega) (by omega) w
  have PK := fun w => pint k0 5 (by omega) (by omega) w
  have PJ := fun w => pint j0 5 (by omega) (by omega) w
  obtain ⟨wn, hwn⟩ : ∃ wn : Nat, 1 + wd0 % 20 = (wn : Int) := ⟨(1 + wd0 % 20).toNat, by omega⟩
  obtain ⟨k, hk⟩ : ∃ k : Nat, 1 + k0 % 5 = (k : Int) := ⟨(1 + k0 % 5).toNat, by omega⟩
  obtain ⟨j, hj⟩ : ∃ j : Nat, 1 + j0 % 5 = (j : Int) := ⟨(1 + j0 % 5).toNat, by omega⟩
  have ww : IntKind.i64.wrap (1 + wd0 % 20) = wn := by rw [← hwn]; exact IntWalk.i64_in _ (by omega)
  have wk : IntKind.i64.wrap (1 + k0 % 5) = k := by rw [← hk]; exact IntWalk.i64_in _ (by omega)
  have wj : IntKind.i64.wrap (1 + j0 % 5) = j := by rw [← hj]; exact IntWalk.i64_in _ (by omega)
  have h1 : 1 ≤ wn ∧ wn ≤ 20 := by omega
  have h2 : 1 ≤ k ∧ k ≤ 5 := by omega
  have h3 : 1 ≤ j ∧ j ≤ 5 := by omega
  clear hwn hk hj
  generalize wd0 % 20 = rw0 at PM ww
  generalize k0 % 5 = rk0 at PK wk
  generalize j0 % 5 = rj0 at PJ wj
  have PT := Lib.hid (fun w' (hb : Below w.heap.size w w') => pitems A m c l wn 80 w' (hin.below hb) (by omega) (by omega) (by omega))
  have G1 : ctGood (wn : Nat) k 1000 := by unfold ctGood; omega
  have G2 : smArg 1 (wn : Nat) (j : Nat) 1000 := ⟨by omega, by omega, by omega, by omega, by omega, by omega, by omega⟩
  have PC : RowKit.Hid (∀ (A1 : Option Addr) (c1 : Nat) (its : List Itm) (w1 : World), Reads w1 w1.heap.size 2 A1 its.length (icells its) → its.length ≤ 80 → (∀ i, i < its.length → nowK its i ≤ (itmAt its i).t ∧ (itmAt its i).t ≤ 16777216 ∧ (-4096 ≤ (itmAt its i).v ∧ (itmAt its i).v ≤ 4096)) → Calls Tryz.prog 11 #[.agg #[.int .i64 2, .int .i64 0, .int .i64 (wn : Nat), .int .i64 (k : Nat), .int .i64 1000, .int .i64 0, .int .i64 0, .int .i64 0], .slice A1 its.length c1] w1 (RunC (wn : Nat) k 1000 its w1)) := Lib.hid (fun A1 c1 its w1 h1 h2 h3 => prunC G1 A1 _ c1 its w1 h1 (by omega) (by omega) h3)
  have PS : RowKit.Hid (∀ (A1 : Option Addr) (c1 : Nat) (its : List Itm) (w1 : World), Reads w1 w1.heap.size 2 A1 its.length (icells its) → its.length ≤ 80 → (∀ i, i < its.length → nowK its i ≤ (itmAt its i).t ∧ (itmAt its i).t ≤ 16777216 ∧ (-4096 ≤ (itmAt its i).v ∧ (itmAt its i).v ≤ 4096)) → Calls Tryz.prog 11 #[.agg #[.int .i64 4, .int .i64 1, .int .i64 (wn : Nat), .int .i64 (j : Nat), .int .i64 1000, .int .i64 0, .int .i64 0, .int .i64 0], .slice A1 its.length c1] w1 (RunS 1 (wn : Nat) (j : Nat) 1000 its w1)) := Lib.hid (fun A1 c1 its w1 h1 h2 h3 => prunS G2 A1 _ c1 its w1 h1 (by omega) (by omega) h3)
  replace PM := Lib.hid PM
  replace PK := Lib.hid PK
  replace PJ := Lib.hid PJ
  have PW := Lib.hid awakeT
  have HB := Lib.hid (And.intro h1 (And.intro h2 h3))
  clear G1 G2 hin h1 h2 h3
  go_enter Tryz.func3, Tryz.ntmps3
  go_upto_region 2 with (first | (go_at_call 8; with_reducible refine (PM.out _).mono ?_; rintro e w9 ⟨rfl, h9⟩; obtain rfl := h9.symm) | (go_at_call 9; with_reducible refine (PK.out _).mono ?_; rintro e w9 ⟨rfl, h9⟩; obtain rfl := h9.symm) | (go_at_call 9; with_reducible refine (PJ.out _).mono ?_; rintro e w9 ⟨rfl, h9⟩; obtain rfl := h9.symm))
  clear PM PK PJ ww wk wj
  go_wp2_with fail
  refine (PT.out _ (Below.refl _ _)).mono ?_
  rintro e w1 ⟨v, its, last, rfl, own, hlen, hmade, hbI⟩
  obtain ⟨A1, c1, rfl, R1, _, _, _⟩ := orow_forms own
  have HT := Lib.hid (made_run hmade (by have := HB.out; have : (2 * (wn : Int) + 1) * its.length ≤ 41 * 80 := Int.mul_le_mul (by omega) (by omega) (by omega) (by omega); omega))
  clear own hmade PT
  have HL := Lib.hid hlen
  have PR := Lib.hid (fun w' (hb : Below w1.heap.size w1 w') => PS.out A1 c1 its w' ((R1.below hb).more hb.size) HL.out HT.out)
  go_wp2_with fail
  refine (PC.out A1 c1 its w1 R1 HL.out HT.out).mono ?_
  rintro e w2 ⟨A2, m2, c2, v2, he, in1, o⟩
  generalize htn : nowK its its.length = tn at he in1
  subst he
  have IO1 := ctI_ok (wn : Nat) k 1000 tn (its.map (·.t))
  clear R1 PC PS hlen HT
  have h1 : (#[.int .i64 2, .int .i64 0, .int .i64 (wn : Nat), .int .i64 (k : Nat), .int .i64 1000, .int .i64 0, .int .i64 0, .int .i64 0, .int .i64 0, .int .i64 0, .int .i64 0, .slice none 0 0, .int .i64 (wn : Nat), .int .i64 (k : Nat), .int .i64 1000, .int .i64 tn, .slice A2 m2 c2, .int .i64 0, .int .i64 0, .int .i64 0, .int .i64 0, .int .i64 0, .slice none 0 0, .int .i64 0, .int .i64 0, .int .i64 0, .int .i64 0, .int .i64 0, .int .i64 0, .slice none 0 0, .int .i64 0, .int .i64 0, .int .i64 0, .int .i64 0, .int .i64 0, .slice none 0 0, .int .i64 0, .int .i64 0, .int .i64 0, .slice none 0 0, .int .i64 0, .slice none 0 0, .bool false, .int .i64 0, .int .i64 0, .int .i64 0, .slice none 0 0, .slice none 0 0, .int .i64 0, .int .i64 0, .int .i64 0, .slice none 0 0, .int .i64 0, .int .i64 0, .int .i64 0, .int .i64 0, .slice none 0 0] : Array Value).all (·.oneCell') = true := all_one rfl
  have SZ : Row (w2.alloc (.cells #[.int .i64 0, .int .i64 0, .int .i64 0, .int .i64 0, .int .i64 0, .int .i64 0, .int .i64 0, .int .i64 0, .int .i64 0, .int .i64 0, .int .i64 0, .slice none 0 0, .int .i64 0, .int .i64 0, .int .i64 0, .int .i64 0, .slice none 0 0, .int .i64 0, .int .i64 0, .int .i64 0, .int .i64 0, .int .i64 0, .slice none 0 0, .int .i64 0, .int .i64 0, .int .i64 0, .int .i64 0, .int .i64 0, .int .i64 0, .slice none 0 0, .int .i64 0, .int .i64 0, .int .i64 0, .int .i64 0, .int .i64 0, .slice none 0 0, .int .i64 0, .int .i64 0, .int .i64 0, .slice none 0 0, .int .i64 0, .slice none 0 0, .bool false, .int .i64 0, .int .i64 0, .int .i64 0, .slice none 0 0, .slice none 0 0, .int .i64 0, .int .i64 0, .int .i64 0, .slice none 0 0, .int .i64 0, .int .i64 0, .int .i64 0, .int .i64 0, .slice none 0 0] 58)) w2.heap.size 58 #[.int .i64 0, .int .i64 0, .int .i64 0, .int .i64 0, .int .i64 0, .int .i64 0, .int .i64 0, .int .i64 0, .int .i64 0, .int .i64 0, .int .i64 0, .slice none 0 0, .int .i64 0, .int .i64 0, .int .i64 0, .int .i64 0, .slice none 0 0, .int .i64 0, .int .i64 0, .int .i64 0, .int .i64 0, .int .i64 0, .slice none 0 0, .int .i64 0, .int .i64 0, .int .i64 0, .int .i64 0, .int .i64 0, .int .i64 0, .slice none 0 0, .int .i64 0, .int .i64 0, .int .i64 0, .int .i64 0, .int .i64 0, .slice none 0 0, .int .i64 0, .int .i64 0, .int .i64 0, .slice none 0 0, .int .i64 0, .slice none 0 0, .bool false, .int .i64 0, .int .i64 0, .int .i64 0, .slice none 0 0, .slice none 0 0, .int .i64 0, .int .i64 0, .int .i64 0, .slice none 0 0, .int .i64 0, .int .i64 0, .int .i64 0, .int .i64 0, .slice none 0 0] := row_new rfl
  go_upto_region 4 with (with_reducible refine wpList_ssyn SZ rfl rfl h1 rfl _ _ rfl rfl rfl ?_)
  have sbR := row_setRow (cs := #[.int .i64 2, .int .i64 0, .int .i64 (wn : Nat), .int .i64 (k : Nat), .int .i64 1000, .int .i64 0, .int .i64 0, .int .i64 0, .int .i64 0, .int .i64 0, .int .i64 0, .slice none 0 0, .int .i64 (wn : Nat), .int .i64 (k : Nat), .int .i64 1000, .int .i64 tn, .slice A2 m2 c2, .int .i64 0, .int .i64 0, .int .i64 0, .int .i64 0, .int .i64 0, .slice none 0 0, .int .i64 0, .int .i64 0, .int .i64 0, .int .i64 0, .int .i64 0, .int .i64 0, .slice none 0 0, .int .i64 0, .int .i64 0, .int .i64 0, .int .i64 0, .int .i64 0, .slice none 0 0, .int .i64 0, .int .i64 0, .int .i64 0, .slice none 0 0, .int .i64 0, .slice none 0 0, .bool false, .int .i64 0, .int .i64 0, .int .i64 0, .slice none 0 0, .slice none 0 0, .int .i64 0, .int .i64 0, .int .i64 0, .slice none 0 0, .int .i64 0, .int .i64 0, .int .i64 0, .int .i64 0, .slice none 0 0]) SZ
  have zw3 := o.size
  have bin1 := IO1.blk in1
  replace in1 := IO1.setr (g := w2.heap.size) #[.int .i64 2, .int .i64 0, .int .i64 (wn : Nat), .int .i64 (k : Nat), .int .i64 1000, .int .i64 0, .int .i64 0, .int .i64 0, .int .i64 0, .int .i64 0, .int .i64 0, .slice none 0 0, .int .i64 (wn : Nat), .int .i64 (k : Nat), .int .i64 1000, .int .i64 tn, .slice A2 m2 c2, .int .i64 0, .int .i64 0, .int .i64 0, .int .i64 0, .int .i64 0, .slice none 0 0, .int .i64 0, .int .i64 0, .int .i64 0, .int .i64 0, .int .i64 0, .int .i64 0, .slice none 0 0, .int .i64 0, .int .i64 0, .int .i64 0, .int .i64 0, .int .i64 0, .slice none 0 0, .int .i64 0, .int .i64 0, .int .i64 0, .slice none 0 0, .int .i64 0, .slice none 0 0, .bool false, .int .i64 0, .int .i64 0, .int .i64 0, .slice none 0 0, .slice none 0 0, .int .i64 0, .int .i64 0, .int .i64 0, .slice none 0 0, .int .i64 0, .int .i64 0, .int .i64 0, .int .i64 0, .slice none 0 0] (IO1.below in1 ((Below.refl _ _).alloc (Nat.le_refl _) (.cells #[.int .i64 0, .int .i64 0, .int .i64 0, .int .i64 0, .int .i64 0, .int .i64 0, .int .i64 0, .int .i64 0, .int .i64 0, .int .i64 0, .int .i64 0, .slice none 0 0, .int .i64 0, .int .i64 0, .int .i64 0, .int .i64 0, .slice none 0 0, .int .i64 0, .int .i64 0, .int .i64 0, .int .i64 0, .int .i64 0, .slice none 0 0, .int .i64 0, .int .i64 0, .int .i64 0, .int .i64 0, .int .i64 0, .int .i64 0, .slice none 0 0, .int .i64 0, .int .i64 0, .int .i64 0, .int .i64 0, .int .i64 0, .slice none 0 0, .int .i64 0, .int .i64 0, .int .i64 0, .slice none 0 0, .int .i64 0, .slice none 0 0, .bool false, .int .i64 0, .int .i64 0, .int .i64 0, .slice none 0 0, .slice none 0 0, .int .i64 0, .int .i64 0, .int .i64 0, .slice none 0 0, .int .i64 0, .int .i64 0, .int .i64 0, .int .i64 0, .slice none 0 0] 58))) (fun hm a e => by have := bin1 hm a e; omega)
  replace o := below_setRow (g := w2.heap.size) (o.alloc o.size (.cells #[.int .i64 0, .int .i64 0, .int .i64 0, .int .i64 0, .int .i64 0, .int .i64 0, .int .i64 0, .int .i64 0, .int .i64 0, .int .i64 0, .int .i64 0, .slice none 0 0, .int .i64 0, .int .i64 0, .int .i64 0, .int .i64 0, .slice none 0 0, .int .i64 0, .int .i64 0, .int .i64 0, .int .i64 0, .int .i64 0, .slice none 0 0, .int .i64 0, .int .i64 0, .int .i64 0, .int .i64 0, .int .i64 0, .int .i64 0, .slice none 0 0, .int .i64 0, .int .i64 0, .int .i64 0, .int .i64 0, .int .i64 0, .slice none 0 0, .int .i64 0, .int .i64 0, .int .i64 0, .slice none 0 0, .int .i64 0, .slice none 0 0, .bool false, .int .i64 0, .int .i64 0, .int .i64 0, .slice none 0 0, .slice none 0 0, .int .i64 0, .int .i64 0, .int .i64 0, .slice none 0 0, .int .i64 0, .int .i64 0, .int .i64 0, .int .i64 0, .slice none 0 0] 58)) o.size #[.int .i64 2, .int .i64 0, .int .i64 (wn : Nat), .int .i64 (k : Nat), .int .i64 1000, .int .i64 0, .int .i64 0, .int .i64 0, .int .i64 0, .int .i64 0, .int .i64 0, .slice none 0 0, .int .i64 (wn : Nat), .int .i64 (k : Nat), .int .i64 1000, .int .i64 tn, .slice A2 m2 c2, .int .i64 0, .int .i64 0, .int .i64 0, .int .i64 0, .int .i64 0, .slice none 0 0, .int .i64 0, .int .i64 0, .int .i64 0, .int .i64 0, .int .i64 0, .int .i64 0, .slice none 0 0, .int .i64 0, .int .i64 0, .int .i64 0, .int .i64 0, .int .i64 0, .slice none 0 0, .int .i64 0, .int .i64 0, .int .i64 0, .slice none 0 0, .int .i64 0, .slice none 0 0, .bool false, .int .i64 0, .int .i64 0, .int .i64 0, .slice none 0 0, .slice none 0 0, .int .i64 0, .int .i64 0, .int .i64 0, .slice none 0 0, .int .i64 0, .int .i64 0, .int .i64 0, .int .i64 0, .slice none 0 0]
  obtain ⟨w3, hw3⟩ : ∃ x, x = (w2.alloc (.cells #[.int .i64 0, .int .i64 0, .int .i64 0, .int .i64 0, .int .i64 0, .int .i64 0, .int .i64 0, .int .i64 0, .int .i64 0, .int .i64 0, .int .i64 0, .slice none 0 0, .int .i64 0, .int .i64 0, .int .i64 0, .int .i64 0, .slice none 0 0, .int .i64 0, .int .i64 0, .int .i64 0, .int .i64 0, .int .i64 0, .slice none 0 0, .int .i64 0, .int .i64 0, .int .i64 0, .int .i64 0, .int .i64 0, .int .i64 0, .slice none 0 0, .int .i64 0, .int .i64 0, .int .i64 0, .int .i64 0, .int .i64 0, .slice none 0 0, .int .i64 0, .int .i64 0, .int .i64 0, .slice none 0 0, .int .i64 0, .slice none 0 0, .bool false, .int .i64 0, .int .i64 0, .int .i64 0, .slice none 0 0, .slice none 0 0, .int .i64 0, .int .i64 0, .int .i64 0, .slice none 0 0, .int .i64 0, .int .i64 0, .int .i64 0, .int .i64 0, .slice none 0 0] 58)).setRow w2.heap.size #[.int .i64 2, .int .i64 0, .int .i64 (wn : Nat), .int .i64 (k : Nat), .int .i64 1000, .int .i64 0, .int .i64 0, .int .i64 0, .int .i64 0, .int .i64 0, .int .i64 0, .slice none 0 0, .int .i64 (wn : Nat), .int .i64 (k : Nat), .int .i64 1000, .int .i64 tn, .slice A2 m2 c2, .int .i64 0, .int .i64 0, .int .i64 0, .int .i64 0, .int .i64 0, .slice none 0 0, .int .i64 0, .int .i64 0, .int .i64 0, .int .i64 0, .int .i64 0, .int .i64 0, .slice none 0 0, .int .i64 0, .int .i64 0, .int .i64 0, .int .i64 0, .int .i64 0, .slice none 0 0, .int .i64 0, .int .i64 0, .int .i64 0, .slice none 0 0, .int .i64 0, .slice none 0 0, .bool false, .int .i64 0, .int .i64 0, .int .i64 0, .slice none 0 0, .slice none 0 0, .int .i64 0, .int .i64 0, .int .i64 0, .slice none 0 0, .int .i64 0, .int .i64 0, .int .i64 0, .int .i64 0, .slice none 0 0] := ⟨_, rfl⟩
  rw [← hw3] at sbR in1  o ⊢
  clear hw3 SZ h1 bin1
  generalize w2.heap.size = sb at sbR zw3 ⊢
  go_wp2_with fail
  refine (PR.out _ o).mono ?_
  rintro e w4 ⟨A4, m4, c4, v4, he, in2, hb⟩
  rw [htn] at he in2
  subst he
  clear htn PR
  have IO2 := smI_ok 1 (wn : Nat) (j : Nat) 1000 its tn
  replace in1 := IO1.below in1 hb
  replace sbR := row_call sbR hb
  replace o := o.trans (hb.mono o.size)
  clear hb
  have h1 : (#[.int .i64 4, .int .i64 1, .int .i64 (wn : Nat), .int .i64 (j : Nat), .int .i64 1000, .int .i64 0, .int .i64 0, .int .i64 0, .int .i64 0, .int .i64 0, .int .i64 0, .slice none 0 0, .int .i64 0, .int .i64 0, .int .i64 0, .int .i64 0, .slice none 0 0, .int .i64 0, .int .i64 0, .int .i64 0, .int .i64 0, .int .i64 0, .slice none 0 0, .int .i64 1, .int .i64 (wn : Nat), .int .i64 (j : Nat), .int .i64 1000, .int .i64 tn, .int .i64 (its.length : Nat), .slice A4 m4 c4, .int .i64 0, .int .i64 0, .int .i64 0, .int .i64 0, .int .i64 0, .slice none 0 0, .int .i64 0, .int .i64 0, .int .i64 0, .slice none 0 0, .int .i64 0, .slice none 0 0, .bool false, .int .i64 0, .int .i64 0, .int .i64 0, .slice none 0 0, .slice none 0 0, .int .i64 0, .int .i64 0, .int .i64 0, .slice none 0 0, .int .i64 0, .int .i64 0, .int .i64 0, .int .i64 0, .slice none 0 0] : Array Value).all (·.oneCell') = true := all_one rfl
  have SZ : Row (w4.alloc (.cells #[.int .i64 0, .int .i64 0, .int .i64 0, .int .i64 0, .int .i64 0, .int .i64 0, .int .i64 0, .int .i64 0, .int .i64 0, .int .i64 0, .int .i64 0, .slice none 0 0, .int .i64 0, .int .i64 0, .int .i64 0, .int .i64 0, .slice none 0 0, .int .i64 0, .int .i64 0, .int .i64 0, .int .i64 0, .int .i64 0, .slice none 0 0, .int .i64 0, .int .i64 0, .int .i64 0, .int .i64 0, .int .i64 0, .int .i64 0, .slice none 0 0, .int .i64 0, .int .i64 0, .int .i64 0, .int .i64 0, .int .i64 0, .slice none 0 0, .int .i64 0, .int .i64 0, .int .i64 0, .slice none 0 0, .int .i64 0, .slice none 0 0, .bool false, .int .i64 0, .int .i64 0, .int .i64 0, .slice none 0 0, .slice none 0 0, .int .i64 0, .int .i64 0, .int .i64 0, .slice none 0 0, .int .i64 0, .int .i64 0, .int .i64 0, .int .i64 0, .slice none 0 0] 58)) w4.heap.size 58 #[.int .i64 0, .int .i64 0, .int .i64 0, .int .i64 0, .int .i64 0, .int .i64 0, .int .i64 0, .int .i64 0, .int .i64 0, .int .i64 0, .int .i64 0, .slice none 0 0, .int .i64 0, .int .i64 0, .int .i64 0, .int .i64 0, .slice none 0 0, .int .i64 0, .int .i64 0, .int .i64 0, .int .i64 0, .int .i64 0, .slice none 0 0, .int .i64 0, .int .i64 0, .int .i64 0, .int .i64 0, .int .i64 0, .int .i64 0, .slice none 0 0, .int .i64 0, .int .i64 0, .int .i64 0, .int .i64 0, .int .i64 0, .slice none 0 0, .int .i64 0, .int .i64 0, .int .i64 0, .slice none 0 0, .int .i64 0, .slice none 0 0, .bool false, .int .i64 0, .int .i64 0, .int .i64 0, .slice none 0 0, .slice none 0 0, .int .i64 0, .int .i64 0, .int .i64 0, .slice none 0 0, .int .i64 0, .int .i64 0, .int .i64 0, .int .i64 0, .slice none 0 0] := row_new rfl
  go_upto_region 5 with (with_reducible refine wpList_ssyn SZ rfl rfl h1 rfl _ _ rfl rfl rfl ?_)
  have tbR := row_setRow (cs := #[.int .i64 4, .int .i64 1, .int .i64 (wn : Nat), .int .i64 (j : Nat), .int .i64 1000, .int .i64 0, .int .i64 0, .int .i64 0, .int .i64 0, .int .i64 0, .int .i64 0, .slice none 0 0, .int .i64 0, .int .i64 0, .int .i64 0, .int .i64 0, .slice none 0 0, .int .i64 0, .int .i64 0, .int .i64 0, .int .i64 0, .int .i64 0, .slice none 0 0, .int .i64 1, .int .i64 (wn : Nat), .int .i64 (j : Nat), .int .i64 1000, .int .i64 tn, .int .i64 (its.length : Nat), .slice A4 m4 c4, .int .i64 0, .int .i64 0, .int .i64 0, .int .i64 0, .int .i64 0, .slice none 0 0, .int .i64 0, .int .i64 0, .int .i64 0, .slice none 0 0, .int .i64 0, .slice none 0 0, .bool false, .int .i64 0, .int .i64 0, .int .i64 0, .slice none 0 0, .slice none 0 0, .int .i64 0, .int .i64 0, .int .i64 0, .slice none 0 0, .int .i64 0, .int .i64 0, .int .i64 0, .int .i64 0, .slice none 0 0]) SZ
  have zw5 := o.size
  have bin1 := IO1.blk in1
  replace in1 := IO1.setr (g := w4.heap.size) #[.int .i64 4, .int .i64 1, .int .i64 (wn : Nat), .int .i64 (j : Nat), .int .i64 1000, .int .i64 0, .int .i64 0, .int .i64 0, .int .i64 0, .int .i64 0, .int .i64 0, .slice none 0 0, .int .i64 0, .int .i64 0, .int .i64 0, .int .i64 0, .slice none 0 0, .int .i64 0, .int .i64 0, .int .i64 0, .int .i64 0, .int .i64 0, .slice none 0 0, .int .i64 1, .int .i64 (wn : Nat), .int .i64 (j : Nat), .int .i64 1000, .int .i64 tn, .int .i64 (its.length : Nat), .slice A4 m4 c4, .int .i64 0, .int .i64 0, .int .i64 0, .int .i64 0, .int .i64 0, .slice none 0 0, .int .i64 0, .int .i64 0, .int .i64 0, .slice none 0 0, .int .i64 0, .slice none 0 0, .bool false, .int .i64 0, .int .i64 0, .int .i64 0, .slice none 0 0, .slice none 0 0, .int .i64 0, .int .i64 0, .int .i64 0, .slice none 0 0, .int .i64 0, .int .i64 0, .int .i64 0, .int .i64 0, .slice none 0 0] (IO1.below in1 ((Below.refl _ _).alloc (Nat.le_refl _) (.cells #[.int .i64 0, .int .i64 0, .int .i64 0, .int .i64 0, .int .i64 0, .int .i64 0, .int .i64 0, .int .i64 0, .int .i64 0, .int .i64 0, .int .i64 0, .slice none 0 0, .int .i64 0, .int .i64 0, .int .i64 0, .int .i64 0, .slice none 0 0, .int .i64 0, .int .i64 0, .int .i64 0, .int .i64 0, .int .i64 0, .slice none 0 0, .int .i64 0, .int .i64 0, .int .i64 0, .int .i64 0, .int .i64 0, .int .i64 0, .slice none 0 0, .int .i64 0, .int .i64 0, .int .i64 0, .int .i64 0, .int .i64 0, .slice none 0 0, .int .i64 0, .int .i64 0, .int .i64 0, .slice none 0 0, .int .i64 0, .slice none 0 0, .bool false, .int .i64 0, .int .i64 0, .int .i64 0, .slice none 0 0, .slice none 0 0, .int .i64 0, .int .i64 0, .int .i64 0, .slice none 0 0, .int .i64 0, .int .i64 0, .int .i64 0, .int .i64 0, .slice none 0 0] 58))) (fun hm a e => by have := bin1 hm a e; omega)
  have bin2 := IO2.blk in2
  replace in2 := IO2.setr (g := w4.heap.size) #[.int .i64 4, .int .i64 1, .int .i64 (wn : Nat), .int .i64 (j : Nat), .int .i64 1000, .int .i64 0, .int .i64 0, .int .i64 0, .int .i64 0, .int .i64 0, .int .i64 0, .slice none 0 0, .int .i64 0, .int .i64 0, .int .i64 0, .int .i64 0, .slice none 0 0, .int .i64 0, .int .i64 0, .int .i64 0, .int .i64 0, .int .i64 0, .slice none 0 0, .int .i64 1, .int .i64 (wn : Nat), .int .i64 (j : Nat), .int .i64 1000, .int .i64 tn, .int .i64 (its.length : Nat), .slice A4 m4 c4, .int .i64 0, .int .i64 0, .int .i64 0, .int .i64 0, .int .i64 0, .slice none 0 0, .int .i64 0, .int .i64 0, .int .i64 0, .slice none 0 0, .int .i64 0, .slice none 0 0, .bool false, .int .i64 0, .int .i64 0, .int .i64 0, .slice none 0 0, .slice none 0 0, .int .i64 0, .int .i64 0, .int .i64 0, .slice none 0 0, .int .i64 0, .int .i64 0, .int .i64 0, .int .i64 0, .slice none 0 0] (IO2.below in2 ((Below.refl _ _).alloc (Nat.le_refl _) (.cells #[.int .i64 0, .int .i64 0, .int .i64 0, .int .i64 0, .int .i64 0, .int .i64 0, .int .i64 0, .int .i64 0, .int .i64 0, .int .i64 0, .int .i64 0, .slice none 0 0, .int .i64 0, .int .i64 0, .int .i64 0, .int .i64 0, .slice none 0 0, .int .i64 0, .int .i64 0, .int .i64 0, .int .i64 0, .int .i64 0, .slice none 0 0, .int .i64 0, .int .i64 0, .int .i64 0, .int .i64 0, .int .i64 0, .int .i64 0, .slice none 0 0, .int .i64 0, .int .i64 0, .int .i64 0, .int .i64 0, .int .i64 0, .slice none 0 0, .int .i64 0, .int .i64 0, .int .i64 0, .slice none 0 0, .int .i64 0, .slice none 0 0, .bool false, .int .i64 0, .int .i64 0, .int .i64 0, .slice none 0 0, .slice none 0 0, .int .i64 0, .int .i64 0, .int .i64 0, .slice none 0 0, .int .i64 0, .int .i64 0, .int .i64 0, .int .i64 0, .slice none 0 0] 58))) (fun hm a e => by have := bin2 hm a e; omega)
  replace sbR := row_setRow_other (g := w4.heap.size) (cs' := #[.int .i64 4, .int .i64 1, .int .i64 (wn : Nat), .int .i64 (j : Nat), .int .i64 1000, .int .i64 0, .int .i64 0, .int .i64 0, .int .i64 0, .int .i64 0, .int .i64 0, .slice none 0 0, .int .i64 0, .int .i64 0, .int .i64 0, .int .i64 0, .slice none 0 0, .int .i64 0, .int .i64 0, .int .i64 0, .int .i64 0, .int .i64 0, .slice none 0 0, .int .i64 1, .int .i64 (wn : Nat), .int .i64 (j : Nat), .int .i64 1000, .int .i64 tn, .int .i64 (its.length : Nat), .slice A4 m4 c4, .int .i64 0, .int .i64 0, .int .i64 0, .int .i64 0, .int .i64 0, .slice none 0 0, .int .i64 0, .int .i64 0, .int .i64 0, .slice none 0 0, .int .i64 0, .slice none 0 0, .bool false, .int .i64 0, .int .i64 0, .int .i64 0, .slice none 0 0, .slice none 0 0, .int .i64 0, .int .i64 0, .int .i64 0, .slice none 0 0, .int .i64 0, .int .i64 0, .int .i64 0, .int .i64 0, .slice none 0 0]) (row_alloc sbR (.cells #[.int .i64 0, .int .i64 0, .int .i64 0, .int .i64 0, .int .i64 0, .int .i64 0, .int .i64 0, .int .i64 0, .int .i64 0, .int .i64 0, .int .i64 0, .slice none 0 0, .int .i64 0, .int .i64 0, .int .i64 0, .int .i64 0, .slice none 0 0, .int .i64 0, .int .i64 0, .int .i64 0, .int .i64 0, .int .i64 0, .slice none 0 0, .int .i64 0, .int .i64 0, .int .i64 0, .int .i64 0, .int .i64 0, .int .i64 0, .slice none 0 0, .int .i64 0, .int .i64 0, .int .i64 0, .int .i64 0, .int .i64 0, .slice none 0 0, .int .i64 0, .int .i64 0, .int .i64 0, .slice none 0 0, .int .i64 0, .slice none 0 0, .bool false, .int .i64 0, .int .i64 0, .int .i64 0, .slice none 0 0, .slice none 0 0, .int .i64 0, .int .i64 0, .int .i64 0, .slice none 0 0, .int .i64 0, .int .i64 0, .int .i64 0, .int .i64 0, .slice none 0 0] 58)) (by have := row_lt sbR; omega)
  replace o := below_setRow (g := w4.heap.size) (o.alloc o.size (.cells #[.int .i64 0, .int .i64 0, .int .i64 0, .int .i64 0, .int .i64 0, .int .i64 0, .int .i64 0, .int .i64 0, .int .i64 0, .int .i64 0, .int .i64 0, .slice none 0 0, .int .i64 0, .int .i64 0, .int .i64 0, .int .i64 0, .slice none 0 0, .int .i64 0, .int .i64 0, .int .i64 0, .int .i64 0, .int .i64 0, .slice none 0 0, .int .i64 0, .int .i64 0, .int .i64 0, .int .i64 0, .int .i64 0, .int .i64 0, .slice none 0 0, .int .i64 0, .int .i64 0, .int .i64 0, .int .i64 0, .int .i64 0, .slice none 0 0, .int .i64 0, .int .i64 0, .int .i64 0, .slice none 0 0, .int .i64 0, .slice none 0 0, .bool false, .int .i64 0, .int .i64 0, .int .i64 0, .slice none 0 0, .slice none 0 0, .int .i64 0, .int .i64 0, .int .i64 0, .slice none 0 0, .int .i64 0, .int .i64 0, .int .i64 0, .int .i64 0, .slice none 0 0] 58)) o.size #[.int .i64 4, .int .i64 1, .int .i64 (wn : Nat), .int .i64 (j : Nat), .int .i64 1000, .int .i64 0, .int .i64 0, .int .i64 0, .int .i64 0, .int .i64 0, .int .i64 0, .slice none 0 0, .int .i64 0, .int .i64 0, .int .i64 0, .int .i64 0, .slice none 0 0, .int .i64 0, .int .i64 0, .int .i64 0, .int .i64 0, .int .i64 0, .slice none 0 0, .int .i64 1, .int .i64 (wn : Nat), .int .i64 (j : Nat), .int .i64 1000, .int .i64 tn, .int .i64 (its.length : Nat), .slice A4 m4 c4, .int .i64 0, .int .i64 0, .int .i64 0, .int .i64 0, .int .i64 0, .slice none 0 0, .int .i64 0, .int .i64 0, .int .i64 0, .slice none 0 0, .int .i64 0, .slice none 0 0, .bool false, .int .i64 0, .int .i64 0, .int .i64 0, .slice none 0 0, .slice none 0 0, .int .i64 0, .int .i64 0, .int .i64 0, .slice none 0 0, .int .i64 0, .int .i64 0, .int .i64 0, .int .i64 0, .slice none 0 0]
  obtain ⟨w5, hw5⟩ : ∃ x, x = (w4.alloc (.cells #[.int .i64 0, .int .i64 0, .int .i64 0, .int .i64 0, .int .i64 0, .int .i64 0, .int .i64 0, .int .i64 0, .int .i64 0, .int .i64 0, .int .i64 0, .slice none 0 0, .int .i64 0, .int .i64 0, .int .i64 0, .int .i64 0, .slice none 0 0, .int .i64 0, .int .i64 0, .int .i64 0, .int .i64 0, .int .i64 0, .slice none 0 0, .int .i64 0, .int .i64 0, .int .i64 0, .int .i64 0, .int .i64 0, .int .i64 0, .slice none 0 0, .int .i64 0, .int .i64 0, .int .i64 0, .int .i64 0, .int .i64 0, .slice none 0 0, .int .i64 0, .int .i64 0, .int .i64 0, .slice none 0 0, .int .i64 0, .slice none 0 0, .bool false, .int .i64 0, .int .i64 0, .int .i64 0, .slice none 0 0, .slice none 0 0, .int .i64 0, .int .i64 0, .int .i64 0, .slice none 0 0, .int .i64 0, .int .i64 0, .int .i64 0, .int .i64 0, .slice none 0 0] 58)).setRow w4.heap.size #[.int .i64 4, .int .i64 1, .int .i64 (wn : Nat), .int .i64 (j : Nat), .int .i64 1000, .int .i64 0, .int .i64 0, .int .i64 0, .int .i64 0, .int .i64 0, .int .i64 0, .slice none 0 0, .int .i64 0, .int .i64 0, .int .i64 0, .int .i64 0, .slice none 0 0, .int .i64 0, .int .i64 0, .int .i64 0, .int .i64 0, .int .i64 0, .slice none 0 0, .int .i64 1, .int .i64 (wn : Nat), .int .i64 (j : Nat), .int .i64 1000, .int .i64 tn, .int .i64 (its.length : Nat), .slice A4 m4 c4, .int .i64 0, .int .i64 0, .int .i64 0, .int .i64 0, .int .i64 0, .slice none 0 0, .int .i64 0, .int .i64 0, .int .i64 0, .slice none 0 0, .int .i64 0, .slice none 0 0, .bool false, .int .i64 0, .int .i64 0, .int .i64 0, .slice none 0 0, .slice none 0 0, .int .i64 0, .int .i64 0, .int .i64 0, .slice none 0 0, .int .i64 0, .int .i64 0, .int .i64 0, .int .i64 0, .slice none 0 0] := ⟨_, rfl⟩
  rw [← hw5] at tbR in1 in2 sbR o ⊢
  clear hw5 SZ h1 bin1 bin2
  generalize w4.heap.size = tb at tbR zw5 ⊢
  have hnow := Lib.hid in2.now
  go_wp2_with (with_reducible refine wpList_lsyn sbR rfl rfl _ rfl rfl ?_)
  refine (tcAsk in1 0 0).mono ?_
  rintro e w6 ⟨lo1, hi1, he, hQ1, hb⟩
  replace hQ1 := Lib.hid hQ1
  generalize hm1 : (lo1 + hi1) / 2 = md1 at he
  replace hm1 := Lib.hid hm1
  subst he
  replace in2 := IO2.below in2 hb
  replace tbR := row_call tbR hb
  replace o := o.trans (hb.mono o.size)
  clear hb in1 IO1 sbR
  have h1 : (#[.int .i64 (lo1 : Nat), .int .i64 1, .int .i64 (md1 : Nat), .int .i64 1, .int .i64 (hi1 : Nat), .int .i64 1, .slice none 0 0, .int .u64 0, .int .u64 0, .int .u64 0, .int .u64 0] : Array Value).all (·.oneCell') = true := all_one rfl
  have SZ : Row (w6.alloc (.cells #[.int .i64 0, .int .i64 0, .int .i64 0, .int .i64 0, .int .i64 0, .int .i64 0, .slice none 0 0, .int .u64 0, .int .u64 0, .int .u64 0, .int .u64 0] 71)) w6.heap.size 71 #[.int .i64 0, .int .i64 0, .int .i64 0, .int .i64 0, .int .i64 0, .int .i64 0, .slice none 0 0, .int .u64 0, .int .u64 0, .int .u64 0, .int .u64 0] := row_new rfl
  go_upto_region 6 with (with_reducible refine wpList_sans SZ rfl rfl h1 rfl _ _ rfl rfl rfl ?_)
  have abR := row_setRow (cs := #[.int .i64 (lo1 : Nat), .int .i64 1, .int .i64 (md1 : Nat), .int .i64 1, .int .i64 (hi1 : Nat), .int .i64 1, .slice none 0 0, .int .u64 0, .int .u64 0, .int .u64 0, .int .u64 0]) SZ
  have zw7 := o.size
  have bin2 := IO2.blk in2
  replace in2 := IO2.setr (g := w6.heap.size) #[.int .i64 (lo1 : Nat), .int .i64 1, .int .i64 (md1 : Nat), .int .i64 1, .int .i64 (hi1 : Nat), .int .i64 1, .slice none 0 0, .int .u64 0, .int .u64 0, .int .u64 0, .int .u64 0] (IO2.below in2 ((Below.refl _ _).alloc (Nat.le_refl _) (.cells #[.int .i64 0, .int .i64 0, .int .i64 0, .int .i64 0, .int .i64 0, .int .i64 0, .slice none 0 0, .int .u64 0, .int .u64 0, .int .u64 0, .int .u64 0] 71))) (fun hm a e => by have := bin2 hm a e; omega)
  replace tbR := row_setRow_other (g := w6.heap.size) (cs' := #[.int .i64 (lo1 : Nat), .int .i64 1, .int .i64 (md1 : Nat), .int .i64 1, .int .i64 (hi1 : Nat), .int .i64 1, .slice none 0 0, .int .u64 0, .int .u64 0, .int .u64 0, .int .u64 0]) (row_alloc tbR (.cells #[.int .i64 0, .int .i64 0, .int .i64 0, .int .i64 0, .int .i64 0, .int .i64 0, .slice none 0 0, .int .u64 0, .int .u64 0, .int .u64 0, .int .u64 0] 71)) (by have := row_lt tbR; omega)
  replace o := below_setRow (g := w6.heap.size) (o.alloc o.size (.cells #[.int .i64 0, .int .i64 0, .int .i64 0, .int .i64 0, .int .i64 0, .int .i64 0, .slice none 0 0, .int .u64 0, .int .u64 0, .int .u64 0, .int .u64 0] 71)) o.size #[.int .i64 (lo1 : Nat), .int .i64 1, .int .i64 (md1 : Nat), .int .i64 1, .int .i64 (hi1 : Nat), .int .i64 1, .slice none 0 0, .int .u64 0, .int .u64 0, .int .u64 0, .int .u64 0]
  obtain ⟨w7, hw7⟩ : ∃ x, x = (w6.alloc (.cells #[.int .i64 0, .int .i64 0, .int .i64 0, .int .i64 0, .int .i64 0, .int .i64 0, .slice none 0 0, .int .u64 0, .int .u64 0, .int .u64 0, .int .u64 0] 71)).setRow w6.heap.size #[.int .i64 (lo1 : Nat), .int .i64 1, .int .i64 (md1 : Nat), .int .i64 1, .int .i64 (hi1 : Nat), .int .i64 1, .slice none 0 0, .int .u64 0, .int .u64 0, .int .u64 0, .int .u64 0] := ⟨_, rfl⟩
  rw [← hw7] at abR in2 tbR o ⊢
  clear hw7 SZ h1 bin2
  generalize w6.heap.size = ab at abR zw7 ⊢
  go_wp2_with (with_reducible refine wpList_lsyn tbR rfl rfl _ rfl rfl ?_)
  refine (tsAsk in2 0 0).mono ?_
  rintro e w8 ⟨lo2', hi2', he, hQ2, hQ3, hb⟩
  obtain ⟨lo2, rfl⟩ : ∃ x : Nat, lo2' = (x : Int) := ⟨lo2'.toNat, by omega⟩
  obtain ⟨hi2, rfl⟩ : ∃ x : Nat, hi2' = (x : Int) := ⟨hi2'.toNat, by omega⟩
  obtain ⟨md2, hm2⟩ : ∃ x : Nat, ((lo2 : Int) + (hi2 : Int)) / 2 = (x : Int) := ⟨(lo2 + hi2) / 2, by omega⟩
  rw [hm2] at he
  have hQ4 := hQ2 _ (agg_count _)
  rw [← live_both hnow.out] at hQ4
  have hm1' := hm1.out
  have hQ1' := hQ1.out
  have eM : md2 = (lo2 + hi2) / 2 := by omega
  have c2' : hi2 < 4611686018427387904 := by omega
  have c1' : hi1 < 4611686018427387904 := by omega
  have BB1 := bndW (Nat.le_trans hQ1'.1 hQ1'.2.1) c1'
  have BB2 := bndW (l := lo2) (h := hi2) (by omega) c2'
  obtain ⟨hle, BM⟩ := meetB hQ1'.1 hQ1'.2.1 (l2 := lo2) (h2 := hi2) (by omega) (by omega) c1' c2'
  rw [hm1'] at BB1 BM
  rw [← eM] at BB2
  have PME := fun w => pmeet BB1 BB2 hle w
  generalize min (max md1 (max lo1 lo2)) (min hi1 hi2) = mm at PME BM
  generalize max lo1 lo2 = ml at PME BM
  generalize min hi1 hi2 = mh at PME BM
  have PME : RowKit.Hid (∀ w, Calls Tryz.prog 13 #[.agg #[.int .i64 (lo1 : Nat), .int .i64 1, .int .i64 (md1 : Nat), .int .i64 1, .int .i64 (hi1 : Nat), .int .i64 1], .agg #[.int .i64 (lo2 : Nat), .int .i64 1, .int .i64 (md2 : Nat), .int .i64 1, .int .i64 (hi2 : Nat), .int .i64 1]] w fun e w' => e = .returned (.tuple #[.agg #[.int .i64 (ml : Nat), .int .i64 1, .int .i64 (mm : Nat), .int .i64 1, .int .i64 (mh : Nat), .int .i64 1], .bool true]) ∧ Below w.heap.size w w') := Lib.hid PME
  have PBV : RowKit.Hid (∀ w, Calls Tryz.prog 14 #[.agg #[.int .i64 (ml : Nat), .int .i64 1, .int .i64 (mm : Nat), .int .i64 1, .int .i64 (mh : Nat), .int .i64 1]] w fun e w' => e = .returned (.bool true) ∧ Below w.heap.size w w') := Lib.hid (fun w => pbvalid BM w)
  clear hm2 hQ4 hm1' hQ1' eM c1' c2' BB1 BB2 hle BM hQ2 hQ3 hm1 hQ1 hnow
  subst he
  replace abR := row_call abR hb
  replace o := o.trans (hb.mono o.size)
  clear hb in2 IO2 tbR
  have h1 : (#[.int .i64 (lo2 : Nat), .int .i64 1, .int .i64 (md2 : Nat), .int .i64 1, .int .i64 (hi2 : Nat), .int .i64 1, .slice none 0 0, .int .u64 0, .int .u64 0, .int .u64 0, .int .u64 0] : Array Value).all (·.oneCell') = true := all_one rfl
  have SZ : Row (w8.alloc (.cells #[.int .i64 0, .int .i64 0, .int .i64 0, .int .i64 0, .int .i64 0, .int .i64 0, .slice none 0 0, .int .u64 0, .int .u64 0, .int .u64 0, .int .u64 0] 71)) w8.heap.size 71 #[.int .i64 0, .int .i64 0, .int .i64 0, .int .i64 0, .int .i64 0, .int .i64 0, .slice none 0 0, .int .u64 0, .int .u64 0, .int .u64 0, .int .u64 0] := row_new rfl
  go_upto_region 7 with (with_reducible refine wpList_sans SZ rfl rfl h1 rfl _ _ rfl rfl rfl ?_)
  have bbR := row_setRow (cs := #[.int .i64 (lo2 : Nat), .int .i64 1, .int .i64 (md2 : Nat), .int .i64 1, .int .i64 (hi2 : Nat), .int .i64 1, .slice none 0 0, .int .u64 0, .int .u64 0, .int .u64 0, .int .u64 0]) SZ
  have zw9 := o.size
  replace abR := row_setRow_other (g := w8.heap.size) (cs' := #[.int .i64 (lo2 : Nat), .int .i64 1, .int .i64 (md2 : Nat), .int .i64 1, .int .i64 (hi2 : Nat), .int .i64 1, .slice none 0 0, .int .u64 0, .int .u64 0, .int .u64 0, .int .u64 0]) (row_alloc abR (.cells #[.int .i64 0, .int .i64 0, .int .i64 0, .int .i64 0, .int .i64 0, .int .i64 0, .slice none 0 0, .int .u64 0, .int .u64 0, .int .u64 0, .int .u64 0] 71)) (by have := row_lt abR; omega)
  replace o := below_setRow (g := w8.heap.size) (o.alloc o.size (.cells #[.int .i64 0, .int .i64 0, .int .i64 0, .int .i64 0, .int .i64 0, .int .i64 0, .slice none 0 0, .int .u64 0, .int .u64 0, .int .u64 0, .int .u64 0] 71)) o.size #[.int .i64 (lo2 : Nat), .int .i64 1, .int .i64 (md2 : Nat), .int .i64 1, .int .i64 (hi2 : Nat), .int .i64 1, .slice none 0 0, .int .u64 0, .int .u64 0, .int .u64 0, .int .u64 0]
  obtain ⟨w9, hw9⟩ : ∃ x, x = (w8.alloc (.cells #[.int .i64 0, .int .i64 0, .int .i64 0, .int .i64 0, .int .i64 0, .int .i64 0, .slice none 0 0, .int .u64 0, .int .u64 0, .int .u64 0, .int .u64 0] 71)).setRow w8.heap.size #[.int .i64 (lo2 : Nat), .int .i64 1, .int .i64 (md2 : Nat), .int .i64 1, .int .i64 (hi2 : Nat), .int .i64 1, .slice none 0 0, .int .u64 0, .int .u64 0, .int .u64 0, .int .u64 0] := ⟨_, rfl⟩
  rw [← hw9] at bbR  abR o ⊢
  clear hw9 SZ h1 
  generalize w8.heap.size = bb at bbR zw9 ⊢
  have p0 := row_cell abR 0
  have q0 := row_cell bbR 0
  have p1 := row_cell abR 1
  have q1 := row_cell bbR 1
  have p2 := row_cell abR 2
  have q2 := row_cell bbR 2
  have p3 := row_cell abR 3
  have q3 := row_cell bbR 3
  have p4 := row_cell abR 4
  have q4 := row_cell bbR 4
  have p5 := row_cell abR 5
  have q5 := row_cell bbR 5
  clear abR bbR
  go_wp2_with fail
  refine (PME.out _).mono ?_
  rintro e w10 ⟨rfl, hb⟩
  replace o := o.trans (hb.mono o.size)
  clear hb p0 q0 p1 q1 p2 q2 p3 q3 p4 q4 p5 q5
  go_upto_region 8 with (fail)
  have V : Row (w10.alloc (.cells #[.int .i64 (ml : Nat), .int .i64 1, .int .i64 (mm : Nat), .int .i64 1, .int .i64 (mh : Nat), .int .i64 1] 64)) w10.heap.size 64 #[.int .i64 (ml : Nat), .int .i64 1, .int .i64 (mm : Nat), .int .i64 1, .int .i64 (mh : Nat), .int .i64 1] := row_new rfl
  replace o := o.alloc o.size (.cells #[.int .i64 (ml : Nat), .int .i64 1, .int .i64 (mm : Nat), .int .i64 1, .int .i64 (mh : Nat), .int .i64 1] 64)
  generalize w10.alloc (.cells #[.int .i64 (ml : Nat), .int .i64 1, .int .i64 (mm : Nat), .int .i64 1, .int .i64 (mh : Nat), .int .i64 1] 64) = w11 at V o ⊢
  generalize w10.heap.size = cb at V ⊢
  obtain ⟨V0, V1, V2, V3, V4, V5, _, _, _, _, _, _⟩ := row_six V
  go_wp2_with fail
  refine (PBV.out _).mono ?_
  rintro e w12 ⟨rfl, hb⟩
  replace o := o.trans (hb.mono o.size)
  clear hb V V0 V1 V2 V3 V4 V5
  go_wp2_with fail
  refine (PW.out _).mono ?_
  rintro e w13 ⟨rfl, hb⟩
  replace o := o.trans (hb.mono o.size)
  clear hb
  go_wp2
  go_ret
  exact ⟨by first | rfl | exact ret_bool (by simp) | simp, hbI.trans (o.mono hbI.size)⟩
end Go.Proofs.YtdipoojjlddohaaGreat
end
section
/- A parameter that is a slice of items opened to what it reads (open_slice_fields is the guide's, extra-structs.md, copied as that page bids). -/
set_option linter.unusedVariables false
set_option linter.unusedSimpArgs false
set_option linter.unusedSectionVars false
set_option linter.unnecessarySimpa false
namespace Go.Proofs.YtdipoojjlddohaaGreat
open Go.ChangeShapes Go.WideShapes Go.Deep Go.RowKit
section
variable {H : Type} {enc : TypeId × Value → H} {P : Program} {w : World} {base : Nat} {spare : Nat → Bool} {held : Bool}
theorem open_slice_fields {t e : TypeId} {fs : Array Field} {fuel : Nat} {cs : List Value} {x : DataW H × List MemPlace} (ht : P.underlying t = some (.slice e)) (he : P.underlying e = some (.struct fs))
    (hone : oneCellFields P fs = true) (hC : P.cellsOf e = fs.size) (h : DataW.trod enc P w base spare held fuel t cs = some x) :
    (cs = [.slice none 0 0] ∧ x = (.nil, [])) ∨
    ∃ (a : Addr) (len cap m : Nat) (D : Nat → DataW H) (Pl : Nat → List MemPlace), cs = [.slice (some a) len cap] ∧ base ≤ a.block ∧ len ≤ cap ∧ cap ≤ maxLen ∧ m = (if spare a.block then cap else len) ∧
      x = (.slice ((List.range len).map D) ((List.range (m - len)).map fun j => D (len + j)), MemPlace.row a (m * fs.size) ++ (List.range m).flatMap Pl) ∧
      ∀ i, i < m → ∃ (ys : List (DataW H × List MemPlace)) (n : Nat), D i = .agg (ys.map (·.1)) ∧ Pl i = ys.flatMap (·.2) ∧ ys.length = fs.size ∧
        ∀ (j : Nat) (f : Field), fs[j]? = some f → ∃ (v : Value) (y : DataW H × List MemPlace), w.cell? (a.add (i * fs.size + j)) = some v ∧ ys[j]? = some y ∧ DataW.trod enc P w base spare held n f.type [v] = some y := by
  rcases open_slice ht h with h0 | ⟨a, len, cap, m, n, D, Pl, hcs, hb, hl, hm, hmm, hx, hi⟩
  · exact .inl h0
  · refine .inr ⟨a, len, cap, m, D, Pl, hcs, hb, hl, hm, hmm, by rw [hC] at hx; exact hx, fun i him => ?_⟩
    obtain ⟨cs', hc, ht'⟩ := hi i him
    rw [hC] at hc
    obtain ⟨ys, n', hn', hy, hlen, hyl, hf⟩ := DataW.trod_struct he ht'
    obtain ⟨_, hcl, hat⟩ := World.cells?_some hc
    simp only [Prod.mk.injEq] at hy
    refine ⟨ys, n', hy.1, hy.2, hyl, fun j f hj => ?_⟩
    obtain ⟨ho, hk⟩ := hone_of hone j f hj
    have hjl : j < fs.size := (Array.getElem?_eq_some_iff.1 hj).1
    have hcell := hat j hjl
    have hv : cs'[j]? = some (cs'[j]'(by omega)) := List.getElem?_eq_getElem (by omega)
    have h1 := hf j f hj
    rw [ho, hk] at h1
    have hone' : (cs'.drop j).take 1 = [cs'[j]'(by omega)] := by
      rw [List.drop_eq_getElem_cons (by omega)]
      rfl
    rw [hone'] at h1
    have hys : ys[j]? = some (ys[j]'(by omega)) := List.getElem?_eq_getElem (by omega)
    refine ⟨_, _, ?_, hys, h1.trans hys⟩
    rw [← Go.Deep.add_add, hcell, hv]
end

theorem cellsItm : Tryz.prog.cellsOf 90 = 2 := by kernel_rfl
theorem i64_wf {x : Int} (h : (Lit.int .i64 x).wf = true) : -9223372036854775808 ≤ x ∧ x ≤ 9223372036854775807 := by
  simp [Lit.wf, IntKind.min, IntKind.max, IntKind.signed, IntKind.bits] at h
  exact ⟨by omega, by omega⟩
section
variable {H : Type} {enc : TypeId × Value → H} {W : World}
theorem list_of {P : Nat → Itm → Prop} : ∀ n, (∀ i, i < n → ∃ x, P i x) → ∃ l : List Itm, l.length = n ∧ ∀ i, i < n → P i (itmAt l i)
  | 0, _ => ⟨[], rfl, fun i h => absurd h (by omega)⟩
  | n + 1, h => by
    obtain ⟨l, h1, h2⟩ := list_of n (fun i hi => h i (by omega))
    obtain ⟨x, hx⟩ := h n (by omega)
    refine ⟨l ++ [x], by simp [h1], fun i hi => ?_⟩
    by_cases c : i < n
    · rw [itm_left (by omega)]
      exact h2 i c
    · obtain rfl : i = l.length := by omega
      rw [itm_last, h1]
      exact hx
set_option maxRecDepth 100000 in
theorem rin_open {r : Reach} {b0 : Nat} {v : Value} {d : DataW H} {p : List MemPlace} (hv : Value.okWide Tryz.prog W r b0 22 v) (h : DataW.Trod enc Tryz.prog W 0 (fun _ => true) true 22 v d p) :
    ∃ A m c l, v = .slice A m c ∧ RIn A m c l W := by
  obtain ⟨a, len, cap, rfl⟩ := okWide_slice Tryz.underlying22 hv
  obtain ⟨fuel, hf⟩ := h
  rcases open_slice_fields Tryz.underlying22 Tryz.underlying90 (by kernel_rfl) cellsItm hf with ⟨h1, _⟩ | ⟨a', len', cap', m, D, Pl, h1, _, hl, hc, hm0, _, hi⟩
  · simp [Value.cells] at h1
    obtain ⟨rfl, rfl, rfl⟩ := h1
    exact ⟨none, 0, 0, [], rfl, by simpa [icells] using Reads.none_, by simp [itmAt], by simp [itmAt], Nat.le_refl _, Nat.zero_le _⟩
  · simp [Value.cells] at h1
    obtain ⟨rfl, rfl, rfl⟩ := h1
    have hm : len ≤ m := by
      rw [hm0, if_pos rfl]
      exact hl
    have hh : ∀ i, i < len → ∃ x : Itm, (W.cell? (a'.add (i * 2)) = some (.int .i64 x.t) ∧ W.cell? (a'.add (i * 2 + 1)) = some (.int .i64 x.v)) ∧ (-9223372036854775808 ≤ x.t ∧ x.t ≤ 9223372036854775807) ∧ (-9223372036854775808 ≤ x.v ∧ x.v ≤ 9223372036854775807) := by
      intro i hi'
      obtain ⟨ys, n, _, _, _, hf⟩ := hi i (by omega)
      obtain ⟨v0, y0, c0, _, t0⟩ := hf 0 _ rfl
      obtain ⟨v1, y1, c1, _, t1⟩ := hf 1 _ rfl
      obtain ⟨x0, e0, _, w0⟩ := DataW.trod_int Tryz.underlying2 t0
      obtain ⟨x1, e1, _, w1⟩ := DataW.trod_int Tryz.underlying2 t1
      simp at e0 e1
      subst e0 e1
      exact ⟨⟨x0, x1⟩, ⟨c0, c1⟩, i64_wf w0, i64_wf w1⟩
    obtain ⟨l, hl1, hl2⟩ := list_of len hh
    have hb : ∀ i, (-9223372036854775808 ≤ (itmAt l i).t ∧ (itmAt l i).t ≤ 9223372036854775807) ∧ (-9223372036854775808 ≤ (itmAt l i).v ∧ (itmAt l i).v ≤ 9223372036854775807) := by
      intro i
      by_cases c : i < len
      · exact (hl2 i c).2
      · have : itmAt l i = ⟨0, 0⟩ := by unfold itmAt; rw [List.getD_eq_getElem?_getD, List.getElem?_eq_none (by omega)]; rfl
        rw [this]
        exact ⟨⟨by decide, by decide⟩, by decide, by decide⟩
    refine ⟨some a', len, cap, l, rfl, ⟨by rw [icells_len, hl1], fun h0 => ⟨a', rfl, ?_, fun j u hu => ?_⟩⟩, fun i => (hb i).1, fun i => (hb i).2, hl, hc⟩
    · have := World.block_lt_of_cell? W _ (hl2 0 h0).1.1
      rw [block_of_add] at this
      exact this
    · have hj : j < len * 2 := by
        have := (List.getElem?_eq_some_iff.1 hu).1
        rw [icells_len, hl1] at this
        exact this
      have hat := icells_at l (j / 2) (by omega)
      have hcl := (hl2 (j / 2) (by omega)).1
      rcases Nat.mod_two_eq_zero_or_one j with hp | hp
      · have e : j / 2 * 2 = j := by omega
        rw [e] at hat hcl
        rw [hu] at hat
        rw [hcl.1, hat.1]
      · have e : j / 2 * 2 + 1 = j := by omega
        rw [e] at hat hcl
        rw [hu] at hat
        rw [hcl.2, hat.2]
end
end Go.Proofs.YtdipoojjlddohaaGreat
end
