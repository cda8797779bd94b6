/- Smooth histograms: the bound of the number of marks; the law of new states, walked. -/
import Derived.Test.YthknkdjpfanlnaaSmG
import Derived.Test.YthknkdjpfanlnaaMathSmT
set_option linter.unusedVariables false
set_option linter.unusedSimpArgs false
set_option linter.unusedSectionVars false
set_option linter.unnecessarySimpa false
namespace Go.Proofs.Ythknkdjpfanlnaa
open Go.RowKit
theorem psmost_1 (k cap : Int) (w : World) (h : 1 ≤ k ∧ k ≤ 64 ∧ 1 ≤ cap ∧ cap ≤ 65536) : Calls Try.prog 26 #[.int .i64 1, .int .i64 k, .int .i64 cap] w fun e w' => e = .returned (.int .i64 (mostS 1 k cap)) ∧ w' = w := by
  rw [show mostS 1 k cap = 2 * k * (Lib.bitLen (cap : Int).toNat : Nat) + 2 by unfold mostS; rw [if_pos ⟨by decide, h⟩]; rfl]
  have hb : (((cap : Int).toNat : Nat) : Int) = cap := by omega
  have PB := fun w => nbits (cap : Int).toNat (by omega) w
  rw [hb] at PB
  have bb : Lib.bitLen (cap : Int).toNat ≤ 64 := bits_le 64 _
  generalize Lib.bitLen (cap : Int).toNat = b at PB bb ⊢
  replace PB := Lib.hid PB
  have PG := fun w => pgoodS 1 1 k cap 0 w
  rw [decide_eq_true (show smGood 1 1 k cap 0 from ⟨by decide, by omega, by omega, h.1, h.2.1, h.2.2.1, h.2.2.2, by omega, by omega⟩)] at PG
  replace PG := Lib.hid PG
  have mm : 0 ≤ 2 * k * (b : Int) ∧ 2 * k * (b : Int) ≤ 128 * 64 := ⟨Int.mul_nonneg (by omega) (by omega), Int.mul_le_mul (by omega) (by omega) (by omega) (by decide)⟩
  have w1 : IntKind.i64.wrap (2 * k) = 2 * k := IntWalk.i64_in _ (by omega)
  have w2 : IntKind.i64.wrap (2 * k * (b : Int)) = 2 * k * (b : Int) := IntWalk.i64_in _ (by omega)
  have w3 : IntKind.i64.wrap (2 * k * (b : Int) + 2) = 2 * k * (b : Int) + 2 := IntWalk.i64_in _ (by omega)
  clear h hb mm bb
  go_enter Try.func26, Try.ntmps26
  go_wp2_with (first | (go_at_call 36; with_reducible refine (PG.out _).mono ?_; rintro e w9 ⟨rfl, h9⟩; obtain rfl := h9.symm) | (go_at_call 58; with_reducible refine (PB.out _).mono ?_; rintro e w9 ⟨rfl, h9⟩; obtain rfl := h9.symm))
  go_ret
  exact ⟨rfl, rfl⟩
theorem psmost_2 (k cap : Int) (w : World) (h : 1 ≤ k ∧ k ≤ 64 ∧ 1 ≤ cap ∧ cap ≤ 65536) : Calls Try.prog 26 #[.int .i64 2, .int .i64 k, .int .i64 cap] w fun e w' => e = .returned (.int .i64 (mostS 2 k cap)) ∧ w' = w := by
  rw [show mostS 2 k cap = 2 * k * (Lib.bitLen (cap * 4096 : Int).toNat : Nat) + 2 by unfold mostS; rw [if_pos ⟨by decide, h⟩]; rfl]
  have hb : (((cap * 4096 : Int).toNat : Nat) : Int) = cap * 4096 := by omega
  have PB := fun w => nbits (cap * 4096 : Int).toNat (by omega) w
  rw [hb] at PB
  have bb : Lib.bitLen (cap * 4096 : Int).toNat ≤ 64 := bits_le 64 _
  generalize Lib.bitLen (cap * 4096 : Int).toNat = b at PB bb ⊢
  replace PB := Lib.hid PB
  have PG := fun w => pgoodS 2 1 k cap 0 w
  rw [decide_eq_true (show smGood 2 1 k cap 0 from ⟨by decide, by omega, by omega, h.1, h.2.1, h.2.2.1, h.2.2.2, by omega, by omega⟩)] at PG
  replace PG := Lib.hid PG
  have mm : 0 ≤ 2 * k * (b : Int) ∧ 2 * k * (b : Int) ≤ 128 * 64 := ⟨Int.mul_nonneg (by omega) (by omega), Int.mul_le_mul (by omega) (by omega) (by omega) (by decide)⟩
  have w1 : IntKind.i64.wrap (2 * k) = 2 * k := IntWalk.i64_in _ (by omega)
  have w2 : IntKind.i64.wrap (2 * k * (b : Int)) = 2 * k * (b : Int) := IntWalk.i64_in _ (by omega)
  have w3 : IntKind.i64.wrap (2 * k * (b : Int) + 2) = 2 * k * (b : Int) + 2 := IntWalk.i64_in _ (by omega)
  have wt : IntKind.i64.wrap (cap * 4096) = cap * 4096 := IntWalk.i64_in _ (by omega)
  clear h hb mm bb
  go_enter Try.func26, Try.ntmps26
  go_wp2_with (first | (go_at_call 36; with_reducible refine (PG.out _).mono ?_; rintro e w9 ⟨rfl, h9⟩; obtain rfl := h9.symm) | (go_at_call 58; with_reducible refine (PB.out _).mono ?_; rintro e w9 ⟨rfl, h9⟩; obtain rfl := h9.symm))
  go_ret
  exact ⟨rfl, rfl⟩
theorem psmost_3 (k cap : Int) (w : World) (h : 1 ≤ k ∧ k ≤ 64 ∧ 1 ≤ cap ∧ cap ≤ 65536) : Calls Try.prog 26 #[.int .i64 3, .int .i64 k, .int .i64 cap] w fun e w' => e = .returned (.int .i64 (mostS 3 k cap)) ∧ w' = w := by
  rw [show mostS 3 k cap = 2 * k * (Lib.bitLen (cap * 16777216 : Int).toNat : Nat) + 2 by unfold mostS; rw [if_pos ⟨by decide, h⟩]; rfl]
  have hb : (((cap * 16777216 : Int).toNat : Nat) : Int) = cap * 16777216 := by omega
  have PB := fun w => nbits (cap * 16777216 : Int).toNat (by omega) w
  rw [hb] at PB
  have bb : Lib.bitLen (cap * 16777216 : Int).toNat ≤ 64 := bits_le 64 _
  generalize Lib.bitLen (cap * 16777216 : Int).toNat = b at PB bb ⊢
  replace PB := Lib.hid PB
  have PG := fun w => pgoodS 3 1 k cap 0 w
  rw [decide_eq_true (show smGood 3 1 k cap 0 from ⟨by decide, by omega, by omega, h.1, h.2.1, h.2.2.1, h.2.2.2, by omega, by omega⟩)] at PG
  replace PG := Lib.hid PG
  have mm : 0 ≤ 2 * k * (b : Int) ∧ 2 * k * (b : Int) ≤ 128 * 64 := ⟨Int.mul_nonneg (by omega) (by omega), Int.mul_le_mul (by omega) (by omega) (by omega) (by decide)⟩
  have w1 : IntKind.i64.wrap (2 * k) = 2 * k := IntWalk.i64_in _ (by omega)
  have w2 : IntKind.i64.wrap (2 * k * (b : Int)) = 2 * k * (b : Int) := IntWalk.i64_in _ (by omega)
  have w3 : IntKind.i64.wrap (2 * k * (b : Int) + 2) = 2 * k * (b : Int) + 2 := IntWalk.i64_in _ (by omega)
  have wt0 : IntKind.i64.wrap (cap * 4096) = cap * 4096 := IntWalk.i64_in _ (by omega)
  have wt1 : IntKind.i64.wrap (cap * 4096 * 4096) = cap * 16777216 := by rw [IntWalk.i64_in _ (by omega)]; omega
  have wt : IntKind.i64.wrap (cap * 16777216) = cap * 16777216 := IntWalk.i64_in _ (by omega)
  clear h hb mm bb
  go_enter Try.func26, Try.ntmps26
  go_wp2_with (first | (go_at_call 36; with_reducible refine (PG.out _).mono ?_; rintro e w9 ⟨rfl, h9⟩; obtain rfl := h9.symm) | (go_at_call 58; with_reducible refine (PB.out _).mono ?_; rintro e w9 ⟨rfl, h9⟩; obtain rfl := h9.symm))
  go_ret
  exact ⟨rfl, rfl⟩
theorem psmost_4 (k cap : Int) (w : World) (h : 1 ≤ k ∧ k ≤ 64 ∧ 1 ≤ cap ∧ cap ≤ 65536) : Calls Try.prog 26 #[.int .i64 4, .int .i64 k, .int .i64 cap] w fun e w' => e = .returned (.int .i64 (mostS 4 k cap)) ∧ w' = w := by
  rw [show mostS 4 k cap = 2 * k * (Lib.bitLen (8192 : Int).toNat : Nat) + 2 by unfold mostS; rw [if_pos ⟨by decide, h⟩]; rfl]
  have hb : (((8192 : Int).toNat : Nat) : Int) = 8192 := by omega
  have PB := fun w => nbits (8192 : Int).toNat (by omega) w
  rw [hb] at PB
  have bb : Lib.bitLen (8192 : Int).toNat ≤ 64 := bits_le 64 _
  generalize Lib.bitLen (8192 : Int).toNat = b at PB bb ⊢
  replace PB := Lib.hid PB
  have PG := fun w => pgoodS 4 1 k cap 0 w
  rw [decide_eq_true (show smGood 4 1 k cap 0 from ⟨by decide, by omega, by omega, h.1, h.2.1, h.2.2.1, h.2.2.2, by omega, by omega⟩)] at PG
  replace PG := Lib.hid PG
  have mm : 0 ≤ 2 * k * (b : Int) ∧ 2 * k * (b : Int) ≤ 128 * 64 := ⟨Int.mul_nonneg (by omega) (by omega), Int.mul_le_mul (by omega) (by omega) (by omega) (by decide)⟩
  have w1 : IntKind.i64.wrap (2 * k) = 2 * k := IntWalk.i64_in _ (by omega)
  have w2 : IntKind.i64.wrap (2 * k * (b : Int)) = 2 * k * (b : Int) := IntWalk.i64_in _ (by omega)
  have w3 : IntKind.i64.wrap (2 * k * (b : Int) + 2) = 2 * k * (b : Int) + 2 := IntWalk.i64_in _ (by omega)
  clear h hb mm bb
  go_enter Try.func26, Try.ntmps26
  go_wp2_with (first | (go_at_call 36; with_reducible refine (PG.out _).mono ?_; rintro e w9 ⟨rfl, h9⟩; obtain rfl := h9.symm) | (go_at_call 58; with_reducible refine (PB.out _).mono ?_; rintro e w9 ⟨rfl, h9⟩; obtain rfl := h9.symm))
  go_ret
  exact ⟨rfl, rfl⟩
theorem rsmost_1 (k cap : Int) (w : World) (h : 1 ≤ k ∧ k ≤ 64 ∧ 1 ≤ cap ∧ cap ≤ 65536) : Calls Try.prog 27 #[.int .i64 1, .int .i64 k, .int .i64 cap] w fun e w' => e = .returned (.int .i64 (mostS 1 k cap)) ∧ w' = w := by
  rw [show mostS 1 k cap = 2 * k * (Lib.bitLen (cap : Int).toNat : Nat) + 2 by unfold mostS; rw [if_pos ⟨by decide, h⟩]; rfl]
  have hb : (((cap : Int).toNat : Nat) : Int) = cap := by omega
  have PB := fun w => rbits (cap : Int).toNat (by omega) w
  rw [hb] at PB
  have bb : Lib.bitLen (cap : Int).toNat ≤ 64 := bits_le 64 _
  generalize Lib.bitLen (cap : Int).toNat = b at PB bb ⊢
  replace PB := Lib.hid PB
  have PG := fun w => rmayk k w
  rw [decide_eq_true ⟨h.1, h.2.1⟩] at PG
  replace PG := Lib.hid PG
  have PA := fun w => rmayaggD 1 w
  rw [decide_eq_true (by decide)] at PA
  replace PA := Lib.hid PA
  have t0 : ¬ cap < 1 := by omega
  have t1 : ¬ (65536 : Int) < cap := by omega
  have mm : 0 ≤ 2 * k * (b : Int) ∧ 2 * k * (b : Int) ≤ 128 * 64 := ⟨Int.mul_nonneg (by omega) (by omega), Int.mul_le_mul (by omega) (by omega) (by omega) (by decide)⟩
  have w1 : IntKind.i64.wrap (2 * k) = 2 * k := IntWalk.i64_in _ (by omega)
  have w2 : IntKind.i64.wrap (2 * k * (b : Int)) = 2 * k * (b : Int) := IntWalk.i64_in _ (by omega)
  have w3 : IntKind.i64.wrap (2 * k * (b : Int) + 2) = 2 * k * (b : Int) + 2 := IntWalk.i64_in _ (by omega)
  clear h hb mm bb
  go_enter Try.func27, Try.ntmps27
  go_wp2_with (first | (go_at_call 42; with_reducible refine (PG.out _).mono ?_; rintro e w9 ⟨rfl, h9⟩; obtain rfl := h9.symm) | (go_at_call 40; with_reducible refine (PA.out _).mono ?_; rintro e w9 ⟨rfl, h9⟩; obtain rfl := h9.symm) | (go_at_call 59; with_reducible refine (PB.out _).mono ?_; rintro e w9 ⟨rfl, h9⟩; obtain rfl := h9.symm))
  go_ret
  exact ⟨rfl, rfl⟩
theorem rsmost_2 (k cap : Int) (w : World) (h : 1 ≤ k ∧ k ≤ 64 ∧ 1 ≤ cap ∧ cap ≤ 65536) : Calls Try.prog 27 #[.int .i64 2, .int .i64 k, .int .i64 cap] w fun e w' => e = .returned (.int .i64 (mostS 2 k cap)) ∧ w' = w := by
  rw [show mostS 2 k cap = 2 * k * (Lib.bitLen (cap * 4096 : Int).toNat : Nat) + 2 by unfold mostS; rw [if_pos ⟨by decide, h⟩]; rfl]
  have hb : (((cap * 4096 : Int).toNat : Nat) : Int) = cap * 4096 := by omega
  have PB := fun w => rbits (cap * 4096 : Int).toNat (by omega) w
  rw [hb] at PB
  have bb : Lib.bitLen (cap * 4096 : Int).toNat ≤ 64 := bits_le 64 _
  generalize Lib.bitLen (cap * 4096 : Int).toNat = b at PB bb ⊢
  replace PB := Lib.hid PB
  have PG := fun w => rmayk k w
  rw [decide_eq_true ⟨h.1, h.2.1⟩] at PG
  replace PG := Lib.hid PG
  have PA := fun w => rmayaggD 2 w
  rw [decide_eq_true (by decide)] at PA
  replace PA := Lib.hid PA
  have t0 : ¬ cap < 1 := by omega
  have t1 : ¬ (65536 : Int) < cap := by omega
  have mm : 0 ≤ 2 * k * (b : Int) ∧ 2 * k * (b : Int) ≤ 128 * 64 := ⟨Int.mul_nonneg (by omega) (by omega), Int.mul_le_mul (by omega) (by omega) (by omega) (by decide)⟩
  have w1 : IntKind.i64.wrap (2 * k) = 2 * k := IntWalk.i64_in _ (by omega)
  have w2 : IntKind.i64.wrap (2 * k * (b : Int)) = 2 * k * (b : Int) := IntWalk.i64_in _ (by omega)
  have w3 : IntKind.i64.wrap (2 * k * (b : Int) + 2) = 2 * k * (b : Int) + 2 := IntWalk.i64_in _ (by omega)
  have wt : IntKind.i64.wrap (cap * 4096) = cap * 4096 := IntWalk.i64_in _ (by omega)
  clear h hb mm bb
  go_enter Try.func27, Try.ntmps27
  go_wp2_with (first | (go_at_call 42; with_reducible refine (PG.out _).mono ?_; rintro e w9 ⟨rfl, h9⟩; obtain rfl := h9.symm) | (go_at_call 40; with_reducible refine (PA.out _).mono ?_; rintro e w9 ⟨rfl, h9⟩; obtain rfl := h9.symm) | (go_at_call 59; with_reducible refine (PB.out _).mono ?_; rintro e w9 ⟨rfl, h9⟩; obtain rfl := h9.symm))
  go_ret
  exact ⟨rfl, rfl⟩
theorem rsmost_3 (k cap : Int) (w : World) (h : 1 ≤ k ∧ k ≤ 64 ∧ 1 ≤ cap ∧ cap ≤ 65536) : Calls Try.prog 27 #[.int .i64 3, .int .i64 k, .int .i64 cap] w fun e w' => e = .returned (.int .i64 (mostS 3 k cap)) ∧ w' = w := by
  rw [show mostS 3 k cap = 2 * k * (Lib.bitLen (cap * 16777216 : Int).toNat : Nat) + 2 by unfold mostS; rw [if_pos ⟨by decide, h⟩]; rfl]
  have hb : (((cap * 16777216 : Int).toNat : Nat) : Int) = cap * 16777216 := by omega
  have PB := fun w => rbits (cap * 16777216 : Int).toNat (by omega) w
  rw [hb] at PB
  have bb : Lib.bitLen (cap * 16777216 : Int).toNat ≤ 64 := bits_le 64 _
  generalize Lib.bitLen (cap * 16777216 : Int).toNat = b at PB bb ⊢
  replace PB := Lib.hid PB
  have PG := fun w => rmayk k w
  rw [decide_eq_true ⟨h.1, h.2.1⟩] at PG
  replace PG := Lib.hid PG
  have PA := fun w => rmayaggD 3 w
  rw [decide_eq_true (by decide)] at PA
  replace PA := Lib.hid PA
  have t0 : ¬ cap < 1 := by omega
  have t1 : ¬ (65536 : Int) < cap := by omega
  have mm : 0 ≤ 2 * k * (b : Int) ∧ 2 * k * (b : Int) ≤ 128 * 64 := ⟨Int.mul_nonneg (by omega) (by omega), Int.mul_le_mul (by omega) (by omega) (by omega) (by decide)⟩
  have w1 : IntKind.i64.wrap (2 * k) = 2 * k := IntWalk.i64_in _ (by omega)
  have w2 : IntKind.i64.wrap (2 * k * (b : Int)) = 2 * k * (b : Int) := IntWalk.i64_in _ (by omega)
  have w3 : IntKind.i64.wrap (2 * k * (b : Int) + 2) = 2 * k * (b : Int) + 2 := IntWalk.i64_in _ (by omega)
  have wt0 : IntKind.i64.wrap (cap * 4096) = cap * 4096 := IntWalk.i64_in _ (by omega)
  have wt1 : IntKind.i64.wrap (cap * 4096 * 4096) = cap * 16777216 := by rw [IntWalk.i64_in _ (by omega)]; omega
  have wt : IntKind.i64.wrap (cap * 16777216) = cap * 16777216 := IntWalk.i64_in _ (by omega)
  clear h hb mm bb
  go_enter Try.func27, Try.ntmps27
  go_wp2_with (first | (go_at_call 42; with_reducible refine (PG.out _).mono ?_; rintro e w9 ⟨rfl, h9⟩; obtain rfl := h9.symm) | (go_at_call 40; with_reducible refine (PA.out _).mono ?_; rintro e w9 ⟨rfl, h9⟩; obtain rfl := h9.symm) | (go_at_call 59; with_reducible refine (PB.out _).mono ?_; rintro e w9 ⟨rfl, h9⟩; obtain rfl := h9.symm))
  go_ret
  exact ⟨rfl, rfl⟩
theorem rsmost_4 (k cap : Int) (w : World) (h : 1 ≤ k ∧ k ≤ 64 ∧ 1 ≤ cap ∧ cap ≤ 65536) : Calls Try.prog 27 #[.int .i64 4, .int .i64 k, .int .i64 cap] w fun e w' => e = .returned (.int .i64 (mostS 4 k cap)) ∧ w' = w := by
  rw [show mostS 4 k cap = 2 * k * (Lib.bitLen (8192 : Int).toNat : Nat) + 2 by unfold mostS; rw [if_pos ⟨by decide, h⟩]; rfl]
  have hb : (((8192 : Int).toNat : Nat) : Int) = 8192 := by omega
  have PB := fun w => rbits (8192 : Int).toNat (by omega) w
  rw [hb] at PB
  have bb : Lib.bitLen (8192 : Int).toNat ≤ 64 := bits_le 64 _
  generalize Lib.bitLen (8192 : Int).toNat = b at PB bb ⊢
  replace PB := Lib.hid PB
  have PG := fun w => rmayk k w
  rw [decide_eq_true ⟨h.1, h.2.1⟩] at PG
  replace PG := Lib.hid PG
  have PA := fun w => rmayaggD 4 w
  rw [decide_eq_true (by decide)] at PA
  replace PA := Lib.hid PA
  have t0 : ¬ cap < 1 := by omega
  have t1 : ¬ (65536 : Int) < cap := by omega
  have mm : 0 ≤ 2 * k * (b : Int) ∧ 2 * k * (b : Int) ≤ 128 * 64 := ⟨Int.mul_nonneg (by omega) (by omega), Int.mul_le_mul (by omega) (by omega) (by omega) (by decide)⟩
  have w1 : IntKind.i64.wrap (2 * k) = 2 * k := IntWalk.i64_in _ (by omega)
  have w2 : IntKind.i64.wrap (2 * k * (b : Int)) = 2 * k * (b : Int) := IntWalk.i64_in _ (by omega)
  have w3 : IntKind.i64.wrap (2 * k * (b : Int) + 2) = 2 * k * (b : Int) + 2 := IntWalk.i64_in _ (by omega)
  clear h hb mm bb
  go_enter Try.func27, Try.ntmps27
  go_wp2_with (first | (go_at_call 42; with_reducible refine (PG.out _).mono ?_; rintro e w9 ⟨rfl, h9⟩; obtain rfl := h9.symm) | (go_at_call 40; with_reducible refine (PA.out _).mono ?_; rintro e w9 ⟨rfl, h9⟩; obtain rfl := h9.symm) | (go_at_call 59; with_reducible refine (PB.out _).mono ?_; rintro e w9 ⟨rfl, h9⟩; obtain rfl := h9.symm))
  go_ret
  exact ⟨rfl, rfl⟩
theorem psmost_no (agg k cap : Int) (w : World) (h : ¬ ((1 ≤ agg ∧ agg ≤ 4) ∧ 1 ≤ k ∧ k ≤ 64 ∧ 1 ≤ cap ∧ cap ≤ 65536)) : Calls Try.prog 26 #[.int .i64 agg, .int .i64 k, .int .i64 cap] w fun e w' => e = .returned (.int .i64 (mostS agg k cap)) ∧ w' = w := by
  rw [show mostS agg k cap = 0 by unfold mostS; rw [if_neg h]]
  have PG := fun w => pgoodS agg 1 k cap 0 w
  rw [decide_eq_false (show ¬ smGood agg 1 k cap 0 from fun a => h ⟨a.1, a.2.2.2.1, a.2.2.2.2.1, a.2.2.2.2.2.1, a.2.2.2.2.2.2.1⟩)] at PG
  replace PG := Lib.hid PG
  clear h
  go_enter Try.func26, Try.ntmps26
  go_wp2_with (go_at_call 36; with_reducible refine (PG.out _).mono ?_; rintro e w9 ⟨rfl, h9⟩; obtain rfl := h9.symm)
  go_ret
  exact ⟨rfl, rfl⟩
theorem rsmost_a (agg k cap : Int) (w : World) (h : ¬ (1 ≤ agg ∧ agg ≤ 4)) : Calls Try.prog 27 #[.int .i64 agg, .int .i64 k, .int .i64 cap] w fun e w' => e = .returned (.int .i64 (mostS agg k cap)) ∧ w' = w := by
  rw [show mostS agg k cap = 0 by unfold mostS; rw [if_neg (fun a => h a.1)]]
  have PA := fun w => rmayaggD agg w
  rw [decide_eq_false h] at PA
  replace PA := Lib.hid PA
  go_enter Try.func27, Try.ntmps27
  go_wp2_with (first | (go_at_call 40; with_reducible refine (PA.out _).mono ?_; rintro e w9 ⟨rfl, h9⟩; obtain rfl := h9.symm))
  go_ret
  exact ⟨rfl, rfl⟩
theorem rsmost_b (agg k cap : Int) (w : World) (hA : 1 ≤ agg ∧ agg ≤ 4) (h : ¬ (1 ≤ k ∧ k ≤ 64)) : Calls Try.prog 27 #[.int .i64 agg, .int .i64 k, .int .i64 cap] w fun e w' => e = .returned (.int .i64 (mostS agg k cap)) ∧ w' = w := by
  rw [show mostS agg k cap = 0 by unfold mostS; rw [if_neg (fun a => h ⟨a.2.1, a.2.2.1⟩)]]
  have PA := fun w => rmayaggD agg w
  rw [decide_eq_true hA] at PA
  replace PA := Lib.hid PA
  have PG := fun w => rmayk k w
  rw [decide_eq_false h] at PG
  replace PG := Lib.hid PG
  go_enter Try.func27, Try.ntmps27
  go_wp2_with (first | (go_at_call 40; with_reducible refine (PA.out _).mono ?_; rintro e w9 ⟨rfl, h9⟩; obtain rfl := h9.symm) | (go_at_call 42; with_reducible refine (PG.out _).mono ?_; rintro e w9 ⟨rfl, h9⟩; obtain rfl := h9.symm))
  go_ret
  exact ⟨rfl, rfl⟩
theorem rsmost_c (agg k cap : Int) (w : World) (hA : 1 ≤ agg ∧ agg ≤ 4) (hK : 1 ≤ k ∧ k ≤ 64) (h : cap < 1) : Calls Try.prog 27 #[.int .i64 agg, .int .i64 k, .int .i64 cap] w fun e w' => e = .returned (.int .i64 (mostS agg k cap)) ∧ w' = w := by
  rw [show mostS agg k cap = 0 by unfold mostS; rw [if_neg (fun a => by have := a.2.2.2.1; omega)]]
  have PA := fun w => rmayaggD agg w
  rw [decide_eq_true hA] at PA
  replace PA := Lib.hid PA
  have PG := fun w => rmayk k w
  rw [decide_eq_true hK] at PG
  replace PG := Lib.hid PG
  have t0 : decide (cap < 1) = true := decide_eq_true h
  go_enter Try.func27, Try.ntmps27
  go_wp2_with (first | (go_at_call 40; with_reducible refine (PA.out _).mono ?_; rintro e w9 ⟨rfl, h9⟩; obtain rfl := h9.symm) | (go_at_call 42; with_reducible refine (PG.out _).mono ?_; rintro e w9 ⟨rfl, h9⟩; obtain rfl := h9.symm))
  go_ret
  exact ⟨rfl, rfl⟩
theorem rsmost_d (agg k cap : Int) (w : World) (hA : 1 ≤ agg ∧ agg ≤ 4) (hK : 1 ≤ k ∧ k ≤ 64) (h0 : 1 ≤ cap) (h : 65536 < cap) : Calls Try.prog 27 #[.int .i64 agg, .int .i64 k, .int .i64 cap] w fun e w' => e = .returned (.int .i64 (mostS agg k cap)) ∧ w' = w := by
  rw [show mostS agg k cap = 0 by unfold mostS; rw [if_neg (fun a => by have := a.2.2.2.2; omega)]]
  have PA := fun w => rmayaggD agg w
  rw [decide_eq_true hA] at PA
  replace PA := Lib.hid PA
  have PG := fun w => rmayk k w
  rw [decide_eq_true hK] at PG
  replace PG := Lib.hid PG
  have t0 : ¬ cap < 1 := by omega
  have t1 : 65536 < cap := h
  go_enter Try.func27, Try.ntmps27
  go_wp2_with (first | (go_at_call 40; with_reducible refine (PA.out _).mono ?_; rintro e w9 ⟨rfl, h9⟩; obtain rfl := h9.symm) | (go_at_call 42; with_reducible refine (PG.out _).mono ?_; rintro e w9 ⟨rfl, h9⟩; obtain rfl := h9.symm))
  go_ret
  exact ⟨rfl, rfl⟩
theorem rsmost_no (agg k cap : Int) (w : World) (h : ¬ ((1 ≤ agg ∧ agg ≤ 4) ∧ 1 ≤ k ∧ k ≤ 64 ∧ 1 ≤ cap ∧ cap ≤ 65536)) : Calls Try.prog 27 #[.int .i64 agg, .int .i64 k, .int .i64 cap] w fun e w' => e = .returned (.int .i64 (mostS agg k cap)) ∧ w' = w := by
  by_cases hA : 1 ≤ agg ∧ agg ≤ 4
  · by_cases hK : 1 ≤ k ∧ k ≤ 64
    · by_cases h1 : cap < 1
      · exact rsmost_c agg k cap w hA hK h1
      · exact rsmost_d agg k cap w hA hK (by omega) (by omega)
    · exact rsmost_b agg k cap w hA hK
  · exact rsmost_a agg k cap w hA
theorem psmost (agg k cap : Int) (w : World) : Calls Try.prog 26 #[.int .i64 agg, .int .i64 k, .int .i64 cap] w fun e w' => e = .returned (.int .i64 (mostS agg k cap)) ∧ w' = w := by
  by_cases hA : 1 ≤ agg ∧ agg ≤ 4
  · by_cases h : 1 ≤ k ∧ k ≤ 64 ∧ 1 ≤ cap ∧ cap ≤ 65536
    · have h4 : agg = 1 ∨ agg = 2 ∨ agg = 3 ∨ agg = 4 := by omega
      rcases h4 with rfl | rfl | rfl | rfl
      · exact psmost_1 k cap w h
      · exact psmost_2 k cap w h
      · exact psmost_3 k cap w h
      · exact psmost_4 k cap w h
    · exact psmost_no agg k cap w (fun a => h a.2)
  · exact psmost_no agg k cap w (fun a => hA a.1)
theorem rsmost (agg k cap : Int) (w : World) : Calls Try.prog 27 #[.int .i64 agg, .int .i64 k, .int .i64 cap] w fun e w' => e = .returned (.int .i64 (mostS agg k cap)) ∧ w' = w := by
  by_cases hA : 1 ≤ agg ∧ agg ≤ 4
  · by_cases h : 1 ≤ k ∧ k ≤ 64 ∧ 1 ≤ cap ∧ cap ≤ 65536
    · have h4 : agg = 1 ∨ agg = 2 ∨ agg = 3 ∨ agg = 4 := by omega
      rcases h4 with rfl | rfl | rfl | rfl
      · exact rsmost_1 k cap w h
      · exact rsmost_2 k cap w h
      · exact rsmost_3 k cap w h
      · exact rsmost_4 k cap w h
    · exact rsmost_no agg k cap w (fun a => h a.2)
  · exact rsmost_no agg k cap w (fun a => hA a.1)
set_option maxRecDepth 100000 in
set_option maxHeartbeats 4000000 in
theorem smoothNew_flat (agg wd k cap now : Int) (sq tk n s q lo hi : Int) (w : World) (hm : M64 ⟨sq, tk, n, s, q, lo, hi⟩) : Calls Try.prog 7 #[.int .i64 agg, .int .i64 wd, .int .i64 k, .int .i64 cap, .int .i64 now, .agg #[.int .i64 sq, .int .i64 tk, .int .i64 n, .int .i64 s, .int .i64 q, .int .i64 lo, .int .i64 hi]] w fun e w' => e = .returned (.bool true) ∧ Below w.heap.size w w' := by
  have PO := fun w => pofm agg ⟨sq, tk, n, s, q, lo, hi⟩ w hm
  have RO := fun w => rofm agg ⟨sq, tk, n, s, q, lo, hi⟩ w hm
  generalize ofV agg ⟨sq, tk, n, s, q, lo, hi⟩ = ov at PO RO
  dsimp only at PO RO
  have PM := fun w => psmost agg k cap w
  have RM := fun w => rsmost agg k cap w
  generalize mostS agg k cap = mv at PM RM
  have P1 := fun w => psmnew agg wd k cap now w
  have P2 := fun w => rsmnew agg wd k cap now w
  generalize smNew agg wd k cap now = r at P1 P2
  obtain ⟨ra, rw, rk, rc, rn, rs, ms, rf⟩ := r
  replace PO := Lib.hid PO
  replace RO := Lib.hid RO
  replace PM := Lib.hid PM
  replace RM := Lib.hid RM
  replace P1 := Lib.hid P1
  replace P2 := Lib.hid P2
  clear hm
  go_enter Try.func7, Try.ntmps7
  go_wp2_with fail
  have M : Row (w.alloc (.cells #[.int .i64 sq, .int .i64 tk, .int .i64 n, .int .i64 s, .int .i64 q, .int .i64 lo, .int .i64 hi] 43)) w.heap.size 43 #[.int .i64 sq, .int .i64 tk, .int .i64 n, .int .i64 s, .int .i64 q, .int .i64 lo, .int .i64 hi] := row_new rfl
  have o : Below w.heap.size w (w.alloc (.cells #[.int .i64 sq, .int .i64 tk, .int .i64 n, .int .i64 s, .int .i64 q, .int .i64 lo, .int .i64 hi] 43)) := by (repeat (first | exact Below.refl _ _ | refine Below.setCell ?_ (by first | (simp; done) | (simp; omega) | omega) _ | refine Below.alloc ?_ (by first | (simp; done) | (simp; omega) | omega) _ | refine Below.drew ?_ | refine Below.trans ?_ (Below.mono (by assumption) (by first | (simp; done) | (simp; omega) | omega))))
  generalize (w.alloc (.cells #[.int .i64 sq, .int .i64 tk, .int .i64 n, .int .i64 s, .int .i64 q, .int .i64 lo, .int .i64 hi] 43)) = w1 at M o ⊢
  refine (P1.out _).mono ?_
  intro e w2 hq
  obtain ⟨A3, m3, c3, rfl, in3, hb2, fr3⟩ := hq
  dsimp only at in3
  clear fr3 P1
  replace M := row_call M hb2
  replace o := o.trans (hb2.mono o.size)
  clear hb2
  go_upto_region 2 with (fail)
  have Y : Row (w2.alloc (.cells #[.int .i64 ra, .int .i64 rw, .int .i64 rk, .int .i64 rc, .int .i64 rn, .int .i64 rs, .slice A3 m3 c3] 24)) w2.heap.size 24 #[.int .i64 ra, .int .i64 rw, .int .i64 rk, .int .i64 rc, .int .i64 rn, .int .i64 rs, .slice A3 m3 c3] := row_new rfl
  replace M := row_alloc M (.cells #[.int .i64 ra, .int .i64 rw, .int .i64 rk, .int .i64 rc, .int .i64 rn, .int .i64 rs, .slice A3 m3 c3] 24)
  replace in3 := in3.below ((Below.refl _ _).alloc (Nat.le_refl _) (.cells #[.int .i64 ra, .int .i64 rw, .int .i64 rk, .int .i64 rc, .int .i64 rn, .int .i64 rs, .slice A3 m3 c3] 24))
  replace o := o.alloc o.size (.cells #[.int .i64 ra, .int .i64 rw, .int .i64 rk, .int .i64 rc, .int .i64 rn, .int .i64 rs, .slice A3 m3 c3] 24)
  generalize (w2.alloc (.cells #[.int .i64 ra, .int .i64 rw, .int .i64 rk, .int .i64 rc, .int .i64 rn, .int .i64 rs, .slice A3 m3 c3] 24)) = w3 at M Y in3 o ⊢
  generalize w2.heap.size = yb at Y ⊢
  have IN3 := Lib.hid in3
  clear in3
  go_wp2_with fail
  refine (P2.out _).mono ?_
  intro e w4 hq
  obtain ⟨A4, m4, c4, rfl, in4, hb4, fr4⟩ := hq
  dsimp only at in4
  clear fr4 P2
  replace M := row_call M hb4
  replace Y := row_call Y hb4
  have in3 := IN3.out.below hb4
  replace o := o.trans (hb4.mono o.size)
  clear hb4 IN3
  go_upto_region 3 with (fail)
  have Z : Row (w4.alloc (.cells #[.int .i64 ra, .int .i64 rw, .int .i64 rk, .int .i64 rc, .int .i64 rn, .int .i64 rs, .slice A4 m4 c4] 24)) w4.heap.size 24 #[.int .i64 ra, .int .i64 rw, .int .i64 rk, .int .i64 rc, .int .i64 rn, .int .i64 rs, .slice A4 m4 c4] := row_new rfl
  replace M := row_alloc M (.cells #[.int .i64 ra, .int .i64 rw, .int .i64 rk, .int .i64 rc, .int .i64 rn, .int .i64 rs, .slice A4 m4 c4] 24)
  replace Y := row_alloc Y (.cells #[.int .i64 ra, .int .i64 rw, .int .i64 rk, .int .i64 rc, .int .i64 rn, .int .i64 rs, .slice A4 m4 c4] 24)
  replace in3 := in3.below ((Below.refl _ _).alloc (Nat.le_refl _) (.cells #[.int .i64 ra, .int .i64 rw, .int .i64 rk, .int .i64 rc, .int .i64 rn, .int .i64 rs, .slice A4 m4 c4] 24))
  replace in4 := in4.below ((Below.refl _ _).alloc (Nat.le_refl _) (.cells #[.int .i64 ra, .int .i64 rw, .int .i64 rk, .int .i64 rc, .int .i64 rn, .int .i64 rs, .slice A4 m4 c4] 24))
  replace o := o.alloc o.size (.cells #[.int .i64 ra, .int .i64 rw, .int .i64 rk, .int .i64 rc, .int .i64 rn, .int .i64 rs, .slice A4 m4 c4] 24)
  generalize (w4.alloc (.cells #[.int .i64 ra, .int .i64 rw, .int .i64 rk, .int .i64 rc, .int .i64 rn, .int .i64 rs, .slice A4 m4 c4] 24)) = w5 at M Y Z in3 in4 o ⊢
  generalize w4.heap.size = zb at Z ⊢
  have PS := Lib.hid (fun w' (hb : Below w5.heap.size w5 w') => rsameS ra rw rk rc rn rs A3 m3 c3 A4 m4 c4 ms w' (in3.below hb) (in4.below hb))
  clear in3 in4
  have o0 := o
  replace o : Below w5.heap.size w5 w5 := Below.refl _ _
  refine wp_region_free0 [0, 1, 2, 3, 4, 5, 6, 7, 8, 9, 10, 11, 12, 13, 14, 15, 16, 17, 18, 19, 20, 21, 22, 23, 24, 25, 26, 27, 28, 29, 30] [] [0, 1, 2, 3, 4, 5, 6, 7, 8, 9, 10, 11, 12, 13, 14, 15, 16, 17, 18, 19, 20, 21, 22, 23, 24, 25, 26, 27, 28, 29, 30] 31 (fun w' => Row w' (w.heap.size) 43 #[.int .i64 sq, .int .i64 tk, .int .i64 n, .int .i64 s, .int .i64 q, .int .i64 lo, .int .i64 hi] ∧ Row w' (yb) 24 #[.int .i64 ra, .int .i64 rw, .int .i64 rk, .int .i64 rc, .int .i64 rn, .int .i64 rs, .slice A3 m3 c3] ∧ Row w' (zb) 24 #[.int .i64 ra, .int .i64 rw, .int .i64 rk, .int .i64 rc, .int .i64 rn, .int .i64 rs, .slice A4 m4 c4] ∧ Below w5.heap.size w5 w') (by kernel_rfl) (by kernel_rfl) (fun _ _ d _ _ h => by cases d <;> exact h) ?_ ?_
  · exact ⟨M, Y, Z, o.drew⟩
  (refine plan_val ?_ rfl rfl rfl (fun w' hS => ?_) ?_; rotate_left; (obtain ⟨M0, M1, M2, M3, M4, M5, M6, Mf0, Mf1, Mf2, Mf3, Mf4, Mf5, Mf6⟩ := row_seven hS.1; obtain ⟨Y0, Y1, Y2, Y3, Y4, Y5, Y6, Yf0, Yf1, Yf2, Yf3, Yf4, Yf5, Yf6⟩ := row_seven hS.2.1; obtain ⟨Z0, Z1, Z2, Z3, Z4, Z5, Z6, Zf0, Zf1, Zf2, Zf3, Zf4, Zf5, Zf6⟩ := row_seven hS.2.2.1; go_simp; try with_reducible rfl); simp only [Act.put, List.setIfInBounds_toArray, List.set_cons_zero, List.set_cons_succ])
  (refine plan_val ?_ rfl rfl rfl (fun w' hS => ?_) ?_; rotate_left; (obtain ⟨M0, M1, M2, M3, M4, M5, M6, Mf0, Mf1, Mf2, Mf3, Mf4, Mf5, Mf6⟩ := row_seven hS.1; obtain ⟨Y0, Y1, Y2, Y3, Y4, Y5, Y6, Yf0, Yf1, Yf2, Yf3, Yf4, Yf5, Yf6⟩ := row_seven hS.2.1; obtain ⟨Z0, Z1, Z2, Z3, Z4, Z5, Z6, Zf0, Zf1, Zf2, Zf3, Zf4, Zf5, Zf6⟩ := row_seven hS.2.2.1; go_simp; try with_reducible rfl); simp only [Act.put, List.setIfInBounds_toArray, List.set_cons_zero, List.set_cons_succ])
  refine plan_call (.bool true) 16 #[.agg #[.int .i64 ra, .int .i64 rw, .int .i64 rk, .int .i64 rc, .int .i64 rn, .int .i64 rs, .slice A3 m3 c3], .agg #[.int .i64 ra, .int .i64 rw, .int .i64 rk, .int .i64 rc, .int .i64 rn, .int .i64 rs, .slice A4 m4 c4]] rfl rfl rfl (fun _ _ h hb => ⟨row_call h.1 hb, row_call h.2.1 hb, row_call h.2.2.1 hb, h.2.2.2.trans (hb.mono h.2.2.2.size)⟩) (fun w' hS => by obtain ⟨M0, M1, M2, M3, M4, M5, M6, Mf0, Mf1, Mf2, Mf3, Mf4, Mf5, Mf6⟩ := row_seven hS.1; obtain ⟨Y0, Y1, Y2, Y3, Y4, Y5, Y6, Yf0, Yf1, Yf2, Yf3, Yf4, Yf5, Yf6⟩ := row_seven hS.2.1; obtain ⟨Z0, Z1, Z2, Z3, Z4, Z5, Z6, Zf0, Zf1, Zf2, Zf3, Zf4, Zf5, Zf6⟩ := row_seven hS.2.2.1; go_simp) (fun w' hS => PS.out w' hS.2.2.2) ?_
  simp only [Act.put, List.setIfInBounds_toArray, List.set_cons_zero, List.set_cons_succ]
  (refine plan_pure ?_ rfl rfl (fun w' => ?_) ?_; rotate_left; (go_simp; try with_reducible rfl); simp only [Act.put, List.setIfInBounds_toArray, List.set_cons_zero, List.set_cons_succ])
  (refine plan_pure ?_ rfl rfl (fun w' => ?_) ?_; rotate_left; (go_simp; try with_reducible rfl); simp only [Act.put, List.setIfInBounds_toArray, List.set_cons_zero, List.set_cons_succ])
  (refine plan_pure ?_ rfl rfl (fun w' => ?_) ?_; rotate_left; (go_simp; try with_reducible rfl); simp only [Act.put, List.setIfInBounds_toArray, List.set_cons_zero, List.set_cons_succ])
  (refine plan_pure ?_ rfl rfl (fun w' => ?_) ?_; rotate_left; (go_simp; try with_reducible rfl); simp only [Act.put, List.setIfInBounds_toArray, List.set_cons_zero, List.set_cons_succ])
  (refine plan_pure ?_ rfl rfl (fun w' => ?_) ?_; rotate_left; (go_simp; try with_reducible rfl); simp only [Act.put, List.setIfInBounds_toArray, List.set_cons_zero, List.set_cons_succ])
  (refine plan_pure ?_ rfl rfl (fun w' => ?_) ?_; rotate_left; (go_simp; try with_reducible rfl); simp only [Act.put, List.setIfInBounds_toArray, List.set_cons_zero, List.set_cons_succ])
  (refine plan_val ?_ rfl rfl rfl (fun w' hS => ?_) ?_; rotate_left; (obtain ⟨M0, M1, M2, M3, M4, M5, M6, Mf0, Mf1, Mf2, Mf3, Mf4, Mf5, Mf6⟩ := row_seven hS.1; obtain ⟨Y0, Y1, Y2, Y3, Y4, Y5, Y6, Yf0, Yf1, Yf2, Yf3, Yf4, Yf5, Yf6⟩ := row_seven hS.2.1; obtain ⟨Z0, Z1, Z2, Z3, Z4, Z5, Z6, Zf0, Zf1, Zf2, Zf3, Zf4, Zf5, Zf6⟩ := row_seven hS.2.2.1; go_simp; try with_reducible rfl); simp only [Act.put, List.setIfInBounds_toArray, List.set_cons_zero, List.set_cons_succ])
  (refine plan_pure ?_ rfl rfl (fun w' => ?_) ?_; rotate_left; (go_simp; try with_reducible rfl); simp only [Act.put, List.setIfInBounds_toArray, List.set_cons_zero, List.set_cons_succ])
  refine plan_call (.int .i64 ov) 24 #[.agg #[.int .i64 sq, .int .i64 tk, .int .i64 n, .int .i64 s, .int .i64 q, .int .i64 lo, .int .i64 hi], .int .i64 agg] rfl rfl rfl (fun _ _ h hb => ⟨row_call h.1 hb, row_call h.2.1 hb, row_call h.2.2.1 hb, h.2.2.2.trans (hb.mono h.2.2.2.size)⟩) (fun w' hS => by obtain ⟨M0, M1, M2, M3, M4, M5, M6, Mf0, Mf1, Mf2, Mf3, Mf4, Mf5, Mf6⟩ := row_seven hS.1; obtain ⟨Y0, Y1, Y2, Y3, Y4, Y5, Y6, Yf0, Yf1, Yf2, Yf3, Yf4, Yf5, Yf6⟩ := row_seven hS.2.1; obtain ⟨Z0, Z1, Z2, Z3, Z4, Z5, Z6, Zf0, Zf1, Zf2, Zf3, Zf4, Zf5, Zf6⟩ := row_seven hS.2.2.1; go_simp) (fun w' hS => PO.out w') ?_
  simp only [Act.put, List.setIfInBounds_toArray, List.set_cons_zero, List.set_cons_succ]
  (refine plan_val ?_ rfl rfl rfl (fun w' hS => ?_) ?_; rotate_left; (obtain ⟨M0, M1, M2, M3, M4, M5, M6, Mf0, Mf1, Mf2, Mf3, Mf4, Mf5, Mf6⟩ := row_seven hS.1; obtain ⟨Y0, Y1, Y2, Y3, Y4, Y5, Y6, Yf0, Yf1, Yf2, Yf3, Yf4, Yf5, Yf6⟩ := row_seven hS.2.1; obtain ⟨Z0, Z1, Z2, Z3, Z4, Z5, Z6, Zf0, Zf1, Zf2, Zf3, Zf4, Zf5, Zf6⟩ := row_seven hS.2.2.1; go_simp; try with_reducible rfl); simp only [Act.put, List.setIfInBounds_toArray, List.set_cons_zero, List.set_cons_succ])
  (refine plan_pure ?_ rfl rfl (fun w' => ?_) ?_; rotate_left; (go_simp; try with_reducible rfl); simp only [Act.put, List.setIfInBounds_toArray, List.set_cons_zero, List.set_cons_succ])
  refine plan_call (.int .i64 ov) 25 #[.agg #[.int .i64 sq, .int .i64 tk, .int .i64 n, .int .i64 s, .int .i64 q, .int .i64 lo, .int .i64 hi], .int .i64 agg] rfl rfl rfl (fun _ _ h hb => ⟨row_call h.1 hb, row_call h.2.1 hb, row_call h.2.2.1 hb, h.2.2.2.trans (hb.mono h.2.2.2.size)⟩) (fun w' hS => by obtain ⟨M0, M1, M2, M3, M4, M5, M6, Mf0, Mf1, Mf2, Mf3, Mf4, Mf5, Mf6⟩ := row_seven hS.1; obtain ⟨Y0, Y1, Y2, Y3, Y4, Y5, Y6, Yf0, Yf1, Yf2, Yf3, Yf4, Yf5, Yf6⟩ := row_seven hS.2.1; obtain ⟨Z0, Z1, Z2, Z3, Z4, Z5, Z6, Zf0, Zf1, Zf2, Zf3, Zf4, Zf5, Zf6⟩ := row_seven hS.2.2.1; go_simp) (fun w' hS => RO.out w') ?_
  simp only [Act.put, List.setIfInBounds_toArray, List.set_cons_zero, List.set_cons_succ]
  (refine plan_pure ?_ rfl rfl (fun w' => ?_) ?_; rotate_left; (go_simp; try with_reducible rfl); simp only [Act.put, List.setIfInBounds_toArray, List.set_cons_zero, List.set_cons_succ])
  (refine plan_pure ?_ rfl rfl (fun w' => ?_) ?_; rotate_left; (go_simp; try with_reducible rfl); simp only [Act.put, List.setIfInBounds_toArray, List.set_cons_zero, List.set_cons_succ])
  (refine plan_pure ?_ rfl rfl (fun w' => ?_) ?_; rotate_left; (go_simp; try with_reducible rfl); simp only [Act.put, List.setIfInBounds_toArray, List.set_cons_zero, List.set_cons_succ])
  (refine plan_pure ?_ rfl rfl (fun w' => ?_) ?_; rotate_left; (go_simp; try with_reducible rfl); simp only [Act.put, List.setIfInBounds_toArray, List.set_cons_zero, List.set_cons_succ])
  (refine plan_pure ?_ rfl rfl (fun w' => ?_) ?_; rotate_left; (go_simp; try with_reducible rfl); simp only [Act.put, List.setIfInBounds_toArray, List.set_cons_zero, List.set_cons_succ])
  (refine plan_pure ?_ rfl rfl (fun w' => ?_) ?_; rotate_left; (go_simp; try with_reducible rfl); simp only [Act.put, List.setIfInBounds_toArray, List.set_cons_zero, List.set_cons_succ])
  refine plan_call (.int .i64 mv) 26 #[.int .i64 agg, .int .i64 k, .int .i64 cap] rfl rfl rfl (fun _ _ h hb => ⟨row_call h.1 hb, row_call h.2.1 hb, row_call h.2.2.1 hb, h.2.2.2.trans (hb.mono h.2.2.2.size)⟩) (fun w' hS => by obtain ⟨M0, M1, M2, M3, M4, M5, M6, Mf0, Mf1, Mf2, Mf3, Mf4, Mf5, Mf6⟩ := row_seven hS.1; obtain ⟨Y0, Y1, Y2, Y3, Y4, Y5, Y6, Yf0, Yf1, Yf2, Yf3, Yf4, Yf5, Yf6⟩ := row_seven hS.2.1; obtain ⟨Z0, Z1, Z2, Z3, Z4, Z5, Z6, Zf0, Zf1, Zf2, Zf3, Zf4, Zf5, Zf6⟩ := row_seven hS.2.2.1; go_simp) (fun w' hS => below_of_same (PM.out w')) ?_
  simp only [Act.put, List.setIfInBounds_toArray, List.set_cons_zero, List.set_cons_succ]
  (refine plan_pure ?_ rfl rfl (fun w' => ?_) ?_; rotate_left; (go_simp; try with_reducible rfl); simp only [Act.put, List.setIfInBounds_toArray, List.set_cons_zero, List.set_cons_succ])
  (refine plan_pure ?_ rfl rfl (fun w' => ?_) ?_; rotate_left; (go_simp; try with_reducible rfl); simp only [Act.put, List.setIfInBounds_toArray, List.set_cons_zero, List.set_cons_succ])
  (refine plan_pure ?_ rfl rfl (fun w' => ?_) ?_; rotate_left; (go_simp; try with_reducible rfl); simp only [Act.put, List.setIfInBounds_toArray, List.set_cons_zero, List.set_cons_succ])
  refine plan_call (.int .i64 mv) 27 #[.int .i64 agg, .int .i64 k, .int .i64 cap] rfl rfl rfl (fun _ _ h hb => ⟨row_call h.1 hb, row_call h.2.1 hb, row_call h.2.2.1 hb, h.2.2.2.trans (hb.mono h.2.2.2.size)⟩) (fun w' hS => by obtain ⟨M0, M1, M2, M3, M4, M5, M6, Mf0, Mf1, Mf2, Mf3, Mf4, Mf5, Mf6⟩ := row_seven hS.1; obtain ⟨Y0, Y1, Y2, Y3, Y4, Y5, Y6, Yf0, Yf1, Yf2, Yf3, Yf4, Yf5, Yf6⟩ := row_seven hS.2.1; obtain ⟨Z0, Z1, Z2, Z3, Z4, Z5, Z6, Zf0, Zf1, Zf2, Zf3, Zf4, Zf5, Zf6⟩ := row_seven hS.2.2.1; go_simp) (fun w' hS => below_of_same (RM.out w')) ?_
  simp only [Act.put, List.setIfInBounds_toArray, List.set_cons_zero, List.set_cons_succ]
  (refine plan_pure ?_ rfl rfl (fun w' => ?_) ?_; rotate_left; (go_simp; try with_reducible rfl); simp only [Act.put, List.setIfInBounds_toArray, List.set_cons_zero, List.set_cons_succ])
  (refine plan_pure ?_ rfl rfl (fun w' => ?_) ?_; rotate_left; (go_simp; try with_reducible rfl); simp only [Act.put, List.setIfInBounds_toArray, List.set_cons_zero, List.set_cons_succ])
  (refine plan_pure ?_ rfl rfl (fun w' => ?_) ?_; rotate_left; (go_simp; try with_reducible rfl); simp only [Act.put, List.setIfInBounds_toArray, List.set_cons_zero, List.set_cons_succ])
  refine plan_call (.bool true) 11 #[] rfl rfl rfl (fun _ _ h hb => ⟨row_call h.1 hb, row_call h.2.1 hb, row_call h.2.2.1 hb, h.2.2.2.trans (hb.mono h.2.2.2.size)⟩) (fun w' hS => by obtain ⟨M0, M1, M2, M3, M4, M5, M6, Mf0, Mf1, Mf2, Mf3, Mf4, Mf5, Mf6⟩ := row_seven hS.1; obtain ⟨Y0, Y1, Y2, Y3, Y4, Y5, Y6, Yf0, Yf1, Yf2, Yf3, Yf4, Yf5, Yf6⟩ := row_seven hS.2.1; obtain ⟨Z0, Z1, Z2, Z3, Z4, Z5, Z6, Zf0, Zf1, Zf2, Zf3, Zf4, Zf5, Zf6⟩ := row_seven hS.2.2.1; go_simp) (fun w' hS => awake13 w') ?_
  simp only [Act.put, List.setIfInBounds_toArray, List.set_cons_zero, List.set_cons_succ]
  (refine plan_pure ?_ rfl rfl (fun w' => ?_) ?_; rotate_left; (go_simp; try with_reducible rfl); simp only [Act.put, List.setIfInBounds_toArray, List.set_cons_zero, List.set_cons_succ])
  refine plan_nil ?_
  intro w6 L
  simp only [List.drop_succ_cons, List.drop_zero]
  try simp only [Act.put, List.setIfInBounds_toArray, List.set_cons_zero, List.set_cons_succ]
  have o2 := o0.trans (L.2.2.2.mono o0.size)
  clear L M Y Z o
  go_wp2
  go_ret
  exact ⟨rfl, o2⟩
theorem smoothNew (agg wd k cap now : Int) (m : Mk) (w : World) (hm : M64 m) : Calls Try.prog 7 #[.int .i64 agg, .int .i64 wd, .int .i64 k, .int .i64 cap, .int .i64 now, .agg #[.int .i64 m.seq, .int .i64 m.t, .int .i64 m.n, .int .i64 m.s, .int .i64 m.q, .int .i64 m.lo, .int .i64 m.hi]] w fun e w' => e = .returned (.bool true) ∧ Below w.heap.size w w' := smoothNew_flat agg wd k cap now m.seq m.t m.n m.s m.q m.lo m.hi w hm
end Go.Proofs.Ythknkdjpfanlnaa
