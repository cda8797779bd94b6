/- What makes arguments out of any numbers, walked. -/
import Derived.Test.YtdibjlphcmjnoaaProg
import Derived.WalkSpells
import Derived.Test.YtdibjlphcmjnoaaVec
import Derived.Test.YtdibjlphcmjnoaaFree
import Derived.Lib.Hide
import Derived.Deep.Cut
import Derived.IntWalk
set_option linter.unusedVariables false
set_option linter.unusedSimpArgs false
set_option linter.unusedSectionVars false
set_option linter.unnecessarySimpa false
namespace Go.Proofs.Ytdibjlphcmjnoaa
open Go.RowKit
theorem tmod_mod {a n : Int} (hn : 1 ≤ n) : a % n = if a.tmod n < 0 then a.tmod n + n else a.tmod n := by
  rw [Int.tmod_eq_emod]
  have h0 := Int.emod_nonneg a (show n ≠ 0 by omega)
  have h1 := Int.emod_lt_of_pos a (show 0 < n by omega)
  have hd : n.natAbs = n := by omega
  split
  · rw [if_neg (by omega)]
    omega
  · rename_i h
    rw [not_or] at h
    have h2 : a % n ≠ 0 := fun e => h.2 (Int.dvd_of_emod_eq_zero e)
    rw [if_pos (by omega)]
    omega
theorem tmod_bd {a n : Int} (hn : 1 ≤ n) : -n < a.tmod n ∧ a.tmod n < n := by
  have := tmod_mod (a := a) hn
  have h0 := Int.emod_nonneg a (show n ≠ 0 by omega)
  have h1 := Int.emod_lt_of_pos a (show 0 < n by omega)
  rw [Int.tmod_eq_emod]
  have hd : n.natAbs = n := by omega
  split
  · omega
  · rename_i h
    rw [not_or] at h
    have h2 : a % n ≠ 0 := fun e => h.2 (Int.dvd_of_emod_eq_zero e)
    omega
theorem pmod (a n : Int) (hn : 1 ≤ n) (hn2 : n ≤ 4611686018427387904) (w : World) : Calls Try.prog 31 #[.int .i64 a, .int .i64 n] w fun e w' => e = .returned (.int .i64 (a % n)) ∧ w' = w := by
  rw [tmod_mod hn]
  have hb := tmod_bd (a := a) hn
  have hz : n ≠ 0 := by omega
  have hm1 : ¬ n = -1 := by omega
  obtain ⟨b1, b2⟩ := hb
  have hw : IntKind.i64.wrap (a.tmod n) = a.tmod n := IntWalk.i64_in _ (by omega)
  by_cases h : a.tmod n < 0
  · rw [if_pos h]
    have hw2 : IntKind.i64.wrap (a.tmod n + n) = a.tmod n + n := IntWalk.i64_in _ (by omega)
    go_enter Try.func31, Try.ntmps31
    go_wp2
    go_ret
    exact ⟨by first | rfl | simp_all, rfl⟩
  · rw [if_neg h]
    have h' : 0 ≤ a.tmod n := by omega
    go_enter Try.func31, Try.ntmps31
    go_wp2
    go_ret
    exact ⟨by first | rfl | simp_all, rfl⟩
theorem pint (a n : Int) (hn : 1 ≤ n) (hn2 : n ≤ 4611686018427387904) (w : World) : Calls Try.prog 21 #[.int .i64 a, .int .i64 n] w fun e w' => e = .returned (.int .i64 (a % n)) ∧ w' = w := by
  have PM := Lib.hid (fun w => pmod a n hn hn2 w)
  have h0 := Int.emod_nonneg a (show n ≠ 0 by omega)
  have h1 := Int.emod_lt_of_pos a (show 0 < n by omega)
  generalize a % n = r at PM h0 h1 ⊢
  go_enter Try.func21, Try.ntmps21
  go_wp2_with (go_at_call 31; with_reducible refine (PM.out _).mono ?_; rintro e w9 ⟨rfl, rfl⟩)
  go_ret
  exact ⟨rfl, rfl⟩
/-- The value that a number is turned into. -/
def mval (a : Int) : Int := if a % 8 = 0 then a.tdiv 8 % 8193 - 4096 else if a % 8 = 1 then 4096 * (2 * (a.tdiv 8 % 2) - 1) else a.tdiv 8 % 13 - 6
theorem mval_bd (a : Int) : -4096 ≤ mval a ∧ mval a ≤ 4096 := by unfold mval; split <;> (try split) <;> omega
/-- The step of the clock that a number is turned into. -/
def mgap (a w : Int) : Int := if a % 8 = 0 then a.tdiv 8 % (2 * w + 2) else if a % 8 = 1 ∨ a % 8 = 2 then 1 + a.tdiv 8 % 3 else 0
theorem mgap_bd (a : Int) {w : Int} (hw : 1 ≤ w) : 0 ≤ mgap a w ∧ mgap a w ≤ 2 * w + 1 := by
  unfold mgap
  have h0 := Int.emod_nonneg (a.tdiv 8) (show 2 * w + 2 ≠ 0 by omega)
  have h1 := Int.emod_lt_of_pos (a.tdiv 8) (show 0 < 2 * w + 2 by omega)
  split <;> (try split) <;> omega
theorem tdiv8_bd {a : Int} (h : -9223372036854775808 ≤ a ∧ a ≤ 9223372036854775807) : -9223372036854775808 ≤ a.tdiv 8 ∧ a.tdiv 8 ≤ 9223372036854775807 := by
  rw [Int.tdiv_eq_ediv, show Int.sign 8 = 1 from rfl]
  split <;> omega
theorem pval_0 (a : Int) (ha : -9223372036854775808 ≤ a ∧ a ≤ 9223372036854775807) (h : a % 8 = 0) (w0 : World) : Calls Try.prog 41 #[.int .i64 a] w0 fun e w' => e = .returned (.int .i64 (mval a)) ∧ w' = w0 := by
  rw [mval, if_pos h]
  have hbb := tdiv8_bd ha
  have hw : IntKind.i64.wrap (a.tdiv 8) = a.tdiv 8 := IntWalk.i64_in _ hbb
  have P8 := fun w => pmod a 8 (by decide) (by decide) w
  rw [h] at P8
  have PB := fun w => pmod (a.tdiv 8) 8193 (by decide) (by decide) w
  have b0 := Int.emod_nonneg (a.tdiv 8) (show (8193 : Int) ≠ 0 by decide)
  have b1 := Int.emod_lt_of_pos (a.tdiv 8) (show (0 : Int) < 8193 by decide)
  generalize a.tdiv 8 % 8193 = q at PB b0 b1 ⊢
  have P8 := Lib.hid P8
  have PB := Lib.hid PB
  clear h hbb
  go_enter Try.func41, Try.ntmps41
  go_wp2_with (first | (go_at_call 31; with_reducible refine (P8.out _).mono ?_; rintro e w9 ⟨rfl, rfl⟩) | (go_at_call 31; with_reducible refine (PB.out _).mono ?_; rintro e w9 ⟨rfl, rfl⟩))
  go_ret
  exact ⟨rfl, rfl⟩
theorem pval_1 (a : Int) (ha : -9223372036854775808 ≤ a ∧ a ≤ 9223372036854775807) (h0 : ¬ a % 8 = 0) (h : a % 8 = 1) (w0 : World) : Calls Try.prog 41 #[.int .i64 a] w0 fun e w' => e = .returned (.int .i64 (mval a)) ∧ w' = w0 := by
  rw [mval, if_neg h0, if_pos h]
  have hbb := tdiv8_bd ha
  have hw : IntKind.i64.wrap (a.tdiv 8) = a.tdiv 8 := IntWalk.i64_in _ hbb
  have P8 := fun w => pmod a 8 (by decide) (by decide) w
  rw [h] at P8
  have PB := fun w => pmod (a.tdiv 8) 2 (by decide) (by decide) w
  have b0 := Int.emod_nonneg (a.tdiv 8) (show (2 : Int) ≠ 0 by decide)
  have b1 := Int.emod_lt_of_pos (a.tdiv 8) (show (0 : Int) < 2 by decide)
  generalize a.tdiv 8 % 2 = q at PB b0 b1 ⊢
  have P8 := Lib.hid P8
  have PB := Lib.hid PB
  clear h0 h hbb
  go_enter Try.func41, Try.ntmps41
  go_wp2_with (first | (go_at_call 31; with_reducible refine (P8.out _).mono ?_; rintro e w9 ⟨rfl, rfl⟩) | (go_at_call 31; with_reducible refine (PB.out _).mono ?_; rintro e w9 ⟨rfl, rfl⟩))
  go_ret
  exact ⟨rfl, rfl⟩
theorem pval_2 (a : Int) (ha : -9223372036854775808 ≤ a ∧ a ≤ 9223372036854775807) (h0 : ¬ a % 8 = 0) (h : ¬ a % 8 = 1) (w0 : World) : Calls Try.prog 41 #[.int .i64 a] w0 fun e w' => e = .returned (.int .i64 (mval a)) ∧ w' = w0 := by
  rw [mval, if_neg h0, if_neg h]
  have hbb := tdiv8_bd ha
  have hw : IntKind.i64.wrap (a.tdiv 8) = a.tdiv 8 := IntWalk.i64_in _ hbb
  have P8 := fun w => pmod a 8 (by decide) (by decide) w
  generalize a % 8 = r8 at P8 h0 h
  have c0 : (r8 == 0) = false := by simpa using h0
  have c1 : (r8 == 1) = false := by simpa using h
  have PB := fun w => pmod (a.tdiv 8) 13 (by decide) (by decide) w
  have b0 := Int.emod_nonneg (a.tdiv 8) (show (13 : Int) ≠ 0 by decide)
  have b1 := Int.emod_lt_of_pos (a.tdiv 8) (show (0 : Int) < 13 by decide)
  generalize a.tdiv 8 % 13 = q at PB b0 b1 ⊢
  have P8 := Lib.hid P8
  have PB := Lib.hid PB
  clear h0 h hbb
  go_enter Try.func41, Try.ntmps41
  go_wp2_with (first | (go_at_call 31; with_reducible refine (P8.out _).mono ?_; rintro e w9 ⟨rfl, rfl⟩) | (go_at_call 31; with_reducible refine (PB.out _).mono ?_; rintro e w9 ⟨rfl, rfl⟩))
  go_ret
  exact ⟨rfl, rfl⟩
theorem pval (a : Int) (ha : -9223372036854775808 ≤ a ∧ a ≤ 9223372036854775807) (w : World) : Calls Try.prog 41 #[.int .i64 a] w fun e w' => e = .returned (.int .i64 (mval a)) ∧ w' = w := by
  by_cases h0 : a % 8 = 0
  · exact pval_0 a ha h0 w
  · by_cases h1 : a % 8 = 1
    · exact pval_1 a ha h0 h1 w
    · exact pval_2 a ha h0 h1 w
end Go.Proofs.Ytdibjlphcmjnoaa
