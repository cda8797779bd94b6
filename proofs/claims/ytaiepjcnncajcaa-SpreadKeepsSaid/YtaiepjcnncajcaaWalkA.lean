/- Sums, differences and the order of wide numbers, walked: the program and the reference. -/
import Derived.Test.YtaiepjcnncajcaaBits
set_option linter.unusedVariables false
set_option linter.unusedSimpArgs false
set_option linter.unusedSectionVars false
set_option linter.unnecessarySimpa false
namespace Go.Proofs.Ytaiepjcnncajcaa
open Go.RowKit Go.Shelf

theorem padd_fits (a b : Nat) (ha : a < big) (hb : b < big) (h : a + b < big) (w : World) :
    Calls Try.prog 90 #[W a, W b] w fun e w' => e = .returned (.tuple #[W (a + b), .bool true]) ∧ Below w.heap.size w w' := by
  have e1 := add_lo a b
  have e2 := add_hi h
  have e3 := add_over h
  obtain ⟨a1, a2⟩ := hi_word ha
  obtain ⟨b1, b2⟩ := hi_word hb
  obtain ⟨c1, c2⟩ := lo_word a
  obtain ⟨d1, d2⟩ := lo_word b
  have k0 : 0 ≤ (lo a + lo b) / 18446744073709551616 := by omega
  have k1 : (lo a + lo b) / 18446744073709551616 ≤ 1 := by omega
  go_enter Try.func90, Try.ntmps90
  go_wp2_with (first | simp only [add64_0 (lo a) (lo b) c1 d1] | simp only [add64 (hi a) (hi b) _ a1 b1 k0 k1])
  simp [bodyPost, results, Try.results90, go_sem]
  exact ((((Below.refl _ _).alloc (Nat.le_refl _) _).alloc (by simp) _).alloc (by simp; omega) _)
theorem padd_over (a b : Nat) (ha : a < big) (hb : b < big) (h : ¬ a + b < big) (w : World) :
    Calls Try.prog 90 #[W a, W b] w fun e w' => e = .returned (.tuple #[W 0, .bool false]) ∧ Below w.heap.size w w' := by
  have e1 := add_lo a b
  have e3 := add_over1 ha hb h
  obtain ⟨a1, a2⟩ := hi_word ha
  obtain ⟨b1, b2⟩ := hi_word hb
  obtain ⟨c1, c2⟩ := lo_word a
  obtain ⟨d1, d2⟩ := lo_word b
  have k0 : 0 ≤ (lo a + lo b) / 18446744073709551616 := by omega
  have k1 : (lo a + lo b) / 18446744073709551616 ≤ 1 := by omega
  go_enter Try.func90, Try.ntmps90
  go_wp2_with (first | simp only [add64_0 (lo a) (lo b) c1 d1] | simp only [add64 (hi a) (hi b) _ a1 b1 k0 k1])
  simp [bodyPost, results, Try.results90, go_sem]
  exact ⟨⟨rfl, rfl⟩, ((((Below.refl _ _).alloc (Nat.le_refl _) _).alloc (by simp) _).alloc (by simp; omega) _)⟩
theorem radd_fits (a b : Nat) (ha : a < big) (hb : b < big) (h : a + b < big) (w : World) :
    Calls Try.prog 110 #[W a, W b] w fun e w' => e = .returned (.tuple #[W (a + b), .bool true]) ∧ Below w.heap.size w w' := by
  have e1 := add_lo a b
  have e2 := add_hi h
  have e3 := add_over h
  obtain ⟨a1, a2⟩ := hi_word ha
  obtain ⟨b1, b2⟩ := hi_word hb
  obtain ⟨c1, c2⟩ := lo_word a
  obtain ⟨d1, d2⟩ := lo_word b
  have k0 : 0 ≤ (lo a + lo b) / 18446744073709551616 := by omega
  have k1 : (lo a + lo b) / 18446744073709551616 ≤ 1 := by omega
  go_enter Try.func110, Try.ntmps110
  go_wp2_with (first | simp only [add64_0 (lo a) (lo b) c1 d1] | simp only [add64 (hi a) (hi b) _ a1 b1 k0 k1])
  simp [bodyPost, results, Try.results110, go_sem]
  exact ((((Below.refl _ _).alloc (Nat.le_refl _) _).alloc (by simp) _).alloc (by simp; omega) _)
theorem radd_over (a b : Nat) (ha : a < big) (hb : b < big) (h : ¬ a + b < big) (w : World) :
    Calls Try.prog 110 #[W a, W b] w fun e w' => e = .returned (.tuple #[W 0, .bool false]) ∧ Below w.heap.size w w' := by
  have e1 := add_lo a b
  have e3 := add_over1 ha hb h
  obtain ⟨a1, a2⟩ := hi_word ha
  obtain ⟨b1, b2⟩ := hi_word hb
  obtain ⟨c1, c2⟩ := lo_word a
  obtain ⟨d1, d2⟩ := lo_word b
  have k0 : 0 ≤ (lo a + lo b) / 18446744073709551616 := by omega
  have k1 : (lo a + lo b) / 18446744073709551616 ≤ 1 := by omega
  go_enter Try.func110, Try.ntmps110
  go_wp2_with (first | simp only [add64_0 (lo a) (lo b) c1 d1] | simp only [add64 (hi a) (hi b) _ a1 b1 k0 k1])
  simp [bodyPost, results, Try.results110, go_sem]
  exact ⟨⟨rfl, rfl⟩, ((((Below.refl _ _).alloc (Nat.le_refl _) _).alloc (by simp) _).alloc (by simp; omega) _)⟩
theorem pcmp_any (a b : Nat) (w : World) :
    Calls Try.prog 52 #[W a, W b] w fun e w' => e = .returned (.int .i64 (cmp a b)) ∧ Below w.heap.size w w' := by
  rcases Nat.lt_trichotomy a b with h | h | h
  · rw [cmp_lt h]
    rcases lt_words h with k | ⟨k, l⟩
    all_goals
      go_enter Try.func52, Try.ntmps52
      go_wp2
      go_ret
      exact ⟨rfl, (((Below.refl _ _).alloc (Nat.le_refl _) _).alloc (by simp) _)⟩
  · subst h
    rw [cmp_eq]
    go_enter Try.func52, Try.ntmps52
    go_wp2
    go_ret
    exact ⟨rfl, (((Below.refl _ _).alloc (Nat.le_refl _) _).alloc (by simp) _)⟩
  · rw [cmp_gt h]
    rcases lt_words h with k | ⟨k, l⟩
    all_goals
      go_enter Try.func52, Try.ntmps52
      go_wp2
      go_ret
      exact ⟨rfl, (((Below.refl _ _).alloc (Nat.le_refl _) _).alloc (by simp) _)⟩
theorem rcmp_any (a b : Nat) (w : World) :
    Calls Try.prog 53 #[W a, W b] w fun e w' => e = .returned (.int .i64 (cmp a b)) ∧ Below w.heap.size w w' := by
  rcases Nat.lt_trichotomy a b with h | h | h
  · rw [cmp_lt h]
    rcases lt_words h with k | ⟨k, l⟩
    all_goals
      go_enter Try.func53, Try.ntmps53
      go_wp2
      go_ret
      exact ⟨rfl, (((Below.refl _ _).alloc (Nat.le_refl _) _).alloc (by simp) _)⟩
  · subst h
    rw [cmp_eq]
    go_enter Try.func53, Try.ntmps53
    go_wp2
    go_ret
    exact ⟨rfl, (((Below.refl _ _).alloc (Nat.le_refl _) _).alloc (by simp) _)⟩
  · rw [cmp_gt h]
    rcases lt_words h with k | ⟨k, l⟩
    all_goals
      go_enter Try.func53, Try.ntmps53
      go_wp2
      go_ret
      exact ⟨rfl, (((Below.refl _ _).alloc (Nat.le_refl _) _).alloc (by simp) _)⟩
end Go.Proofs.Ytaiepjcnncajcaa
