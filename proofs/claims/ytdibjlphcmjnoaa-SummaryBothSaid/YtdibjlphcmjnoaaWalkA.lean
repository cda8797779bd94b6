/- Sums, differences and the order of wide numbers, walked: the program and the reference. -/
import Derived.Test.YtdibjlphcmjnoaaBits
set_option linter.unusedVariables false
set_option linter.unusedSimpArgs false
set_option linter.unusedSectionVars false
set_option linter.unnecessarySimpa false
namespace Go.Proofs.Ytdibjlphcmjnoaa
open Go.RowKit Go.Shelf

theorem pcmp_any (a b : Nat) (w : World) :
    Calls Try.prog 66 #[W a, W b] w fun e w' => e = .returned (.int .i64 (cmp a b)) ∧ Below w.heap.size w w' := by
  rcases Nat.lt_trichotomy a b with h | h | h
  · rw [cmp_lt h]
    rcases lt_words h with k | ⟨k, l⟩
    all_goals
      go_enter Try.func66, Try.ntmps66
      go_wp2
      go_ret
      exact ⟨rfl, (((Below.refl _ _).alloc (Nat.le_refl _) _).alloc (by simp) _)⟩
  · subst h
    rw [cmp_eq]
    go_enter Try.func66, Try.ntmps66
    go_wp2
    go_ret
    exact ⟨rfl, (((Below.refl _ _).alloc (Nat.le_refl _) _).alloc (by simp) _)⟩
  · rw [cmp_gt h]
    rcases lt_words h with k | ⟨k, l⟩
    all_goals
      go_enter Try.func66, Try.ntmps66
      go_wp2
      go_ret
      exact ⟨rfl, (((Below.refl _ _).alloc (Nat.le_refl _) _).alloc (by simp) _)⟩
theorem rcmp_any (a b : Nat) (w : World) :
    Calls Try.prog 71 #[W a, W b] w fun e w' => e = .returned (.int .i64 (cmp a b)) ∧ Below w.heap.size w w' := by
  rcases Nat.lt_trichotomy a b with h | h | h
  · rw [cmp_lt h]
    rcases lt_words h with k | ⟨k, l⟩
    all_goals
      go_enter Try.func71, Try.ntmps71
      go_wp2
      go_ret
      exact ⟨rfl, (((Below.refl _ _).alloc (Nat.le_refl _) _).alloc (by simp) _)⟩
  · subst h
    rw [cmp_eq]
    go_enter Try.func71, Try.ntmps71
    go_wp2
    go_ret
    exact ⟨rfl, (((Below.refl _ _).alloc (Nat.le_refl _) _).alloc (by simp) _)⟩
  · rw [cmp_gt h]
    rcases lt_words h with k | ⟨k, l⟩
    all_goals
      go_enter Try.func71, Try.ntmps71
      go_wp2
      go_ret
      exact ⟨rfl, (((Below.refl _ _).alloc (Nat.le_refl _) _).alloc (by simp) _)⟩
end Go.Proofs.Ytdibjlphcmjnoaa
