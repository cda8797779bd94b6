/- Small functions on wide numbers, walked: the program and the reference. -/
import Derived.Test.YtpbhagikndamnaaWalkA
import Derived.Test.YtpbhagikndamnaaShelf
import Derived.Deep.RegionHeld3
namespace Go.Proofs.Ytpbhagikndamnaa
open Go.RowKit Go.Shelf

theorem len64 (x : Int) (w : World) (h0 : 0 ≤ x) (h1 : x ≤ 18446744073709551615) :
    Calls Try.prog 48 #[.int .u64 x] w fun e w' => e = .returned (.int .i64 (Lib.bitLen x.toNat)) ∧ w' = w := Try.bits_Len64 x w h0 h1
theorem pof (n : Nat) (hn : n < 18446744073709551616) (w : World) :
    Calls Try.prog 36 #[.int .u64 n] w fun e w' => e = .returned (W n) ∧ Below w.heap.size w w' := by
  have e1 := hi_small hn
  have e2 := lo_small hn
  go_enter Try.func36, Try.ntmps36
  go_wp2
  simp [bodyPost, results, Try.results36, go_sem, e1, e2]
  exact ((Below.refl _ _).alloc (Nat.le_refl _) _)
theorem rof (n : Nat) (hn : n < 18446744073709551616) (w : World) :
    Calls Try.prog 38 #[.int .u64 n] w fun e w' => e = .returned (W n) ∧ Below w.heap.size w w' := by
  have e1 := hi_small hn
  have e2 := lo_small hn
  go_enter Try.func38, Try.ntmps38
  go_wp2
  simp [bodyPost, results, Try.results38, go_sem, e1, e2]
  exact ((Below.refl _ _).alloc (Nat.le_refl _) _)
theorem pzero (n : Nat) (w : World) :
    Calls Try.prog 42 #[W n] w fun e w' => e = .returned (.bool (decide (n = 0))) ∧ Below w.heap.size w w' := by
  by_cases h : n = 0
  · subst h
    go_enter Try.func42, Try.ntmps42
    go_wp2
    go_ret
    exact ⟨rfl, (Below.refl _ _).alloc (Nat.le_refl _) _⟩
  · have hd : decide (n = 0) = false := by simpa using h
    rw [hd]
    clear hd
    by_cases k : hi n = 0
    · have l : ¬ lo n = 0 := fun l => h (hi_inj (b := 0) k l)
      have l' : (lo n == 0) = false := by simpa using l
      go_enter Try.func42, Try.ntmps42
      go_wp2
      go_ret
      exact ⟨rfl, (Below.refl _ _).alloc (Nat.le_refl _) _⟩
    · have k' : (hi n == 0) = false := by simpa using k
      go_enter Try.func42, Try.ntmps42
      go_wp2
      go_ret
      exact ⟨rfl, (Below.refl _ _).alloc (Nat.le_refl _) _⟩
end Go.Proofs.Ytpbhagikndamnaa
