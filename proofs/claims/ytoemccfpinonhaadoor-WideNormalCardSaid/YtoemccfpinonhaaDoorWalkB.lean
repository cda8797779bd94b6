/- Small functions on wide numbers, walked: the program and the reference. -/
import Derived.Test.YtoemccfpinonhaaDoorWalkA
import Derived.Test.YtoemccfpinonhaaDoorShelf
import Derived.Deep.RegionHeld3
namespace Go.Proofs.YtoemccfpinonhaaDoor
open Go.RowKit Go.Shelf

theorem len64 (x : Int) (w : World) (h0 : 0 ≤ x) (h1 : x ≤ 18446744073709551615) :
    Calls Tryd.prog 16 #[.int .u64 x] w fun e w' => e = .returned (.int .i64 (Lib.bitLen x.toNat)) ∧ w' = w := Tryd.bits_Len64 x w h0 h1
theorem pof (n : Nat) (hn : n < 18446744073709551616) (w : World) :
    Calls Tryd.prog 21 #[.int .u64 n] w fun e w' => e = .returned (W n) ∧ Below w.heap.size w w' := by
  have e1 := hi_small hn
  have e2 := lo_small hn
  go_enter Tryd.func21, Tryd.ntmps21
  go_wp2
  simp [bodyPost, results, Tryd.results21, go_sem, e1, e2]
  exact ((Below.refl _ _).alloc (Nat.le_refl _) _)
theorem pzero (n : Nat) (w : World) :
    Calls Tryd.prog 14 #[W n] w fun e w' => e = .returned (.bool (decide (n = 0))) ∧ Below w.heap.size w w' := by
  by_cases h : n = 0
  · subst h
    go_enter Tryd.func14, Tryd.ntmps14
    go_wp2
    go_ret
    exact ⟨rfl, (Below.refl _ _).alloc (Nat.le_refl _) _⟩
  · have hd : decide (n = 0) = false := by simpa using h
    rw [hd]
    clear hd
    by_cases k : hi n = 0
    · have l : ¬ lo n = 0 := fun l => h (hi_inj (b := 0) k l)
      have l' : (lo n == 0) = false := by simpa using l
      go_enter Tryd.func14, Tryd.ntmps14
      go_wp2
      go_ret
      exact ⟨rfl, (Below.refl _ _).alloc (Nat.le_refl _) _⟩
    · have k' : (hi n == 0) = false := by simpa using k
      go_enter Tryd.func14, Tryd.ntmps14
      go_wp2
      go_ret
      exact ⟨rfl, (Below.refl _ _).alloc (Nat.le_refl _) _⟩
end Go.Proofs.YtoemccfpinonhaaDoor
