/- Small functions on wide numbers, walked: the program and the reference. -/
import Derived.Test.YtejoomlaanmbkaaWalkA
import Derived.Test.YtejoomlaanmbkaaShelf
import Derived.Deep.RegionHeld3
namespace Go.Proofs.Ytejoomlaanmbkaa
open Go.RowKit Go.Shelf

theorem mul64 (x y : Int) (hx : Word x) (hy : Word y) (w : World) :
    Calls Try.prog 56 #[.int .u64 x, .int .u64 y] w fun e w' => e = .returned (.tuple #[.int .u64 (hi (x.toNat * y.toNat)), .int .u64 (lo (x.toNat * y.toNat))]) ∧ w' = w := by
  obtain ⟨x, rfl⟩ := Int.eq_ofNat_of_zero_le hx.1
  obtain ⟨y, rfl⟩ := Int.eq_ofNat_of_zero_le hy.1
  exact Try.bits_Mul64 x y (by have := hx.2; omega) (by have := hy.2; omega) w

theorem pproduct (x y : Int) (hx : Word x) (hy : Word y) (w : World) :
    Calls Try.prog 52 #[.int .u64 x, .int .u64 y] w fun e w' => e = .returned (W (x.toNat * y.toNat)) ∧ Below w.heap.size w w' := by
  go_enter Try.func52, Try.ntmps52
  go_wp2_with (go_at_call 56; refine (mul64 x y hx hy _).mono ?_; rintro e w' ⟨rfl, rfl⟩)
  simp [bodyPost, results, Try.results52, go_sem]
  exact ((Below.refl _ _).alloc (Nat.le_refl _) _)
theorem pof (n : Nat) (hn : n < 18446744073709551616) (w : World) :
    Calls Try.prog 38 #[.int .u64 n] w fun e w' => e = .returned (W n) ∧ Below w.heap.size w w' := by
  have e1 := hi_small hn
  have e2 := lo_small hn
  go_enter Try.func38, Try.ntmps38
  go_wp2
  simp [bodyPost, results, Try.results38, go_sem, e1, e2]
  exact ((Below.refl _ _).alloc (Nat.le_refl _) _)
theorem rproduct (x y : Int) (hx : Word x) (hy : Word y) (w : World) :
    Calls Try.prog 54 #[.int .u64 x, .int .u64 y] w fun e w' => e = .returned (W (x.toNat * y.toNat)) ∧ Below w.heap.size w w' := by
  go_enter Try.func54, Try.ntmps54
  go_wp2_with (go_at_call 56; refine (mul64 x y hx hy _).mono ?_; rintro e w' ⟨rfl, rfl⟩)
  simp [bodyPost, results, Try.results54, go_sem]
  exact ((Below.refl _ _).alloc (Nat.le_refl _) _)
theorem rof (n : Nat) (hn : n < 18446744073709551616) (w : World) :
    Calls Try.prog 43 #[.int .u64 n] w fun e w' => e = .returned (W n) ∧ Below w.heap.size w w' := by
  have e1 := hi_small hn
  have e2 := lo_small hn
  go_enter Try.func43, Try.ntmps43
  go_wp2
  simp [bodyPost, results, Try.results43, go_sem, e1, e2]
  exact ((Below.refl _ _).alloc (Nat.le_refl _) _)
end Go.Proofs.Ytejoomlaanmbkaa
