/- The product of two wide numbers, walked: the reference. -/
import Derived.Test.YtaiepjcnncajcaaWalkC
import Derived.Test.YtaiepjcnncajcaaMathMul
import Derived.Test.YtaiepjcnncajcaaDivS
import Derived.Test.YtaiepjcnncajcaaFree
import Derived.Lib.Hide
import Derived.Deep.Cut
set_option linter.unusedVariables false
set_option linter.unusedSimpArgs false
set_option linter.unusedSectionVars false
set_option linter.unnecessarySimpa false
namespace Go.Proofs.Ytaiepjcnncajcaa
open Go.RowKit Go.Shelf
theorem rprod_ll (x y : Nat) (w : World) : Calls Try.prog 54 #[.int .u64 (lo x), .int .u64 (lo y)] w fun e w' => e = .returned (W (mlow x y)) ∧ Below w.heap.size w w' := by
  have h := rproduct (lo x) (lo y) (lo_word x) (lo_word y) w
  rw [lo_toNat, lo_toNat] at h
  exact h
theorem rprod_lh (x y : Nat) (hy : y < big) (w : World) : Calls Try.prog 54 #[.int .u64 (lo x), .int .u64 (hi y)] w fun e w' => e = .returned (W (mhigh x y)) ∧ Below w.heap.size w w' := by
  have h := rproduct (lo x) (hi y) (lo_word x) (hi_word hy) w
  rw [lo_toNat, hi_toNat] at h
  exact h
theorem rprod_hl (x y : Nat) (hx : x < big) (w : World) : Calls Try.prog 54 #[.int .u64 (hi x), .int .u64 (lo y)] w fun e w' => e = .returned (W (mhigh y x)) ∧ Below w.heap.size w w' := by
  have h := rproduct (hi x) (lo y) (hi_word hx) (lo_word y) w
  rw [lo_toNat, hi_toNat, Nat.mul_comm] at h
  exact h
/-- The last sum of a product. -/
theorem radd_high (x y : Nat) (hx : hi x = 0) (hy : y < big) (hh : hi (mhigh x y) = 0) (w : World) :
    Calls Try.prog 110 #[W (mlow x y), .agg #[.int .u64 (lo (mhigh x y)), .int .u64 0]] w fun e w' => e = .returned (.tuple #[W (mulV x y), .bool (mulB x y)]) ∧ Below w.heap.size w w' := by
  obtain ⟨e1, e2⟩ := high_shift hh
  have hs := mul_split (y := y) hx
  have hl := high_lt hh
  rw [← e1, ← e2]
  by_cases h : x * y < big
  · obtain ⟨v, b⟩ := mulV_yes h
    rw [v, b, hs]
    exact radd_fits _ _ (mlow_lt x y) hl (by rw [← hs]; exact h) w
  · obtain ⟨v, b⟩ := mulV_no h
    rw [v, b]
    exact radd_over _ _ (mlow_lt x y) hl (by rw [← hs]; exact h) w
end Go.Proofs.Ytaiepjcnncajcaa
