/- The laws of the order of wide numbers, walked. -/
import Derived.Test.YtoemccfpinonhaaDoorFormat
import Derived.Test.YtoemccfpinonhaaDoorBase
namespace Go.Proofs.YtoemccfpinonhaaDoor
open Go.RowKit Go.Shelf
theorem dec64 : decStr 18446744073709551616 = { data := #[49, 56, 52, 52, 54, 55, 52, 52, 48, 55, 51, 55, 48, 57, 53, 53, 49, 54, 49, 54] } := by decide +kernel
theorem hi64 : hi 18446744073709551616 = 1 := by decide
theorem lo64 : lo 18446744073709551616 = 0 := by decide
theorem awake_true (w : World) : Calls Tryd.prog 13 #[] w fun e w' => e = .returned (.bool true) ∧ Below w.heap.size w w' := by
  have C := pformat 18446744073709551616 (by decide)
  rw [dec64] at C
  unfold W at C
  rw [hi64, lo64] at C
  have HC := Lib.hid C
  clear C
  go_enter Tryd.func13, Tryd.ntmps13
  go_wp2_with (go_at_call 19; refine (HC.out _).mono ?_; rintro e w1 ⟨rfl, hb1⟩)
  go_ret
  exact ⟨rfl, hb1⟩
theorem cmp_back (a b : Nat) : cmp b a = -cmp a b := by unfold cmp; repeat (first | omega | split)
end Go.Proofs.YtoemccfpinonhaaDoor
