/- The law of the comparison of two products, walked. -/
import Derived.Test.YtoemccfpinonhaaLawB
import Derived.Test.YtoemccfpinonhaaCross
namespace Go.Proofs.Ytoemccfpinonhaa
open Go.RowKit Go.Shelf
theorem wideCrosses_in (a b c d v : Int) (hv : v = -1 ∨ v = 0 ∨ v = 1)
    (P1 : RowKit.Hid (∀ w, Calls Try.prog 24 #[.int .i64 a, .int .i64 b, .int .i64 c, .int .i64 d] w fun e w' => e = .returned (.int .i64 v) ∧ Below w.heap.size w w'))
    (R1 : RowKit.Hid (∀ w, Calls Try.prog 25 #[.int .i64 a, .int .i64 b, .int .i64 c, .int .i64 d] w fun e w' => e = .returned (.int .i64 v) ∧ Below w.heap.size w w'))
    (P2 : RowKit.Hid (∀ w, Calls Try.prog 24 #[.int .i64 c, .int .i64 d, .int .i64 a, .int .i64 b] w fun e w' => e = .returned (.int .i64 (-v)) ∧ Below w.heap.size w w')) (w : World) :
    Calls Try.prog 7 #[.int .i64 a, .int .i64 b, .int .i64 c, .int .i64 d] w fun e w' => e = .returned (.bool true) ∧ Below w.heap.size w w' := by
  rcases hv with rfl | rfl | rfl
  all_goals
    go_enter Try.func7, Try.ntmps7
    go_wp2_with (first | (go_at_call 24; with_reducible refine (P1.out _).mono ?_; rintro e w1 ⟨rfl, hb1⟩; have hz1 := hb1.size; (try simp at hz1)) | (go_at_call 25; with_reducible refine (R1.out _).mono ?_; rintro e w2 ⟨rfl, hb2⟩; have hz2 := hb2.size; (try simp at hz2)) | (go_at_call 24; with_reducible refine (P2.out _).mono ?_; rintro e w3 ⟨rfl, hb3⟩; have hz3 := hb3.size; (try simp at hz3)) | (go_at_call 15; refine (awake_true _).mono ?_; rintro e w9 ⟨rfl, hb9⟩; have hz9 := hb9.size))
    go_ret
    refine ⟨rfl, ?_⟩
    (repeat (first | exact Below.refl _ _ | refine Below.setCell ?_ (by first | (simp; done) | (simp; omega) | omega) _ | refine Below.alloc ?_ (by first | (simp; done) | (simp; omega) | omega) _ | refine Below.drew ?_ | refine Below.trans ?_ (Below.mono (by assumption) (by first | (simp; done) | (simp; omega) | omega))))
theorem wideCrosses (a : Int) (ha : -9223372036854775808 ≤ a ∧ a ≤ 9223372036854775807) (b : Int) (hb : -9223372036854775808 ≤ b ∧ b ≤ 9223372036854775807) (c : Int) (hc : -9223372036854775808 ≤ c ∧ c ≤ 9223372036854775807) (d : Int) (hd : -9223372036854775808 ≤ d ∧ d ≤ 9223372036854775807) (w : World) :
    Calls Try.prog 7 #[.int .i64 a, .int .i64 b, .int .i64 c, .int .i64 d] w fun e w' => e = .returned (.bool true) ∧ Below w.heap.size w w' := by
  have e := icmp_back (a * b) (c * d)
  have k := icmp_bd (a * b) (c * d)
  have P2 := fun w => pcross c d a b hc hd ha hb w
  rw [e] at P2
  exact wideCrosses_in a b c d (icmp (a * b) (c * d)) (by omega) (Lib.hid fun w => pcross a b c d ha hb hc hd w) (Lib.hid fun w => rcross a b c d ha hb hc hd w) (Lib.hid P2) w
end Go.Proofs.Ytoemccfpinonhaa
