/- The law of powers, walked. -/
import Derived.Test.YtoemccfpinonhaaLawB
import Derived.Test.YtoemccfpinonhaaPow
namespace Go.Proofs.Ytoemccfpinonhaa
open Go.RowKit Go.Shelf
theorem widePowers_in (a n : Int) (v : Nat) (b : Bool)
    (P1 : RowKit.Hid (∀ w, Calls Try.prog 36 #[.int .u64 a, .int .i64 n] w fun e w' => e = .returned (.tuple #[W v, .bool b]) ∧ Below w.heap.size w w'))
    (R1 : RowKit.Hid (∀ w, Calls Try.prog 37 #[.int .u64 a, .int .i64 n] w fun e w' => e = .returned (.tuple #[W v, .bool b]) ∧ Below w.heap.size w w')) (w : World) :
    Calls Try.prog 12 #[.int .u64 a, .int .i64 n] w fun e w' => e = .returned (.bool true) ∧ Below w.heap.size w w' := by
  cases b
  all_goals
    go_enter Try.func12, Try.ntmps12
    go_wp2_with (first | (go_at_call 36; refine (P1.out _).mono ?_; rintro e w1 ⟨rfl, hb1⟩; have hz1 := hb1.size; (try simp at hz1)) | (go_at_call 37; refine (R1.out _).mono ?_; rintro e w2 ⟨rfl, hb2⟩; have hz2 := hb2.size; (try simp at hz2); have q2_0 : w1.heap.size < w2.heap.size := (by omega); have r2_0 : Row w2 (w1.heap.size) 24 (Wc v) := row_call (by (repeat (first | assumption | (refine row_new ?_; (first | (simp; done) | omega)) | refine row_alloc ?_ _ | refine row_drew ?_ | refine row_call ?_ (by assumption)))) hb2; obtain ⟨c2_0a, c2_0b, f2_0a, f2_0b⟩ := row_two r2_0) | (go_at_call 15; refine (awake_true _).mono ?_; rintro e w9 ⟨rfl, hb9⟩; have hz9 := hb9.size))
    go_ret
    refine ⟨rfl, ?_⟩
    (repeat (first | exact Below.refl _ _ | refine Below.setCell ?_ (by first | (simp; done) | (simp; omega) | omega) _ | refine Below.alloc ?_ (by first | (simp; done) | (simp; omega) | omega) _ | refine Below.drew ?_ | refine Below.trans ?_ (Below.mono (by assumption) (by first | (simp; done) | (simp; omega) | omega))))
theorem widePowers (a : Int) (ha : Word a) (n : Int) (hn : -9223372036854775808 ≤ n ∧ n ≤ 9223372036854775807) (w : World) :
    Calls Try.prog 12 #[.int .u64 a, .int .i64 n] w fun e w' => e = .returned (.bool true) ∧ Below w.heap.size w w' := by
  obtain ⟨m, rfl⟩ := Int.eq_ofNat_of_zero_le ha.1
  have hm : m < 18446744073709551616 := by have := ha.2; omega
  exact widePowers_in m n _ _ (Lib.hid fun w => ppow_any m hm n hn.2 w) (Lib.hid fun w => rpow_any m hm n hn.2 w) w
end Go.Proofs.Ytoemccfpinonhaa
