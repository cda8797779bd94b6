/- The law of decimal digits, walked. -/
import Derived.Test.YtoemccfpinonhaaLawB
import Derived.Test.YtoemccfpinonhaaParse
import Derived.Test.YtoemccfpinonhaaRFormat
namespace Go.Proofs.Ytoemccfpinonhaa
open Go.RowKit Go.Shelf
theorem wideWrites_in (a : Nat) (s : ByteArray)
    (F1 : RowKit.Hid (∀ w, Calls Try.prog 32 #[W a] w fun e w' => e = .returned (.string s) ∧ Below w.heap.size w w'))
    (P1 : RowKit.Hid (∀ w, Calls Try.prog 33 #[.string s] w fun e w' => e = .returned (.tuple #[W a, .bool true]) ∧ Below w.heap.size w w'))
    (F2 : RowKit.Hid (∀ w, Calls Try.prog 34 #[W a] w fun e w' => e = .returned (.string s) ∧ Below w.heap.size w w')) (w : World) :
    Calls Try.prog 10 #[W a] w fun e w' => e = .returned (.bool true) ∧ Below w.heap.size w w' := by
  go_enter Try.func10, Try.ntmps10
  go_wp2_with (first | (go_at_call 32; refine (F1.out _).mono ?_; rintro e w1 ⟨rfl, hb1⟩; have hz1 := hb1.size; (try simp at hz1); have q1_0 : w.heap.size < w1.heap.size := (by omega); have r1_0 : Row w1 (w.heap.size) 24 (Wc a) := row_call (by (repeat (first | assumption | (refine row_new ?_; (first | (simp; done) | omega)) | refine row_alloc ?_ _ | refine row_drew ?_ | refine row_call ?_ (by assumption)))) hb1; obtain ⟨c1_0a, c1_0b, f1_0a, f1_0b⟩ := row_two r1_0) | (go_at_call 33; refine (P1.out _).mono ?_; rintro e w2 ⟨rfl, hb2⟩; have hz2 := hb2.size; (try simp at hz2); have q2_0 : w.heap.size < w2.heap.size := (by omega); have r2_0 : Row w2 (w.heap.size) 24 (Wc a) := row_call (by (repeat (first | assumption | (refine row_new ?_; (first | (simp; done) | omega)) | refine row_alloc ?_ _ | refine row_drew ?_ | refine row_call ?_ (by assumption)))) hb2; obtain ⟨c2_0a, c2_0b, f2_0a, f2_0b⟩ := row_two r2_0) | (go_at_call 34; refine (F2.out _).mono ?_; rintro e w3 ⟨rfl, hb3⟩; have hz3 := hb3.size; (try simp at hz3); have q3_0 : w.heap.size < w3.heap.size := (by omega); have r3_0 : Row w3 (w.heap.size) 24 (Wc a) := row_call (by (repeat (first | assumption | (refine row_new ?_; (first | (simp; done) | omega)) | refine row_alloc ?_ _ | refine row_drew ?_ | refine row_call ?_ (by assumption)))) hb3; obtain ⟨c3_0a, c3_0b, f3_0a, f3_0b⟩ := row_two r3_0; have q3_1 : w2.heap.size < w3.heap.size := (by omega); have r3_1 : Row w3 (w2.heap.size) 24 (Wc a) := row_call (by (repeat (first | assumption | (refine row_new ?_; (first | (simp; done) | omega)) | refine row_alloc ?_ _ | refine row_drew ?_ | refine row_call ?_ (by assumption)))) hb3; obtain ⟨c3_1a, c3_1b, f3_1a, f3_1b⟩ := row_two r3_1) | (go_at_call 15; refine (awake_true _).mono ?_; rintro e w9 ⟨rfl, hb9⟩; have hz9 := hb9.size))
  go_ret
  refine ⟨rfl, ?_⟩
  (repeat (first | exact Below.refl _ _ | refine Below.setCell ?_ (by first | (simp; done) | (simp; omega) | omega) _ | refine Below.alloc ?_ (by first | (simp; done) | (simp; omega) | omega) _ | refine Below.drew ?_ | refine Below.trans ?_ (Below.mono (by assumption) (by first | (simp; done) | (simp; omega) | omega))))
theorem wideWrites (a : Nat) (ha : a < big) (w : World) : Calls Try.prog 10 #[W a] w fun e w' => e = .returned (.bool true) ∧ Below w.heap.size w w' := by
  obtain ⟨h1, h2⟩ := parse_dec ha
  have hsz : (decStr a).size ≤ 9223372036854775807 := by
    rw [decStr, strOfNums_size]
    have := decN_len a
    omega
  have P1 := fun w => pparse (decStr a) hsz w
  rw [h1, h2] at P1
  exact wideWrites_in a (decStr a) (Lib.hid fun w => pformat a ha w) (Lib.hid P1) (Lib.hid fun w => rformat a ha w) w
end Go.Proofs.Ytoemccfpinonhaa
