/- The law of texts that are numbers, walked. -/
import Derived.Test.YtoemccfpinonhaaLawB
import Derived.Test.YtoemccfpinonhaaParse
namespace Go.Proofs.Ytoemccfpinonhaa
open Go.RowKit Go.Shelf
theorem wideReads_long (s : ByteArray) (h : 1000 < s.size) (hm : s.size ≤ 9223372036854775807) (w : World) : Calls Try.prog 11 #[.string s] w fun e w' => e = .returned (.bool true) ∧ Below w.heap.size w w' := by
  have i1 : (1000 : Int) < (s.size : Int) := by omega
  go_enter Try.func11, Try.ntmps11
  go_wp2_with (go_at_call 15; refine (awake_true _).mono ?_; rintro e w9 ⟨rfl, hb9⟩; have hz9 := hb9.size)
  go_ret
  exact ⟨rfl, hb9⟩
theorem wideReads_in (s : ByteArray) (v : Nat) (b : Bool) (h : s.size ≤ 1000)
    (P1 : RowKit.Hid (∀ w, Calls Try.prog 33 #[.string s] w fun e w' => e = .returned (.tuple #[W v, .bool b]) ∧ Below w.heap.size w w'))
    (R1 : RowKit.Hid (∀ w, Calls Try.prog 35 #[.string s] w fun e w' => e = .returned (.tuple #[W v, .bool b]) ∧ Below w.heap.size w w'))
    (F1 : RowKit.Hid (b = true → ∀ w, Calls Try.prog 32 #[W v] w fun e w' => e = .returned (.string s) ∧ Below w.heap.size w w')) (w : World) :
    Calls Try.prog 11 #[.string s] w fun e w' => e = .returned (.bool true) ∧ Below w.heap.size w w' := by
  have i1 : ¬ (1000 : Int) < (s.size : Int) := by omega
  cases b with
  | false =>
    clear F1
    go_enter Try.func11, Try.ntmps11
    go_wp2_with (first | (go_at_call 33; refine (P1.out _).mono ?_; rintro e w1 ⟨rfl, hb1⟩; have hz1 := hb1.size; (try simp at hz1)) | (go_at_call 35; refine (R1.out _).mono ?_; rintro e w2 ⟨rfl, hb2⟩; have hz2 := hb2.size; (try simp at hz2); have q2_0 : w1.heap.size < w2.heap.size := (by omega); have r2_0 : Row w2 (w1.heap.size) 24 (Wc v) := row_call (by (repeat (first | assumption | (refine row_new ?_; (first | (simp; done) | omega)) | refine row_alloc ?_ _ | refine row_drew ?_ | refine row_call ?_ (by assumption)))) hb2; obtain ⟨c2_0a, c2_0b, f2_0a, f2_0b⟩ := row_two r2_0) | (go_at_call 15; refine (awake_true _).mono ?_; rintro e w9 ⟨rfl, hb9⟩; have hz9 := hb9.size))
    go_ret
    refine ⟨rfl, ?_⟩
    (repeat (first | exact Below.refl _ _ | refine Below.setCell ?_ (by first | (simp; done) | (simp; omega) | omega) _ | refine Below.alloc ?_ (by first | (simp; done) | (simp; omega) | omega) _ | refine Below.drew ?_ | refine Below.trans ?_ (Below.mono (by assumption) (by first | (simp; done) | (simp; omega) | omega))))
  | true =>
    have F2 := Lib.hid (F1.out rfl)
    clear F1
    go_enter Try.func11, Try.ntmps11
    go_wp2_with (first | (go_at_call 33; refine (P1.out _).mono ?_; rintro e w1 ⟨rfl, hb1⟩; have hz1 := hb1.size; (try simp at hz1)) | (go_at_call 35; refine (R1.out _).mono ?_; rintro e w2 ⟨rfl, hb2⟩; have hz2 := hb2.size; (try simp at hz2); have q2_0 : w1.heap.size < w2.heap.size := (by omega); have r2_0 : Row w2 (w1.heap.size) 24 (Wc v) := row_call (by (repeat (first | assumption | (refine row_new ?_; (first | (simp; done) | omega)) | refine row_alloc ?_ _ | refine row_drew ?_ | refine row_call ?_ (by assumption)))) hb2; obtain ⟨c2_0a, c2_0b, f2_0a, f2_0b⟩ := row_two r2_0) | (go_at_call 32; refine (F2.out _).mono ?_; rintro e w3 ⟨rfl, hb3⟩; have hz3 := hb3.size; (try simp at hz3)) | (go_at_call 15; refine (awake_true _).mono ?_; rintro e w9 ⟨rfl, hb9⟩; have hz9 := hb9.size))
    go_ret
    refine ⟨rfl, ?_⟩
    (repeat (first | exact Below.refl _ _ | refine Below.setCell ?_ (by first | (simp; done) | (simp; omega) | omega) _ | refine Below.alloc ?_ (by first | (simp; done) | (simp; omega) | omega) _ | refine Below.drew ?_ | refine Below.trans ?_ (Below.mono (by assumption) (by first | (simp; done) | (simp; omega) | omega))))
theorem wideReads (s : ByteArray) (hs : s.size ≤ maxLen) (w : World) : Calls Try.prog 11 #[.string s] w fun e w' => e = .returned (.bool true) ∧ Below w.heap.size w w' := by
  have hm : s.size ≤ 9223372036854775807 := by unfold maxLen at hs; omega
  by_cases h : 1000 < s.size
  · exact wideReads_long s h hm w
  · refine wideReads_in s _ _ (by omega) (Lib.hid fun w => pparse s hm w) (Lib.hid fun w => rparse s hm w) (Lib.hid fun hb w => ?_) w
    have c := pformat (parseV s.data.toList) (by
      rw [parse_yes hb]
      unfold parseOK at hb
      simp only [decide_eq_true_eq] at hb
      exact hb.2.2.2) w
    rwa [parse_format hb] at c
end Go.Proofs.Ytoemccfpinonhaa
