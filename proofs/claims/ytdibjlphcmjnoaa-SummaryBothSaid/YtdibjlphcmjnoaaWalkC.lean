/- Digits, doubles and lengths of wide numbers, walked: the program and the reference. -/
import Derived.Test.YtdibjlphcmjnoaaWalkB
import Derived.Test.YtdibjlphcmjnoaaMathDiv
import Derived.RegionTactic
import Derived.ChangeAlike
set_option linter.unusedVariables false
set_option linter.unusedSimpArgs false
set_option linter.unusedSectionVars false
set_option linter.unnecessarySimpa false
namespace Go.Proofs.Ytdibjlphcmjnoaa
open Go.RowKit Go.Shelf

theorem pbit (a : Nat) (n : Int) (ha : a < big) (h0 : 0 ≤ n) (h1 : n < 128) (w : World) :
    Calls Try.prog 65 #[W a, .int .i64 n] w fun e w' => e = .returned (.int .u64 (dig a n.toNat)) ∧ Below w.heap.size w w' := by
  by_cases h : 64 ≤ n
  · have E := bit_hi_eq ha h
    obtain ⟨a1, a2⟩ := hi_word ha
    go_enter Try.func65, Try.ntmps65
    go_wp2
    go_ret
    exact ⟨rfl, (Below.refl _ _).alloc (Nat.le_refl _) _⟩
  · have E := bit_lo_eq (a := a) h0 (by omega)
    obtain ⟨a1, a2⟩ := lo_word a
    go_enter Try.func65, Try.ntmps65
    go_wp2
    go_ret
    exact ⟨rfl, (Below.refl _ _).alloc (Nat.le_refl _) _⟩
theorem rbit (a : Nat) (n : Int) (ha : a < big) (h0 : 0 ≤ n) (h1 : n < 128) (w : World) :
    Calls Try.prog 70 #[W a, .int .i64 n] w fun e w' => e = .returned (.int .u64 (dig a n.toNat)) ∧ Below w.heap.size w w' := by
  by_cases h : 64 ≤ n
  · have E := bit_hi_eq ha h
    obtain ⟨a1, a2⟩ := hi_word ha
    go_enter Try.func70, Try.ntmps70
    go_wp2
    go_ret
    exact ⟨rfl, (Below.refl _ _).alloc (Nat.le_refl _) _⟩
  · have E := bit_lo_eq (a := a) h0 (by omega)
    obtain ⟨a1, a2⟩ := lo_word a
    go_enter Try.func70, Try.ntmps70
    go_wp2
    go_ret
    exact ⟨rfl, (Below.refl _ _).alloc (Nat.le_refl _) _⟩
theorem rdouble (a : Nat) (b : Int) (ha : a < big) (hb : 0 ≤ b) (hb1 : b ≤ 1) (w : World) :
    Calls Try.prog 69 #[W a, .int .u64 b] w fun e w' => e = .returned (.tuple #[W (dbl a b), .int .u64 (topd a)]) ∧ Below w.heap.size w w' := by
  obtain ⟨a1, a2⟩ := hi_word ha
  obtain ⟨b1, b2⟩ := lo_word a
  have E1 := dbl_hi ha hb hb1
  have E2 := dbl_lo (r := a) hb hb1
  have E3 := topd_eq a
  go_enter Try.func69, Try.ntmps69
  go_wp2
  go_region
  go_wp2
  simp [bodyPost, results, Try.results69, go_sem]
  (repeat (first | exact Below.refl _ _ | refine Below.setCell ?_ (by first | (simp; done) | (simp; omega) | omega) _ | refine Below.alloc ?_ (by first | (simp; done) | (simp; omega) | omega) _ | refine Below.drew ?_ | refine Below.trans ?_ (Below.mono (by assumption) (by first | (simp; done) | (simp; omega) | omega))))
theorem lenw64 (x : Int) (w : World) (h0 : 0 ≤ x) (h1 : x < 18446744073709551616) :
    Calls Try.prog 72 #[.int .u64 x] w fun e w' => e = .returned (.int .i64 (lenw x)) ∧ w' = w := len64 x w h0 (by omega)
theorem pbits (a : Nat) (ha : a < big) (w : World) :
    Calls Try.prog 64 #[W a] w fun e w' => e = .returned (.int .i64 (blenI a)) ∧ Below w.heap.size w w' := by
  obtain ⟨a1, a2⟩ := hi_word ha
  obtain ⟨b1, b2⟩ := lo_word a
  by_cases h : a / 18446744073709551616 = 0
  · have e1 : hi a = 0 := by unfold hi; omega
    rw [blenI_lo h]
    clear h
    go_enter Try.func64, Try.ntmps64
    go_wp2_with (go_at_call 72; refine (lenw64 (lo a) _ b1 b2).mono ?_; rintro e w' ⟨rfl, rfl⟩)
    go_ret
    exact ⟨rfl, (Below.refl _ _).alloc (Nat.le_refl _) _⟩
  · have e1 : (hi a != 0) = true := by rw [bne_iff_ne]; unfold hi; omega
    rw [blenI_hi h]
    clear h
    have e3 := lenw_64 a2
    have e4 := lenw_0 (hi a)
    go_enter Try.func64, Try.ntmps64
    go_wp2_with (go_at_call 72; refine (lenw64 (hi a) _ a1 a2).mono ?_; rintro e w' ⟨rfl, rfl⟩)
    go_ret
    exact ⟨rfl, (Below.refl _ _).alloc (Nat.le_refl _) _⟩
end Go.Proofs.Ytdibjlphcmjnoaa
