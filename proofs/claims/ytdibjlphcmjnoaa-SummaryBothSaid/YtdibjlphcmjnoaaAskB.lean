/- Summaries of a stream: bounds and ranks, walked. -/
import Derived.Test.YtdibjlphcmjnoaaAskA
import Derived.Laws.BitsLemmas
set_option linter.unusedVariables false
set_option linter.unusedSimpArgs false
set_option linter.unusedSectionVars false
set_option linter.unnecessarySimpa false
namespace Go.Proofs.Ytdibjlphcmjnoaa
open Go.RowKit
theorem and_xor (a : Nat) : ∀ b, 2 * (a &&& b) + (a ^^^ b) = a + b := by
  induction a using Nat.strongRecOn with
  | _ a ih =>
    intro b
    by_cases h : a = 0
    · subst h; simp
    · have i := ih (a / 2) (by omega) (b / 2)
      have h1 := Nat.and_div_two (a := a) (b := b)
      have h2 := Nat.xor_div_two (a := a) (b := b)
      have h3 := Nat.and_mod_two_eq_one (a := a) (b := b)
      have h4 := Nat.xor_mod_two_eq_one (a := a) (b := b)
      rw [← h1, ← h2] at i
      generalize (a &&& b) = x at *
      generalize (a ^^^ b) = y at *
      omega
theorem i64_small (n : Int) (h0 : 0 ≤ n) (h1 : n < 2 ^ 62) : IntKind.i64.wrap n = n := IntWalk.i64_in _ (by omega)
theorem bits_xor (a b : Nat) (ha : a < 2 ^ 62) (hb : b < 2 ^ 62) : bits .xor .i64 a b = ((a ^^^ b : Nat) : Int) := by
  have ha' : a % 2 ^ IntKind.i64.bits = a := Nat.mod_eq_of_lt (Nat.lt_of_lt_of_le ha (by decide))
  have hb' : b % 2 ^ IntKind.i64.bits = b := Nat.mod_eq_of_lt (Nat.lt_of_lt_of_le hb (by decide))
  simp only [bits, BitVec.ofInt_natCast, BitVec.toNat_xor, BitVec.toNat_ofNat, ha', hb']
  exact i64_small _ (Int.natCast_nonneg _) (by exact_mod_cast Nat.xor_lt_two_pow ha hb)
theorem mid_is {lo hi : Nat} (h : hi ≤ 4398046511104) (h2 : lo ≤ hi) : ∃ x y : Nat, bits .and .i64 (lo : Int) (hi : Int) = (x : Int) ∧ bits .xor .i64 (lo : Int) (hi : Int) = (y : Int) ∧ (x : Int) + (y : Int) / 2 = ((lo + hi) / 2 : Nat) := by
  refine ⟨lo &&& hi, lo ^^^ hi, (bits_nat .i64 62 (by decide) i64_small lo hi (by omega) (by omega)).1, bits_xor lo hi (by omega) (by omega), ?_⟩
  have := and_xor lo hi
  omega
theorem pratio (n : Int) (w : World) : Calls Try.prog 53 #[.int .i64 n] w fun e w' => e = .returned (.agg #[.int .i64 n, .int .i64 1]) ∧ Below w.heap.size w w' := by
  go_enter Try.func53, Try.ntmps53
  go_wp2
  exact bodyPost_ret (v := .agg #[.int .i64 n, .int .i64 1]) (by simp [results, Try.results53, go_sem]) rfl ⟨rfl, by (repeat (first | exact Below.refl _ _ | refine Below.setCell ?_ (by first | (simp; done) | (simp; omega) | omega) _ | refine Below.alloc ?_ (by first | (simp; done) | (simp; omega) | omega) _ | refine Below.drew ?_ | refine Below.trans ?_ (Below.mono (by assumption) (by first | (simp; done) | (simp; omega) | omega))))⟩
theorem rratio (n : Int) (w : World) : Calls Try.prog 54 #[.int .i64 n] w fun e w' => e = .returned (.agg #[.int .i64 n, .int .i64 1]) ∧ Below w.heap.size w w' := by
  go_enter Try.func54, Try.ntmps54
  go_wp2
  exact bodyPost_ret (v := .agg #[.int .i64 n, .int .i64 1]) (by simp [results, Try.results54, go_sem]) rfl ⟨rfl, by (repeat (first | exact Below.refl _ _ | refine Below.setCell ?_ (by first | (simp; done) | (simp; omega) | omega) _ | refine Below.alloc ?_ (by first | (simp; done) | (simp; omega) | omega) _ | refine Below.drew ?_ | refine Below.trans ?_ (Below.mono (by assumption) (by first | (simp; done) | (simp; omega) | omega))))⟩
theorem row_six_of {w : World} {b : Nat} {t : TypeId} {x0 x1 x2 x3 x4 x5 : Value} (h : Row w b t #[x0, x1, x2, x3, x4, x5]) : w.cell? ⟨b, 0, none⟩ = some x0 ∧ w.cell? ⟨b, 1, none⟩ = some x1 ∧ w.cell? ⟨b, 2, none⟩ = some x2 ∧ w.cell? ⟨b, 3, none⟩ = some x3 ∧ w.cell? ⟨b, 4, none⟩ = some x4 ∧ w.cell? ⟨b, 5, none⟩ = some x5 := by
  obtain ⟨h0, h1, h2, h3, h4, h5, _⟩ := row_six h
  exact ⟨h0, h1, h2, h3, h4, h5⟩
theorem below_six {B b : Nat} {w0 w : World} (h : Below B w0 w) (hb : B ≤ b) (u0 u1 u2 u3 u4 u5 : Value) : Below B w0 ((((((w.setCell ⟨b, 0, none⟩ u0).setCell ⟨b, 1, none⟩ u1).setCell ⟨b, 2, none⟩ u2).setCell ⟨b, 3, none⟩ u3).setCell ⟨b, 4, none⟩ u4).setCell ⟨b, 5, none⟩ u5) :=
  (((((h.setCell (p := ⟨b, 0, none⟩) hb u0).setCell (p := ⟨b, 1, none⟩) hb u1).setCell (p := ⟨b, 2, none⟩) hb u2).setCell (p := ⟨b, 3, none⟩) hb u3).setCell (p := ⟨b, 4, none⟩) hb u4).setCell (p := ⟨b, 5, none⟩) hb u5
theorem pwhole (lo hi : Nat) (h : lo ≤ hi) (hB : hi ≤ 4398046511104) (w : World) : Calls Try.prog 44 #[.int .i64 lo, .int .i64 hi] w fun e w' => e = .returned (.tuple #[.agg #[.int .i64 lo, .int .i64 1, .int .i64 ((lo + hi) / 2 : Nat), .int .i64 1, .int .i64 hi, .int .i64 1], .bool true]) ∧ Below w.heap.size w w' := by
  have h1 : ¬ (hi : Int) < (lo : Int) := by omega
  obtain ⟨x, y, e1, e2, e3⟩ := mid_is hB h
  have e4 : wrap64 ((x : Int) + (y : Int) / 2) = ((lo + hi) / 2 : Nat) := by rw [e3]; exact IntWalk.wrap64_in _ (by omega)
  generalize (lo + hi) / 2 = md at e3 e4 ⊢
  clear e3
  have P1 := Lib.hid (fun w => pratio (lo : Int) w)
  have P2 := Lib.hid (fun w => pratio (md : Int) w)
  have P3 := Lib.hid (fun w => pratio (hi : Int) w)
  go_enter Try.func44, Try.ntmps44
  go_wp2_with fail
  refine (P1.out _).mono ?_
  rintro e w1 ⟨rfl, hb1⟩
  have r : Row w1 w.heap.size 50 #[.int .i64 0, .int .i64 0, .int .i64 0, .int .i64 0, .int .i64 0, .int .i64 0] := row_call (row_new rfl) hb1
  have o : Below w.heap.size w w1 := ((Below.refl _ _).alloc (Nat.le_refl _) _).trans (hb1.mono (by simp))
  clear hb1
  go_wp2_with fail
  refine (P2.out _).mono ?_
  rintro e w2 ⟨rfl, hb2⟩
  replace r := row_call r hb2
  replace o := o.trans (hb2.mono o.size)
  clear hb2
  go_wp2_with fail
  refine (P3.out _).mono ?_
  rintro e w3 ⟨rfl, hb3⟩
  replace r := row_call r hb3
  replace o := o.trans (hb3.mono o.size)
  clear hb3
  obtain ⟨R0, R1, R2, R3, R4, R5, Rf0, Rf1, Rf2, Rf3, Rf4, Rf5⟩ := row_six r
  go_wp2
  exact bodyPost_ret (v := .tuple #[.agg #[.int .i64 lo, .int .i64 1, .int .i64 md, .int .i64 1, .int .i64 hi, .int .i64 1], .bool true]) (by simp [results, Try.results44, go_sem, R0, R1, R2, R3, R4, R5]) rfl ⟨rfl, below_six o (Nat.le_refl _) _ _ _ _ _ _⟩
theorem rfloor (a : Nat) (ha : a ≤ 4398046511104) (w : World) : Calls Try.prog 62 #[.int .i64 a, .int .i64 2] w fun e w' => e = .returned (.tuple #[.int .i64 (a / 2 : Nat), .bool true]) ∧ w' = w := by
  have h1 : (a : Int).tdiv 2 = ((a / 2 : Nat) : Int) := (Int.tdiv_eq_ediv_of_nonneg (by omega)).trans (by omega)
  have h2 : (a : Int).tmod 2 = ((a % 2 : Nat) : Int) := (Int.tmod_eq_emod_of_nonneg (by omega)).trans (by omega)
  have h3 : ((a : Int) == -9223372036854775808) = false := by first | (simp; done) | (simp; omega)
  have h4 : ¬ (a : Int) < 0 := by omega
  have h5 : a % 2 < 2 := Nat.mod_lt _ (by decide)
  have h6 : IntKind.i64.wrap ((a / 2 : Nat) : Int) = ((a / 2 : Nat) : Int) := IntWalk.i64_in _ (by omega)
  generalize hq : a / 2 = q at h1 h6 ⊢
  generalize a % 2 = s at h2 h5
  clear hq
  by_cases hs : s = 0
  · subst hs
    go_enter Try.func62, Try.ntmps62
    go_wp2
    go_ret2
    exact ⟨rfl, rfl⟩
  · obtain rfl : s = 1 := by omega
    go_enter Try.func62, Try.ntmps62
    go_wp2
    go_ret2
    exact ⟨rfl, rfl⟩
theorem rmiddle (lo hi : Nat) (h : lo ≤ hi) (hB : hi ≤ 4398046511104) (w : World) : Calls Try.prog 55 #[.int .i64 lo, .int .i64 hi] w fun e w' => e = .returned (.int .i64 ((lo + hi) / 2 : Nat)) ∧ w' = w := by
  have P1 := fun w => rfloor lo (by omega) w
  have P2 := fun w => rfloor hi hB w
  have e0 : lo / 2 * 2 + lo % 2 = lo := by omega
  have e1 : hi / 2 * 2 + hi % 2 = hi := by omega
  have e2 : lo % 2 < 2 := by omega
  have e3 : hi % 2 < 2 := by omega
  generalize lo / 2 = a at P1 e0
  generalize hi / 2 = b at P2 e1
  generalize lo % 2 = s at e0 e2
  generalize hi % 2 = u at e1 e3
  have P1 := Lib.hid P1
  have P2 := Lib.hid P2
  have w1 : IntKind.i64.wrap ((a : Int) + (b : Int)) = (a : Int) + (b : Int) := IntWalk.i64_in _ (by omega)
  have w2 : IntKind.i64.wrap (2 * (a : Int)) = 2 * (a : Int) := IntWalk.i64_in _ (by omega)
  have w3 : IntKind.i64.wrap ((lo : Int) - 2 * (a : Int)) = (s : Int) := by rw [IntWalk.i64_in _ (by omega)]; omega
  have w4 : IntKind.i64.wrap ((s : Int) + (hi : Int)) = (s : Int) + (hi : Int) := IntWalk.i64_in _ (by omega)
  have w5 : IntKind.i64.wrap (2 * (b : Int)) = 2 * (b : Int) := IntWalk.i64_in _ (by omega)
  have w6 : IntKind.i64.wrap ((s : Int) + (hi : Int) - 2 * (b : Int)) = ((s + u : Nat) : Int) := by rw [IntWalk.i64_in _ (by omega)]; omega
  have w7 : ((s + u : Nat) : Int).tdiv 2 = (((s + u) / 2 : Nat) : Int) := (Int.tdiv_eq_ediv_of_nonneg (by omega)).trans (by omega)
  have w8 : IntKind.i64.wrap ((a : Int) + (b : Int) + (((s + u) / 2 : Nat) : Int)) = (((lo + hi) / 2 : Nat) : Int) := by rw [IntWalk.i64_in _ (by omega)]; omega
  have w9 : IntKind.i64.wrap (((s + u) / 2 : Nat) : Int) = (((s + u) / 2 : Nat) : Int) := IntWalk.i64_in _ (by omega)
  generalize (s + u) / 2 = q at w7 w8 w9
  generalize s + u = su at w6 w7
  generalize (lo + hi) / 2 = md at w8 ⊢
  clear e0 e1 e2 e3
  go_enter Try.func55, Try.ntmps55
  go_wp2_with (first | (go_at_call 62; with_reducible refine (P1.out _).mono ?_; rintro e w10 ⟨rfl, h9⟩; obtain rfl := h9.symm) | (go_at_call 62; with_reducible refine (P2.out _).mono ?_; rintro e w10 ⟨rfl, h9⟩; obtain rfl := h9.symm))
  go_ret
  exact ⟨rfl, rfl⟩
theorem rwhole (lo hi : Nat) (h : lo ≤ hi) (hB : hi ≤ 4398046511104) (w : World) : Calls Try.prog 46 #[.int .i64 lo, .int .i64 hi] w fun e w' => e = .returned (.tuple #[.agg #[.int .i64 lo, .int .i64 1, .int .i64 ((lo + hi) / 2 : Nat), .int .i64 1, .int .i64 hi, .int .i64 1], .bool true]) ∧ Below w.heap.size w w' := by
  have h1 : ¬ (hi : Int) < (lo : Int) := by omega
  have P0 := fun w => rmiddle lo hi h hB w
  generalize (lo + hi) / 2 = md at P0 ⊢
  have P0 := Lib.hid P0
  have P1 := Lib.hid (fun w => rratio (lo : Int) w)
  have P2 := Lib.hid (fun w => rratio (md : Int) w)
  have P3 := Lib.hid (fun w => rratio (hi : Int) w)
  go_enter Try.func46, Try.ntmps46
  go_wp2_with fail
  refine (P1.out _).mono ?_
  rintro e w1 ⟨rfl, hb1⟩
  have r : Row w1 w.heap.size 50 #[.int .i64 0, .int .i64 0, .int .i64 0, .int .i64 0, .int .i64 0, .int .i64 0] := row_call (row_new rfl) hb1
  have o : Below w.heap.size w w1 := ((Below.refl _ _).alloc (Nat.le_refl _) _).trans (hb1.mono (by simp))
  clear hb1
  go_wp2_with (go_at_call 55; refine (P0.out _).mono ?_; rintro e w10 ⟨rfl, h9⟩; obtain rfl := h9.symm)
  refine (P2.out _).mono ?_
  rintro e w2 ⟨rfl, hb2⟩
  replace r := row_call r hb2
  replace o := o.trans (hb2.mono o.size)
  clear hb2
  go_wp2_with fail
  refine (P3.out _).mono ?_
  rintro e w3 ⟨rfl, hb3⟩
  replace r := row_call r hb3
  replace o := o.trans (hb3.mono o.size)
  clear hb3
  obtain ⟨R0, R1, R2, R3, R4, R5, Rf0, Rf1, Rf2, Rf3, Rf4, Rf5⟩ := row_six r
  go_wp2
  exact bodyPost_ret (v := .tuple #[.agg #[.int .i64 lo, .int .i64 1, .int .i64 md, .int .i64 1, .int .i64 hi, .int .i64 1], .bool true]) (by simp [results, Try.results46, go_sem, R0, R1, R2, R3, R4, R5]) rfl ⟨rfl, below_six o (Nat.le_refl _) _ _ _ _ _ _⟩
end Go.Proofs.Ytdibjlphcmjnoaa
