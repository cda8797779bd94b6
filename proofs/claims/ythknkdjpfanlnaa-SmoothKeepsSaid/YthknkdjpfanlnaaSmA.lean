/- Smooth histograms: aggregates of marks, and when one is close to another, walked. -/
import Derived.Test.YthknkdjpfanlnaaMkV
import Derived.Test.YthknkdjpfanlnaaFree
import Derived.Test.YthknkdjpfanlnaaOrder
set_option linter.unusedVariables false
set_option linter.unusedSimpArgs false
set_option linter.unusedSectionVars false
set_option linter.unnecessarySimpa false
namespace Go.Proofs.Ythknkdjpfanlnaa
open Go.RowKit
theorem nsub_yes (a b : Int) (w : World) (hA : I64 a) (hB : I64 b) (h : I64 (a - b)) : Calls Try.prog 56 #[.int .i64 a, .int .i64 b] w fun e w' => e = .returned (.tuple #[.int .i64 (a - b), .bool true]) ∧ w' = w := by
  unfold I64 at hA hB h
  have wr : IntKind.i64.wrap (a - b) = a - b := IntWalk.i64_in _ (by omega)
  by_cases h1 : 0 ≤ a <;> by_cases h2 : 0 ≤ b <;> by_cases h3 : b ≤ a
  all_goals
    first
    | (exfalso; omega)
    | (clear hA hB h; go_enter Try.func56, Try.ntmps56; go_wp2; go_ret2; exact ⟨rfl, rfl⟩)
theorem nsub_no (a b : Int) (w : World) (hA : I64 a) (hB : I64 b) (h : ¬ I64 (a - b)) : Calls Try.prog 56 #[.int .i64 a, .int .i64 b] w fun e w' => e = .returned (.tuple #[.int .i64 0, .bool false]) ∧ w' = w := by
  unfold I64 at hA hB h
  obtain ⟨c, hc⟩ : ∃ c, IntKind.i64.wrap (a - b) = c := ⟨_, rfl⟩
  have e : (9223372036854775807 < a - b ∧ c = a - b - 18446744073709551616) ∨ (a - b < -9223372036854775808 ∧ c = a - b + 18446744073709551616) := by
    rw [← hc]
    simp only [IntKind.wrap, IntKind.signed, IntKind.bits]
    simp
    omega
  by_cases h1 : 0 ≤ a <;> by_cases h2 : 0 ≤ b <;> by_cases h3 : 0 ≤ c
  all_goals
    first
    | (exfalso; omega)
    | (clear hA hB h e; go_enter Try.func56, Try.ntmps56; go_wp2; go_ret2; exact ⟨rfl, rfl⟩)
theorem nrsub_yes (a b : Int) (w : World) (hA : I64 a) (hB : I64 b) (h : I64 (a - b)) : Calls Try.prog 57 #[.int .i64 a, .int .i64 b] w fun e w' => e = .returned (.tuple #[.int .i64 (a - b), .bool true]) ∧ w' = w := by
  unfold I64 at hA hB h
  have wr : IntKind.i64.wrap (a - b) = a - b := IntWalk.i64_in _ (by omega)
  rcases Int.lt_trichotomy b 0 with g | g | g
  · have w1 : IntKind.i64.wrap (9223372036854775807 + b) = 9223372036854775807 + b := IntWalk.i64_in _ (by omega)
    have d1 : decide (b < 0) = true := decide_eq_true g
    have d2 : decide (9223372036854775807 + b < a) = false := decide_eq_false (by omega)
    have d3 : decide (0 < b) = false := decide_eq_false (by omega)
    clear hA hB h
    go_enter Try.func57, Try.ntmps57
    go_wp2
    go_ret2
    exact ⟨rfl, rfl⟩
  · subst g
    clear hB h wr
    rw [Int.sub_zero]
    go_enter Try.func57, Try.ntmps57
    go_wp2
    go_ret2
    exact ⟨rfl, rfl⟩
  · have w1 : IntKind.i64.wrap (-9223372036854775808 + b) = -9223372036854775808 + b := IntWalk.i64_in _ (by omega)
    have d1 : decide (b < 0) = false := decide_eq_false (by omega)
    have d2 : decide (a < -9223372036854775808 + b) = false := decide_eq_false (by omega)
    have d3 : decide (0 < b) = true := decide_eq_true g
    clear hA hB h
    go_enter Try.func57, Try.ntmps57
    go_wp2
    go_ret2
    exact ⟨rfl, rfl⟩
theorem nrsub_no (a b : Int) (w : World) (hA : I64 a) (hB : I64 b) (h : ¬ I64 (a - b)) : Calls Try.prog 57 #[.int .i64 a, .int .i64 b] w fun e w' => e = .returned (.tuple #[.int .i64 0, .bool false]) ∧ w' = w := by
  unfold I64 at hA hB h
  rcases Int.lt_trichotomy b 0 with g | g | g
  · have w1 : IntKind.i64.wrap (9223372036854775807 + b) = 9223372036854775807 + b := IntWalk.i64_in _ (by omega)
    have d1 : decide (b < 0) = true := decide_eq_true g
    have d2 : decide (9223372036854775807 + b < a) = true := decide_eq_true (by omega)
    clear hA hB h
    go_enter Try.func57, Try.ntmps57
    go_wp2
    go_ret2
    exact ⟨rfl, rfl⟩
  · exfalso
    omega
  · have w1 : IntKind.i64.wrap (-9223372036854775808 + b) = -9223372036854775808 + b := IntWalk.i64_in _ (by omega)
    have d1 : decide (b < 0) = false := decide_eq_false (by omega)
    have d2 : decide (a < -9223372036854775808 + b) = true := decide_eq_true (by omega)
    have d3 : decide (0 < b) = true := decide_eq_true g
    clear hA hB h
    go_enter Try.func57, Try.ntmps57
    go_wp2
    go_ret2
    exact ⟨rfl, rfl⟩
theorem pofm_1 (agg sq tk n s q lo hi : Int) (w : World) (h : agg = 1) : Calls Try.prog 24 #[.agg #[.int .i64 sq, .int .i64 tk, .int .i64 n, .int .i64 s, .int .i64 q, .int .i64 lo, .int .i64 hi], .int .i64 agg] w fun e w' => e = .returned (.int .i64 n) ∧ Below w.heap.size w w' := by
  subst h
  go_enter Try.func24, Try.ntmps24
  go_wp2_with fail
  go_ret
  exact ⟨rfl, (Below.refl _ _).alloc (Nat.le_refl _) _⟩
theorem pofm_2 (agg sq tk n s q lo hi : Int) (w : World) (h : agg = 2) : Calls Try.prog 24 #[.agg #[.int .i64 sq, .int .i64 tk, .int .i64 n, .int .i64 s, .int .i64 q, .int .i64 lo, .int .i64 hi], .int .i64 agg] w fun e w' => e = .returned (.int .i64 s) ∧ Below w.heap.size w w' := by
  subst h
  go_enter Try.func24, Try.ntmps24
  go_wp2_with fail
  go_ret
  exact ⟨rfl, (Below.refl _ _).alloc (Nat.le_refl _) _⟩
theorem pofm_3 (agg sq tk n s q lo hi : Int) (w : World) (h : agg = 3) : Calls Try.prog 24 #[.agg #[.int .i64 sq, .int .i64 tk, .int .i64 n, .int .i64 s, .int .i64 q, .int .i64 lo, .int .i64 hi], .int .i64 agg] w fun e w' => e = .returned (.int .i64 q) ∧ Below w.heap.size w w' := by
  subst h
  go_enter Try.func24, Try.ntmps24
  go_wp2_with fail
  go_ret
  exact ⟨rfl, (Below.refl _ _).alloc (Nat.le_refl _) _⟩
theorem pofm_4y (agg sq tk n s q lo hi : Int) (w : World) (h : agg = 4) (h1 : I64 hi) (h2 : I64 lo) (h3 : I64 (hi - lo)) : Calls Try.prog 24 #[.agg #[.int .i64 sq, .int .i64 tk, .int .i64 n, .int .i64 s, .int .i64 q, .int .i64 lo, .int .i64 hi], .int .i64 agg] w fun e w' => e = .returned (.int .i64 (hi - lo)) ∧ Below w.heap.size w w' := by
  subst h
  have PS := Lib.hid (fun w => nsub_yes hi lo w h1 h2 h3)
  clear h1 h2 h3
  go_enter Try.func24, Try.ntmps24
  go_wp2_with (go_at_call 56; with_reducible refine (PS.out _).mono ?_; rintro e w9 ⟨rfl, h9⟩; obtain rfl := h9.symm)
  go_ret
  exact ⟨rfl, (Below.refl _ _).alloc (Nat.le_refl _) _⟩
theorem pofm_4n (agg sq tk n s q lo hi : Int) (w : World) (h : agg = 4) (h1 : I64 hi) (h2 : I64 lo) (h3 : ¬ I64 (hi - lo)) : Calls Try.prog 24 #[.agg #[.int .i64 sq, .int .i64 tk, .int .i64 n, .int .i64 s, .int .i64 q, .int .i64 lo, .int .i64 hi], .int .i64 agg] w fun e w' => e = .returned (.int .i64 0) ∧ Below w.heap.size w w' := by
  subst h
  have PS := Lib.hid (fun w => nsub_no hi lo w h1 h2 h3)
  clear h1 h2 h3
  go_enter Try.func24, Try.ntmps24
  go_wp2_with (go_at_call 56; with_reducible refine (PS.out _).mono ?_; rintro e w9 ⟨rfl, h9⟩; obtain rfl := h9.symm)
  go_ret
  exact ⟨rfl, (Below.refl _ _).alloc (Nat.le_refl _) _⟩
theorem pofm_5 (agg sq tk n s q lo hi : Int) (w : World) (h1 : agg ≠ 1) (h2 : agg ≠ 2) (h3 : agg ≠ 3) (h4 : agg ≠ 4) : Calls Try.prog 24 #[.agg #[.int .i64 sq, .int .i64 tk, .int .i64 n, .int .i64 s, .int .i64 q, .int .i64 lo, .int .i64 hi], .int .i64 agg] w fun e w' => e = .returned (.int .i64 0) ∧ Below w.heap.size w w' := by
  have b1 : (agg == 1) = false := by simpa using h1
  have b2 : (agg == 2) = false := by simpa using h2
  have b3 : (agg == 3) = false := by simpa using h3
  have b4 : (agg == 4) = false := by simpa using h4
  go_enter Try.func24, Try.ntmps24
  go_wp2_with fail
  go_ret
  exact ⟨rfl, (Below.refl _ _).alloc (Nat.le_refl _) _⟩
theorem pofm (agg : Int) (m : Mk) (w : World) (hm : M64 m) : Calls Try.prog 24 #[.agg #[.int .i64 m.seq, .int .i64 m.t, .int .i64 m.n, .int .i64 m.s, .int .i64 m.q, .int .i64 m.lo, .int .i64 m.hi], .int .i64 agg] w fun e w' => e = .returned (.int .i64 (ofV agg m)) ∧ Below w.heap.size w w' := by
  obtain ⟨_, _, _, _, _, hlo, hhi⟩ := hm
  obtain ⟨sq, tk, n, s, q, lo, hi⟩ := m
  by_cases e1 : agg = 1
  · rw [show ofV agg (⟨sq, tk, n, s, q, lo, hi⟩ : Mk) = n by subst e1; rfl]
    exact pofm_1 agg sq tk n s q lo hi w e1
  · by_cases e2 : agg = 2
    · rw [show ofV agg (⟨sq, tk, n, s, q, lo, hi⟩ : Mk) = s by subst e2; rfl]
      exact pofm_2 agg sq tk n s q lo hi w e2
    · by_cases e3 : agg = 3
      · rw [show ofV agg (⟨sq, tk, n, s, q, lo, hi⟩ : Mk) = q by subst e3; rfl]
        exact pofm_3 agg sq tk n s q lo hi w e3
      · by_cases e4 : agg = 4
        · by_cases hd : I64 (hi - lo)
          · rw [show ofV agg (⟨sq, tk, n, s, q, lo, hi⟩ : Mk) = hi - lo by subst e4; unfold ofV; simp; unfold I64 at hd; omega]
            exact pofm_4y agg sq tk n s q lo hi w e4 hhi hlo hd
          · rw [show ofV agg (⟨sq, tk, n, s, q, lo, hi⟩ : Mk) = 0 by subst e4; unfold ofV; simp; unfold I64 at hd; omega]
            exact pofm_4n agg sq tk n s q lo hi w e4 hhi hlo hd
        · rw [show ofV agg (⟨sq, tk, n, s, q, lo, hi⟩ : Mk) = 0 by unfold ofV; rw [if_neg e1, if_neg e2, if_neg e3, if_neg e4]]
          exact pofm_5 agg sq tk n s q lo hi w e1 e2 e3 e4
theorem rofm_1 (agg sq tk n s q lo hi : Int) (w : World) (h : agg = 1) : Calls Try.prog 25 #[.agg #[.int .i64 sq, .int .i64 tk, .int .i64 n, .int .i64 s, .int .i64 q, .int .i64 lo, .int .i64 hi], .int .i64 agg] w fun e w' => e = .returned (.int .i64 n) ∧ Below w.heap.size w w' := by
  subst h
  go_enter Try.func25, Try.ntmps25
  go_wp2_with fail
  go_ret
  exact ⟨rfl, (Below.refl _ _).alloc (Nat.le_refl _) _⟩
theorem rofm_2 (agg sq tk n s q lo hi : Int) (w : World) (h : agg = 2) : Calls Try.prog 25 #[.agg #[.int .i64 sq, .int .i64 tk, .int .i64 n, .int .i64 s, .int .i64 q, .int .i64 lo, .int .i64 hi], .int .i64 agg] w fun e w' => e = .returned (.int .i64 s) ∧ Below w.heap.size w w' := by
  subst h
  go_enter Try.func25, Try.ntmps25
  go_wp2_with fail
  go_ret
  exact ⟨rfl, (Below.refl _ _).alloc (Nat.le_refl _) _⟩
theorem rofm_3 (agg sq tk n s q lo hi : Int) (w : World) (h : agg = 3) : Calls Try.prog 25 #[.agg #[.int .i64 sq, .int .i64 tk, .int .i64 n, .int .i64 s, .int .i64 q, .int .i64 lo, .int .i64 hi], .int .i64 agg] w fun e w' => e = .returned (.int .i64 q) ∧ Below w.heap.size w w' := by
  subst h
  go_enter Try.func25, Try.ntmps25
  go_wp2_with fail
  go_ret
  exact ⟨rfl, (Below.refl _ _).alloc (Nat.le_refl _) _⟩
theorem rofm_4y (agg sq tk n s q lo hi : Int) (w : World) (h : agg = 4) (h1 : I64 hi) (h2 : I64 lo) (h3 : I64 (hi - lo)) : Calls Try.prog 25 #[.agg #[.int .i64 sq, .int .i64 tk, .int .i64 n, .int .i64 s, .int .i64 q, .int .i64 lo, .int .i64 hi], .int .i64 agg] w fun e w' => e = .returned (.int .i64 (hi - lo)) ∧ Below w.heap.size w w' := by
  subst h
  have PS := Lib.hid (fun w => nrsub_yes hi lo w h1 h2 h3)
  clear h1 h2 h3
  go_enter Try.func25, Try.ntmps25
  go_wp2_with (go_at_call 57; with_reducible refine (PS.out _).mono ?_; rintro e w9 ⟨rfl, h9⟩; obtain rfl := h9.symm)
  go_ret
  exact ⟨rfl, (Below.refl _ _).alloc (Nat.le_refl _) _⟩
theorem rofm_4n (agg sq tk n s q lo hi : Int) (w : World) (h : agg = 4) (h1 : I64 hi) (h2 : I64 lo) (h3 : ¬ I64 (hi - lo)) : Calls Try.prog 25 #[.agg #[.int .i64 sq, .int .i64 tk, .int .i64 n, .int .i64 s, .int .i64 q, .int .i64 lo, .int .i64 hi], .int .i64 agg] w fun e w' => e = .returned (.int .i64 0) ∧ Below w.heap.size w w' := by
  subst h
  have PS := Lib.hid (fun w => nrsub_no hi lo w h1 h2 h3)
  clear h1 h2 h3
  go_enter Try.func25, Try.ntmps25
  go_wp2_with (go_at_call 57; with_reducible refine (PS.out _).mono ?_; rintro e w9 ⟨rfl, h9⟩; obtain rfl := h9.symm)
  go_ret
  exact ⟨rfl, (Below.refl _ _).alloc (Nat.le_refl _) _⟩
theorem rofm_5 (agg sq tk n s q lo hi : Int) (w : World) (h1 : agg ≠ 1) (h2 : agg ≠ 2) (h3 : agg ≠ 3) (h4 : agg ≠ 4) : Calls Try.prog 25 #[.agg #[.int .i64 sq, .int .i64 tk, .int .i64 n, .int .i64 s, .int .i64 q, .int .i64 lo, .int .i64 hi], .int .i64 agg] w fun e w' => e = .returned (.int .i64 0) ∧ Below w.heap.size w w' := by
  have b1 : (agg == 1) = false := by simpa using h1
  have b2 : (agg == 2) = false := by simpa using h2
  have b3 : (agg == 3) = false := by simpa using h3
  have b4 : (agg == 4) = false := by simpa using h4
  go_enter Try.func25, Try.ntmps25
  go_wp2_with fail
  go_ret
  exact ⟨rfl, (Below.refl _ _).alloc (Nat.le_refl _) _⟩
theorem rofm (agg : Int) (m : Mk) (w : World) (hm : M64 m) : Calls Try.prog 25 #[.agg #[.int .i64 m.seq, .int .i64 m.t, .int .i64 m.n, .int .i64 m.s, .int .i64 m.q, .int .i64 m.lo, .int .i64 m.hi], .int .i64 agg] w fun e w' => e = .returned (.int .i64 (ofV agg m)) ∧ Below w.heap.size w w' := by
  obtain ⟨_, _, _, _, _, hlo, hhi⟩ := hm
  obtain ⟨sq, tk, n, s, q, lo, hi⟩ := m
  by_cases e1 : agg = 1
  · rw [show ofV agg (⟨sq, tk, n, s, q, lo, hi⟩ : Mk) = n by subst e1; rfl]
    exact rofm_1 agg sq tk n s q lo hi w e1
  · by_cases e2 : agg = 2
    · rw [show ofV agg (⟨sq, tk, n, s, q, lo, hi⟩ : Mk) = s by subst e2; rfl]
      exact rofm_2 agg sq tk n s q lo hi w e2
    · by_cases e3 : agg = 3
      · rw [show ofV agg (⟨sq, tk, n, s, q, lo, hi⟩ : Mk) = q by subst e3; rfl]
        exact rofm_3 agg sq tk n s q lo hi w e3
      · by_cases e4 : agg = 4
        · by_cases hd : I64 (hi - lo)
          · rw [show ofV agg (⟨sq, tk, n, s, q, lo, hi⟩ : Mk) = hi - lo by subst e4; unfold ofV; simp; unfold I64 at hd; omega]
            exact rofm_4y agg sq tk n s q lo hi w e4 hhi hlo hd
          · rw [show ofV agg (⟨sq, tk, n, s, q, lo, hi⟩ : Mk) = 0 by subst e4; unfold ofV; simp; unfold I64 at hd; omega]
            exact rofm_4n agg sq tk n s q lo hi w e4 hhi hlo hd
        · rw [show ofV agg (⟨sq, tk, n, s, q, lo, hi⟩ : Mk) = 0 by unfold ofV; rw [if_neg e1, if_neg e2, if_neg e3, if_neg e4]]
          exact rofm_5 agg sq tk n s q lo hi w e1 e2 e3 e4
theorem pnear_flat (agg k sq tk n s q lo hi bsq btk bn bs bq blo bhi x y : Int) (w : World) (k0 : 1 ≤ k) (k1 : k ≤ 64) (x0 : 0 ≤ x) (x1 : x ≤ 1099511627776) (y0 : 0 ≤ y) (y1 : y ≤ 1099511627776)
    (PX : ∀ w, Calls Try.prog 24 #[.agg #[.int .i64 sq, .int .i64 tk, .int .i64 n, .int .i64 s, .int .i64 q, .int .i64 lo, .int .i64 hi], .int .i64 agg] w fun e w' => e = .returned (.int .i64 x) ∧ Below w.heap.size w w') (PY : ∀ w, Calls Try.prog 24 #[.agg #[.int .i64 bsq, .int .i64 btk, .int .i64 bn, .int .i64 bs, .int .i64 bq, .int .i64 blo, .int .i64 bhi], .int .i64 agg] w fun e w' => e = .returned (.int .i64 y) ∧ Below w.heap.size w w') :
    Calls Try.prog 39 #[.agg #[.int .i64 sq, .int .i64 tk, .int .i64 n, .int .i64 s, .int .i64 q, .int .i64 lo, .int .i64 hi], .agg #[.int .i64 bsq, .int .i64 btk, .int .i64 bn, .int .i64 bs, .int .i64 bq, .int .i64 blo, .int .i64 bhi], .int .i64 agg, .int .i64 k] w fun e w' => e = .returned (.bool (decide (k * x ≤ (k + 1) * y))) ∧ Below w.heap.size w w' := by
  have PX := Lib.hid PX
  have PY := Lib.hid PY
  have b1 : 0 ≤ k * x ∧ k * x ≤ 64 * 1099511627776 := ⟨Int.mul_nonneg (by omega) x0, Int.mul_le_mul k1 x1 x0 (by decide)⟩
  have b2 : 0 ≤ (k + 1) * y ∧ (k + 1) * y ≤ 65 * 1099511627776 := ⟨Int.mul_nonneg (by omega) y0, Int.mul_le_mul (by omega) y1 y0 (by decide)⟩
  have w1 : IntKind.i64.wrap (k + 1) = k + 1 := IntWalk.i64_in _ (by omega)
  have w2 : IntKind.i64.wrap (k * x) = k * x := IntWalk.i64_in _ (by omega)
  have w3 : IntKind.i64.wrap ((k + 1) * y) = (k + 1) * y := IntWalk.i64_in _ (by omega)
  have w4 : IntKind.i64.wrap k = k := IntWalk.i64_in _ (by omega)
  clear b1 b2
  go_enter Try.func39, Try.ntmps39
  go_upto_region 1 with (fail)
  have X : Row ((w.alloc (.cells #[.int .i64 sq, .int .i64 tk, .int .i64 n, .int .i64 s, .int .i64 q, .int .i64 lo, .int .i64 hi] 43)).alloc (.cells #[.int .i64 bsq, .int .i64 btk, .int .i64 bn, .int .i64 bs, .int .i64 bq, .int .i64 blo, .int .i64 bhi] 43)) w.heap.size 43 #[.int .i64 sq, .int .i64 tk, .int .i64 n, .int .i64 s, .int .i64 q, .int .i64 lo, .int .i64 hi] := row_alloc (row_new rfl) _
  have Y : Row ((w.alloc (.cells #[.int .i64 sq, .int .i64 tk, .int .i64 n, .int .i64 s, .int .i64 q, .int .i64 lo, .int .i64 hi] 43)).alloc (.cells #[.int .i64 bsq, .int .i64 btk, .int .i64 bn, .int .i64 bs, .int .i64 bq, .int .i64 blo, .int .i64 bhi] 43)) (w.heap.size + 1) 43 #[.int .i64 bsq, .int .i64 btk, .int .i64 bn, .int .i64 bs, .int .i64 bq, .int .i64 blo, .int .i64 bhi] := row_new (by simp)
  have o : Below w.heap.size w ((w.alloc (.cells #[.int .i64 sq, .int .i64 tk, .int .i64 n, .int .i64 s, .int .i64 q, .int .i64 lo, .int .i64 hi] 43)).alloc (.cells #[.int .i64 bsq, .int .i64 btk, .int .i64 bn, .int .i64 bs, .int .i64 bq, .int .i64 blo, .int .i64 bhi] 43)) := by (repeat (first | exact Below.refl _ _ | refine Below.setCell ?_ (by first | (simp; done) | (simp; omega) | omega) _ | refine Below.alloc ?_ (by first | (simp; done) | (simp; omega) | omega) _ | refine Below.drew ?_ | refine Below.trans ?_ (Below.mono (by assumption) (by first | (simp; done) | (simp; omega) | omega))))
  generalize ((w.alloc (.cells #[.int .i64 sq, .int .i64 tk, .int .i64 n, .int .i64 s, .int .i64 q, .int .i64 lo, .int .i64 hi] 43)).alloc (.cells #[.int .i64 bsq, .int .i64 btk, .int .i64 bn, .int .i64 bs, .int .i64 bq, .int .i64 blo, .int .i64 bhi] 43)) = w5 at X Y o ⊢
  refine wp_region_free0 [0, 1, 2, 3, 4, 5, 6, 7, 8, 9, 10, 11] [] [0, 1, 2, 3, 4, 5, 6, 7, 8, 9, 10, 11] 12 (fun w' => Row w' (w.heap.size) 43 #[.int .i64 sq, .int .i64 tk, .int .i64 n, .int .i64 s, .int .i64 q, .int .i64 lo, .int .i64 hi] ∧ Row w' (w.heap.size + 1) 43 #[.int .i64 bsq, .int .i64 btk, .int .i64 bn, .int .i64 bs, .int .i64 bq, .int .i64 blo, .int .i64 bhi] ∧ Below w.heap.size w w') (by kernel_rfl) (by kernel_rfl) (fun _ _ d _ _ h => by cases d <;> exact h) ?_ ?_
  · exact ⟨X, Y, o.drew⟩
  (refine plan_pure ?_ rfl rfl (fun w' => ?_) ?_; rotate_left; (go_simp; try with_reducible rfl); simp only [Act.put, List.setIfInBounds_toArray, List.set_cons_zero, List.set_cons_succ])
  (refine plan_pure ?_ rfl rfl (fun w' => ?_) ?_; rotate_left; (go_simp; try with_reducible rfl); simp only [Act.put, List.setIfInBounds_toArray, List.set_cons_zero, List.set_cons_succ])
  (refine plan_val ?_ rfl rfl rfl (fun w' hS => ?_) ?_; rotate_left; (obtain ⟨X0, X1, X2, X3, X4, X5, X6, Xf0, Xf1, Xf2, Xf3, Xf4, Xf5, Xf6⟩ := row_seven hS.1; obtain ⟨Y0, Y1, Y2, Y3, Y4, Y5, Y6, Yf0, Yf1, Yf2, Yf3, Yf4, Yf5, Yf6⟩ := row_seven hS.2.1; go_simp; try with_reducible rfl); simp only [Act.put, List.setIfInBounds_toArray, List.set_cons_zero, List.set_cons_succ])
  (refine plan_pure ?_ rfl rfl (fun w' => ?_) ?_; rotate_left; (go_simp; try with_reducible rfl); simp only [Act.put, List.setIfInBounds_toArray, List.set_cons_zero, List.set_cons_succ])
  refine plan_call (.int .i64 y) 24 #[.agg #[.int .i64 bsq, .int .i64 btk, .int .i64 bn, .int .i64 bs, .int .i64 bq, .int .i64 blo, .int .i64 bhi], .int .i64 agg] rfl rfl rfl (fun _ _ h hb => ⟨row_call h.1 hb, row_call h.2.1 hb, h.2.2.trans (hb.mono h.2.2.size)⟩) (fun w' hS => by obtain ⟨X0, X1, X2, X3, X4, X5, X6, Xf0, Xf1, Xf2, Xf3, Xf4, Xf5, Xf6⟩ := row_seven hS.1; obtain ⟨Y0, Y1, Y2, Y3, Y4, Y5, Y6, Yf0, Yf1, Yf2, Yf3, Yf4, Yf5, Yf6⟩ := row_seven hS.2.1; go_simp) (fun w' hS => PY.out w') ?_
  simp only [Act.put, List.setIfInBounds_toArray, List.set_cons_zero, List.set_cons_succ]
  (refine plan_pure ?_ rfl rfl (fun w' => ?_) ?_; rotate_left; (go_simp; try with_reducible rfl); simp only [Act.put, List.setIfInBounds_toArray, List.set_cons_zero, List.set_cons_succ])
  (refine plan_pure ?_ rfl rfl (fun w' => ?_) ?_; rotate_left; (go_simp; try with_reducible rfl); simp only [Act.put, List.setIfInBounds_toArray, List.set_cons_zero, List.set_cons_succ])
  (refine plan_val ?_ rfl rfl rfl (fun w' hS => ?_) ?_; rotate_left; (obtain ⟨X0, X1, X2, X3, X4, X5, X6, Xf0, Xf1, Xf2, Xf3, Xf4, Xf5, Xf6⟩ := row_seven hS.1; obtain ⟨Y0, Y1, Y2, Y3, Y4, Y5, Y6, Yf0, Yf1, Yf2, Yf3, Yf4, Yf5, Yf6⟩ := row_seven hS.2.1; go_simp; try with_reducible rfl); simp only [Act.put, List.setIfInBounds_toArray, List.set_cons_zero, List.set_cons_succ])
  (refine plan_pure ?_ rfl rfl (fun w' => ?_) ?_; rotate_left; (go_simp; try with_reducible rfl); simp only [Act.put, List.setIfInBounds_toArray, List.set_cons_zero, List.set_cons_succ])
  refine plan_call (.int .i64 x) 24 #[.agg #[.int .i64 sq, .int .i64 tk, .int .i64 n, .int .i64 s, .int .i64 q, .int .i64 lo, .int .i64 hi], .int .i64 agg] rfl rfl rfl (fun _ _ h hb => ⟨row_call h.1 hb, row_call h.2.1 hb, h.2.2.trans (hb.mono h.2.2.size)⟩) (fun w' hS => by obtain ⟨X0, X1, X2, X3, X4, X5, X6, Xf0, Xf1, Xf2, Xf3, Xf4, Xf5, Xf6⟩ := row_seven hS.1; obtain ⟨Y0, Y1, Y2, Y3, Y4, Y5, Y6, Yf0, Yf1, Yf2, Yf3, Yf4, Yf5, Yf6⟩ := row_seven hS.2.1; go_simp) (fun w' hS => PX.out w') ?_
  simp only [Act.put, List.setIfInBounds_toArray, List.set_cons_zero, List.set_cons_succ]
  (refine plan_pure ?_ rfl rfl (fun w' => ?_) ?_; rotate_left; (go_simp; try with_reducible rfl); simp only [Act.put, List.setIfInBounds_toArray, List.set_cons_zero, List.set_cons_succ])
  (refine plan_pure ?_ rfl rfl (fun w' => ?_) ?_; rotate_left; (go_simp; try with_reducible rfl); simp only [Act.put, List.setIfInBounds_toArray, List.set_cons_zero, List.set_cons_succ])
  refine plan_nil ?_
  intro w6 L
  simp only [List.drop_succ_cons, List.drop_zero]
  try simp only [Act.put, List.setIfInBounds_toArray, List.set_cons_zero, List.set_cons_succ]
  have o6 := L.2.2
  clear L X Y o
  go_wp2
  go_ret
  exact ⟨rfl, o6⟩
theorem pnear (agg k : Int) (a b : Mk) (w : World) (k0 : 1 ≤ k) (k1 : k ≤ 64) (ha : M64 a) (hb : M64 b) (x0 : 0 ≤ ofV agg a) (x1 : ofV agg a ≤ 1099511627776) (y0 : 0 ≤ ofV agg b) (y1 : ofV agg b ≤ 1099511627776) :
    Calls Try.prog 39 #[.agg #[.int .i64 a.seq, .int .i64 a.t, .int .i64 a.n, .int .i64 a.s, .int .i64 a.q, .int .i64 a.lo, .int .i64 a.hi], .agg #[.int .i64 b.seq, .int .i64 b.t, .int .i64 b.n, .int .i64 b.s, .int .i64 b.q, .int .i64 b.lo, .int .i64 b.hi], .int .i64 agg, .int .i64 k] w fun e w' => e = .returned (.bool (nearB agg k a b)) ∧ Below w.heap.size w w' := by
  have PX := fun w => pofm agg a w ha
  have PY := fun w => pofm agg b w hb
  exact pnear_flat agg k a.seq a.t a.n a.s a.q a.lo a.hi b.seq b.t b.n b.s b.q b.lo b.hi (ofV agg a) (ofV agg b) w k0 k1 x0 x1 y0 y1 PX PY
theorem rmayagg_0 (agg : Int) (w : World)   (h : agg < 1) : Calls Try.prog 40 #[.int .i64 agg] w fun e w' => e = .returned (.bool false) ∧ w' = w := by
  go_enter Try.func40, Try.ntmps40
  go_wp2_with fail
  go_ret
  exact ⟨by first | rfl | exact ret_bool (by simp; omega), rfl⟩
theorem rmayagg_1 (agg : Int) (w : World)  (h0 : 1 ≤ agg) (h : 4 < agg) : Calls Try.prog 40 #[.int .i64 agg] w fun e w' => e = .returned (.bool false) ∧ w' = w := by
  go_enter Try.func40, Try.ntmps40
  go_wp2_with fail
  go_ret
  exact ⟨by first | rfl | exact ret_bool (by simp; omega), rfl⟩
theorem rmayagg_2 (agg : Int) (w : World)  (h0 : 1 ≤ agg) (h1 : agg ≤ 4) : Calls Try.prog 40 #[.int .i64 agg] w fun e w' => e = .returned (.bool true) ∧ w' = w := by
  go_enter Try.func40, Try.ntmps40
  go_wp2_with fail
  go_ret
  exact ⟨by first | rfl | exact ret_bool (by simp; omega), rfl⟩
theorem rmayagg (agg : Int) (w : World)  : Calls Try.prog 40 #[.int .i64 agg] w fun e w' => e = .returned (.bool (decide (1 ≤ agg ∧ agg ≤ 4))) ∧ w' = w := by
  by_cases h0 : 1 ≤ agg
  · skip
    by_cases h1 : agg ≤ 4
    · skip
      rw [show decide (1 ≤ agg ∧ agg ≤ 4) = true from decide_eq_true ⟨h0, h1⟩]
      exact rmayagg_2 agg w  h0 h1
    · rw [show decide (1 ≤ agg ∧ agg ≤ 4) = false from decide_eq_false (fun a => h1 a.2)]
      exact rmayagg_1 agg w  h0 (Int.not_le.1 h1)
  · rw [show decide (1 ≤ agg ∧ agg ≤ 4) = false from decide_eq_false (fun a => h0 a.1)]
    exact rmayagg_0 agg w   (Int.not_le.1 h0)
theorem pgoodS_a (agg wd k cap now : Int) (w : World) (h : agg < 1) : Calls Try.prog 36 #[.int .i64 agg, .int .i64 wd, .int .i64 k, .int .i64 cap, .int .i64 now] w fun e w' => e = .returned (.bool false) ∧ w' = w := by
  go_enter Try.func36, Try.ntmps36
  go_wp2_with fail
  go_ret
  exact ⟨by first | rfl | exact ret_bool (by simp; omega), rfl⟩
theorem pgoodS_b (agg wd k cap now : Int) (w : World) (h0 : 1 ≤ agg) (h : 4 < agg) : Calls Try.prog 36 #[.int .i64 agg, .int .i64 wd, .int .i64 k, .int .i64 cap, .int .i64 now] w fun e w' => e = .returned (.bool false) ∧ w' = w := by
  go_enter Try.func36, Try.ntmps36
  go_wp2_with fail
  go_ret
  exact ⟨by first | rfl | exact ret_bool (by simp; omega), rfl⟩
theorem pgoodS_c (agg wd k cap now : Int) (b : Bool) (w : World) (h0 : 1 ≤ agg) (h1 : agg ≤ 4) (PG : ∀ w, Calls Try.prog 74 #[.int .i64 wd, .int .i64 k, .int .i64 cap, .int .i64 now] w fun e w' => e = .returned (.bool b) ∧ w' = w) : Calls Try.prog 36 #[.int .i64 agg, .int .i64 wd, .int .i64 k, .int .i64 cap, .int .i64 now] w fun e w' => e = .returned (.bool b) ∧ w' = w := by
  have PG := Lib.hid PG
  go_enter Try.func36, Try.ntmps36
  go_wp2_with (go_at_call 74; with_reducible refine (PG.out _).mono ?_; rintro e w9 ⟨rfl, h9⟩; obtain rfl := h9.symm)
  go_ret
  exact ⟨by first | rfl | exact ret_bool (by simp; omega), rfl⟩
theorem pleast (agg : Int) (w : World) : Calls Try.prog 38 #[.int .i64 agg] w fun e w' => e = .returned (.int .i64 (leastV agg)) ∧ w' = w := by
  by_cases h2 : agg = 2
  · subst h2
    go_enter Try.func38, Try.ntmps38
    go_wp2
    go_ret
    exact ⟨rfl, rfl⟩
  · by_cases h3 : agg = 3
    · subst h3
      go_enter Try.func38, Try.ntmps38
      go_wp2
      go_ret
      exact ⟨rfl, rfl⟩
    · have b2 : (agg == 2) = false := by simpa using h2
      have b3 : (agg == 3) = false := by simpa using h3
      rw [show leastV agg = -4096 by unfold leastV; rw [if_neg (by omega)]]
      clear h2 h3
      go_enter Try.func38, Try.ntmps38
      go_wp2
      go_ret
      exact ⟨rfl, rfl⟩
end Go.Proofs.Ythknkdjpfanlnaa
