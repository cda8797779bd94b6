/- Small functions on wide numbers, walked: the program and the reference. -/
import Derived.Test.YtaiepjcnncajcaaWalkA
import Derived.Test.YtaiepjcnncajcaaShelf
import Derived.Deep.RegionHeld3
set_option linter.unusedVariables false
set_option linter.unusedSimpArgs false
set_option linter.unusedSectionVars false
set_option linter.unnecessarySimpa false
namespace Go.Proofs.Ytaiepjcnncajcaa
open Go.RowKit Go.Shelf

theorem len64 (x : Int) (w : World) (h0 : 0 ≤ x) (h1 : x ≤ 18446744073709551615) :
    Calls Try.prog 84 #[.int .u64 x] w fun e w' => e = .returned (.int .i64 (Lib.bitLen x.toNat)) ∧ w' = w := Try.bits_Len64 x w h0 h1
theorem mul64 (x y : Int) (hx : Word x) (hy : Word y) (w : World) :
    Calls Try.prog 91 #[.int .u64 x, .int .u64 y] w fun e w' => e = .returned (.tuple #[.int .u64 (hi (x.toNat * y.toNat)), .int .u64 (lo (x.toNat * y.toNat))]) ∧ w' = w := by
  obtain ⟨x, rfl⟩ := Int.eq_ofNat_of_zero_le hx.1
  obtain ⟨y, rfl⟩ := Int.eq_ofNat_of_zero_le hy.1
  exact Try.bits_Mul64 x y (by have := hx.2; omega) (by have := hy.2; omega) w

theorem pproduct (x y : Int) (hx : Word x) (hy : Word y) (w : World) :
    Calls Try.prog 50 #[.int .u64 x, .int .u64 y] w fun e w' => e = .returned (W (x.toNat * y.toNat)) ∧ Below w.heap.size w w' := by
  go_enter Try.func50, Try.ntmps50
  go_wp2_with (go_at_call 91; refine (mul64 x y hx hy _).mono ?_; rintro e w' ⟨rfl, rfl⟩)
  simp [bodyPost, results, Try.results50, go_sem]
  exact ((Below.refl _ _).alloc (Nat.le_refl _) _)
theorem pof (n : Nat) (hn : n < 18446744073709551616) (w : World) :
    Calls Try.prog 51 #[.int .u64 n] w fun e w' => e = .returned (W n) ∧ Below w.heap.size w w' := by
  have e1 := hi_small hn
  have e2 := lo_small hn
  go_enter Try.func51, Try.ntmps51
  go_wp2
  simp [bodyPost, results, Try.results51, go_sem, e1, e2]
  exact ((Below.refl _ _).alloc (Nat.le_refl _) _)
theorem rproduct (x y : Int) (hx : Word x) (hy : Word y) (w : World) :
    Calls Try.prog 54 #[.int .u64 x, .int .u64 y] w fun e w' => e = .returned (W (x.toNat * y.toNat)) ∧ Below w.heap.size w w' := by
  go_enter Try.func54, Try.ntmps54
  go_wp2_with (go_at_call 91; refine (mul64 x y hx hy _).mono ?_; rintro e w' ⟨rfl, rfl⟩)
  simp [bodyPost, results, Try.results54, go_sem]
  exact ((Below.refl _ _).alloc (Nat.le_refl _) _)
theorem rof (n : Nat) (hn : n < 18446744073709551616) (w : World) :
    Calls Try.prog 88 #[.int .u64 n] w fun e w' => e = .returned (W n) ∧ Below w.heap.size w w' := by
  have e1 := hi_small hn
  have e2 := lo_small hn
  go_enter Try.func88, Try.ntmps88
  go_wp2
  simp [bodyPost, results, Try.results88, go_sem, e1, e2]
  exact ((Below.refl _ _).alloc (Nat.le_refl _) _)
theorem pzero (n : Nat) (w : World) :
    Calls Try.prog 112 #[W n] w fun e w' => e = .returned (.bool (decide (n = 0))) ∧ Below w.heap.size w w' := by
  by_cases h : n = 0
  · subst h
    go_enter Try.func112, Try.ntmps112
    go_wp2
    go_ret
    exact ⟨rfl, (Below.refl _ _).alloc (Nat.le_refl _) _⟩
  · have hd : decide (n = 0) = false := by simpa using h
    rw [hd]
    clear hd
    by_cases k : hi n = 0
    · have l : ¬ lo n = 0 := fun l => h (hi_inj (b := 0) k l)
      have l' : (lo n == 0) = false := by simpa using l
      go_enter Try.func112, Try.ntmps112
      go_wp2
      go_ret
      exact ⟨rfl, (Below.refl _ _).alloc (Nat.le_refl _) _⟩
    · have k' : (hi n == 0) = false := by simpa using k
      go_enter Try.func112, Try.ntmps112
      go_wp2
      go_ret
      exact ⟨rfl, (Below.refl _ _).alloc (Nat.le_refl _) _⟩
theorem psub_yes (a b : Nat) (ha : a < big) (hb : b < big) (h : b ≤ a) (w : World) :
    Calls Try.prog 97 #[W a, W b] w fun e w' => e = .returned (.tuple #[W (a - b), .bool true]) ∧ Below w.heap.size w w' := by
  have e1 := sub_lo h
  have e2 := sub_hi ha h
  have e3 := sub_under h
  obtain ⟨a1, a2⟩ := hi_word ha
  obtain ⟨b1, b2⟩ := hi_word hb
  obtain ⟨c1, c2⟩ := lo_word a
  obtain ⟨d1, d2⟩ := lo_word b
  have k0 := bor_0 (lo a) (lo b)
  have k1 := bor_1 (lo a) (lo b)
  go_enter Try.func97, Try.ntmps97
  go_wp2_with (first | simp only [sub64_0 (lo a) (lo b) c1 d1 d2] | simp only [sub64 (hi a) (hi b) _ a1 b1 b2 k0 k1])
  simp [bodyPost, results, Try.results97, go_sem]
  exact ((((Below.refl _ _).alloc (Nat.le_refl _) _).alloc (by simp) _).alloc (by simp; omega) _)
theorem psub_no (a b : Nat) (ha : a < big) (hb : b < big) (h : ¬ b ≤ a) (w : World) :
    Calls Try.prog 97 #[W a, W b] w fun e w' => e = .returned (.tuple #[W 0, .bool false]) ∧ Below w.heap.size w w' := by
  have e3 := sub_under1 h
  obtain ⟨a1, a2⟩ := hi_word ha
  obtain ⟨b1, b2⟩ := hi_word hb
  obtain ⟨c1, c2⟩ := lo_word a
  obtain ⟨d1, d2⟩ := lo_word b
  have k0 := bor_0 (lo a) (lo b)
  have k1 := bor_1 (lo a) (lo b)
  go_enter Try.func97, Try.ntmps97
  go_wp2_with (first | simp only [sub64_0 (lo a) (lo b) c1 d1 d2] | simp only [sub64 (hi a) (hi b) _ a1 b1 b2 k0 k1])
  simp [bodyPost, results, Try.results97, go_sem]
  exact ⟨⟨rfl, rfl⟩, ((((Below.refl _ _).alloc (Nat.le_refl _) _).alloc (by simp) _).alloc (by simp; omega) _)⟩
theorem rsub_yes (a b : Nat) (ha : a < big) (hb : b < big) (h : b ≤ a) (w : World) :
    Calls Try.prog 111 #[W a, W b] w fun e w' => e = .returned (.tuple #[W (a - b), .bool true]) ∧ Below w.heap.size w w' := by
  have e1 := sub_lo h
  have e2 := sub_hi ha h
  have e4 : ¬ cmp a b < 0 := by have := cmp_nonneg h; omega
  obtain ⟨a1, a2⟩ := hi_word ha
  obtain ⟨b1, b2⟩ := hi_word hb
  obtain ⟨c1, c2⟩ := lo_word a
  obtain ⟨d1, d2⟩ := lo_word b
  have k0 := bor_0 (lo a) (lo b)
  have k1 := bor_1 (lo a) (lo b)
  go_enter Try.func111, Try.ntmps111
  go_wp2_with (first | (go_at_call 53; refine (rcmp_any a b _).mono ?_; rintro e w1 ⟨rfl, hb1⟩; obtain ⟨hc1, hf1⟩ := bcell hb1; have hz1 := hb1.size; simp at hz1) | simp only [sub64_0 (lo a) (lo b) c1 d1 d2] | simp only [sub64 (hi a) (hi b) _ a1 b1 b2 k0 k1])
  simp [bodyPost, results, Try.results111, go_sem, hc1, hf1]
  (repeat (first | exact Below.refl _ _ | refine Below.setCell ?_ (by first | (simp; done) | (simp; omega) | omega) _ | refine Below.alloc ?_ (by first | (simp; done) | (simp; omega) | omega) _ | refine Below.trans ?_ (Below.mono (by assumption) (by first | (simp; done) | (simp; omega) | omega))))
theorem rsub_no (a b : Nat) (h : ¬ b ≤ a) (w : World) :
    Calls Try.prog 111 #[W a, W b] w fun e w' => e = .returned (.tuple #[W 0, .bool false]) ∧ Below w.heap.size w w' := by
  have e4 : cmp a b < 0 := by rw [cmp_lt (by omega)]; omega
  go_enter Try.func111, Try.ntmps111
  go_wp2_with (go_at_call 53; refine (rcmp_any a b _).mono ?_; rintro e w1 ⟨rfl, hb1⟩; obtain ⟨hc1, hf1⟩ := bcell hb1; have hz1 := hb1.size; simp at hz1)
  simp [bodyPost, results, Try.results111, go_sem, hc1]
  refine ⟨⟨rfl, rfl⟩, ?_⟩
  (repeat (first | exact Below.refl _ _ | refine Below.setCell ?_ (by first | (simp; done) | (simp; omega) | omega) _ | refine Below.alloc ?_ (by first | (simp; done) | (simp; omega) | omega) _ | refine Below.trans ?_ (Below.mono (by assumption) (by first | (simp; done) | (simp; omega) | omega))))
end Go.Proofs.Ytaiepjcnncajcaa
