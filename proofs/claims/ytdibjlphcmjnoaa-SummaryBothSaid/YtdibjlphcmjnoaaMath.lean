/- Plain arithmetic of numbers of 128 bits kept in two words: no program is in sight. -/
import Derived.WalkKit
set_option linter.unusedVariables false
set_option linter.unusedSimpArgs false
set_option linter.unusedSectionVars false
set_option linter.unnecessarySimpa false
namespace Go.Proofs.Ytdibjlphcmjnoaa
open Go.RowKit

/-- Two to the 128th power. -/
def big : Nat := 340282366920938463463374607431768211456
/-- The high word. -/
def hi (n : Nat) : Int := ((n / 18446744073709551616 : Nat) : Int)
/-- The low word. -/
def lo (n : Nat) : Int := ((n % 18446744073709551616 : Nat) : Int)
/-- The value of a wide number. -/
abbrev W (n : Nat) : Value := .agg #[.int .u64 (hi n), .int .u64 (lo n)]
/-- A word. -/
def Word (x : Int) : Prop := 0 ≤ x ∧ x < 18446744073709551616

theorem hi_word {n : Nat} (h : n < big) : Word (hi n) := by unfold Word hi big at *; omega
theorem lo_word (n : Nat) : Word (lo n) := by unfold Word lo; omega
theorem hi_lo (n : Nat) : hi n * 18446744073709551616 + lo n = (n : Int) := by unfold hi lo; omega
theorem of_words {x y : Int} (hx : Word x) (hy : Word y) : ∃ n : Nat, n < big ∧ hi n = x ∧ lo n = y := by
  obtain ⟨a, b⟩ := hx
  obtain ⟨c, d⟩ := hy
  refine ⟨(x * 18446744073709551616 + y).toNat, ?_, ?_, ?_⟩ <;> simp only [big, hi, lo] <;> omega
theorem W_of {n : Nat} {x y : Int} (hx : hi n = x) (hy : lo n = y) : W n = .agg #[.int .u64 x, .int .u64 y] := by rw [W, hx, hy]
theorem hi_inj {a b : Nat} (h : hi a = hi b) (k : lo a = lo b) : a = b := by unfold hi lo at *; omega

theorem add_lo (a b : Nat) : (lo a + lo b) % 18446744073709551616 = lo (a + b) := by unfold lo; omega
theorem add_hi {a b : Nat} (h : a + b < big) : (hi a + hi b + (lo a + lo b) / 18446744073709551616) % 18446744073709551616 = hi (a + b) := by unfold hi lo big at *; omega
theorem add_over {a b : Nat} (h : a + b < big) : (hi a + hi b + (lo a + lo b) / 18446744073709551616) / 18446744073709551616 = 0 := by unfold hi lo big at *; omega
theorem add_over1 {a b : Nat} (ha : a < big) (hb : b < big) (h : ¬ a + b < big) : (hi a + hi b + (lo a + lo b) / 18446744073709551616) / 18446744073709551616 = 1 := by unfold hi lo big at *; omega

/-- The borrow. -/
def bor (x y : Int) : Int := if x < y then 1 else 0
theorem bor_0 (x y : Int) : 0 ≤ bor x y := by unfold bor; split <;> omega
theorem bor_1 (x y : Int) : bor x y ≤ 1 := by unfold bor; split <;> omega
theorem sub_lo {a b : Nat} (h : b ≤ a) : (lo a - lo b) % 18446744073709551616 = lo (a - b) := by unfold lo; omega
theorem sub_hi {a b : Nat} (ha : a < big) (h : b ≤ a) : (hi a - hi b - bor (lo a) (lo b)) % 18446744073709551616 = hi (a - b) := by unfold hi lo bor big at *; split <;> omega
theorem sub_under {a b : Nat} (h : b ≤ a) : bor (hi a) (hi b + bor (lo a) (lo b)) = 0 := by unfold hi lo bor at *; split <;> split at * <;> omega
theorem sub_under1 {a b : Nat} (h : ¬ b ≤ a) : bor (hi a) (hi b + bor (lo a) (lo b)) = 1 := by unfold hi lo bor at *; split <;> split at * <;> omega

/-- The order of two numbers. -/
def cmp (a b : Nat) : Int := if a < b then -1 else if a = b then 0 else 1
theorem cmp_lt {a b : Nat} (h : a < b) : cmp a b = -1 := by simp [cmp, h]
theorem cmp_eq (a : Nat) : cmp a a = 0 := by simp [cmp]
theorem cmp_gt {a b : Nat} (h : b < a) : cmp a b = 1 := by unfold cmp; rw [if_neg (by omega), if_neg (by omega)]
theorem lt_words {a b : Nat} (h : a < b) : hi a < hi b ∨ hi a = hi b ∧ lo a < lo b := by unfold hi lo; omega

theorem hi_small {n : Nat} (h : n < 18446744073709551616) : hi n = 0 := by unfold hi; omega
theorem lo_small {n : Nat} (h : n < 18446744073709551616) : lo n = n := by unfold lo; omega
theorem lo_toNat (n : Nat) : (lo n).toNat = n % 18446744073709551616 := by unfold lo; omega
theorem hi_toNat (n : Nat) : (hi n).toNat = n / 18446744073709551616 := by unfold hi; omega
theorem mul_big {x y : Nat} (hx : x < 18446744073709551616) (hy : y < 18446744073709551616) : x * y < big := by
  have := Nat.mul_le_mul (show x ≤ 18446744073709551615 by omega) (show y ≤ 18446744073709551615 by omega)
  unfold big; omega

theorem bcell {W w1 : World} (hb : Below W.heap.size W w1) : (∀ b o, b < W.heap.size → w1.cell? ⟨b, o, none⟩ = W.cell? ⟨b, o, none⟩) ∧ (∀ b o, b < W.heap.size → w1.frozen? ⟨b, o, none⟩ = W.frozen? ⟨b, o, none⟩) :=
  ⟨fun b o h => hb.cell (p := ⟨b, o, none⟩) h, fun b o h => hb.frozen (p := ⟨b, o, none⟩) h⟩

theorem wrap_word {x : Int} (h : Word x) : IntKind.u64.wrap x = x := by
  obtain ⟨a, b⟩ := h
  rw [IntKind.wrap_u64]
  omega
theorem cmp_nonneg {a b : Nat} (h : b ≤ a) : 0 ≤ cmp a b := by
  unfold cmp
  rw [if_neg (by omega)]
  split <;> omega
end Go.Proofs.Ytdibjlphcmjnoaa
