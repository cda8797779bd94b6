/- Plain facts on products of signed numbers: no program is in sight. -/
import Derived.Test.YtoemccfpinonhaaMath
namespace Go.Proofs.Ytoemccfpinonhaa
open Go.RowKit
/-- The order of two integers. -/
def icmp (p q : Int) : Int := if p < q then -1 else if p = q then 0 else 1
/-- The magnitude of a product. -/
def pabs (a b : Int) : Nat := a.natAbs * b.natAbs
/-- The product is below 0 as far as the signs say. -/
def sneg (a b : Int) : Bool := decide (a < 0) != decide (b < 0)
/-- The product is below 0. -/
def pneg (a b : Int) : Bool := sneg a b && !decide (pabs a b = 0)
/-- The sign. -/
def isign (a : Int) : Int := if a < 0 then -1 else if 0 < a then 1 else 0
theorem i64_abs {a : Int} (h : -9223372036854775808 ≤ a ∧ a ≤ 9223372036854775807) : a.natAbs < 18446744073709551616 := by omega
theorem pabs_lt {a b : Int} (h : -9223372036854775808 ≤ a ∧ a ≤ 9223372036854775807) (k : -9223372036854775808 ≤ b ∧ b ≤ 9223372036854775807) : pabs a b < big := mul_big (i64_abs h) (i64_abs k)
theorem pabs_eq (a b : Int) : pabs a b = (a * b).natAbs := (Int.natAbs_mul a b).symm
theorem pneg_eq (a b : Int) : pneg a b = decide (a * b < 0) := by
  have hz : pabs a b = 0 ↔ a = 0 ∨ b = 0 := by
    unfold pabs
    rw [Nat.mul_eq_zero]
    omega
  unfold pneg sneg
  rcases Int.lt_trichotomy a 0 with h | h | h <;> rcases Int.lt_trichotomy b 0 with k | k | k
  · have := Int.mul_pos_of_neg_of_neg h k
    simp [h, k]; omega
  · subst k; simp [h, hz]
  · have := Int.mul_neg_of_neg_of_pos h k
    have n0 : ¬ b < 0 := by omega
    have : ¬ (pabs a b = 0) := by rw [hz]; omega
    simp [h, n0, this]; omega
  · subst h; simp [k, hz]
  · subst h; subst k; simp
  · subst h; simp [hz] <;> omega
  · have := Int.mul_neg_of_pos_of_neg h k
    have n0 : ¬ a < 0 := by omega
    have : ¬ (pabs a b = 0) := by rw [hz]; omega
    simp [k, n0, this]; omega
  · subst k; simp [hz] <;> omega
  · have := Int.mul_pos h k
    have n0 : ¬ a < 0 := by omega
    have n1 : ¬ b < 0 := by omega
    simp [n0, n1]; omega
/-- What the program answers. -/
def pcrossV (m n : Bool) (x y : Nat) : Int := if m then (if n then cmp y x else -1) else (if n then 1 else cmp x y)
theorem cross_is (a b c d : Int) : pcrossV (pneg a b) (pneg c d) (pabs a b) (pabs c d) = icmp (a * b) (c * d) := by
  rw [pneg_eq, pneg_eq, pabs_eq, pabs_eq]
  generalize a * b = p
  generalize c * d = q
  unfold pcrossV icmp cmp
  by_cases h : p < 0 <;> by_cases k : q < 0 <;> simp only [h, k, decide_true, decide_false, if_true, if_false, Bool.false_eq_true] <;> repeat (first | omega | split)
/-- What the reference answers. -/
def rcrossV (p q : Int) (x y : Nat) : Int := if p < q then -1 else if q < p then 1 else p * cmp x y
theorem isign_mul (a b : Int) : isign a * isign b = isign (a * b) := by
  unfold isign
  rcases Int.lt_trichotomy a 0 with h | h | h <;> rcases Int.lt_trichotomy b 0 with k | k | k
  · have := Int.mul_pos_of_neg_of_neg h k
    repeat (first | omega | split)
  · subst k; simp
  · have := Int.mul_neg_of_neg_of_pos h k
    repeat (first | omega | split)
  · subst h; simp
  · subst h; subst k; simp
  · subst h; simp
  · have := Int.mul_neg_of_pos_of_neg h k
    repeat (first | omega | split)
  · subst k; simp
  · have := Int.mul_pos h k
    repeat (first | omega | split)
theorem isign_bd (a : Int) : -1 ≤ isign a ∧ isign a ≤ 1 := by unfold isign; repeat (first | omega | split)
theorem cmp_bd (a b : Nat) : -1 ≤ cmp a b ∧ cmp a b ≤ 1 := by unfold cmp; repeat (first | omega | split)
theorem sgn_cmp_bd (p : Int) (x y : Nat) : -1 ≤ isign p * cmp x y ∧ isign p * cmp x y ≤ 1 := by
  unfold isign cmp
  repeat (first | omega | split)
theorem rcross_is (a b c d : Int) : rcrossV (isign a * isign b) (isign c * isign d) (pabs a b) (pabs c d) = icmp (a * b) (c * d) := by
  rw [isign_mul, isign_mul, pabs_eq, pabs_eq]
  generalize a * b = p
  generalize c * d = q
  unfold rcrossV icmp cmp isign
  rcases Int.lt_trichotomy p 0 with h | h | h <;> rcases Int.lt_trichotomy q 0 with k | k | k <;> (repeat (first | omega | split))
theorem icmp_back (p q : Int) : icmp q p = -icmp p q := by unfold icmp; repeat (first | omega | split)
theorem icmp_bd (p q : Int) : -1 ≤ icmp p q ∧ icmp p q ≤ 1 := by unfold icmp; repeat (first | omega | split)
end Go.Proofs.Ytoemccfpinonhaa
