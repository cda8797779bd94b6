/- Plain arithmetic of products in two words: no program is in sight. -/
import Derived.Test.YtaiepjcnncajcaaMath
set_option linter.unusedVariables false
set_option linter.unusedSimpArgs false
set_option linter.unusedSectionVars false
set_option linter.unnecessarySimpa false
namespace Go.Proofs.Ytaiepjcnncajcaa
open Go.RowKit
/-- The product, or 0 where it does not fit. -/
def mulV (a b : Nat) : Nat := if a * b < big then a * b else 0
def mulB (a b : Nat) : Bool := decide (a * b < big)
/-- The product of the low words, and of the low word of x and the high one of y. -/
def mlow (x y : Nat) : Nat := (x % 18446744073709551616) * (y % 18446744073709551616)
def mhigh (x y : Nat) : Nat := (x % 18446744073709551616) * (y / 18446744073709551616)
theorem mlow_lt (x y : Nat) : mlow x y < big := mul_big (Nat.mod_lt _ (by decide)) (Nat.mod_lt _ (by decide))
theorem mhigh_lt {x y : Nat} (h : y < big) : mhigh x y < big := mul_big (Nat.mod_lt _ (by decide)) (by unfold big at h; omega)
theorem mul_comm' (a b : Nat) : mulV a b = mulV b a ∧ mulB a b = mulB b a := by unfold mulV mulB; rw [Nat.mul_comm]; exact ⟨rfl, rfl⟩
/-- x is one word. -/
theorem mul_split {x y : Nat} (hx : hi x = 0) : x * y = mlow x y + mhigh x y * 18446744073709551616 := by
  have e : x % 18446744073709551616 = x := by unfold hi at hx; omega
  have d := Nat.div_add_mod y 18446744073709551616
  unfold mlow mhigh
  rw [e]
  conv => lhs; rw [← d]
  rw [Nat.mul_add, Nat.add_comm, Nat.mul_comm 18446744073709551616, Nat.mul_assoc]
theorem mul_both {a b : Nat} (ha : hi a ≠ 0) (hb : hi b ≠ 0) : ¬ a * b < big := by
  have h1 : 18446744073709551616 ≤ a := by unfold hi at ha; omega
  have h2 : 18446744073709551616 ≤ b := by unfold hi at hb; omega
  have := Nat.mul_le_mul h1 h2
  unfold big
  omega
theorem mul_high {x y : Nat} (hx : hi x = 0) (h : hi (mhigh x y) ≠ 0) : ¬ x * y < big := by
  rw [mul_split hx]
  unfold hi big at *
  omega
theorem high_shift {m : Nat} (h : hi m = 0) : hi (m * 18446744073709551616) = lo m ∧ lo (m * 18446744073709551616) = 0 := by unfold hi lo at *; omega
theorem high_lt {m : Nat} (h : hi m = 0) : m * 18446744073709551616 < big := by unfold hi big at *; omega
theorem mulV_no {a b : Nat} (h : ¬ a * b < big) : mulV a b = 0 ∧ mulB a b = false := by unfold mulV mulB; simp [h]
theorem mulV_yes {a b : Nat} (h : a * b < big) : mulV a b = a * b ∧ mulB a b = true := by unfold mulV mulB; simp [h]
theorem mhigh_zero {x y : Nat} (h : hi x = 0) : mhigh y x = 0 := by
  have e : x / 18446744073709551616 = 0 := by unfold hi at h; omega
  unfold mhigh
  rw [e, Nat.mul_zero]
theorem mlow_comm (x y : Nat) : mlow x y = mlow y x := Nat.mul_comm _ _
end Go.Proofs.Ytaiepjcnncajcaa
