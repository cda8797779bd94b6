/- Plain facts on powers: no program is in sight. -/
import Derived.Test.YtejoomlaanmbkaaMathMul
namespace Go.Proofs.Ytejoomlaanmbkaa
/-- A power, behind a name. -/
def powN (a j : Nat) : Nat := a ^ j
/-- What the power of a wide number answers. -/
def powV (a n : Nat) : Nat := if powN a n < big then powN a n else 0
def powB (a n : Nat) : Bool := decide (powN a n < big)
theorem powN_0 (a : Nat) : powN a 0 = 1 := rfl
theorem powN_1 (n : Nat) : powN 1 n = 1 := by unfold powN; simp
theorem powN_null {n : Nat} (h : 0 < n) : powN 0 n = 0 := by
  unfold powN
  exact Nat.zero_pow h
theorem powN_succ (a j : Nat) : powN a (j + 1) = powN a j * a := rfl
theorem one_big : 1 < big := by decide
theorem zero_big : 0 < big := by decide
theorem pow_yes {a n : Nat} (h : powN a n < big) : powV a n = powN a n ∧ powB a n = true := by unfold powV powB; simp [h]
theorem pow_no {a n : Nat} (h : ¬ powN a n < big) : powV a n = 0 ∧ powB a n = false := by unfold powV powB; simp [h]
theorem pow_over {a j n : Nat} (ha : 2 ≤ a) (hj : j + 1 ≤ n) (h : ¬ powN a j * a < big) : powV a n = 0 ∧ powB a n = false := by
  refine pow_no ?_
  intro k
  apply h
  have : a ^ (j + 1) ≤ a ^ n := Nat.pow_le_pow_right (by omega) hj
  exact Nat.lt_of_le_of_lt this k
end Go.Proofs.Ytejoomlaanmbkaa
