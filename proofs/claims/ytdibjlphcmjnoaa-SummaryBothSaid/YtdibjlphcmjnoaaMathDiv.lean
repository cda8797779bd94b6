/- Plain arithmetic of long division in two words: no program is in sight. -/
import Derived.Test.YtdibjlphcmjnoaaMath
import Derived.WalkSmall
import Derived.Laws.Bits64b
import Derived.Lib.BitFns
set_option linter.unusedVariables false
set_option linter.unusedSimpArgs false
set_option linter.unusedSectionVars false
set_option linter.unnecessarySimpa false
namespace Go.Proofs.Ytdibjlphcmjnoaa
open Go.RowKit

/-- Binary digit n. -/
def dig (a n : Nat) : Int := ((a / 2 ^ n % 2 : Nat) : Int)
theorem dig_0 (a n : Nat) : 0 ≤ dig a n := by unfold dig; omega
theorem dig_1 (a n : Nat) : dig a n ≤ 1 := by unfold dig; omega
theorem bit_hi_eq {a : Nat} {n : Int} (ha : a < big) (h : 64 ≤ n) : bits BinOp.and IntKind.u64 (hi a / 2 ^ (n - 64).toNat) 1 = dig a n.toNat := by
  have hb := hi_word ha
  have e : hi a / 2 ^ (n - 64).toNat = ((a / 2 ^ n.toNat : Nat) : Int) := by
    unfold hi
    have e2 : (2 : Int) ^ (n - 64).toNat = ((2 ^ (n - 64).toNat : Nat) : Int) := by simp
    rw [e2, ← Int.natCast_ediv, Nat.div_div_eq_div_mul]
    have e3 : 18446744073709551616 * 2 ^ (n - 64).toNat = 2 ^ n.toNat := by
      rw [show (18446744073709551616 : Nat) = 2 ^ 64 from by decide, ← Nat.pow_add]
      congr 1; omega
    rw [e3]
  have l : 0 ≤ hi a / 2 ^ (n - 64).toNat := by rw [e]; exact Int.natCast_nonneg _
  have u : hi a / 2 ^ (n - 64).toNat ≤ 18446744073709551615 := by
    have := Int.ediv_le_self (a := hi a) (2 ^ (n - 64).toNat) hb.1
    have := hb.2
    omega
  rw [and_one_u64 _ l u, e]
  unfold dig
  omega
theorem bit_lo_eq {a : Nat} {n : Int} (h0 : 0 ≤ n) (h : n < 64) : bits BinOp.and IntKind.u64 (lo a / 2 ^ n.toNat) 1 = dig a n.toNat := by
  have hb := lo_word a
  have e2 : (2 : Int) ^ n.toNat = ((2 ^ n.toNat : Nat) : Int) := by simp
  have e : lo a / 2 ^ n.toNat = ((a % 2 ^ 64 / 2 ^ n.toNat : Nat) : Int) := by
    unfold lo
    rw [e2, ← Int.natCast_ediv]
  have l : 0 ≤ lo a / 2 ^ n.toNat := by rw [e]; exact Int.natCast_nonneg _
  have u : lo a / 2 ^ n.toNat ≤ 18446744073709551615 := by
    have := Int.ediv_le_self (a := lo a) (2 ^ n.toNat) hb.1
    have := hb.2
    omega
  rw [and_one_u64 _ l u, e]
  unfold dig
  have t := Nat.testBit_mod_two_pow a 64 n.toNat
  rw [Nat.testBit_eq_decide_div_mod_eq, Nat.testBit_eq_decide_div_mod_eq] at t
  have hd : decide (n.toNat < 64) = true := by simp; omega
  rw [hd, Bool.true_and, decide_eq_decide] at t
  omega

/-- Twice r and a digit, without what is beyond 128 digits. -/
def dbl (r : Nat) (d : Int) : Nat := (2 * r + d.toNat) % big
theorem dbl_lt (r : Nat) (d : Int) : dbl r d < big := Nat.mod_lt _ (by unfold big; omega)
theorem or_even {x b : Int} (h0 : 0 ≤ b) (h1 : b ≤ 1) : bits BinOp.or IntKind.u64 (IntKind.u64.wrap (x * 2)) b = x * 2 % 18446744073709551616 + b := by
  have e : IntKind.u64.wrap (x * 2) = ((2 ^ 1 * ((x * 2 % 18446744073709551616).toNat / 2) : Nat) : Int) := by rw [IntKind.wrap_u64]; omega
  obtain ⟨c, rfl⟩ := Int.eq_ofNat_of_zero_le h0
  rw [e, bits_or_u64_nat _ c (by omega) (by omega), ← Nat.two_pow_add_eq_or_of_lt (by omega)]
  omega
theorem dbl_hi {r : Nat} {d : Int} (hr : r < big) (h0 : 0 ≤ d) (h1 : d ≤ 1) : bits BinOp.or IntKind.u64 (IntKind.u64.wrap (hi r * 2)) (lo r / 9223372036854775808) = hi (dbl r d) := by
  rw [or_even (by unfold lo; omega) (by unfold lo; omega)]
  unfold hi lo dbl big at *
  omega
theorem dbl_lo {r : Nat} {d : Int} (h0 : 0 ≤ d) (h1 : d ≤ 1) : bits BinOp.or IntKind.u64 (IntKind.u64.wrap (lo r * 2)) d = lo (dbl r d) := by
  rw [or_even h0 h1]
  unfold lo dbl big at *
  omega
theorem dbl_lo0 (r : Nat) : IntKind.u64.wrap (lo r * 2) = lo (dbl r 0) := by
  rw [IntKind.wrap_u64]
  unfold lo dbl big at *
  omega
/-- The digit beyond the 128. -/
def topd (r : Nat) : Int := hi r / 9223372036854775808
theorem topd_eq (r : Nat) : hi r / 9223372036854775808 = topd r := rfl
theorem topd_1 {r : Nat} (h : r < big) : topd r = 0 ∧ 2 * r + 1 < big ∨ topd r = 1 ∧ big ≤ 2 * r := by unfold topd hi big at *; omega
theorem or_one {q : Nat} : bits BinOp.or IntKind.u64 (lo (dbl q 0)) 1 = lo (dbl q 1) := by
  rw [← dbl_lo0, dbl_lo (by omega) (by omega)]
theorem hi_one {q : Nat} : hi (dbl q 0) = hi (dbl q 1) := by unfold hi dbl big; omega
/-- The difference without borrow out. -/
def subw (x b : Nat) : Nat := (x + big - b) % big
theorem subw_lt (x b : Nat) : subw x b < big := Nat.mod_lt _ (by unfold big; omega)
theorem subw_lo {x b : Nat} (hx : x < big) (hb : b < big) : (lo x - lo b) % 18446744073709551616 = lo (subw x b) := by unfold lo subw big at *; omega
theorem subw_hi {x b : Nat} (hx : x < big) (hb : b < big) : (hi x - hi b - bor (lo x) (lo b)) % 18446744073709551616 = hi (subw x b) := by unfold hi lo subw bor big at *; split <;> omega

/-- The number of binary digits. -/
def blen (a : Nat) : Nat := if a / 18446744073709551616 = 0 then Lib.bitLen (a % 18446744073709551616) else 64 + Lib.bitLen (a / 18446744073709551616)
theorem bitLen_bound : ∀ (f x : Nat), x < 2 ^ f → x < 2 ^ Lib.bitLenAux f x
  | 0, x, h => by simpa [Lib.bitLenAux] using h
  | f + 1, x, h => by
    unfold Lib.bitLenAux
    by_cases hx : x = 0
    · simp [hx]
    · rw [if_neg hx, Nat.add_comm, Nat.pow_succ]
      have := bitLen_bound f (x / 2) (by rw [Nat.pow_succ] at h; omega)
      omega
theorem bitLen_max (x : Nat) (h : x < 18446744073709551616) : Lib.bitLen x ≤ 64 := Lib.bitLenAux_le 64 x 64 (by simpa using h)
theorem blen_le {a : Nat} (h : a < big) : blen a ≤ 128 := by
  unfold blen big at *
  have := bitLen_max (a % 18446744073709551616) (by omega)
  have := bitLen_max (a / 18446744073709551616) (by omega)
  split <;> omega
theorem lt_blen {a : Nat} (h : a < big) : a < 2 ^ blen a := by
  unfold blen
  unfold big at h
  split
  · have := bitLen_bound 64 (a % 18446744073709551616) (by omega)
    unfold Lib.bitLen
    omega
  · have := bitLen_bound 64 (a / 18446744073709551616) (by omega)
    rw [Nat.pow_add]
    unfold Lib.bitLen
    generalize 2 ^ Lib.bitLenAux 64 (a / 18446744073709551616) = z at *
    omega

/-- The number of binary digits of a word. -/
def lenw (x : Int) : Int := Lib.bitLen x.toNat
theorem lenw_0 (x : Int) : 0 ≤ lenw x := by unfold lenw; omega
theorem lenw_64 {x : Int} (h : x < 18446744073709551616) : lenw x ≤ 64 := by have := bitLen_max x.toNat (by omega); unfold lenw; omega
/-- The number of binary digits, as an integer. -/
def blenI (a : Nat) : Int := blen a
theorem blenI_lo {a : Nat} (h : a / 18446744073709551616 = 0) : blenI a = lenw (lo a) := by unfold blenI lenw blen; rw [if_pos h, lo_toNat]
theorem blenI_hi {a : Nat} (h : ¬ a / 18446744073709551616 = 0) : blenI a = 64 + lenw (hi a) := by unfold blenI lenw blen; rw [if_neg h, hi_toNat]; omega

/-- Division with k digits still to come: the quotient and the remainder so far. -/
def qat (a b k : Nat) : Nat := a / 2 ^ k / b
def rat (a b k : Nat) : Nat := a / 2 ^ k % b
theorem half_step (a k : Nat) : a / 2 ^ k = 2 * (a / 2 ^ (k + 1)) + (dig a k).toNat := by
  unfold dig
  rw [Nat.pow_succ, ← Nat.div_div_eq_div_mul]
  omega
theorem qat_le (a b k : Nat) : qat a b k ≤ a := Nat.le_trans (Nat.div_le_self _ _) (Nat.div_le_self _ _)
theorem rat_lt {a b k : Nat} (hb : b ≠ 0) : rat a b k < b := Nat.mod_lt _ (by omega)
theorem qat_start {a b k : Nat} (h : a < 2 ^ k) : qat a b k = 0 := by unfold qat; rw [Nat.div_eq_of_lt h, Nat.zero_div]
theorem rat_start {a b k : Nat} (h : a < 2 ^ k) : rat a b k = 0 := by unfold rat; rw [Nat.div_eq_of_lt h, Nat.zero_mod]
theorem div_mod_of {x b c d : Nat} (e : x = c * b + d) (h : d < b) : x / b = c ∧ x % b = d := by
  subst e
  rw [Nat.mul_comm, Nat.mul_add_div (by omega), Nat.mul_add_mod, Nat.div_eq_of_lt h, Nat.mod_eq_of_lt h]
  omega
/-- The digit is 1. -/
theorem step_one {a b k : Nat} (ha : a < big) (hb : b ≠ 0) (hbb : b < big) (h : b ≤ 2 * rat a b (k + 1) + (dig a k).toNat) :
    subw (dbl (rat a b (k + 1)) (dig a k)) b = rat a b k ∧ dbl (qat a b (k + 1)) 1 = qat a b k := by
  have hr := rat_lt (a := a) (k := k + 1) hb
  have hs := half_step a k
  have hd := dig_1 a k
  have hm := Nat.div_add_mod (a / 2 ^ (k + 1)) b
  have hq : a / 2 ^ k / b = 2 * qat a b (k + 1) + 1 ∧ a / 2 ^ k % b = 2 * rat a b (k + 1) + (dig a k).toNat - b := by
    unfold qat rat at *
    have e : a / 2 ^ k = (2 * (a / 2 ^ (k + 1) / b) + 1) * b + (2 * (a / 2 ^ (k + 1) % b) + (dig a k).toNat - b) := by
      rw [hs, Nat.add_mul, Nat.mul_assoc, Nat.mul_comm (a / 2 ^ (k + 1) / b) b]
      omega
    exact div_mod_of e (by omega)
  have hle := qat_le a b k
  have h1 : rat a b k = _ := hq.2
  have h2 : qat a b k = _ := hq.1
  rw [h2] at hle
  rw [h1, h2]
  generalize rat a b (k + 1) = r at *
  generalize qat a b (k + 1) = q at *
  generalize dig a k = d at *
  clear hq h1 h2 hm hs
  unfold subw dbl big at *
  omega
/-- The digit is 0. -/
theorem step_none {a b k : Nat} (ha : a < big) (hbb : b < big) (h : 2 * rat a b (k + 1) + (dig a k).toNat < b) :
    dbl (rat a b (k + 1)) (dig a k) = rat a b k ∧ dbl (qat a b (k + 1)) 0 = qat a b k := by
  have hs := half_step a k
  have hm := Nat.div_add_mod (a / 2 ^ (k + 1)) b
  have hq : a / 2 ^ k / b = 2 * qat a b (k + 1) ∧ a / 2 ^ k % b = 2 * rat a b (k + 1) + (dig a k).toNat := by
    unfold qat rat at *
    have e : a / 2 ^ k = (2 * (a / 2 ^ (k + 1) / b)) * b + (2 * (a / 2 ^ (k + 1) % b) + (dig a k).toNat) := by
      rw [hs, Nat.mul_assoc, Nat.mul_comm (a / 2 ^ (k + 1) / b) b]
      omega
    exact div_mod_of e h
  have hle := qat_le a b k
  have h1 : rat a b k = _ := hq.2
  have h2 : qat a b k = _ := hq.1
  rw [h2] at hle
  rw [h1, h2]
  generalize rat a b (k + 1) = r at *
  generalize qat a b (k + 1) = q at *
  generalize dig a k = d at *
  clear hq h1 h2 hm hs
  unfold dbl big at *
  omega
/-- Which of the two the program takes. -/
theorem takes {a b k : Nat} (hb : b ≠ 0) (hbb : b < big) : (topd (rat a b (k + 1)) = 1 ∨ (topd (rat a b (k + 1)) = 0 ∧ b ≤ dbl (rat a b (k + 1)) (dig a k))) ∧ b ≤ 2 * rat a b (k + 1) + (dig a k).toNat ∨
    (topd (rat a b (k + 1)) = 0 ∧ dbl (rat a b (k + 1)) (dig a k) < b) ∧ 2 * rat a b (k + 1) + (dig a k).toNat < b := by
  have hr := rat_lt (a := a) (k := k + 1) hb
  have hd := dig_1 a k
  have ht := topd_1 (r := rat a b (k + 1)) (by omega)
  have e : 2 * rat a b (k + 1) + 1 < big → dbl (rat a b (k + 1)) (dig a k) = 2 * rat a b (k + 1) + (dig a k).toNat := fun h => by unfold dbl; rw [Nat.mod_eq_of_lt]; omega
  omega
theorem blenI_0 (a : Nat) : 0 ≤ blenI a := by unfold blenI; omega
theorem blenI_128 {a : Nat} (h : a < big) : blenI a ≤ 128 := by have := blen_le h; unfold blenI; omega
theorem qat_0 (a b : Nat) : qat a b 0 = a / b := by unfold qat; simp
theorem rat_0 (a b : Nat) : rat a b 0 = a % b := by unfold rat; simp
theorem hi_0 : hi 0 = 0 := by decide
theorem lo_0 : lo 0 = 0 := by decide
end Go.Proofs.Ytdibjlphcmjnoaa
