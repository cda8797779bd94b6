/- Plain arithmetic of products with powers of two in two words: no program is in sight. -/
import Derived.Test.YtpbhagikndamnaaMathDiv
namespace Go.Proofs.Ytpbhagikndamnaa
open Go.RowKit
/-- a times 2 to the n-th power. -/
def leftN (a : Nat) (n : Int) : Nat := a * 2 ^ n.toNat
def leftB (a : Nat) (n : Int) : Bool := decide (0 ≤ n ∧ leftN a n < big)
def leftV (a : Nat) (n : Int) : Nat := if 0 ≤ n ∧ leftN a n < big then leftN a n else 0
theorem left_yes {a : Nat} {n : Int} (h0 : 0 ≤ n) (h : leftN a n < big) : leftV a n = leftN a n ∧ leftB a n = true := by unfold leftV leftB; simp [h0, h]
theorem left_no {a : Nat} {n : Int} (h : ¬ (0 ≤ n ∧ leftN a n < big)) : leftV a n = 0 ∧ leftB a n = false := by unfold leftV leftB; simp only [h, if_false, decide_false, and_self]
theorem bitLen_low : ∀ (f x : Nat), x ≠ 0 → x < 2 ^ f → 2 ^ Lib.bitLenAux f x ≤ 2 * x
  | 0, x, h, k => by simp at k; exact absurd k h
  | f + 1, x, h, k => by
    unfold Lib.bitLenAux
    rw [if_neg h, Nat.add_comm, Nat.pow_succ]
    by_cases hx : x / 2 = 0
    · rw [hx]
      have : Lib.bitLenAux f 0 = 0 := by cases f <;> simp [Lib.bitLenAux]
      rw [this]
      omega
    · have := bitLen_low f (x / 2) hx (by rw [Nat.pow_succ] at k; omega)
      omega
theorem blen_low {a : Nat} (h : a ≠ 0) (hb : a < big) : 2 ^ blen a ≤ 2 * a := by
  unfold blen
  unfold big at hb
  split
  · have := bitLen_low 64 (a % 18446744073709551616) (by omega) (by omega)
    unfold Lib.bitLen
    omega
  · have := bitLen_low 64 (a / 18446744073709551616) (by omega) (by omega)
    rw [Nat.pow_add]
    unfold Lib.bitLen
    generalize 2 ^ Lib.bitLenAux 64 (a / 18446744073709551616) = z at *
    omega
theorem big_pow : big = 2 ^ 128 := by decide
/-- When the product fits. -/
theorem left_fits {a : Nat} {n : Int} (h : a ≠ 0) (hb : a < big) (h0 : 0 ≤ n) : leftN a n < big ↔ n ≤ 128 - blenI a := by
  have l := lt_blen hb
  have u := blen_low h hb
  have b := blen_le hb
  unfold leftN blenI
  constructor
  · intro hf
    rcases Int.lt_or_le (128 - (blen a : Int)) n with hc | hc
    · exfalso
      have h1 : 2 ^ 129 ≤ 2 ^ (blen a + n.toNat) := Nat.pow_le_pow_right (by decide) (by omega)
      rw [Nat.pow_add] at h1
      have h2 := Nat.mul_le_mul_right (2 ^ n.toNat) u
      rw [Nat.mul_assoc] at h2
      rw [big_pow] at hf
      have : (2 : Nat) ^ 129 = 2 * 2 ^ 128 := by decide
      omega
    · exact hc
  · intro hc
    have h1 : 2 ^ (blen a + n.toNat) ≤ 2 ^ 128 := Nat.pow_le_pow_right (by decide) (by omega)
    rw [Nat.pow_add] at h1
    have h2 := Nat.mul_lt_mul_of_pos_right l (Nat.two_pow_pos n.toNat)
    rw [big_pow]
    omega
theorem natpow (k : Nat) : (2 : Int) ^ k = ((2 ^ k : Nat) : Int) := by simp
theorem left_hi64 {a : Nat} {n : Int} (h : 64 ≤ n) (hf : leftN a n < big) : IntKind.u64.wrap (lo a * 2 ^ (n - 64).toNat) = hi (leftN a n) ∧ lo (leftN a n) = 0 := by
  have e : 2 ^ n.toNat = 18446744073709551616 * 2 ^ (n - 64).toNat := by
    rw [show (18446744073709551616 : Nat) = 2 ^ 64 from by decide, ← Nat.pow_add]
    congr 1; omega
  have p := Nat.two_pow_pos (n - 64).toNat
  rw [natpow]
  unfold leftN at *
  rw [e] at hf ⊢
  generalize 2 ^ (n - 64).toNat = z at *
  have ha : a < 18446744073709551616 := by
    rcases Nat.lt_or_ge a 18446744073709551616 with h | h
    · exact h
    · exfalso
      have := Nat.mul_le_mul h (Nat.le_mul_of_pos_right 18446744073709551616 p)
      unfold big at hf
      omega
  have hz : a * (18446744073709551616 * z) = (a * z) * 18446744073709551616 := by rw [Nat.mul_comm 18446744073709551616 z, Nat.mul_assoc]
  rw [hz] at hf ⊢
  have hl : lo a = a := lo_small ha
  rw [hl, ← Int.natCast_mul]
  generalize a * z = q at *
  rw [IntKind.wrap_u64]
  unfold hi lo big at *
  omega
theorem shl_or {x y k : Nat} (hy : y < 2 ^ k) (hx : 2 ^ k * x + y < 18446744073709551616) : bits BinOp.or IntKind.u64 ((2 ^ k * x : Nat) : Int) (y : Int) = ((2 ^ k * x + y : Nat) : Int) := by
  rw [bits_or_u64_nat _ y (by omega) (by omega), ← Nat.two_pow_add_eq_or_of_lt hy]
theorem left_lo64 {a : Nat} {n : Int} (h0 : 0 ≤ n) (h : n < 64) (hf : leftN a n < big) :
    bits BinOp.or IntKind.u64 (IntKind.u64.wrap (hi a * 2 ^ n.toNat)) (lo a / 2 ^ (64 - n).toNat) = hi (leftN a n) ∧ IntKind.u64.wrap (lo a * 2 ^ n.toNat) = lo (leftN a n) := by
  have e : 2 ^ n.toNat * 2 ^ (64 - n).toNat = 18446744073709551616 := by
    rw [show (18446744073709551616 : Nat) = 2 ^ 64 from by decide, ← Nat.pow_add]
    congr 1; omega
  have p := Nat.two_pow_pos (64 - n).toNat
  have q := Nat.two_pow_pos n.toNat
  rw [natpow, natpow]
  have hor := fun x y => @shl_or x y n.toNat
  unfold leftN at *
  generalize 2 ^ n.toNat = z at *
  generalize 2 ^ (64 - n).toNat = u at *
  have d := Nat.div_add_mod a 18446744073709551616
  have hsplit : a * z = (a / 18446744073709551616 * z) * 18446744073709551616 + (a % 18446744073709551616) * z := by
    conv => lhs; rw [← d]
    rw [Nat.add_mul, Nat.mul_assoc, Nat.mul_comm 18446744073709551616]
  have hdiv : (a % 18446744073709551616) * z / 18446744073709551616 = (a % 18446744073709551616) / u := by
    rw [← e, Nat.mul_comm z u, Nat.mul_div_mul_right _ _ q]
  have hlt : (a % 18446744073709551616) / u < z := by
    rw [Nat.div_lt_iff_lt_mul p, e]
    exact Nat.mod_lt _ (by decide)
  unfold hi lo
  rw [← Int.natCast_mul, ← Int.natCast_mul, ← Int.natCast_ediv]
  have hm := Nat.div_add_mod ((a % 18446744073709551616) * z) 18446744073709551616
  rw [hdiv] at hm
  rw [hsplit] at hf ⊢
  generalize (a % 18446744073709551616) * z = lz at *
  have hc : a / 18446744073709551616 * z = z * (a / 18446744073709551616) := Nat.mul_comm _ _
  rw [hc] at hf ⊢
  generalize a % 18446744073709551616 / u = t at *
  have hb : z * (a / 18446744073709551616) + t < 18446744073709551616 := by unfold big at hf; omega
  have ho := hor (a / 18446744073709551616) t hlt hb
  generalize z * (a / 18446744073709551616) = hz at *
  have hw : IntKind.u64.wrap (hz : Int) = hz := by rw [IntKind.wrap_u64]; omega
  rw [hw, ho, IntKind.wrap_u64]
  constructor <;> omega
theorem leftN_succ (a k : Nat) : leftN a ((k + 1 : Nat) : Int) = 2 * leftN a (k : Int) := by
  unfold leftN
  rw [Int.toNat_natCast, Int.toNat_natCast, Nat.pow_succ, ← Nat.mul_assoc, Nat.mul_comm]
theorem leftN_0 (a : Nat) : leftN a 0 = a := by unfold leftN; simp
theorem leftN_mono {a j k : Nat} (h : j ≤ k) : leftN a (j : Int) ≤ leftN a (k : Int) := by
  unfold leftN
  rw [Int.toNat_natCast, Int.toNat_natCast]
  exact Nat.mul_le_mul_left _ (Nat.pow_le_pow_right (by decide) h)
end Go.Proofs.Ytpbhagikndamnaa
