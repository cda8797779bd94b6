/- Plain facts on zeros at the end, on halves and on lengths: no program is in sight. -/
import Derived.Test.YtoemccfpinonhaaDoorMathLeft
import Derived.Lib.TrailingZeros
namespace Go.Proofs.YtoemccfpinonhaaDoor
open Go.RowKit
/-- The number of zeros at the end. -/
def tz (a : Nat) : Nat := if a = 0 then 0 else Lib.ctzFrom 128 a
def tzI (a : Nat) : Int := tz a
theorem pow_odd_unique {i j m k : Nat} (h : 2 ^ i * (2 * m + 1) = 2 ^ j * (2 * k + 1)) : i = j := by
  rcases Nat.lt_trichotomy i j with c | c | c
  · obtain ⟨d, rfl⟩ : ∃ d, j = i + (d + 1) := ⟨j - i - 1, by omega⟩
    rw [Nat.pow_add, Nat.mul_assoc] at h
    have h' := Nat.eq_of_mul_eq_mul_left (Nat.two_pow_pos i) h
    rw [Nat.pow_succ] at h'
    have : 2 ^ d * 2 * (2 * k + 1) = 2 * (2 ^ d * (2 * k + 1)) := by rw [Nat.mul_comm (2 ^ d) 2, Nat.mul_assoc]
    omega
  · exact c
  · obtain ⟨d, rfl⟩ : ∃ d, i = j + (d + 1) := ⟨i - j - 1, by omega⟩
    rw [Nat.pow_add, Nat.mul_assoc] at h
    have h' := Nat.eq_of_mul_eq_mul_left (Nat.two_pow_pos j) h
    rw [Nat.pow_succ] at h'
    have : 2 ^ d * 2 * (2 * m + 1) = 2 * (2 ^ d * (2 * m + 1)) := by rw [Nat.mul_comm (2 ^ d) 2, Nat.mul_assoc]
    omega
theorem tz_spec {a : Nat} (h : a ≠ 0) (hb : a < big) : ∃ m, a = 2 ^ tz a * (2 * m + 1) ∧ tz a < 128 := by
  have := Lib.ctzFrom_spec 128 a (by omega) (by rw [← big_pow]; exact hb)
  unfold tz
  rw [if_neg h]
  exact this
theorem tz_of {a t m : Nat} (h : a ≠ 0) (hb : a < big) (e : a = 2 ^ t * (2 * m + 1)) : tz a = t := by
  obtain ⟨k, hk, _⟩ := tz_spec h hb
  exact pow_odd_unique (hk.symm.trans e)
theorem tz_lo {a : Nat} (hb : a < big) (h : lo a ≠ 0) : tz a = Lib.ctz 64 (lo a).toNat := by
  have hl : (lo a).toNat = a % 18446744073709551616 := lo_toNat a
  have h0 : a % 18446744073709551616 ≠ 0 := by unfold lo at h; omega
  obtain ⟨m, hm, ht⟩ := Lib.ctzFrom_spec 64 (a % 18446744073709551616) (by omega) (Nat.mod_lt _ (by decide))
  rw [hl]
  unfold Lib.ctz
  rw [if_neg h0]
  generalize Lib.ctzFrom 64 (a % 18446744073709551616) = t at hm ht
  obtain ⟨d, hd⟩ : ∃ d, 64 = t + (d + 1) := ⟨64 - t - 1, by omega⟩
  refine tz_of (m := m + 2 ^ d * (a / 18446744073709551616)) (by omega) hb ?_
  have e : (18446744073709551616 : Nat) = 2 ^ t * (2 * 2 ^ d) := by
    rw [show (18446744073709551616 : Nat) = 2 ^ 64 from rfl, hd, Nat.pow_add, Nat.pow_succ, Nat.mul_comm (2 ^ d) 2]
  have h1 := Nat.div_add_mod a 18446744073709551616
  have h2 : 18446744073709551616 * (a / 18446744073709551616) = 2 ^ t * (2 * (2 ^ d * (a / 18446744073709551616))) := by
    generalize a / 18446744073709551616 = q
    rw [e, Nat.mul_assoc, Nat.mul_assoc]
  rw [h2, hm, ← Nat.mul_add] at h1
  conv => lhs; rw [← h1]
  congr 1
  omega
theorem tz_hi {a : Nat} (hb : a < big) (h0 : a ≠ 0) (h : lo a = 0) : tz a = 64 + Lib.ctz 64 (hi a).toNat := by
  have hl : (hi a).toNat = a / 18446744073709551616 := hi_toNat a
  have hz : a % 18446744073709551616 = 0 := by unfold lo at h; omega
  have hq : a / 18446744073709551616 ≠ 0 := by omega
  obtain ⟨m, hm, _⟩ := Lib.ctzFrom_spec 64 (a / 18446744073709551616) (by omega) (by unfold big at hb; omega)
  rw [hl]
  unfold Lib.ctz
  rw [if_neg hq]
  refine tz_of (m := m) h0 hb ?_
  have h1 := Nat.div_add_mod a 18446744073709551616
  rw [hz, Nat.add_zero] at h1
  rw [Nat.pow_add, Nat.mul_assoc, ← hm, show (2 : Nat) ^ 64 = 18446744073709551616 from rfl]
  exact h1.symm
theorem dig_below {a i : Nat} (h : a ≠ 0) (hb : a < big) (hi : i < tz a) : dig a i = 0 := by
  obtain ⟨m, hm, _⟩ := tz_spec h hb
  obtain ⟨d, hd⟩ : ∃ d, tz a = i + (d + 1) := ⟨tz a - i - 1, by omega⟩
  unfold dig
  have e : a / 2 ^ i = 2 * (2 ^ d * (2 * m + 1)) := by
    conv => lhs; rw [hm, hd, Nat.pow_add, Nat.mul_assoc]
    rw [Nat.mul_div_cancel_left _ (Nat.two_pow_pos i), Nat.pow_succ, Nat.mul_comm (2 ^ d) 2, Nat.mul_assoc]
  rw [e]
  omega
theorem dig_at {a : Nat} (h : a ≠ 0) (hb : a < big) : dig a (tz a) = 1 := by
  obtain ⟨m, hm, _⟩ := tz_spec h hb
  unfold dig
  have e : a / 2 ^ tz a = 2 * m + 1 := by
    conv => lhs; lhs; rw [hm]
    rw [Nat.mul_div_cancel_left _ (Nat.two_pow_pos _)]
  rw [e]
  omega
theorem dig_zero (i : Nat) : dig 0 i = 0 := by unfold dig; simp
/-- The quotient by a power of two, of any exponent. -/
def rightV (a : Nat) (n : Int) : Nat := if 0 ≤ n ∧ n < 128 then a / 2 ^ n.toNat else 0
theorem right_in {a k : Nat} (h : k < 128) : rightV a (k : Int) = a / 2 ^ k := by unfold rightV; rw [if_pos (by omega), Int.toNat_natCast]
theorem right_out {a : Nat} {n : Int} (h : ¬ (0 ≤ n ∧ n < 128)) : rightV a n = 0 := by unfold rightV; rw [if_neg h]
/-- Halving, behind a name. -/
def halfN (a k : Nat) : Nat := a / 2 ^ k
theorem halfN_0 (a : Nat) : halfN a 0 = a := by unfold halfN; simp
theorem halfN_succ (a k : Nat) : halfN a (k + 1) = halfN a k / 2 := by unfold halfN; rw [Nat.pow_succ, Nat.div_div_eq_div_mul]
theorem halfN_lt {a : Nat} (k : Nat) (h : a < big) : halfN a k < big := Nat.lt_of_le_of_lt (Nat.div_le_self _ _) h
/-- The length of the odd part. -/
theorem blen_unique {a k : Nat} (h0 : a ≠ 0) (hb : a < big) (h1 : a < 2 ^ k) (h2 : 2 ^ k ≤ 2 * a) : blen a = k := by
  have a1 := lt_blen hb
  have a2 := blen_low h0 hb
  rcases Nat.lt_trichotomy (blen a) k with c | c | c
  · have : 2 ^ (blen a + 1) ≤ 2 ^ k := Nat.pow_le_pow_right (by omega) c
    rw [Nat.pow_succ] at this
    omega
  · exact c
  · have : 2 ^ (k + 1) ≤ 2 ^ blen a := Nat.pow_le_pow_right (by omega) c
    rw [Nat.pow_succ] at this
    omega
theorem blen_odd {a : Nat} (h0 : a ≠ 0) (hb : a < big) : blen (a / 2 ^ tz a) + tz a = blen a ∧ a / 2 ^ tz a % 2 = 1 ∧ a / 2 ^ tz a * 2 ^ tz a = a ∧ tz a < 128 := by
  obtain ⟨m, hm, ht⟩ := tz_spec h0 hb
  have e : a / 2 ^ tz a = 2 * m + 1 := by
    conv => lhs; lhs; rw [hm]
    rw [Nat.mul_div_cancel_left _ (Nat.two_pow_pos _)]
  rw [e]
  have hob : 2 * m + 1 < big := by
    have : 1 * (2 * m + 1) ≤ 2 ^ tz a * (2 * m + 1) := Nat.mul_le_mul_right _ (Nat.two_pow_pos _)
    omega
  have b1 := lt_blen hob
  have b2 := blen_low (a := 2 * m + 1) (by omega) hob
  refine ⟨?_, by omega, by rw [Nat.mul_comm]; exact hm.symm, ht⟩
  refine (blen_unique h0 hb ?_ ?_).symm
  · rw [Nat.pow_add, Nat.mul_comm]
    conv => lhs; rw [hm]
    exact (Nat.mul_lt_mul_left (Nat.two_pow_pos _)).2 b1
  · rw [Nat.pow_add, Nat.mul_comm (2 ^ blen (2 * m + 1))]
    have : 2 ^ tz a * 2 ^ blen (2 * m + 1) ≤ 2 ^ tz a * (2 * (2 * m + 1)) := Nat.mul_le_mul_left _ b2
    have e2 : 2 ^ tz a * (2 * (2 * m + 1)) = 2 * (2 ^ tz a * (2 * m + 1)) := by rw [Nat.mul_left_comm]
    rw [e2, ← hm] at this
    exact this
theorem right_hi64 {a : Nat} {n : Int} (ha : a < big) (h : 64 ≤ n) (h1 : n < 128) : hi a / 2 ^ (n - 64).toNat = lo (rightV a n) ∧ hi (rightV a n) = 0 := by
  have e : 2 ^ n.toNat = 18446744073709551616 * 2 ^ (n - 64).toNat := by
    rw [show (18446744073709551616 : Nat) = 2 ^ 64 from by decide, ← Nat.pow_add]
    congr 1; omega
  have p := Nat.two_pow_pos (n - 64).toNat
  unfold rightV
  rw [if_pos ⟨by omega, h1⟩, natpow, e, ← Nat.div_div_eq_div_mul]
  generalize 2 ^ (n - 64).toNat = z at *
  have hq : a / 18446744073709551616 / z ≤ a / 18446744073709551616 := Nat.div_le_self _ _
  unfold hi lo
  rw [← Int.natCast_ediv]
  generalize a / 18446744073709551616 / z = q at *
  unfold big at ha
  omega
theorem right_lo64 {a : Nat} {n : Int} (ha : a < big) (h0 : 0 ≤ n) (h : n < 64) :
    hi a / 2 ^ n.toNat = hi (rightV a n) ∧ bits BinOp.or IntKind.u64 (lo a / 2 ^ n.toNat) (IntKind.u64.wrap (hi a * 2 ^ (64 - n).toNat)) = lo (rightV a n) := by
  have e : 2 ^ n.toNat * 2 ^ (64 - n).toNat = 18446744073709551616 := by
    rw [show (18446744073709551616 : Nat) = 2 ^ 64 from by decide, ← Nat.pow_add]
    congr 1; omega
  have p := Nat.two_pow_pos (64 - n).toNat
  have q := Nat.two_pow_pos n.toNat
  unfold rightV
  rw [if_pos ⟨h0, by omega⟩, natpow, natpow]
  have hor := fun x y => @shl_or x y (64 - n).toNat
  generalize 2 ^ n.toNat = z at *
  generalize 2 ^ (64 - n).toNat = u at *
  have d := Nat.div_add_mod a 18446744073709551616
  have hlt : (a % 18446744073709551616) / z < u := by
    rw [Nat.div_lt_iff_lt_mul q, Nat.mul_comm, e]
    exact Nat.mod_lt _ (by decide)
  have hsplit : a / z = u * (a / 18446744073709551616) + (a % 18446744073709551616) / z := by
    conv => lhs; rw [← d]
    rw [← e, Nat.mul_assoc, e, Nat.mul_add_div q]
  unfold hi lo
  rw [← Int.natCast_ediv, ← Int.natCast_ediv, ← Int.natCast_mul, hsplit]
  have hHb : a / 18446744073709551616 < 18446744073709551616 := by unfold big at ha; omega
  generalize a % 18446744073709551616 / z = t at *
  generalize a / 18446744073709551616 = H at *
  have h1 : (u * H + t) / 18446744073709551616 = H / z := by
    rw [← e, Nat.mul_comm z u, ← Nat.div_div_eq_div_mul, Nat.mul_add_div p, Nat.div_eq_of_lt hlt, Nat.add_zero]
  have h2 : H * u % 18446744073709551616 = u * (H % z) := by
    rw [← e, Nat.mul_comm H u, Nat.mul_comm z u, Nat.mul_mod_mul_left]
  have hm : H % z < z := Nat.mod_lt _ q
  have h3 : u * (H % z) + t < 18446744073709551616 := by
    have : u * (H % z + 1) ≤ u * z := Nat.mul_le_mul_left _ hm
    rw [Nat.mul_comm u z, e, Nat.mul_add] at this
    omega
  have h4 : (u * H + t) % 18446744073709551616 = u * (H % z) + t := by
    have : (u * H + t) % 18446744073709551616 = (H * u % 18446744073709551616 + t) % 18446744073709551616 := by rw [Nat.mul_comm u H]; omega
    rw [this, h2, Nat.mod_eq_of_lt h3]
  have hw : IntKind.u64.wrap ((H * u : Nat) : Int) = ((u * (H % z) : Nat) : Int) := by rw [IntKind.wrap_u64, ← h2]; omega
  constructor
  · rw [h1]
  · have ho := hor (H % z) t hlt h3
    rw [bits_or_u64_nat _ _ (by omega) (by omega)] at ho
    rw [hw, bits_or_u64_nat _ _ (by omega) (by omega), Nat.or_comm, ho, ← h4]
theorem half_words {x : Nat} (hx : x < big) : hi x / 2 = hi (x / 2) ∧ bits BinOp.or IntKind.u64 (lo x / 2) (IntKind.u64.wrap (hi x * 9223372036854775808)) = lo (x / 2) := by
  have h := right_lo64 (n := 1) hx (by decide) (by decide)
  have e : rightV x 1 = x / 2 := by
    have := right_in (a := x) (k := 1) (by decide)
    simpa using this
  rw [e] at h
  exact h
/-- The length of what lies below the i-th digit, by search. -/
def bat (a : Nat) : Nat → Nat
  | 0 => 0
  | i + 1 => if dig a i = 1 then i + 1 else bat a i
theorem bat_le (a : Nat) : ∀ i, bat a i ≤ i
  | 0 => by simp [bat]
  | i + 1 => by
    unfold bat
    split
    · omega
    · exact Nat.le_trans (bat_le a i) (by omega)
theorem bat_one {a i : Nat} (h : dig a i = 1) : bat a (i + 1) = i + 1 := by unfold bat; rw [if_pos h]
theorem bat_null {a i : Nat} (h : dig a i = 0) : bat a (i + 1) = bat a i := by
  conv => lhs; unfold bat
  rw [if_neg (by rw [h]; decide)]
theorem dig_two (a i : Nat) : dig a i = 0 ∨ dig a i = 1 := by have := dig_0 a i; have := dig_1 a i; omega
theorem bat_top {a : Nat} (hb : a < big) : bat a (blen a) = blen a := by
  by_cases h0 : a = 0
  · subst h0
    have : blen 0 = 0 := by unfold blen; simp [Lib.bitLen, Lib.bitLenAux]
    rw [this]; rfl
  · have a1 := lt_blen hb
    have a2 := blen_low h0 hb
    cases hk : blen a with
    | zero => rfl
    | succ m =>
      rw [hk, Nat.pow_succ] at a1 a2
      refine bat_one ?_
      unfold dig
      have h1 : a / 2 ^ m = 1 := by
        have := Nat.two_pow_pos m
        exact Nat.div_eq_of_lt_le (by omega) (by omega)
      rw [h1]
      rfl
theorem bat_up {a : Nat} (hb : a < big) : ∀ d, bat a (blen a + d) = blen a
  | 0 => bat_top hb
  | d + 1 => by
    have h : dig a (blen a + d) = 0 := by
      unfold dig
      have a1 := lt_blen hb
      have : 2 ^ blen a ≤ 2 ^ (blen a + d) := Nat.pow_le_pow_right (by omega) (by omega)
      rw [Nat.div_eq_of_lt (by omega)]
      rfl
    rw [show blen a + (d + 1) = (blen a + d) + 1 by omega, bat_null h]
    exact bat_up hb d
theorem bat_128 {a : Nat} (hb : a < big) : bat a 128 = blen a := by
  have := bat_up hb (128 - blen a)
  rwa [show blen a + (128 - blen a) = 128 by have := blen_le hb; omega] at this
end Go.Proofs.YtoemccfpinonhaaDoor
