/- The answer of a counter that halves: plain. -/
import Derived.Test.YtpbhagikndamnaaMathHalve3
namespace Go.Proofs.Ytpbhagikndamnaa
/-- The decayed sum, place by place. -/
def hhorn (zs : List Int) : Nat → Nat
  | 0 => 0
  | k + 1 => 2 * hhorn zs k + (zs.getD k 0).toNat
def hwide (zs : List Int) (n : Nat) : Nat → Nat
  | 0 => 0
  | k + 1 => hwide zs n k + (zs.getD k 0).toNat * 2 ^ (n - 1 - k)
theorem hhorn_lt {zs : List Int} {n : Nat} (h : ∀ e, e < n → 0 ≤ zs.getD e 0 ∧ zs.getD e 0 ≤ 1099511627776) : ∀ k, k ≤ n → hhorn zs k + 1099511627776 ≤ 1099511627776 * 2 ^ k
  | 0, _ => by simp [hhorn]
  | k + 1, hk => by
    have ih := hhorn_lt h k (by omega)
    have := h k (by omega)
    have : (zs.getD k 0).toNat ≤ 1099511627776 := by omega
    unfold hhorn
    rw [Nat.pow_succ]
    omega
theorem hhorn_big {zs : List Int} {n : Nat} (h : ∀ e, e < n → 0 ≤ zs.getD e 0 ∧ zs.getD e 0 ≤ 1099511627776) (hn : n ≤ 64) (k : Nat) (hk : k ≤ n) : hhorn zs k + 1099511627776 ≤ 20282409603651670423947251286016 := by
  have h1 := hhorn_lt h k hk
  have h2 : 2 ^ k ≤ 2 ^ 64 := Nat.pow_le_pow_right (by decide) (by omega)
  have h3 : 1099511627776 * 2 ^ k ≤ 1099511627776 * 2 ^ 64 := Nat.mul_le_mul_left _ h2
  have h4 : (1099511627776 * 2 ^ 64 : Nat) = 20282409603651670423947251286016 := by decide
  omega
theorem hwide_eq (zs : List Int) (n : Nat) : ∀ k, k ≤ n → hwide zs n k = hhorn zs k * 2 ^ (n - k)
  | 0, _ => by simp [hwide, hhorn]
  | k + 1, hk => by
    unfold hwide hhorn
    rw [hwide_eq zs n k (by omega), show n - k = (n - (k + 1)) + 1 by omega, show n - 1 - k = n - (k + 1) by omega, Nat.pow_succ, Nat.add_mul]
    congr 1
    rw [Nat.mul_comm 2 (hhorn zs k), Nat.mul_assoc, Nat.mul_comm 2]
theorem hwide_last (zs : List Int) (n : Nat) : hwide zs n n = hhorn zs n := by rw [hwide_eq zs n n (Nat.le_refl _)]; simp
theorem hwide_le (zs : List Int) (n : Nat) : ∀ k j, k + j ≤ n → hwide zs n k ≤ hwide zs n (k + j)
  | k, 0, _ => Nat.le_refl _
  | k, j + 1, h => Nat.le_trans (hwide_le zs n k j (by omega)) (by rw [← Nat.add_assoc]; exact Nat.le_add_right _ _)
theorem hwide_big {zs : List Int} {n : Nat} (h : ∀ e, e < n → 0 ≤ zs.getD e 0 ∧ zs.getD e 0 ≤ 1099511627776) (hn : n ≤ 64) (k : Nat) (hk : k ≤ n) : hwide zs n k < 20282409603651670423947251286016 := by
  have h1 := hwide_le zs n k (n - k) (by omega)
  rw [show k + (n - k) = n by omega, hwide_last] at h1
  have := hhorn_big h hn n (Nat.le_refl _)
  omega
theorem hterm_big {z : Nat} {n k : Nat} (hz : z ≤ 1099511627776) (hn : n ≤ 64) : z * 2 ^ (n - 1 - k) < 20282409603651670423947251286017 := by
  have h2 : 2 ^ (n - 1 - k) ≤ 2 ^ 64 := Nat.pow_le_pow_right (by decide) (by omega)
  have h3 : z * 2 ^ (n - 1 - k) ≤ 1099511627776 * 2 ^ 64 := Nat.mul_le_mul hz h2
  have h4 : (1099511627776 * 2 ^ 64 : Nat) = 20282409603651670423947251286016 := by decide
  omega
theorem pow_big {n : Nat} (hn : n ≤ 64) : 2 ^ (n - 1) < 18446744073709551617 := by
  have h2 : 2 ^ (n - 1) ≤ 2 ^ 64 := Nat.pow_le_pow_right (by decide) (by omega)
  have h4 : (2 ^ 64 : Nat) = 18446744073709551616 := by decide
  omega
/-- An answer: the numbers over and under the line, and the error. -/
structure AOut where
  num : Nat
  den : Nat
  f : Int
def hask (now : Int) (zs : List Int) : AOut := if hvalE now zs = 0 then ⟨hhorn zs zs.length, 2 ^ (zs.length - 1), 0⟩ else ⟨0, 0, 2⟩
theorem hask_bad {now : Int} {zs : List Int} (h : hvalE now zs = 2) : hask now zs = ⟨0, 0, 2⟩ := by unfold hask; simp [h]
theorem hask_ok {now : Int} {zs : List Int} (h : hvalE now zs = 0) : hask now zs = ⟨hhorn zs zs.length, 2 ^ (zs.length - 1), 0⟩ := by unfold hask; simp [h]
end Go.Proofs.Ytpbhagikndamnaa
