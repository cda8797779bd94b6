/- Spreads of marks: which marks have one; plain. -/
import Derived.Test.YtaiepjcnncajcaaMath
import Derived.Lib.BitFns
set_option linter.unusedVariables false
set_option linter.unusedSimpArgs false
set_option linter.unusedSectionVars false
set_option linter.unnecessarySimpa false
namespace Go.Proofs.Ytaiepjcnncajcaa
def rightP (n s q : Int) : Prop := 1 ≤ n ∧ n ≤ 65536 ∧ -n * 4096 ≤ s ∧ s ≤ n * 4096 ∧ 0 ≤ q ∧ q ≤ n * 4096 * 4096 ∧ s * s ≤ n * q
instance (n s q : Int) : Decidable (rightP n s q) := by unfold rightP; infer_instance
theorem sq_bound {s B : Int} (h0 : -B ≤ s) (h1 : s ≤ B) : 0 ≤ s * s ∧ s * s ≤ B * B := by
  have hB : 0 ≤ B := by omega
  constructor
  · rcases Int.le_total 0 s with h | h
    · exact Int.mul_nonneg h h
    · exact Int.mul_nonneg_of_nonpos_of_nonpos h h
  · rcases Int.le_total 0 s with h | h
    · exact Int.mul_le_mul h1 h1 h hB
    · have : s * s = (-s) * (-s) := by rw [Int.neg_mul_neg]
      rw [this]
      exact Int.mul_le_mul (by omega) (by omega) (by omega) hB
theorem sq_small {n s : Int} (h0 : 1 ≤ n) (h1 : n ≤ 65536) (h2 : -n * 4096 ≤ s) (h3 : s ≤ n * 4096) : 0 ≤ s * s ∧ s * s ≤ 72057594037927936 := by
  have := sq_bound (s := s) (B := 268435456) (by omega) (by omega)
  exact this
theorem nq_small {n q : Int} (h0 : 1 ≤ n) (h1 : n ≤ 65536) (h2 : 0 ≤ q) (h3 : q ≤ n * 4096 * 4096) : 0 ≤ n * q ∧ n * q ≤ 72057594037927936 := by
  constructor
  · exact Int.mul_nonneg (by omega) h2
  · have : n * q ≤ 65536 * 1099511627776 := Int.mul_le_mul h1 (by omega) h2 (by decide)
    exact this
/-- The spread times the number. -/
def topN (n s q : Int) : Nat := (n * q - s * s).toNat
theorem right_top {n s q : Int} (h : rightP n s q) : 0 ≤ n * q - s * s ∧ n * q - s * s ≤ 72057594037927936 ∧ 0 ≤ s * s ∧ s * s ≤ 72057594037927936 ∧ 0 ≤ n * q ∧ n * q ≤ 72057594037927936 := by
  obtain ⟨h0, h1, h2, h3, h4, h5, h6⟩ := h
  have a := sq_small h0 h1 h2 h3
  have b := nq_small h0 h1 h4 h5
  omega
theorem bits_fuel : ∀ (f g x : Nat), x < 2 ^ f → x < 2 ^ g → Lib.bitLenAux f x = Lib.bitLenAux g x
  | 0, g, x, h, _ => by
    have : x = 0 := by simpa using h
    subst this
    cases g <;> simp [Lib.bitLenAux]
  | f + 1, 0, x, _, h => by
    have : x = 0 := by simpa using h
    subst this
    simp [Lib.bitLenAux]
  | f + 1, g + 1, x, h1, h2 => by
    unfold Lib.bitLenAux
    split
    · rfl
    · rw [bits_fuel f g (x / 2) (by rw [Nat.pow_succ] at h1; omega) (by rw [Nat.pow_succ] at h2; omega)]
theorem bits_step {x : Nat} (h : x ≠ 0) (hx : x < 18446744073709551616) : Lib.bitLen x = Lib.bitLen (x / 2) + 1 := by
  unfold Lib.bitLen
  rw [show Lib.bitLenAux 64 x = 1 + Lib.bitLenAux 63 (x / 2) from by rw [Lib.bitLenAux, if_neg h], bits_fuel 63 64 (x / 2) (by omega) (by omega)]
  omega
theorem bits_zero : Lib.bitLen 0 = 0 := by decide
theorem bits_le : ∀ (f x : Nat), Lib.bitLenAux f x ≤ f
  | 0, _ => Nat.le_refl _
  | f + 1, x => by
    unfold Lib.bitLenAux
    split
    · omega
    · have := bits_le f (x / 2)
      omega
end Go.Proofs.Ytaiepjcnncajcaa
