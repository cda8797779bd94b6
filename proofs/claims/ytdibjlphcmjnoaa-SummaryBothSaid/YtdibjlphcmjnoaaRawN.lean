/- A parameter that is a slice of integers opened to what it reads. -/
import Derived.Deep.Slices
import Derived.Deep.Fields
import Derived.ChangeSame
import Derived.Test.YtdibjlphcmjnoaaVals
set_option linter.unusedVariables false
set_option linter.unusedSimpArgs false
set_option linter.unusedSectionVars false
set_option linter.unnecessarySimpa false
namespace Go.Proofs.Ytdibjlphcmjnoaa
open Go.ChangeShapes Go.WideShapes Go.Deep Go.RowKit
theorem i64_wf {x : Int} (h : (Lit.int .i64 x).wf = true) : -9223372036854775808 ≤ x ∧ x ≤ 9223372036854775807 := by
  simp [Lit.wf, IntKind.min, IntKind.max, IntKind.signed, IntKind.bits] at h
  exact ⟨by omega, by omega⟩
theorem cellsI : Try.prog.cellsOf 2 = 1 := by kernel_rfl
section
variable {H : Type} {enc : TypeId × Value → H} {W : World}
set_option maxRecDepth 100000 in
theorem nin_open {r : Reach} {b0 : Nat} {v : Value} {d : DataW H} {p : List MemPlace} (hv : Value.okWide Try.prog W r b0 36 v) (h0 : DataW.Trod enc Try.prog W 0 (fun _ => true) true 36 v d p) :
    ∃ A n c zs, v = .slice A n c ∧ NIn A n c zs W := by
  obtain ⟨a', len, cap, rfl⟩ := okWide_slice Try.underlying36 hv
  obtain ⟨fuel, hf⟩ := h0
  rcases open_ints Try.underlying36 Try.underlying2 cellsI hf with ⟨h1, _⟩ | ⟨a, len2, cap2, zs, h1, _, hl, hc, hz, _, hcell, hwf⟩
  · simp [Value.cells] at h1
    obtain ⟨rfl, rfl, rfl⟩ := h1
    exact ⟨none, 0, 0, [], rfl, by simpa using Reads.none_, by simp [List.getD], Nat.le_refl _, Nat.zero_le _⟩
  · simp [Value.cells] at h1
    obtain ⟨rfl, rfl, rfl⟩ := h1
    simp only [if_true] at hz
    have hb : ∀ k, -9223372036854775808 ≤ (zs.take len).getD k 0 ∧ (zs.take len).getD k 0 ≤ 9223372036854775807 := by
      intro k
      rw [List.getD_eq_getElem?_getD, List.getElem?_take]
      split
      · by_cases hk : k < zs.length
        · rw [List.getElem?_eq_getElem hk]
          exact i64_wf (hwf _ (List.getElem_mem hk))
        · rw [List.getElem?_eq_none (by omega)]
          exact ⟨by simp, by simp⟩
      · exact ⟨by simp, by simp⟩
    refine ⟨some a, len, cap, zs.take len, rfl, ⟨by simp; omega, fun h0 => ⟨a, rfl, ?_, fun j u hu => ?_⟩⟩, hb, hl, hc⟩
    · have := World.block_lt_of_cell? W _ (hcell 0 (by omega))
      rw [block_add] at this
      exact this
    · simp only [List.getElem?_map, List.getElem?_take] at hu
      split at hu
      · rename_i hj
        rw [List.getElem?_eq_getElem (by omega)] at hu
        simp at hu
        subst hu
        rw [hcell j (by omega)]
        simp [List.getD, show j < zs.length by omega]
      · cases hu
end
end Go.Proofs.Ytdibjlphcmjnoaa
