/- What the condition on the table of math/bits gives a walk. -/
import Derived.Test.YtoemccfpinonhaaDoorTz
import Derived.Test.YtoemccfpinonhaaDoorRows
import Derived.ProofKit
import Derived.LaidMore
import Derived.OpenShut
namespace Go.Proofs.YtoemccfpinonhaaDoor
open Go.ChangeShapes Go.WideShapes Go.ChangeAt Go.WideMaps Go.WideElems Go.RowKit
theorem gTab : Tryd.prog.globalNamed "math/bits.deBruijn64tab" = some 0 := by kernel_rfl
theorem tTab : (Tryd.prog.globals[0]?).map (·.type) = some 38 := by kernel_rfl
abbrev laidTab : List (String × DataW Unit) := [("math/bits.deBruijn64tab", Rows.laid_math_bits_deBruijn64tab)]
theorem of_laid {W : World} (h : laidMetH Tryd.prog laidTab W) : TabAt W ∧ 0 < W.heap.size := by
  rw [MakeChecks.laidMetH_plain _ _ _ (by kernel_rfl)] at h
  obtain ⟨ps, ⟨g0, t0, cs0, f0, p0, q0, hg0, ht0, hv0, hd0, hrest⟩, hmore⟩ := h
  obtain rfl := Option.some.inj (gTab.symm.trans hg0)
  obtain rfl := Option.some.inj (tTab.symm.trans ht0)
  obtain ⟨xs, m1, _, hx1, hlen, hn3, hel⟩ := DataW.trod_array Tryd.underlying38 hd0
  have c1 : Tryd.prog.cellsOf 5 = 1 := by kernel_rfl
  rw [c1] at hel
  have hl : (Rows.laid_math_bits_deBruijn64tab : DataW Unit) = .agg (Lib.deBruijn64tab.map fun (n : Nat) => .lit (.int .u8 (n : Int))) := rfl
  rw [hl, Prod.mk.injEq, DataW.agg.injEq] at hx1
  have hcells : TabAt W := by
    intro j hj
    have h1 := hel j hj
    rw [Nat.mul_one] at h1
    have hxj : xs[j]? = some (xs[j]'(by omega)) := List.getElem?_eq_getElem (by omega)
    rw [hxj] at h1
    obtain ⟨k, e1, e2, _⟩ := DataW.trod_int Tryd.underlying5 h1
    have e3 := congrArg (fun l => l[j]?) hx1.1
    simp only [List.getElem?_map, hxj, Option.map_some] at e3
    have hlen64 : Lib.deBruijn64tab.length = 64 := rfl
    have hk : k = (Lib.deBruijn64tab.getD j 0 : Nat) := by
      rw [e2] at e3
      rw [List.getElem?_eq_getElem (by omega)] at e3
      simp at e3
      rw [← e3]
      simp [List.getD, hj, hlen64]
    have hc := World.var?_cell hg0 hv0 j
    rw [← hk, hc]
    have h4 := congrArg List.head? e1
    rw [List.head?_take] at h4
    simp at h4
    simpa using h4
  refine ⟨hcells, ?_⟩
  have h0 := hcells 0 (by omega)
  rcases Nat.eq_zero_or_pos W.heap.size with h | h
  · simp [World.cell?, Array.getElem?_eq_none (show W.heap.size ≤ 0 by omega)] at h0
  · exact h
end Go.Proofs.YtoemccfpinonhaaDoor
