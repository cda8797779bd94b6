/- Several steps of the clock are one; a counter stays valid: plain. -/
import Derived.Test.YtpbhagikndamnaaMathHalve4
namespace Go.Proofs.Ytpbhagikndamnaa
theorem hvalid_all {now : Int} {zs : List Int} (h : hvalE now zs = 0) : ∀ e, e < zs.length → sumOK now e (zs.getD e 0) = true := by
  unfold hvalE at h
  split at h
  · rename_i k
    unfold hvalid at k
    simp only [decide_eq_true_eq] at k
    exact k.2.2.2.2
  · cases h
theorem sumOK_of {now s : Int} {e : Nat} (h : sumOK now e s = true) : 0 ≤ s ∧ s ≤ 1099511627776 ∧ (s = 0 ∨ (e : Int) ≤ now) := by
  unfold sumOK at h
  simpa only [decide_eq_true_eq] using h
theorem sumOK_mk {now s : Int} {e : Nat} (h : 0 ≤ s ∧ s ≤ 1099511627776 ∧ (s = 0 ∨ (e : Int) ≤ now)) : sumOK now e s = true := by
  unfold sumOK
  simpa only [decide_eq_true_eq] using h
theorem hvalE_shift {now : Int} {zs : List Int} {d : Nat} (h : hvalE now zs = 0) (hd : now + d ≤ 16777216) : hvalE (now + d) (hshift zs d) = 0 := by
  have V := hvalid_of h
  have A := hvalid_all h
  refine hvalE_all (by rw [hshift_len]; omega) (by rw [hshift_len]; omega) (by omega) hd (fun e he => ?_)
  rw [hshift_len] at he
  rw [hshift_at he]
  split
  · exact sumOK_zero
  · have := sumOK_of (A (e - d) (by omega))
    exact sumOK_mk ⟨this.1, this.2.1, by omega⟩
theorem hshift_add (zs : List Int) (a b : Nat) : hshift (hshift zs a) b = hshift zs (a + b) := by
  apply List.ext_getElem?
  intro i
  by_cases hi : i < zs.length
  · have h1 := hshift_at (zs := hshift zs a) (b := b) (k := i) (by rw [hshift_len]; exact hi)
    have h2 := hshift_at (b := a + b) hi
    rw [List.getD_eq_getElem?_getD] at h1 h2
    have l1 : i < (hshift (hshift zs a) b).length := by rw [hshift_len, hshift_len]; exact hi
    have l2 : i < (hshift zs (a + b)).length := by rw [hshift_len]; exact hi
    rw [List.getElem?_eq_getElem l1] at h1 ⊢
    rw [List.getElem?_eq_getElem l2] at h2 ⊢
    simp only [Option.getD_some] at h1 h2
    rw [h1, h2]
    congr 1
    by_cases c : i < b
    · rw [if_pos c, if_pos (by omega)]
    · rw [if_neg c, hshift_at (by omega)]
      by_cases c2 : i < a + b
      · rw [if_pos c2, if_pos (by omega)]
      · rw [if_neg c2, if_neg (by omega)]
        congr 1
        omega
  · rw [List.getElem?_eq_none (by rw [hshift_len, hshift_len]; omega), List.getElem?_eq_none (by rw [hshift_len]; omega)]
theorem hadv_by {now : Int} {zs : List Int} {d : Nat} (h : hvalE now zs = 0) (hd : now + d ≤ 16777216) : hadv now zs (now + d) = ⟨now + d, hshift zs d, 0⟩ := by
  rw [hadv_ok h (by omega) hd, show (now + (d : Int) - now).toNat = d by omega]
end Go.Proofs.Ytpbhagikndamnaa
