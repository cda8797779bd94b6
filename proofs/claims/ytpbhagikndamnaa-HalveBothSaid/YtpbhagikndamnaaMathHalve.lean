/- Plain facts on counters that halve: no program is in sight. -/
import Derived.Test.YtpbhagikndamnaaMath
namespace Go.Proofs.Ytpbhagikndamnaa
/-- One sum of a counter is as it must be. -/
def sumOK (now : Int) (e : Nat) (s : Int) : Bool := decide (0 ≤ s ∧ s ≤ 1099511627776 ∧ (s = 0 ∨ (e : Int) ≤ now))
/-- A state is valid. -/
def hvalid (now : Int) (zs : List Int) : Bool := decide (1 ≤ zs.length ∧ zs.length ≤ 64 ∧ 0 ≤ now ∧ now ≤ 16777216 ∧ ∀ e, e < zs.length → sumOK now e (zs.getD e 0) = true)
/-- What the check of a state answers. -/
def hvalE (now : Int) (zs : List Int) : Int := if hvalid now zs = true then 0 else 2
theorem hvalE_yes {now : Int} {zs : List Int} (h : hvalid now zs = true) : hvalE now zs = 0 := by unfold hvalE; rw [if_pos h]
theorem hvalE_no {now : Int} {zs : List Int} (h : hvalid now zs = false) : hvalE now zs = 2 := by unfold hvalE; rw [if_neg (by simp [h])]
theorem hvalE_len0 {now : Int} {zs : List Int} (h : zs.length < 1) : hvalE now zs = 2 := hvalE_no (by unfold hvalid; simp; omega)
theorem hvalE_len1 {now : Int} {zs : List Int} (h : 64 < zs.length) : hvalE now zs = 2 := hvalE_no (by unfold hvalid; simp; omega)
theorem hvalE_now0 {now : Int} {zs : List Int} (h : now < 0) : hvalE now zs = 2 := hvalE_no (by unfold hvalid; simp; omega)
theorem hvalE_now1 {now : Int} {zs : List Int} (h : 16777216 < now) : hvalE now zs = 2 := hvalE_no (by unfold hvalid; simp; omega)
theorem hvalE_bad {now : Int} {zs : List Int} {k : Nat} (hk : k < zs.length) (h : sumOK now k (zs.getD k 0) = false) : hvalE now zs = 2 := hvalE_no (by
  unfold hvalid
  simp only [decide_eq_false_iff_not]
  intro a
  have := a.2.2.2.2 k hk
  rw [h] at this
  cases this)
theorem hvalE_all {now : Int} {zs : List Int} (h1 : 1 ≤ zs.length) (h2 : zs.length ≤ 64) (h3 : 0 ≤ now) (h4 : now ≤ 16777216) (h : ∀ e, e < zs.length → sumOK now e (zs.getD e 0) = true) : hvalE now zs = 0 := hvalE_yes (by
  unfold hvalid
  exact decide_eq_true ⟨h1, h2, h3, h4, h⟩)
theorem sumOK_neg {now s : Int} {e : Nat} (h : s < 0) : sumOK now e s = false := by unfold sumOK; simp; omega
theorem sumOK_big {now s : Int} {e : Nat} (h : 1099511627776 < s) : sumOK now e s = false := by unfold sumOK; simp; omega
theorem sumOK_late {now s : Int} {e : Nat} (h0 : s ≠ 0) (h : now < (e : Int)) : sumOK now e s = false := by unfold sumOK; simp; omega
theorem sumOK_zero {now : Int} {e : Nat} : sumOK now e 0 = true := by unfold sumOK; simp
theorem sumOK_yes {now s : Int} {e : Nat} (h0 : 0 ≤ s) (h1 : s ≤ 1099511627776) (h : (e : Int) ≤ now) : sumOK now e s = true := by unfold sumOK; simp; omega
theorem hvalid_of {now : Int} {zs : List Int} (h : hvalE now zs = 0) : 1 ≤ zs.length ∧ zs.length ≤ 64 ∧ 0 ≤ now ∧ now ≤ 16777216 ∧ ∀ e, e < zs.length → 0 ≤ zs.getD e 0 ∧ zs.getD e 0 ≤ 1099511627776 := by
  unfold hvalE at h
  split at h
  · rename_i k
    unfold hvalid at k
    simp only [decide_eq_true_eq] at k
    refine ⟨k.1, k.2.1, k.2.2.1, k.2.2.2.1, fun e he => ?_⟩
    have := k.2.2.2.2 e he
    unfold sumOK at this
    simp only [decide_eq_true_eq] at this
    exact ⟨this.1, this.2.1⟩
  · cases h
theorem hvalE_two {now : Int} {zs : List Int} : hvalE now zs = 0 ∨ hvalE now zs = 2 := by
  unfold hvalE
  split
  · exact .inl rfl
  · exact .inr rfl
end Go.Proofs.Ytpbhagikndamnaa
