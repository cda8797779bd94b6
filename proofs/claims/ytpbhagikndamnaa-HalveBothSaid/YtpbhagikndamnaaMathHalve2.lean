/- What becomes of a counter that halves: plain. -/
import Derived.Test.YtpbhagikndamnaaMathHalve
namespace Go.Proofs.Ytpbhagikndamnaa
/-- A counter and an error. -/
structure HOut where
  now : Int
  zs : List Int
  f : Int
def hzero (f : Int) : HOut := ⟨0, [], f⟩
def haddE (now : Int) (zs : List Int) (v : Int) : Int :=
  if hvalE now zs = 0 then if v < 0 ∨ 4096 < v then 4 else if 1099511627776 < zs.getD 0 0 + v then 6 else 0 else 2
def hadd (now : Int) (zs : List Int) (v : Int) : HOut := if haddE now zs v = 0 then ⟨now, zs.set 0 (zs.getD 0 0 + v), 0⟩ else hzero (haddE now zs v)
theorem hadd_bad {now : Int} {zs : List Int} {v : Int} (h : hvalE now zs = 2) : hadd now zs v = hzero 2 := by unfold hadd haddE; simp [h]
theorem hadd_low {now : Int} {zs : List Int} {v : Int} (h : hvalE now zs = 0) (h1 : v < 0) : hadd now zs v = hzero 4 := by unfold hadd haddE; simp [h, h1]
theorem hadd_high {now : Int} {zs : List Int} {v : Int} (h : hvalE now zs = 0) (h1 : 4096 < v) : hadd now zs v = hzero 4 := by unfold hadd haddE; simp [h, h1]
theorem hadd_over {now : Int} {zs : List Int} {v : Int} (h : hvalE now zs = 0) (h0 : 0 ≤ v) (h1 : v ≤ 4096) (h2 : 1099511627776 < zs.getD 0 0 + v) : hadd now zs v = hzero 6 := by
  have e : haddE now zs v = 6 := by unfold haddE; rw [if_pos h, if_neg (by omega), if_pos h2]
  unfold hadd; simp [e]
theorem hadd_ok {now : Int} {zs : List Int} {v : Int} (h : hvalE now zs = 0) (h0 : 0 ≤ v) (h1 : v ≤ 4096) (h2 : zs.getD 0 0 + v ≤ 1099511627776) : hadd now zs v = ⟨now, zs.set 0 (zs.getD 0 0 + v), 0⟩ := by
  have e : haddE now zs v = 0 := by unfold haddE; rw [if_pos h, if_neg (by omega), if_neg (by omega)]
  unfold hadd; simp [e]
/-- A step of the clock by so many ticks. -/
def hshift (zs : List Int) (by_ : Nat) : List Int := (List.replicate by_ 0 ++ zs).take zs.length
def hadvE (now : Int) (zs : List Int) (to : Int) : Int := if hvalE now zs = 0 then if to < now ∨ 16777216 < to then 3 else 0 else 2
def hadv (now : Int) (zs : List Int) (to : Int) : HOut := if hadvE now zs to = 0 then ⟨to, hshift zs (to - now).toNat, 0⟩ else hzero (hadvE now zs to)
theorem hadv_bad {now : Int} {zs : List Int} {to : Int} (h : hvalE now zs = 2) : hadv now zs to = hzero 2 := by unfold hadv hadvE; simp [h]
theorem hadv_low {now : Int} {zs : List Int} {to : Int} (h : hvalE now zs = 0) (h1 : to < now) : hadv now zs to = hzero 3 := by unfold hadv hadvE; simp [h, h1]
theorem hadv_high {now : Int} {zs : List Int} {to : Int} (h : hvalE now zs = 0) (h1 : 16777216 < to) : hadv now zs to = hzero 3 := by unfold hadv hadvE; simp [h, h1]
theorem hadv_ok {now : Int} {zs : List Int} {to : Int} (h : hvalE now zs = 0) (h0 : now ≤ to) (h1 : to ≤ 16777216) : hadv now zs to = ⟨to, hshift zs (to - now).toNat, 0⟩ := by
  have e : hadvE now zs to = 0 := by unfold hadvE; rw [if_pos h, if_neg (by omega)]
  unfold hadv; simp [e]
theorem hshift_len (zs : List Int) (b : Nat) : (hshift zs b).length = zs.length := by unfold hshift; simp
theorem hshift_at {zs : List Int} {b k : Nat} (hk : k < zs.length) : (hshift zs b).getD k 0 = if k < b then 0 else zs.getD (k - b) 0 := by
  unfold hshift
  rw [List.getD_eq_getElem?_getD, List.getElem?_take, if_pos hk]
  by_cases h : k < b
  · rw [if_pos h, List.getElem?_append_left (by simpa using h)]
    simp [h]
  · rw [if_neg h, List.getElem?_append_right (by simp; omega)]
    simp [List.getD]
/-- The shift by so many ticks or more than there are sums is the same. -/
theorem hshift_min (zs : List Int) (b : Nat) : List.replicate (min b zs.length) 0 ++ zs.take (zs.length - min b zs.length) = hshift zs b := by
  apply List.ext_getElem?
  intro k
  unfold hshift
  rw [List.getElem?_take]
  by_cases hk : k < zs.length
  · rw [if_pos hk]
    by_cases h : k < b
    · rw [List.getElem?_append_left (by simp; omega), List.getElem?_append_left (by simpa using h)]
      simp [List.getElem?_replicate, h]
      omega
    · have hm : min b zs.length = b := by omega
      rw [hm, List.getElem?_append_right (by simp; omega), List.getElem?_append_right (by simp; omega), List.length_replicate, List.getElem?_take, if_pos (by omega)]
  · rw [if_neg hk, List.getElem?_eq_none (by simp; omega)]
/-- The shifted sums behind k rounds. -/
def hst (zs : List Int) (d k : Nat) : List Int := (List.range zs.length).map fun i => if d ≤ i ∧ i < k + d then zs.getD (i - d) 0 else 0
theorem hst_len (zs : List Int) (d k : Nat) : (hst zs d k).length = zs.length := by unfold hst; simp
theorem hst_zero (zs : List Int) (d : Nat) : hst zs d 0 = List.replicate zs.length 0 := by
  apply List.ext_getElem?
  intro i
  unfold hst
  by_cases hi : i < zs.length
  · simp [List.getElem?_replicate, hi]
    omega
  · rw [List.getElem?_eq_none (by simp; omega), List.getElem?_eq_none (by simp; omega)]
theorem hst_all (zs : List Int) (d : Nat) : hst zs d zs.length = hshift zs d := by
  apply List.ext_getElem?
  intro i
  by_cases hi : i < zs.length
  · have h1 := hshift_at (b := d) hi
    rw [List.getD_eq_getElem?_getD] at h1
    have h2 : i < (hshift zs d).length := by rw [hshift_len]; exact hi
    rw [List.getElem?_eq_getElem h2] at h1 ⊢
    simp only [Option.getD_some] at h1
    rw [h1]
    unfold hst
    by_cases c : i < d
    · simp [hi, c, Nat.not_le.2 c]
    · simp [hi, c]
      intro h
      exact absurd (h (by omega)) (by omega)
  · rw [List.getElem?_eq_none (by rw [hst_len]; omega), List.getElem?_eq_none (by rw [hshift_len]; omega)]
theorem hst_step {zs : List Int} {d k : Nat} (hk : k < zs.length) (h : k + d < zs.length) : hst zs d (k + 1) = (hst zs d k).set (k + d) (zs.getD k 0) := by
  apply List.ext_getElem?
  intro i
  rw [List.getElem?_set, hst_len]
  by_cases hi : i < zs.length
  · by_cases e : k + d = i
    · subst e
      rw [if_pos rfl, if_pos h]
      unfold hst
      simp [hi]
    · rw [if_neg e]
      unfold hst
      simp [hi]
      by_cases c : d ≤ i ∧ i < k + d
      · rw [if_pos ⟨c.1, by omega⟩, if_pos c]
      · rw [if_neg (by omega), if_neg c]
  · rw [List.getElem?_eq_none (by rw [hst_len]; omega), if_neg (by omega), List.getElem?_eq_none (by rw [hst_len]; omega)]
theorem hst_keep {zs : List Int} {d k : Nat} (h : zs.length ≤ k + d) : hst zs d (k + 1) = hst zs d k := by
  unfold hst
  apply List.map_congr_left
  intro i hi
  rw [List.mem_range] at hi
  by_cases c : d ≤ i
  · rw [if_pos ⟨c, by omega⟩, if_pos ⟨c, by omega⟩]
  · rw [if_neg (fun x => c x.1), if_neg (fun x => c x.1)]
theorem hst_bound {zs : List Int} (h : ∀ k, -9223372036854775808 ≤ zs.getD k 0 ∧ zs.getD k 0 ≤ 9223372036854775807) (d k j : Nat) : -9223372036854775808 ≤ (hst zs d k).getD j 0 ∧ (hst zs d k).getD j 0 ≤ 9223372036854775807 := by
  rw [List.getD_eq_getElem?_getD]
  unfold hst
  rw [List.getElem?_map]
  by_cases hj : j < zs.length
  · simp only [List.getElem?_range hj, Option.map_some, Option.getD_some]
    split
    · exact h _
    · exact ⟨by decide, by decide⟩
  · rw [List.getElem?_eq_none (by simp; omega)]
    exact ⟨by simp, by simp⟩
end Go.Proofs.Ytpbhagikndamnaa
