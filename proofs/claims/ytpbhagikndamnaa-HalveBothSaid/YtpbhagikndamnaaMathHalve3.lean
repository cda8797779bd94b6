/- The empty counter and the counter of the items of two: plain. -/
import Derived.Test.YtpbhagikndamnaaMathHalve2
namespace Go.Proofs.Ytpbhagikndamnaa
def hnew (a now : Int) : HOut := if a < 1 ∨ 64 < a ∨ now < 0 ∨ 16777216 < now then hzero 1 else ⟨now, List.replicate a.toNat 0, 0⟩
theorem hnew_no {a now : Int} (h : a < 1 ∨ 64 < a ∨ now < 0 ∨ 16777216 < now) : hnew a now = hzero 1 := by unfold hnew; rw [if_pos h]
theorem hnew_yes {a now : Int} (h0 : 1 ≤ a) (h1 : a ≤ 64) (h2 : 0 ≤ now) (h3 : now ≤ 16777216) : hnew a now = ⟨now, List.replicate a.toNat 0, 0⟩ := by unfold hnew; rw [if_neg (by omega)]
/-- The sum of one place. -/
def hsum (xs ys : List Int) (e : Nat) : Int := xs.getD e 0 + ys.getD e 0
def hsums (xs ys : List Int) (k : Nat) : List Int := (List.range k).map (hsum xs ys)
/-- The sums, the first k places of which are done. -/
def hpart (xs ys : List Int) (k : Nat) : List Int := (List.range xs.length).map fun e => if e < k then hsum xs ys e else xs.getD e 0
def hfits (xs ys : List Int) : Bool := decide (∀ e, e < xs.length → hsum xs ys e ≤ 1099511627776)
def hmerE (now : Int) (xs : List Int) (now' : Int) (ys : List Int) : Int :=
  if hvalE now xs = 0 then if hvalE now' ys = 0 then if now ≠ now' ∨ xs.length ≠ ys.length then 1 else if hfits xs ys = true then 0 else 6 else 2 else 2
def hmer (now : Int) (xs : List Int) (now' : Int) (ys : List Int) : HOut := if hmerE now xs now' ys = 0 then ⟨now, hsums xs ys xs.length, 0⟩ else hzero (hmerE now xs now' ys)
section
variable {now now' : Int} {xs ys : List Int}
theorem hmer_bad1 (h : hvalE now xs = 2) : hmer now xs now' ys = hzero 2 := by unfold hmer hmerE; simp [h]
theorem hmer_bad2 (h0 : hvalE now xs = 0) (h : hvalE now' ys = 2) : hmer now xs now' ys = hzero 2 := by unfold hmer hmerE; simp [h0, h]
theorem hmer_now (h0 : hvalE now xs = 0) (h1 : hvalE now' ys = 0) (h : now ≠ now') : hmer now xs now' ys = hzero 1 := by unfold hmer hmerE; simp [h0, h1, h]
theorem hmer_len (h0 : hvalE now xs = 0) (h1 : hvalE now' ys = 0) (h : xs.length ≠ ys.length) : hmer now xs now' ys = hzero 1 := by unfold hmer hmerE; simp [h0, h1, h]
theorem hmer_over (h0 : hvalE now xs = 0) (h1 : hvalE now ys = 0) (h2 : xs.length = ys.length) {e : Nat} (he : e < xs.length) (h : 1099511627776 < hsum xs ys e) : hmer now xs now ys = hzero 6 := by
  have hf : hfits xs ys = false := by
    unfold hfits
    rw [decide_eq_false_iff_not]
    intro a
    have := a e he
    omega
  have e6 : hmerE now xs now ys = 6 := by unfold hmerE; simp [h0, h1, h2, hf]
  unfold hmer
  simp [e6]
theorem hmer_ok (h0 : hvalE now xs = 0) (h1 : hvalE now ys = 0) (h2 : xs.length = ys.length) (h : ∀ e, e < xs.length → hsum xs ys e ≤ 1099511627776) : hmer now xs now ys = ⟨now, hsums xs ys xs.length, 0⟩ := by
  have hf : hfits xs ys = true := by
    unfold hfits
    exact decide_eq_true h
  have e6 : hmerE now xs now ys = 0 := by unfold hmerE; simp [h0, h1, h2, hf]
  unfold hmer
  simp [e6]
end
theorem hpart_zero (xs ys : List Int) : hpart xs ys 0 = xs := by
  unfold hpart
  apply List.ext_getElem?
  intro i
  by_cases hi : i < xs.length
  · simp [hi, List.getD]
  · rw [List.getElem?_eq_none (by simp; omega), List.getElem?_eq_none (by omega)]
theorem hpart_len (xs ys : List Int) (k : Nat) : (hpart xs ys k).length = xs.length := by unfold hpart; simp
theorem hpart_all (xs ys : List Int) : hpart xs ys xs.length = hsums xs ys xs.length := by
  unfold hpart hsums
  apply List.map_congr_left
  intro i hi
  rw [List.mem_range] at hi
  rw [if_pos hi]
theorem hpart_step {xs ys : List Int} {k : Nat} (hk : k < xs.length) : hpart xs ys (k + 1) = (hpart xs ys k).set k (hsum xs ys k) := by
  apply List.ext_getElem?
  intro i
  rw [List.getElem?_set, hpart_len]
  by_cases hi : i < xs.length
  · by_cases e : k = i
    · subst e
      rw [if_pos rfl, if_pos hk]
      unfold hpart
      simp [hk]
    · rw [if_neg e]
      unfold hpart
      simp [hi]
      by_cases c : i < k
      · rw [if_pos (by omega), if_pos c]
      · rw [if_neg (by omega), if_neg c]
  · rw [List.getElem?_eq_none (by rw [hpart_len]; omega), if_neg (by omega), List.getElem?_eq_none (by rw [hpart_len]; omega)]
theorem hpart_at {xs ys : List Int} {k : Nat} (hk : k < xs.length) : (hpart xs ys k).getD k 0 = xs.getD k 0 := by
  unfold hpart
  rw [List.getD_eq_getElem?_getD, List.getElem?_map, List.getElem?_range hk]
  simp
theorem hsums_step (xs ys : List Int) (k : Nat) : hsums xs ys (k + 1) = hsums xs ys k ++ [hsum xs ys k] := by unfold hsums; rw [List.range_succ, List.map_append]; rfl
theorem hsums_len (xs ys : List Int) (k : Nat) : (hsums xs ys k).length = k := by unfold hsums; simp
theorem hsums_at {xs ys : List Int} {k e : Nat} (h : e < k) : (hsums xs ys k).getD e 0 = hsum xs ys e := by
  unfold hsums
  rw [List.getD_eq_getElem?_getD, List.getElem?_map, List.getElem?_range h]
  simp
theorem hsums_bound {xs ys : List Int} {n : Nat} (h : ∀ e, e < n → 0 ≤ hsum xs ys e ∧ hsum xs ys e ≤ 1099511627776) (k : Nat) : -9223372036854775808 ≤ (hsums xs ys n).getD k 0 ∧ (hsums xs ys n).getD k 0 ≤ 9223372036854775807 := by
  by_cases hk : k < n
  · rw [hsums_at hk]
    have := h k hk
    omega
  · rw [List.getD_eq_getElem?_getD, List.getElem?_eq_none (by rw [hsums_len]; omega)]
    exact ⟨by simp, by simp⟩
end Go.Proofs.Ytpbhagikndamnaa
