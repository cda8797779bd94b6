set_option linter.unusedVariables false
set_option linter.unusedSimpArgs false
set_option linter.unusedSectionVars false
set_option linter.unnecessarySimpa false
/- Summaries of a stream: which states are valid; plain. -/
namespace Go.Proofs.Ytdibjlphcmjnoaa
/-- A tuple. -/
structure Tup where
  v : Int
  g : Int
  d : Int
def Tup.zero : Tup := ⟨0, 0, 0⟩
def tupAt (ts : List Tup) (i : Nat) : Tup := ts.getD i Tup.zero
/-- The greatest sum of a tuple's g and d. -/
def smost (n k : Int) : Int := max 1 (n / k)
/-- The tuple with the number i is as it must be, whatever stands behind it. -/
def tOK (m : Int) (ts : List Tup) (i : Nat) : Bool :=
  decide (-4096 ≤ (tupAt ts i).v ∧ (tupAt ts i).v ≤ 4096 ∧ (i = 0 ∨ (tupAt ts (i - 1)).v ≤ (tupAt ts i).v) ∧ 1 ≤ (tupAt ts i).g ∧ 0 ≤ (tupAt ts i).d ∧ (tupAt ts i).g ≤ m ∧ (tupAt ts i).d ≤ m - (tupAt ts i).g)
/-- The sum of the first so many g. -/
def gsum (ts : List Tup) : Nat → Int
  | 0 => 0
  | k + 1 => gsum ts k + (tupAt ts k).g
/-- A state is valid. -/
def sOK (k cap n : Int) (ts : List Tup) : Bool :=
  decide (1 ≤ k ∧ k ≤ 64 ∧ 2 ≤ cap ∧ cap ≤ 65536 ∧ 0 ≤ n ∧ n ≤ 1099511627776 ∧ (ts.length : Int) ≤ cap ∧
    (n = 0 → ts.length = 0) ∧ (n ≠ 0 → 0 < ts.length ∧ (∀ i, i < ts.length → tOK (smost n k) ts i = true) ∧ gsum ts ts.length = n ∧ (tupAt ts 0).g = 1 ∧ (tupAt ts 0).d = 0 ∧ (tupAt ts (ts.length - 1)).d = 0))
def svalE (k cap n : Int) (ts : List Tup) : Int := if sOK k cap n ts = true then 0 else 2
section
variable {k cap n m : Int} {ts : List Tup} {i : Nat}
theorem svalE_two : svalE k cap n ts = 0 ∨ svalE k cap n ts = 2 := by
  unfold svalE
  split
  · exact .inl rfl
  · exact .inr rfl
theorem svalE_no (h : ¬ (1 ≤ k ∧ k ≤ 64 ∧ 2 ≤ cap ∧ cap ≤ 65536 ∧ 0 ≤ n ∧ n ≤ 1099511627776 ∧ (ts.length : Int) ≤ cap ∧
    (n = 0 → ts.length = 0) ∧ (n ≠ 0 → 0 < ts.length ∧ (∀ i, i < ts.length → tOK (smost n k) ts i = true) ∧ gsum ts ts.length = n ∧ (tupAt ts 0).g = 1 ∧ (tupAt ts 0).d = 0 ∧ (tupAt ts (ts.length - 1)).d = 0))) : svalE k cap n ts = 2 := by
  unfold svalE sOK
  rw [if_neg]
  rw [decide_eq_true_eq]
  exact h
theorem svalE_yes (h : 1 ≤ k ∧ k ≤ 64 ∧ 2 ≤ cap ∧ cap ≤ 65536 ∧ 0 ≤ n ∧ n ≤ 1099511627776 ∧ (ts.length : Int) ≤ cap ∧
    (n = 0 → ts.length = 0) ∧ (n ≠ 0 → 0 < ts.length ∧ (∀ i, i < ts.length → tOK (smost n k) ts i = true) ∧ gsum ts ts.length = n ∧ (tupAt ts 0).g = 1 ∧ (tupAt ts 0).d = 0 ∧ (tupAt ts (ts.length - 1)).d = 0)) : svalE k cap n ts = 0 := by
  unfold svalE sOK
  rw [if_pos]
  rw [decide_eq_true_eq]
  exact h
theorem of_svalE (h : svalE k cap n ts = 0) : 1 ≤ k ∧ k ≤ 64 ∧ 2 ≤ cap ∧ cap ≤ 65536 ∧ 0 ≤ n ∧ n ≤ 1099511627776 ∧ (ts.length : Int) ≤ cap ∧
    (n = 0 → ts.length = 0) ∧ (n ≠ 0 → 0 < ts.length ∧ (∀ i, i < ts.length → tOK (smost n k) ts i = true) ∧ gsum ts ts.length = n ∧ (tupAt ts 0).g = 1 ∧ (tupAt ts 0).d = 0 ∧ (tupAt ts (ts.length - 1)).d = 0) := by
  unfold svalE at h
  split at h
  · rename_i hs
    unfold sOK at hs
    rw [decide_eq_true_eq] at hs
    exact hs
  · cases h
theorem svalE_bad (hn : n ≠ 0) (hi : i < ts.length) (h : tOK (smost n k) ts i = false) : svalE k cap n ts = 2 := svalE_no (by
  intro a
  have := (a.2.2.2.2.2.2.2.2 hn).2.1 i hi
  rw [h] at this
  cases this)
theorem tOK_of (h : tOK m ts i = true) : -4096 ≤ (tupAt ts i).v ∧ (tupAt ts i).v ≤ 4096 ∧ (i = 0 ∨ (tupAt ts (i - 1)).v ≤ (tupAt ts i).v) ∧ 1 ≤ (tupAt ts i).g ∧ 0 ≤ (tupAt ts i).d ∧ (tupAt ts i).g ≤ m ∧ (tupAt ts i).d ≤ m - (tupAt ts i).g := by
  unfold tOK at h
  rw [decide_eq_true_eq] at h
  exact h
theorem tOK_mk (h : -4096 ≤ (tupAt ts i).v ∧ (tupAt ts i).v ≤ 4096 ∧ (i = 0 ∨ (tupAt ts (i - 1)).v ≤ (tupAt ts i).v) ∧ 1 ≤ (tupAt ts i).g ∧ 0 ≤ (tupAt ts i).d ∧ (tupAt ts i).g ≤ m ∧ (tupAt ts i).d ≤ m - (tupAt ts i).g) : tOK m ts i = true := by
  unfold tOK
  rw [decide_eq_true_eq]
  exact h
theorem tOK_no (h : ¬ (-4096 ≤ (tupAt ts i).v ∧ (tupAt ts i).v ≤ 4096 ∧ (i = 0 ∨ (tupAt ts (i - 1)).v ≤ (tupAt ts i).v) ∧ 1 ≤ (tupAt ts i).g ∧ 0 ≤ (tupAt ts i).d ∧ (tupAt ts i).g ≤ m ∧ (tupAt ts i).d ≤ m - (tupAt ts i).g)) : tOK m ts i = false := by
  unfold tOK
  rw [decide_eq_false_iff_not]
  exact h
theorem smost_pos : 1 ≤ smost n k := by unfold smost; omega
theorem smost_le (h0 : 0 ≤ n) (hk : 1 ≤ k) (h : n ≠ 0) : smost n k ≤ n := by
  unfold smost
  have : n / k ≤ n := Int.ediv_le_self _ h0
  omega
theorem gsum_bound (h : ∀ j, j < i → tOK m ts j = true) : (i : Int) ≤ gsum ts i ∧ gsum ts i ≤ (i : Int) * m := by
  induction i with
  | zero => simp [gsum]
  | succ i ih =>
    have h1 := ih (fun j hj => h j (by omega))
    have h2 := tOK_of (h i (by omega))
    unfold gsum
    have e : ((i + 1 : Nat) : Int) * m = (i : Int) * m + m := by rw [Int.natCast_succ, Int.add_mul, Int.one_mul]
    rw [e]
    omega
theorem gsum_small (h : ∀ j, j < i → tOK m ts j = true) (hi : i ≤ 65536) (h0 : 1 ≤ m) (hm : m ≤ 1099511627776) : 0 ≤ gsum ts i ∧ gsum ts i ≤ 72057594037927936 := by
  have hb := gsum_bound h
  have : (i : Int) * m ≤ 65536 * 1099511627776 := Int.mul_le_mul (by omega) hm (by omega) (by omega)
  omega
end
end Go.Proofs.Ytdibjlphcmjnoaa
