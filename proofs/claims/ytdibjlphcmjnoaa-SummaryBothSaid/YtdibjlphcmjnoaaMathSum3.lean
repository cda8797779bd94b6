/- Summaries of a stream: a value more, and what a state becomes; plain. -/
import Derived.Test.YtdibjlphcmjnoaaMathSum2
set_option linter.unusedVariables false
set_option linter.unusedSimpArgs false
set_option linter.unusedSectionVars false
set_option linter.unnecessarySimpa false
namespace Go.Proofs.Ytdibjlphcmjnoaa
/-- What a call that answers a state computes: the state and the error. -/
structure SOut where
  k : Int
  cap : Int
  n : Int
  ts : List Tup
  f : Int
def szero (f : Int) : SOut := ⟨0, 0, 0, [], f⟩
def snew (k cap : Int) : SOut := if k < 1 ∨ 64 < k ∨ cap < 2 ∨ 65536 < cap then szero 1 else ⟨k, cap, 0, [], 0⟩
theorem snew_no {k cap : Int} (h : k < 1 ∨ 64 < k ∨ cap < 2 ∨ 65536 < cap) : snew k cap = szero 1 := by unfold snew; rw [if_pos h]
theorem snew_yes {k cap : Int} (h0 : 1 ≤ k) (h1 : k ≤ 64) (h2 : 2 ≤ cap) (h3 : cap ≤ 65536) : snew k cap = ⟨k, cap, 0, [], 0⟩ := by unfold snew; rw [if_neg (by omega)]
/-- The number of tuples ahead of the first one that is greater than v. -/
def sat (v : Int) : List Tup → Nat
  | [] => 0
  | t :: ts => if t.v ≤ v then sat v ts + 1 else 0
theorem sat_le (v : Int) : ∀ ts : List Tup, sat v ts ≤ ts.length
  | [] => Nat.le_refl _
  | t :: ts => by
    have := sat_le v ts
    unfold sat
    split
    · simp only [List.length_cons]; omega
    · omega
theorem tupAt_cons (t : Tup) (ts : List Tup) (i : Nat) : tupAt (t :: ts) (i + 1) = tupAt ts i := rfl
theorem tupAt_zero (t : Tup) (ts : List Tup) : tupAt (t :: ts) 0 = t := rfl
theorem sat_eq {v : Int} : ∀ {ts : List Tup} {p : Nat}, p ≤ ts.length → (∀ j, j < p → (tupAt ts j).v ≤ v) → (p < ts.length → v < (tupAt ts p).v) → sat v ts = p
  | [], p, h, _, _ => by simp at h; simp [sat, h]
  | t :: ts, 0, _, _, h2 => by
    have := h2 (by simp)
    rw [tupAt_zero] at this
    unfold sat
    rw [if_neg (by omega)]
  | t :: ts, p + 1, h, h1, h2 => by
    have a := h1 0 (by omega)
    rw [tupAt_zero] at a
    unfold sat
    rw [if_pos a, sat_eq (p := p) (by simpa using h) (fun j hj => by have := h1 (j + 1) (by omega); rwa [tupAt_cons] at this) (fun hp => by have := h2 (by simpa using hp); rwa [tupAt_cons] at this)]
theorem sat_low {v : Int} : ∀ {ts : List Tup} {j : Nat}, j < sat v ts → (tupAt ts j).v ≤ v
  | [], j, h => absurd h (by simp [sat])
  | t :: ts, 0, h => by
    unfold sat at h
    split at h
    · assumption
    · omega
  | t :: ts, j + 1, h => by
    unfold sat at h
    split at h
    · rw [tupAt_cons]; exact sat_low (by omega)
    · omega
theorem sat_high {v : Int} : ∀ {ts : List Tup}, sat v ts < ts.length → v < (tupAt ts (sat v ts)).v
  | [], h => absurd h (by simp [sat])
  | t :: ts, h => by
    unfold sat at h ⊢
    split
    · rename_i c
      rw [if_pos c] at h
      rw [tupAt_cons]
      exact sat_high (by simpa using h)
    · rename_i c
      rw [tupAt_zero]
      omega
/-- The values ascend. -/
def Asc (ts : List Tup) : Prop := ∀ i j, i ≤ j → j < ts.length → (tupAt ts i).v ≤ (tupAt ts j).v
theorem asc_of {m : Int} {ts : List Tup} (h : ∀ i, i < ts.length → tOK m ts i = true) : Asc ts := by
  intro i j hij hj
  induction j with
  | zero => rw [show i = 0 by omega]; exact Int.le_refl _
  | succ j ih =>
    rcases Nat.lt_or_ge j i with c | c
    · rw [show i = j + 1 by omega]; exact Int.le_refl _
    · have a := ih c (by omega)
      have b := (tOK_of (h (j + 1) hj)).2.2.1
      rcases b with b | b
      · omega
      · rw [show j + 1 - 1 = j from rfl] at b
        omega
/-- The place from behind. -/
theorem sat_back {v : Int} {ts : List Tup} {p : Nat} (ha : Asc ts) (hp : p ≤ ts.length) (h1 : 0 < p → (tupAt ts (p - 1)).v ≤ v) (h2 : ∀ j, p ≤ j → j < ts.length → v < (tupAt ts j).v) : sat v ts = p := by
  refine sat_eq hp (fun j hj => ?_) (fun h => h2 p (Nat.le_refl _) h)
  have a := ha j (p - 1) (by omega) (by omega)
  have b := h1 (by omega)
  omega
/-- What a new tuple leaves open. -/
def sgap (v : Int) (ts : List Tup) : Int := if 0 < sat v ts ∧ sat v ts < ts.length then (tupAt ts (sat v ts)).g + (tupAt ts (sat v ts)).d - 1 else 0
/-- The list with a value more. -/
def sins (v : Int) (ts : List Tup) : List Tup := ts.take (sat v ts) ++ ⟨v, 1, sgap v ts⟩ :: ts.drop (sat v ts)
theorem sins_len (v : Int) (ts : List Tup) : (sins v ts).length = ts.length + 1 := by
  have := sat_le v ts
  unfold sins
  simp only [List.length_append, List.length_take, List.length_cons, List.length_drop]
  omega
/-- Compressed where there are too many tuples. -/
def sfit (k cap n : Int) (ts : List Tup) : SOut :=
  if (ts.length : Int) ≤ cap then ⟨k, cap, n, ts, 0⟩ else if ((comp (smost n k) ts).length : Int) ≤ cap then ⟨k, cap, n, comp (smost n k) ts, 0⟩ else szero 5
theorem sfit_short {k cap n : Int} {ts : List Tup} (h : (ts.length : Int) ≤ cap) : sfit k cap n ts = ⟨k, cap, n, ts, 0⟩ := by unfold sfit; rw [if_pos h]
theorem sfit_comp {k cap n : Int} {ts : List Tup} (h : cap < (ts.length : Int)) (h2 : ((comp (smost n k) ts).length : Int) ≤ cap) : sfit k cap n ts = ⟨k, cap, n, comp (smost n k) ts, 0⟩ := by unfold sfit; rw [if_neg (by omega), if_pos h2]
theorem sfit_full {k cap n : Int} {ts : List Tup} (h : cap < (ts.length : Int)) (h2 : cap < ((comp (smost n k) ts).length : Int)) : sfit k cap n ts = szero 5 := by unfold sfit; rw [if_neg (by omega), if_neg (by omega)]
def sinsert (k cap n : Int) (ts : List Tup) (v : Int) : SOut :=
  if svalE k cap n ts = 0 then if v < -4096 ∨ 4096 < v then szero 4 else if n = 1099511627776 then szero 5 else sfit k cap (n + 1) (sins v ts) else szero 2
def scomp (k cap n : Int) (ts : List Tup) : SOut := if svalE k cap n ts = 0 then ⟨k, cap, n, comp (smost n k) ts, 0⟩ else szero 2
section
variable {k cap n v : Int} {ts : List Tup}
theorem sinsert_bad (h : svalE k cap n ts = 2) : sinsert k cap n ts v = szero 2 := by unfold sinsert; rw [if_neg (by omega)]
theorem sinsert_range (h : svalE k cap n ts = 0) (hv : v < -4096 ∨ 4096 < v) : sinsert k cap n ts v = szero 4 := by unfold sinsert; rw [if_pos h, if_pos hv]
theorem sinsert_full (h : svalE k cap n ts = 0) (h0 : -4096 ≤ v) (h1 : v ≤ 4096) (hn : n = 1099511627776) : sinsert k cap n ts v = szero 5 := by unfold sinsert; rw [if_pos h, if_neg (by omega), if_pos hn]
theorem sinsert_ok (h : svalE k cap n ts = 0) (h0 : -4096 ≤ v) (h1 : v ≤ 4096) (hn : n ≠ 1099511627776) : sinsert k cap n ts v = sfit k cap (n + 1) (sins v ts) := by unfold sinsert; rw [if_pos h, if_neg (by omega), if_neg hn]
theorem scomp_bad (h : svalE k cap n ts = 2) : scomp k cap n ts = szero 2 := by unfold scomp; rw [if_neg (by omega)]
theorem scomp_ok (h : svalE k cap n ts = 0) : scomp k cap n ts = ⟨k, cap, n, comp (smost n k) ts, 0⟩ := by unfold scomp; rw [if_pos h]
/-- A valid state's tuples are small. -/
theorem sval_TB (h : svalE k cap n ts = 0) : ∀ t ∈ ts, TB 1099511627776 t := by
  intro t ht
  have V := of_svalE h
  obtain ⟨i, hi, rfl⟩ := List.getElem_of_mem ht
  have hn : n ≠ 0 := fun e => by have := V.2.2.2.2.2.2.2.1 e; omega
  have a := tOK_of ((V.2.2.2.2.2.2.2.2 hn).2.1 i hi)
  have b := smost_le V.2.2.2.2.1 V.1 hn
  rw [tupAt_eq hi]
  unfold TB
  omega
theorem sval_asc (h : svalE k cap n ts = 0) : Asc ts := by
  have V := of_svalE h
  by_cases hn : n = 0
  · have := V.2.2.2.2.2.2.2.1 hn
    intro i j _ hj
    omega
  · exact asc_of (V.2.2.2.2.2.2.2.2 hn).2.1
theorem TB.mono {A B : Int} {t : Tup} (h : TB A t) (hb : A ≤ B) : TB B t := by unfold TB at *; omega
theorem sins_TB (h : svalE k cap n ts = 0) (h0 : -4096 ≤ v) (h1 : v ≤ 4096) : ∀ t ∈ sins v ts, TB 4398046511104 t := by
  intro t ht
  have T := sval_TB h
  unfold sins at ht
  rcases List.mem_append.1 ht with ht | ht
  · exact (T t (List.mem_of_mem_take ht)).mono (by omega)
  · rcases List.mem_cons.1 ht with rfl | ht
    · have V := of_svalE h
      unfold TB sgap
      simp only
      split
      · rename_i c
        have hn : n ≠ 0 := fun e => by have := V.2.2.2.2.2.2.2.1 e; omega
        have a := tOK_of ((V.2.2.2.2.2.2.2.2 hn).2.1 (sat v ts) c.2)
        have b := smost_le V.2.2.2.2.1 V.1 hn
        omega
      · omega
    · exact (T t (List.mem_of_mem_drop ht)).mono (by omega)
end
end Go.Proofs.Ytdibjlphcmjnoaa
