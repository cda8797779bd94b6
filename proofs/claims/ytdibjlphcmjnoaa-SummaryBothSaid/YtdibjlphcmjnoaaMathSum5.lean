/- Summaries of a stream: merging two, in plain Lean. -/
import Derived.Test.YtdibjlphcmjnoaaMathSum3
set_option linter.unusedVariables false
set_option linter.unusedSimpArgs false
set_option linter.unusedSectionVars false
set_option linter.unnecessarySimpa false
namespace Go.Proofs.Ytdibjlphcmjnoaa
/-- The tuple t comes behind the tuple u of the other list, or u before it. -/
def shits (first : Bool) (t u : Tup) : Bool := decide (t.v < u.v) || (first && u.v == t.v)
/-- The tuple t, with D widened by the first tuple of b that it comes before. -/
def swid (first : Bool) (t : Tup) : List Tup → Tup
  | [] => t
  | u :: b => if shits first t u = true then { t with d := t.d + u.g + u.d - 1 } else swid first t b
def swids (b : List Tup) (first : Bool) (a : List Tup) : List Tup := a.map fun t => swid first t b
theorem swid_at {first : Bool} {t : Tup} : ∀ {b : List Tup} {j : Nat}, j < b.length → (∀ i, i < j → shits first t (tupAt b i) = false) → shits first t (tupAt b j) = true → swid first t b = { t with d := t.d + (tupAt b j).g + (tupAt b j).d - 1 }
  | [], j, h, _, _ => absurd h (by simp)
  | u :: b, 0, _, _, h => by
    rw [tupAt_zero] at h ⊢
    unfold swid
    rw [if_pos h]
  | u :: b, j + 1, hj, hl, h => by
    have h0 := hl 0 (by omega)
    rw [tupAt_zero] at h0
    rw [tupAt_cons] at h ⊢
    unfold swid
    rw [if_neg (by rw [h0]; exact Bool.false_ne_true)]
    exact swid_at (by simpa using hj) (fun i hi => by have := hl (i + 1) (by omega); rwa [tupAt_cons] at this) h
theorem swid_none {first : Bool} {t : Tup} : ∀ {b : List Tup}, (∀ i, i < b.length → shits first t (tupAt b i) = false) → swid first t b = t
  | [], _ => rfl
  | u :: b, h => by
    have h0 := h 0 (by simp)
    rw [tupAt_zero] at h0
    unfold swid
    rw [if_neg (by rw [h0]; exact Bool.false_ne_true)]
    exact swid_none fun i hi => by have := h (i + 1) (by simpa using hi); rwa [tupAt_cons] at this
theorem swid_v {first : Bool} {t : Tup} : ∀ {b : List Tup}, (swid first t b).v = t.v
  | [] => rfl
  | u :: b => by
    unfold swid
    split
    · rfl
    · exact swid_v
theorem swids_len {b : List Tup} {first : Bool} {a : List Tup} : (swids b first a).length = a.length := by simp [swids]
theorem swids_at {b : List Tup} {first : Bool} {a : List Tup} {i : Nat} (h : i < a.length) : tupAt (swids b first a) i = swid first (tupAt a i) b := by
  unfold swids tupAt
  rw [List.getD_eq_getElem?_getD, List.getD_eq_getElem?_getD, List.getElem?_map, List.getElem?_eq_getElem h]
  rfl
theorem swids_v {b : List Tup} {first : Bool} {a : List Tup} {i : Nat} (h : i < a.length) : (tupAt (swids b first a) i).v = (tupAt a i).v := by rw [swids_at h, swid_v]
theorem swids_take {b : List Tup} {first : Bool} {a : List Tup} {i : Nat} (h : i < a.length) : swids b first (a.take (i + 1)) = swids b first (a.take i) ++ [swid first (tupAt a i) b] := by
  unfold swids
  rw [List.take_succ_eq_append_getElem h, List.map_append, tupAt_eq h]
  rfl
/-- Two ascending lists made into one; a tuple of the first comes before an equal one of the second. -/
def smrg : List Tup → List Tup → List Tup
  | [], y => y
  | x, [] => x
  | x :: xs, y :: ys => if x.v ≤ y.v then x :: smrg xs (y :: ys) else y :: smrg (x :: xs) ys
termination_by x y => x.length + y.length
theorem smrg_nil (x : List Tup) : smrg x [] = x := by cases x <;> simp [smrg]
theorem nil_smrg (y : List Tup) : smrg [] y = y := by simp [smrg]
theorem smrg_len : ∀ x y : List Tup, (smrg x y).length = x.length + y.length
  | [], y => by rw [nil_smrg]; simp
  | x :: xs, [] => by rw [smrg_nil]; simp
  | x :: xs, y :: ys => by
    rw [smrg]
    split
    · rw [List.length_cons, smrg_len xs (y :: ys)]
      simp
      omega
    · rw [List.length_cons, smrg_len (x :: xs) ys]
      simp
      omega
termination_by x y => x.length + y.length
theorem smrg_mem : ∀ (x y : List Tup) (t : Tup), t ∈ smrg x y → t ∈ x ∨ t ∈ y
  | [], y, t, h => by rw [nil_smrg] at h; exact .inr h
  | x :: xs, [], t, h => by rw [smrg_nil] at h; exact .inl h
  | x :: xs, y :: ys, t, h => by
    rw [smrg] at h
    split at h
    · rcases List.mem_cons.1 h with h | h
      · exact .inl (h ▸ List.mem_cons_self)
      · rcases smrg_mem xs (y :: ys) t h with h | h
        · exact .inl (List.mem_cons_of_mem _ h)
        · exact .inr h
    · rcases List.mem_cons.1 h with h | h
      · exact .inr (h ▸ List.mem_cons_self)
      · rcases smrg_mem (x :: xs) ys t h with h | h
        · exact .inl h
        · exact .inr (List.mem_cons_of_mem _ h)
termination_by x y => x.length + y.length
theorem drop_tup {ts : List Tup} {i : Nat} (h : i < ts.length) : ts.drop i = tupAt ts i :: ts.drop (i + 1) := by rw [List.drop_eq_getElem_cons h, tupAt_eq h]
theorem smrg_x {x y : List Tup} {i j : Nat} (hi : i < x.length) (hj : j ≤ y.length) (h : j = y.length ∨ (tupAt x i).v ≤ (tupAt y j).v) : smrg (x.drop i) (y.drop j) = tupAt x i :: smrg (x.drop (i + 1)) (y.drop j) := by
  rw [drop_tup hi]
  by_cases c : j < y.length
  · rw [drop_tup c, smrg, if_pos (by rcases h with h | h; · omega
                                     · exact h)]
  · rw [show y.drop j = [] from List.drop_of_length_le (by omega), smrg_nil, smrg_nil]
theorem smrg_y {x y : List Tup} {i j : Nat} (hi : i ≤ x.length) (hj : j < y.length) (h : i = x.length ∨ (tupAt y j).v < (tupAt x i).v) : smrg (x.drop i) (y.drop j) = tupAt y j :: smrg (x.drop i) (y.drop (j + 1)) := by
  rw [drop_tup hj]
  by_cases c : i < x.length
  · rw [drop_tup c, smrg, if_neg (by rcases h with h | h; · omega
                                     · omega)]
  · rw [show x.drop i = [] from List.drop_of_length_le (by omega), nil_smrg, nil_smrg]
theorem smrg_end {x y : List Tup} {i j : Nat} (hi : x.length ≤ i) (hj : y.length ≤ j) : smrg (x.drop i) (y.drop j) = [] := by
  rw [List.drop_of_length_le hi, List.drop_of_length_le hj, nil_smrg]
/-- The summary of the values of two. -/
def smerge (k cap n : Int) (ts : List Tup) (k' cap' n' : Int) (ts' : List Tup) : SOut :=
  if svalE k cap n ts = 0 then (if svalE k' cap' n' ts' = 0 then (if k = k' then (if 1099511627776 < n + n' then szero 5 else sfit k (max cap cap') (n + n') (smrg (swids ts' true ts) (swids ts false ts'))) else szero 1) else szero 2) else szero 2
section
variable {k cap n k' cap' n' : Int} {ts ts' : List Tup}
theorem smerge_bad (h : svalE k cap n ts = 2) : smerge k cap n ts k' cap' n' ts' = szero 2 := by unfold smerge; rw [if_neg (by omega)]
theorem smerge_bad' (h0 : svalE k cap n ts = 0) (h : svalE k' cap' n' ts' = 2) : smerge k cap n ts k' cap' n' ts' = szero 2 := by unfold smerge; rw [if_pos h0, if_neg (by omega)]
theorem smerge_k (h0 : svalE k cap n ts = 0) (h1 : svalE k' cap' n' ts' = 0) (h : k ≠ k') : smerge k cap n ts k' cap' n' ts' = szero 1 := by unfold smerge; rw [if_pos h0, if_pos h1, if_neg h]
theorem smerge_full (h0 : svalE k cap n ts = 0) (h1 : svalE k' cap' n' ts' = 0) (h : k = k') (h2 : 1099511627776 < n + n') : smerge k cap n ts k' cap' n' ts' = szero 5 := by unfold smerge; rw [if_pos h0, if_pos h1, if_pos h, if_pos h2]
theorem smerge_ok (h0 : svalE k cap n ts = 0) (h1 : svalE k' cap' n' ts' = 0) (h : k = k') (h2 : n + n' ≤ 1099511627776) : smerge k cap n ts k' cap' n' ts' = sfit k (max cap cap') (n + n') (smrg (swids ts' true ts) (swids ts false ts')) := by
  unfold smerge; rw [if_pos h0, if_pos h1, if_pos h, if_neg (by omega)]
/-- Bounds of a valid tuple. -/
def TV (t : Tup) : Prop := -4096 ≤ t.v ∧ t.v ≤ 4096 ∧ 1 ≤ t.g ∧ t.g ≤ 1099511627776 ∧ 0 ≤ t.d ∧ t.d ≤ 1099511627776
theorem sval_TV (h : svalE k cap n ts = 0) (i : Nat) (hi : i < ts.length) : TV (tupAt ts i) := by
  have V := of_svalE h
  obtain ⟨k0, k1, _, _, n0, n1, _, z, V⟩ := V
  have hn : n ≠ 0 := fun e => by have := z e; rw [this] at hi; cases hi
  have q := tOK_of ((V hn).2.1 i hi)
  have hm := smost_le n0 k0 hn
  unfold TV
  omega
theorem swid_TB {first : Bool} {t : Tup} (h : TV t) : ∀ {b : List Tup}, (∀ j, j < b.length → TV (tupAt b j)) → TB 4398046511104 (swid first t b)
  | [], _ => by unfold swid TB; unfold TV at h; omega
  | u :: b, hb => by
    have hu := hb 0 (by simp)
    rw [tupAt_zero] at hu
    unfold swid
    split
    · unfold TV at h hu
      unfold TB
      dsimp only
      omega
    · exact swid_TB h fun j hj => by have := hb (j + 1) (by simpa using hj); rwa [tupAt_cons] at this
theorem smrg_TB (h : svalE k cap n ts = 0) (h' : svalE k' cap' n' ts' = 0) : ∀ t ∈ smrg (swids ts' true ts) (swids ts false ts'), TB 4398046511104 t := by
  intro t ht
  rcases smrg_mem _ _ t ht with ht | ht
  · obtain ⟨i, hi, rfl⟩ := List.getElem_of_mem ht
    rw [swids_len] at hi
    rw [tupAt_eq, swids_at hi]
    exact swid_TB (sval_TV h i hi) (sval_TV h')
  · obtain ⟨i, hi, rfl⟩ := List.getElem_of_mem ht
    rw [swids_len] at hi
    rw [tupAt_eq, swids_at hi]
    exact swid_TB (sval_TV h' i hi) (sval_TV h)
end
/-- How far the program has come: what is laid, and what is left. -/
def SAt (ts ts' : List Tup) (i j : Nat) (l : List Tup) : Prop :=
  l ++ smrg ((swids ts' true ts).drop i) ((swids ts false ts').drop j) = smrg (swids ts' true ts) (swids ts false ts') ∧
  (∀ e, e < j → i < ts.length → (tupAt ts' e).v < (tupAt ts i).v) ∧ (∀ e, e < i → j < ts'.length → (tupAt ts e).v ≤ (tupAt ts' j).v)
section
variable {ts ts' l : List Tup} {i j : Nat}
theorem sat_start : SAt ts ts' 0 0 [] := ⟨by simp, fun e h => absurd h (by omega), fun e h => absurd h (by omega)⟩
theorem sat_end (h : SAt ts ts' i j l) (hi : ts.length ≤ i) (hj : ts'.length ≤ j) : smrg (swids ts' true ts) (swids ts false ts') = l := by
  rw [← h.1, smrg_end (by rw [swids_len]; exact hi) (by rw [swids_len]; exact hj), List.append_nil]
theorem sat_xe (a : Asc ts) (h : SAt ts ts' i ts'.length l) (hi : i < ts.length) : SAt ts ts' (i + 1) ts'.length (l ++ [⟨(tupAt ts i).v, (tupAt ts i).g, (tupAt ts i).d⟩]) := by
  show SAt ts ts' (i + 1) ts'.length (l ++ [tupAt ts i])
  obtain ⟨h1, h2, h3⟩ := h
  refine ⟨?_, fun e he h4 => Int.lt_of_lt_of_le (h2 e he hi) (a _ _ (by omega) h4), fun e _ h4 => absurd h4 (by omega)⟩
  rw [smrg_x (by rw [swids_len]; exact hi) (by rw [swids_len]; omega) (.inl (by rw [swids_len])), swids_at hi, swid_none (fun e he => by
    have := h2 e he hi
    simp [shits]
    omega)] at h1
  rw [← h1]
  simp
theorem sat_x (a : Asc ts) (h : SAt ts ts' i j l) (hi : i < ts.length) (hj : j < ts'.length) (hv : (tupAt ts i).v ≤ (tupAt ts' j).v) : SAt ts ts' (i + 1) j (l ++ [⟨(tupAt ts i).v, (tupAt ts i).g, (tupAt ts i).d + ((tupAt ts' j).g + (tupAt ts' j).d - 1)⟩]) := by
  obtain ⟨h1, h2, h3⟩ := h
  refine ⟨?_, fun e he h4 => Int.lt_of_lt_of_le (h2 e he hi) (a _ _ (by omega) h4), fun e he h4 => ?_⟩
  · rw [smrg_x (by rw [swids_len]; exact hi) (by rw [swids_len]; omega) (.inr (by rw [swids_v hi, swids_v hj]; exact hv)), swids_at hi, swid_at hj (fun e he => by
      have := h2 e he hi
      simp [shits]
      omega) (by simp [shits]; omega)] at h1
    rw [← h1, show (tupAt ts i).d + ((tupAt ts' j).g + (tupAt ts' j).d - 1) = (tupAt ts i).d + (tupAt ts' j).g + (tupAt ts' j).d - 1 by omega]
    simp
  · by_cases c : e < i
    · exact h3 e c h4
    · obtain rfl : e = i := by omega
      exact hv
theorem sat_ye (a : Asc ts') (h : SAt ts ts' ts.length j l) (hj : j < ts'.length) : SAt ts ts' ts.length (j + 1) (l ++ [⟨(tupAt ts' j).v, (tupAt ts' j).g, (tupAt ts' j).d⟩]) := by
  show SAt ts ts' ts.length (j + 1) (l ++ [tupAt ts' j])
  obtain ⟨h1, h2, h3⟩ := h
  refine ⟨?_, fun e _ h4 => absurd h4 (by omega), fun e he h4 => Int.le_trans (h3 e he hj) (a _ _ (by omega) h4)⟩
  rw [smrg_y (by rw [swids_len]; omega) (by rw [swids_len]; exact hj) (.inl (by rw [swids_len])), swids_at hj, swid_none (fun e he => by
    have := h3 e he hj
    simp [shits]
    omega)] at h1
  rw [← h1]
  simp
theorem sat_y (a : Asc ts') (h : SAt ts ts' i j l) (hi : i < ts.length) (hj : j < ts'.length) (hv : (tupAt ts' j).v < (tupAt ts i).v) : SAt ts ts' i (j + 1) (l ++ [⟨(tupAt ts' j).v, (tupAt ts' j).g, (tupAt ts' j).d + ((tupAt ts i).g + (tupAt ts i).d - 1)⟩]) := by
  obtain ⟨h1, h2, h3⟩ := h
  refine ⟨?_, fun e he h4 => ?_, fun e he h4 => Int.le_trans (h3 e he hj) (a _ _ (by omega) h4)⟩
  · rw [smrg_y (by rw [swids_len]; omega) (by rw [swids_len]; exact hj) (.inr (by rw [swids_v hi, swids_v hj]; exact hv)), swids_at hj, swid_at hi (fun e he => by
      have := h3 e he hj
      simp [shits]
      omega) (by simp [shits]; omega)] at h1
    rw [← h1, show (tupAt ts' j).d + ((tupAt ts i).g + (tupAt ts i).d - 1) = (tupAt ts' j).d + (tupAt ts i).g + (tupAt ts i).d - 1 by omega]
    simp
  · by_cases c : e < j
    · exact h2 e c h4
    · obtain rfl : e = j := by omega
      exact hv
end
end Go.Proofs.Ytdibjlphcmjnoaa
