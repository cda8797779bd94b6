/- Summaries of a stream: joining tuples and inserting a value; plain. -/
import Derived.Test.YtdibjlphcmjnoaaMathSum
set_option linter.unusedVariables false
set_option linter.unusedSimpArgs false
set_option linter.unusedSectionVars false
set_option linter.unnecessarySimpa false
namespace Go.Proofs.Ytdibjlphcmjnoaa
/-- Joins tuples from the right as far as their number of values permits. -/
def cjoin (m : Int) : List Tup → List Tup
  | [] => []
  | t :: ts =>
    match cjoin m ts with
    | [] => [t]
    | u :: r => if t.g + u.g + u.d ≤ m then { u with g := u.g + t.g } :: r else t :: u :: r
/-- The first tuple stays. -/
def comp (m : Int) : List Tup → List Tup
  | [] => []
  | t :: ts => t :: cjoin m ts
theorem cjoin_ne {m : Int} {ts : List Tup} (h : ts ≠ []) : cjoin m ts ≠ [] := by
  cases ts with
  | nil => exact absurd rfl h
  | cons t ts =>
    unfold cjoin
    split
    · simp
    · split <;> simp
theorem cjoin_len (m : Int) : ∀ ts : List Tup, (cjoin m ts).length ≤ ts.length
  | [] => by simp [cjoin]
  | t :: ts => by
    have ih := cjoin_len m ts
    unfold cjoin
    split
    · simp
    · rename_i u r e
      rw [e] at ih
      simp only [List.length_cons] at ih ⊢
      split <;> (simp only [List.length_cons]; omega)
theorem comp_len (m : Int) (ts : List Tup) : (comp m ts).length ≤ ts.length := by
  cases ts with
  | nil => simp [comp]
  | cons t ts =>
    have := cjoin_len m ts
    simp only [comp, List.length_cons]
    omega
theorem cjoin_one (m : Int) (t : Tup) : cjoin m [t] = [t] := by simp [cjoin]
theorem comp_short {m : Int} {ts : List Tup} (h : ts.length ≤ 2) : comp m ts = ts := by
  match ts, h with
  | [], _ => rfl
  | [t], _ => rfl
  | [t, u], _ => simp [comp, cjoin]
/-- The list behind the rounds down to the place i. -/
def cur (m : Int) (ts : List Tup) (i : Nat) : List Tup := ts.take i ++ cjoin m (ts.drop i)
theorem cur_last {m : Int} {ts : List Tup} (h : ts ≠ []) : cur m ts (ts.length - 1) = ts := by
  unfold cur
  have hl : 0 < ts.length := List.length_pos_iff.2 h
  have : ts.drop (ts.length - 1) = [ts[ts.length - 1]] := by
    rw [List.drop_eq_getElem_cons (by omega), List.drop_of_length_le (by omega)]
  rw [this, cjoin_one, ← this, List.take_append_drop]
theorem cur_one {m : Int} {ts : List Tup} (h : ts ≠ []) : cur m ts 1 = comp m ts := by
  cases ts with
  | nil => exact absurd rfl h
  | cons t ts => simp [cur, comp]
theorem cur_len_ge (m : Int) {ts : List Tup} {i : Nat} (h : i < ts.length) : i + 1 ≤ (cur m ts i).length := by
  unfold cur
  have : cjoin m (ts.drop i) ≠ [] := cjoin_ne (fun e => by have := congrArg List.length e; simp at this; omega)
  have := List.length_pos_iff.2 this
  rw [List.length_append, List.length_take]
  omega
theorem cur_len (m : Int) (ts : List Tup) (i : Nat) : (cur m ts i).length ≤ ts.length := by
  unfold cur
  have := cjoin_len m (ts.drop i)
  rw [List.length_append, List.length_take]
  rw [List.length_drop] at this
  omega
theorem tupAt_eq {ts : List Tup} {i : Nat} (h : i < ts.length) : ts[i] = tupAt ts i := by unfold tupAt; rw [List.getD_eq_getElem?_getD, List.getElem?_eq_getElem h]; rfl
theorem cur_at {m : Int} {ts : List Tup} {i j : Nat} (hj : j < i) (hi : i ≤ ts.length) : tupAt (cur m ts i) j = tupAt ts j := by
  unfold cur tupAt
  rw [List.getD_eq_getElem?_getD, List.getD_eq_getElem?_getD, List.getElem?_append_left (by rw [List.length_take]; omega), List.getElem?_take, if_pos hj]
/-- What a round does: it joins the tuple i with the next one, or leaves the list as it is. -/
theorem cur_step_yes {m : Int} {ts : List Tup} {i : Nat} (hi : i + 1 < ts.length)
    (h : (tupAt (cur m ts (i + 1)) i).g + (tupAt (cur m ts (i + 1)) (i + 1)).g + (tupAt (cur m ts (i + 1)) (i + 1)).d ≤ m) :
    cur m ts i = ((cur m ts (i + 1)).set (i + 1) { tupAt (cur m ts (i + 1)) (i + 1) with g := (tupAt (cur m ts (i + 1)) (i + 1)).g + (tupAt (cur m ts (i + 1)) i).g }).take i ++ ((cur m ts (i + 1)).set (i + 1) { tupAt (cur m ts (i + 1)) (i + 1) with g := (tupAt (cur m ts (i + 1)) (i + 1)).g + (tupAt (cur m ts (i + 1)) i).g }).drop (i + 1) := by
  have hne : cjoin m (ts.drop (i + 1)) ≠ [] := cjoin_ne (fun e => by have := congrArg List.length e; simp at this; omega)
  obtain ⟨u, r, hu⟩ := List.exists_cons_of_ne_nil hne
  have hlt : (ts.take (i + 1)).length = i + 1 := by rw [List.length_take]; omega
  have e1 : cur m ts (i + 1) = ts.take (i + 1) ++ u :: r := by unfold cur; rw [hu]
  have e2 : tupAt (cur m ts (i + 1)) (i + 1) = u := by
    rw [e1]
    unfold tupAt
    rw [List.getD_eq_getElem?_getD, List.getElem?_append_right (by omega), hlt]
    simp
  have e3 : tupAt (cur m ts (i + 1)) i = tupAt ts i := cur_at (by omega) (by omega)
  rw [e2, e3] at h ⊢
  rw [e1, List.set_append_right _ _ (by omega), hlt, Nat.sub_self, List.set_cons_zero, List.drop_append_of_le_length (by omega), List.drop_of_length_le (by omega), List.take_append_of_le_length (by omega), List.take_take, Nat.min_eq_left (by omega)]
  unfold cur
  rw [List.drop_eq_getElem_cons (by omega : i < ts.length), tupAt_eq, cjoin, hu]
  simp only [List.nil_append]
  rw [if_pos h]
theorem cur_step_no {m : Int} {ts : List Tup} {i : Nat} (hi : i + 1 < ts.length)
    (h : ¬ (tupAt (cur m ts (i + 1)) i).g + (tupAt (cur m ts (i + 1)) (i + 1)).g + (tupAt (cur m ts (i + 1)) (i + 1)).d ≤ m) : cur m ts i = cur m ts (i + 1) := by
  have hne : cjoin m (ts.drop (i + 1)) ≠ [] := cjoin_ne (fun e => by have := congrArg List.length e; simp at this; omega)
  obtain ⟨u, r, hu⟩ := List.exists_cons_of_ne_nil hne
  have hlt : (ts.take (i + 1)).length = i + 1 := by rw [List.length_take]; omega
  have e1 : cur m ts (i + 1) = ts.take (i + 1) ++ u :: r := by unfold cur; rw [hu]
  have e2 : tupAt (cur m ts (i + 1)) (i + 1) = u := by
    rw [e1]
    unfold tupAt
    rw [List.getD_eq_getElem?_getD, List.getElem?_append_right (by omega), hlt]
    simp
  have e3 : tupAt (cur m ts (i + 1)) i = tupAt ts i := cur_at (by omega) (by omega)
  rw [e2, e3] at h
  rw [e1]
  unfold cur
  rw [List.drop_eq_getElem_cons (by omega : i < ts.length), tupAt_eq, cjoin, hu]
  simp only
  rw [if_neg h, List.take_succ_eq_append_getElem (by omega), tupAt_eq]
  simp
/-- Numbers of tuples stay within a bound. -/
def TB (B : Int) (t : Tup) : Prop := -B ≤ t.v ∧ t.v ≤ B ∧ 0 ≤ t.g ∧ t.g ≤ B ∧ 0 ≤ t.d ∧ t.d ≤ B
theorem cjoin_TB {B m : Int} (hm : m ≤ B) : ∀ ts : List Tup, (∀ t ∈ ts, TB B t) → ∀ t ∈ cjoin m ts, TB B t
  | [], _ => by simp [cjoin]
  | t :: ts, h => by
    have ih := cjoin_TB hm ts (fun x hx => h x (by simp [hx]))
    have ht := h t (by simp)
    unfold cjoin
    split
    · intro x hx
      obtain rfl : x = t := by simpa using hx
      exact ht
    · rename_i u r e
      rw [e] at ih
      have hu := ih u (by simp)
      split
      · rename_i hc
        intro x hx
        rcases List.mem_cons.1 hx with rfl | hx
        · unfold TB at *
          simp only
          omega
        · exact ih x (by simp [hx])
      · intro x hx
        rcases List.mem_cons.1 hx with rfl | hx
        · exact ht
        · exact ih x hx
theorem cur_TB {B m : Int} {ts : List Tup} (hm : m ≤ B) (h : ∀ t ∈ ts, TB B t) (i : Nat) : ∀ t ∈ cur m ts i, TB B t := by
  intro t ht
  unfold cur at ht
  rcases List.mem_append.1 ht with ht | ht
  · exact h t (List.mem_of_mem_take ht)
  · exact cjoin_TB hm _ (fun x hx => h x (List.mem_of_mem_drop hx)) t ht
theorem comp_TB {B m : Int} {ts : List Tup} (hm : m ≤ B) (h : ∀ t ∈ ts, TB B t) : ∀ t ∈ comp m ts, TB B t := by
  cases ts with
  | nil => simp [comp]
  | cons t ts => rw [← cur_one (by simp)]; exact cur_TB hm h 1
theorem TB_at {B : Int} (hB : 0 ≤ B) {ts : List Tup} (h : ∀ t ∈ ts, TB B t) (i : Nat) : TB B (tupAt ts i) := by
  unfold tupAt
  rw [List.getD_eq_getElem?_getD]
  by_cases hi : i < ts.length
  · rw [List.getElem?_eq_getElem hi]
    exact h _ (List.getElem_mem hi)
  · rw [List.getElem?_eq_none (by omega)]
    unfold TB Tup.zero
    simp only [Option.getD_none]
    omega
end Go.Proofs.Ytdibjlphcmjnoaa
