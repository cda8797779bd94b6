/- Summaries of a stream: bounds of ranks that hold of the values; plain. -/
import Derived.Test.YtdibjlphcmjnoaaMathSum6
import Derived.Test.YtdibjlphcmjnoaaMathSum4
set_option linter.unusedVariables false
set_option linter.unusedSimpArgs false
set_option linter.unusedSectionVars false
set_option linter.unnecessarySimpa false
namespace Go.Proofs.Ytdibjlphcmjnoaa
/-- How many values are not greater; how many are less. -/
def rkI (xs : List Int) (v : Int) : Nat := xs.countP fun x => decide (x ≤ v)
def blI (xs : List Int) (v : Int) : Nat := xs.countP fun x => decide (x < v)
theorem rkI_le (xs : List Int) (v : Int) : rkI xs v ≤ xs.length := List.countP_le_length
theorem blI_le (xs : List Int) (v : Int) : blI xs v ≤ xs.length := List.countP_le_length
theorem rkI_mono {xs : List Int} {u v : Int} (h : u ≤ v) : rkI xs u ≤ rkI xs v := List.countP_mono_left fun x _ hx => by simp at hx ⊢; omega
theorem blI_mono {xs : List Int} {u v : Int} (h : u ≤ v) : blI xs u ≤ blI xs v := List.countP_mono_left fun x _ hx => by simp at hx ⊢; omega
theorem blI_rkI {xs : List Int} {u v : Int} (h : u < v) : rkI xs u ≤ blI xs v := List.countP_mono_left fun x _ hx => by simp at hx ⊢; omega
theorem rkI_append (a b : List Int) (v : Int) : rkI (a ++ b) v = rkI a v + rkI b v := List.countP_append
theorem blI_append (a b : List Int) (v : Int) : blI (a ++ b) v = blI a v + blI b v := List.countP_append
theorem rkI_one (x v : Int) : rkI [x] v = if x ≤ v then 1 else 0 := by unfold rkI; by_cases h : x ≤ v <;> simp [h]
theorem blI_one (x v : Int) : blI [x] v = if x < v then 1 else 0 := by
  unfold blI
  by_cases h : x < v
  · simp [h]
  · rw [if_neg h, List.countP_cons_of_neg (by simpa using h)]; rfl
theorem bl_lt_rk {xs : List Int} {v : Int} (h : v ∈ xs) : blI xs v < rkI xs v := by
  obtain ⟨a, b, rfl⟩ := List.append_of_mem h
  rw [show a ++ v :: b = a ++ ([v] ++ b) from rfl, rkI_append, rkI_append, blI_append, blI_append, rkI_one, blI_one, if_pos (Int.le_refl _), if_neg (by omega)]
  have h1 : blI a v ≤ rkI a v := List.countP_mono_left fun x _ hx => by simp at hx ⊢; omega
  have h2 : blI b v ≤ rkI b v := List.countP_mono_left fun x _ hx => by simp at hx ⊢; omega
  omega
/-- The bounds that the tuples behind so many values give hold of the values. -/
def Bnd (xs : List Int) (s : Int) : List Tup → Prop
  | [] => True
  | t :: ts => s + t.g ≤ rkI xs t.v ∧ (blI xs t.v : Int) + 1 ≤ s + t.g + t.d ∧ t.v ∈ xs ∧ Bnd xs (s + t.g) ts
theorem gs_nil : gs [] = 0 := rfl
theorem bnd_append (xs : List Int) : ∀ (s : Int) (a b : List Tup), Bnd xs s (a ++ b) ↔ Bnd xs s a ∧ Bnd xs (s + gs a) b
  | s, [], b => by rw [List.nil_append, gs_nil, Int.add_zero]; exact ⟨fun h => ⟨trivial, h⟩, fun h => h.2⟩
  | s, t :: a, b => by
    have ih := bnd_append xs (s + t.g) a b
    rw [gs_cons, ← Int.add_assoc]
    constructor
    · rintro ⟨h1, h2, h3, h4⟩
      exact ⟨⟨h1, h2, h3, (ih.1 h4).1⟩, (ih.1 h4).2⟩
    · rintro ⟨⟨h1, h2, h3, h4⟩, h5⟩
      exact ⟨h1, h2, h3, ih.2 ⟨h4, h5⟩⟩
theorem bnd_low {xs : List Int} {v : Int} : ∀ {s : Int} {a : List Tup}, (∀ t ∈ a, t.v ≤ v) → Bnd xs s a → Bnd (xs ++ [v]) s a
  | _, [], _, _ => trivial
  | s, t :: a, h, ⟨h1, h2, h3, h4⟩ => by
    have hv := h t (by simp)
    refine ⟨?_, ?_, List.mem_append_left _ h3, bnd_low (fun u hu => h u (by simp [hu])) h4⟩
    · rw [rkI_append]; omega
    · rw [blI_append, blI_one, if_neg (by omega)]; omega
theorem bnd_high {xs : List Int} {v : Int} : ∀ {s : Int} {a : List Tup}, (∀ t ∈ a, v < t.v) → Bnd xs s a → Bnd (xs ++ [v]) (s + 1) a
  | _, [], _, _ => trivial
  | s, t :: a, h, ⟨h1, h2, h3, h4⟩ => by
    have hv := h t (by simp)
    refine ⟨?_, ?_, List.mem_append_left _ h3, ?_⟩
    · rw [rkI_append, rkI_one, if_pos (by omega)]; omega
    · rw [blI_append, blI_one, if_pos hv]; omega
    · have := bnd_high (fun u hu => h u (by simp [hu])) h4
      rw [show s + 1 + t.g = s + t.g + 1 by omega]
      exact this
theorem bnd_sum {xs : List Int} {v : Int} : ∀ {s : Int} {a : List Tup}, (∀ t ∈ a, t.v ≤ v) → Bnd xs s a → s ≤ rkI xs v → s + gs a ≤ rkI xs v
  | _, [], _, _, hs => by rw [gs_nil, Int.add_zero]; exact hs
  | s, t :: a, h, ⟨h1, _, _, h4⟩, _ => by
    rw [gs_cons, ← Int.add_assoc]
    have := rkI_mono (xs := xs) (h t (by simp))
    exact bnd_sum (fun u hu => h u (by simp [hu])) h4 (by omega)
theorem take_sat {v : Int} {ts : List Tup} : ∀ t ∈ ts.take (sat v ts), t.v ≤ v := by
  intro t ht
  obtain ⟨i, hi, rfl⟩ := List.getElem_of_mem ht
  rw [List.length_take] at hi
  rw [List.getElem_take, tupAt_eq (by omega)]
  exact sat_low (by omega)
theorem drop_sat {v : Int} {ts : List Tup} (ha : Asc ts) : ∀ t ∈ ts.drop (sat v ts), v < t.v := by
  intro t ht
  obtain ⟨i, hi, rfl⟩ := List.getElem_of_mem ht
  rw [List.length_drop] at hi
  rw [List.getElem_drop, tupAt_eq (by omega)]
  have h1 := sat_high (v := v) (ts := ts) (by omega)
  have := ha (sat v ts) (sat v ts + i) (by omega) (by omega)
  omega
theorem bnd_sins {k cap n v : Int} {ts : List Tup} {xs : List Int} (hv : svalE k cap n ts = 0) (hn : n = xs.length) (h : Bnd xs 0 ts) : Bnd (xs ++ [v]) 0 (sins v ts) := by
  have ha := sval_asc hv
  have hlow := take_sat (v := v) (ts := ts)
  have hhigh := drop_sat (v := v) ha
  have hsplit := h
  rw [← List.take_append_drop (sat v ts) ts] at hsplit
  obtain ⟨hA, hB⟩ := (bnd_append xs 0 _ _).1 hsplit
  rw [Int.zero_add] at hB
  have hs := bnd_sum hlow hA (by omega)
  rw [Int.zero_add] at hs
  unfold sins
  rw [bnd_append]
  refine ⟨bnd_low hlow hA, ?_, ?_, by simp, ?_⟩
  · show 0 + gs (ts.take (sat v ts)) + 1 ≤ ((rkI (xs ++ [v]) v : Nat) : Int)
    rw [rkI_append, rkI_one, if_pos (Int.le_refl _)]
    omega
  · show ((blI (xs ++ [v]) v : Nat) : Int) + 1 ≤ 0 + gs (ts.take (sat v ts)) + 1 + sgap v ts
    rw [blI_append, blI_one, if_neg (by omega)]
    have key : (blI xs v : Int) ≤ gs (ts.take (sat v ts)) + sgap v ts := by
      by_cases c : sat v ts < ts.length
      · rw [drop_tup c] at hB hhigh
        obtain ⟨_, b2, _, _⟩ := hB
        have hlt := hhigh _ (List.mem_cons_self ..)
        have := blI_mono (xs := xs) (Int.le_of_lt hlt)
        unfold sgap
        by_cases c0 : 0 < sat v ts
        · rw [if_pos ⟨c0, c⟩]; omega
        · rw [if_neg (by omega)]
          have e0 : sat v ts = 0 := by omega
          rw [e0] at b2 this ⊢
          have hne : n ≠ 0 := fun e => by
            have := (of_svalE hv).2.2.2.2.2.2.2.1 e
            omega
          have hd := ((of_svalE hv).2.2.2.2.2.2.2.2 hne).2.2.2
          rw [hd.1, hd.2.1] at b2
          omega
      · rw [List.take_of_length_le (by omega)]
        have hg : gs ts = n := by
          by_cases hne : n = 0
          · have := (of_svalE hv).2.2.2.2.2.2.2.1 hne
            rw [List.length_eq_zero_iff.1 this]
            exact hne.symm
          · exact (tv_of hv hne).sum
        have h1 := blI_le xs v
        unfold sgap
        rw [if_neg (by omega)]
        omega
    push_cast
    omega
  · have := bnd_high hhigh hB
    rw [Int.zero_add]
    exact this
theorem bnd_cjoin {xs : List Int} {m : Int} : ∀ {s : Int} {ts : List Tup}, Bnd xs s ts → Bnd xs s (cjoin m ts)
  | _, [], _ => trivial
  | s, t :: ts, ⟨h1, h2, h3, h4⟩ => by
    have ih := bnd_cjoin (m := m) h4
    unfold cjoin
    cases hc : cjoin m ts with
    | nil => exact ⟨h1, h2, h3, trivial⟩
    | cons u r =>
      rw [hc] at ih
      obtain ⟨i1, i2, i3, i4⟩ := ih
      dsimp only
      split
      · refine ⟨?_, ?_, i3, ?_⟩
        · show s + (u.g + t.g) ≤ rkI xs u.v
          omega
        · show (blI xs u.v : Int) + 1 ≤ s + (u.g + t.g) + u.d
          omega
        · show Bnd xs (s + (u.g + t.g)) r
          rw [show s + (u.g + t.g) = s + t.g + u.g by omega]
          exact i4
      · exact ⟨h1, h2, h3, i1, i2, i3, i4⟩
theorem bnd_comp {xs : List Int} {m s : Int} {ts : List Tup} (h : Bnd xs s ts) : Bnd xs s (comp m ts) := by
  cases ts with
  | nil => trivial
  | cons t ts =>
    obtain ⟨h1, h2, h3, h4⟩ := h
    exact ⟨h1, h2, h3, bnd_cjoin h4⟩
theorem bnd_at {xs : List Int} : ∀ {s : Int} {ts : List Tup}, Bnd xs s ts → ∀ i, i < ts.length → s + gsum ts (i + 1) ≤ rkI xs (tupAt ts i).v ∧ (blI xs (tupAt ts i).v : Int) + 1 ≤ s + gsum ts (i + 1) + (tupAt ts i).d ∧ (tupAt ts i).v ∈ xs := by
  intro s ts h i hi
  have e : ts = ts.take i ++ ts.drop i := (List.take_append_drop i ts).symm
  rw [e] at h
  obtain ⟨_, hB⟩ := (bnd_append xs s _ _).1 h
  rw [drop_tup hi] at hB
  obtain ⟨b1, b2, b3, _⟩ := hB
  have hg : gsum ts (i + 1) = gs (ts.take i) + (tupAt ts i).g := by rw [← gsum_take ts i (by omega)]; rfl
  rw [hg]
  exact ⟨by omega, by omega, b3⟩
end Go.Proofs.Ytdibjlphcmjnoaa
