/- Items with a landmark: plain. -/
import Derived.Test.YtejoomlaanmbkaaMathPoly2
namespace Go.Proofs.Ytejoomlaanmbkaa
/-- Items with ascending ticks from a landmark to a last one, with values up to 4096. -/
def PM (land last : Int) (l : List Itm) : Prop :=
  (∀ i, i < l.length → land ≤ (itmAt l i).t ∧ (itmAt l i).t ≤ last ∧ (∀ j, j ≤ i → (itmAt l j).t ≤ (itmAt l i).t) ∧ 0 ≤ (itmAt l i).v ∧ (itmAt l i).v ≤ 4096) ∧ land ≤ last
/-- An item moved on. -/
def ishift (d : Int) (x : Itm) : Itm := { x with t := x.t + d }
def isome (d : Int) (l : List Itm) (k : Nat) : List Itm := (l.take k).map (ishift d) ++ l.drop k
theorem isome_zero (d : Int) (l : List Itm) : isome d l 0 = l := by simp [isome]
theorem isome_all (d : Int) (l : List Itm) : isome d l l.length = l.map (ishift d) := by simp [isome]
theorem isome_len (d : Int) (l : List Itm) (k : Nat) : (isome d l k).length = l.length := by simp [isome]; omega
theorem isome_at {d : Int} {l : List Itm} {k : Nat} (h : k < l.length) : itmAt (isome d l k) k = itmAt l k := by
  unfold isome itmAt
  rw [List.getD_eq_getElem?_getD, List.getD_eq_getElem?_getD, List.getElem?_append_right (by simp; omega)]
  simp [Nat.min_eq_left (Nat.le_of_lt h)]
theorem isome_step {d : Int} {l : List Itm} {k : Nat} (h : k < l.length) : (isome d l k).set k { itmAt (isome d l k) k with t := (itmAt l k).t + d } = isome d l (k + 1) := by
  rw [isome_at h]
  unfold isome
  rw [List.set_append_right _ _ (by simp; omega), List.length_map, List.length_take, Nat.min_eq_left (by omega), Nat.sub_self, List.drop_eq_getElem_cons h, List.set_cons_zero, List.take_succ_eq_append_getElem h, List.map_append, itm_eq h]
  simp [ishift]
theorem itm_shift (d : Int) (l : List Itm) (i : Nat) (h : i < l.length) : itmAt (l.map (ishift d)) i = ishift d (itmAt l i) := by
  unfold itmAt
  rw [List.getD_eq_getElem?_getD, List.getD_eq_getElem?_getD, List.getElem?_map, List.getElem?_eq_getElem h]
  rfl
theorem icells_time (l : List Itm) (i : Nat) (h : i < l.length) (t : Int) : (icells l).set (i * 2) (.int .i64 t) = icells (l.set i { itmAt l i with t := t }) := by
  induction l generalizing i with
  | nil => exact absurd h (by simp)
  | cons x l ih =>
    cases i with
    | zero => rfl
    | succ i =>
      have := ih i (by simpa using h)
      rw [icells_cons, show (i + 1) * 2 = i * 2 + 1 + 1 by omega]
      simp only [List.set_cons_succ]
      rw [this]
      rfl
theorem pm_shift {st last land : Int} {l : List Itm} (h : Made st 0 4096 last l) : PM land (last + land) (l.map (ishift land)) := by
  obtain ⟨h1, h2, _⟩ := h
  refine ⟨fun i hi => ?_, by omega⟩
  rw [List.length_map] at hi
  rw [itm_shift _ _ _ hi]
  have a := h1 i hi
  refine ⟨by show land ≤ _ + land; omega, by show _ + land ≤ last + land; omega, fun j hj => ?_, a.2.2.2.1, a.2.2.2.2⟩
  rw [itm_shift _ _ _ (by omega)]
  have := a.2.2.1 j hj
  show _ + land ≤ _ + land
  omega
/-- The clock behind so many items. -/
def nowP (land : Int) (l : List Itm) (k : Nat) : Int := if k = 0 then land else (itmAt l (k - 1)).t
theorem nowP_zero (land : Int) (l : List Itm) : nowP land l 0 = land := rfl
theorem nowP_succ (land : Int) (l : List Itm) (k : Nat) : nowP land l (k + 1) = (itmAt l k).t := rfl
theorem pm_now {land last : Int} {l : List Itm} (h : PM land last l) {k : Nat} (hk : k ≤ l.length) : land ≤ nowP land l k ∧ nowP land l k ≤ last := by
  unfold nowP
  split
  · exact ⟨Int.le_refl _, h.2⟩
  · have := h.1 (k - 1) (by omega)
    exact ⟨this.1, this.2.1⟩
theorem pm_next {land last : Int} {l : List Itm} (h : PM land last l) {k : Nat} (hk : k < l.length) : nowP land l k ≤ (itmAt l k).t ∧ (itmAt l k).t ≤ last ∧ 0 ≤ (itmAt l k).v ∧ (itmAt l k).v ≤ 4096 := by
  have a := h.1 k hk
  refine ⟨?_, a.2.1, a.2.2.2⟩
  unfold nowP
  split
  · exact a.1
  · exact a.2.2.1 (k - 1) (by omega)
theorem mem_take {l : List Itm} {k : Nat} {x : Itm} (h : x ∈ l.take k) : ∃ i, i < k ∧ i < l.length ∧ itmAt l i = x := by
  obtain ⟨i, hi, e⟩ := List.getElem_of_mem h
  rw [List.length_take] at hi
  rw [List.getElem_take] at e
  refine ⟨i, by omega, by omega, ?_⟩
  rw [← itm_eq (by omega)]
  exact e
theorem pm_take {land last : Int} {l : List Itm} (h : PM land last l) {k : Nat} (hk : k ≤ l.length) : Fit land (nowP land l k) (l.take k) := by
  intro x hx
  obtain ⟨i, hi, hil, rfl⟩ := mem_take hx
  have a := h.1 i hil
  have b := h.1 (k - 1) (by omega)
  refine ⟨a.1, ?_, a.2.2.2⟩
  unfold nowP
  rw [if_neg (by omega)]
  exact b.2.2.1 i (by omega)
theorem pm_fit {land last : Int} {l : List Itm} (h : PM land last l) : Fit land (nowP land l l.length) l := by
  have := pm_take h (Nat.le_refl _)
  rw [List.take_length] at this
  exact this
theorem take_snoc {l : List Itm} {k : Nat} (h : k < l.length) : l.take (k + 1) = l.take k ++ [itmAt l k] := by
  rw [List.take_succ_eq_append_getElem h, itm_eq h]
theorem run_round {p : Nat} {land last : Int} {l : List Itm} (hp : p ≤ 4) (h0 : 0 ≤ land) (h : PM land last l) (hl : last ≤ 16777216) (hlen : l.length ≤ 900) {k : Nat} (hk : k < l.length) :
    pvalE (p : Int) land (nowP land l k) (psts p land (l.take k)) = 0 ∧ qadv (p : Int) land (nowP land l k) (psts p land (l.take k)) (itmAt l k).t = ⟨p, land, (itmAt l k).t, psts p land (l.take k), 0⟩ ∧
    qadd (p : Int) land (itmAt l k).t (psts p land (l.take k)) (itmAt l k).v = ⟨p, land, nowP land l (k + 1), psts p land (l.take (k + 1)), 0⟩ := by
  have n1 := pm_now h (k := k) (by omega)
  have n2 := pm_next h hk
  have f := pm_take h (k := k) (by omega)
  have v := psts_valid hp h0 n1.1 (by omega) f
  refine ⟨v, qadv_ok v n2.1 (by omega), ?_⟩
  have := (padd_psts (v := (itmAt l k).v) hp h0 (show land ≤ (itmAt l k).t by omega) (by omega) (f.later n2.1) (by rw [List.length_take]; omega) n2.2.2.1 n2.2.2.2).1
  rw [this, take_snoc hk, nowP_succ]
theorem run_end {p : Nat} {land last : Int} {l : List Itm} (hp : p ≤ 4) (h0 : 0 ≤ land) (h : PM land last l) (hl : last ≤ 16777216) : pvalE (p : Int) land (nowP land l l.length) (psts p land l) = 0 := by
  have n1 := pm_now h (Nat.le_refl _)
  exact psts_valid hp h0 n1.1 (by omega) (pm_fit h)
end Go.Proofs.Ytejoomlaanmbkaa
