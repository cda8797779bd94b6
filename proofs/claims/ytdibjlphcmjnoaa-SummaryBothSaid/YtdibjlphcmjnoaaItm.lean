/- Items: words. -/
import Derived.Test.YtdibjlphcmjnoaaMade
set_option linter.unusedVariables false
set_option linter.unusedSimpArgs false
set_option linter.unusedSectionVars false
set_option linter.unnecessarySimpa false
namespace Go.Proofs.Ytdibjlphcmjnoaa
open Go.RowKit
/-- An item. -/
structure Itm where
  t : Int
  v : Int
def itmAt (l : List Itm) (i : Nat) : Itm := l.getD i ⟨0, 0⟩
def icells (l : List Itm) : List Value := l.flatMap fun x => [.int .i64 x.t, .int .i64 x.v]
theorem icells_cons (x : Itm) (l : List Itm) : icells (x :: l) = .int .i64 x.t :: .int .i64 x.v :: icells l := rfl
theorem icells_append (a b : List Itm) : icells (a ++ b) = icells a ++ icells b := by unfold icells; rw [List.flatMap_append]
theorem icells_len : ∀ l : List Itm, (icells l).length = l.length * 2
  | [] => rfl
  | x :: l => by rw [icells_cons]; simp only [List.length_cons, icells_len l]; omega
theorem icells_at : ∀ (l : List Itm) (i : Nat), i < l.length → (icells l)[i * 2]? = some (.int .i64 (itmAt l i).t) ∧ (icells l)[i * 2 + 1]? = some (.int .i64 (itmAt l i).v)
  | [], i, h => absurd h (by simp)
  | x :: l, 0, _ => ⟨rfl, rfl⟩
  | x :: l, i + 1, h => by
    have ih := icells_at l i (by simpa using h)
    rw [icells_cons, show (i + 1) * 2 = i * 2 + 1 + 1 by omega, show i * 2 + 1 + 1 + 1 = (i * 2 + 1) + 1 + 1 by omega]
    simp only [List.getElem?_cons_succ]
    exact ih
theorem icells_set (l : List Itm) (i : Nat) (h : i < l.length) (v : Int) : (icells l).set (i * 2 + 1) (.int .i64 v) = icells (l.set i { itmAt l i with v := v }) := by
  induction l generalizing i with
  | nil => exact absurd h (by simp)
  | cons x l ih =>
    cases i with
    | zero => rfl
    | succ i =>
      have := ih i (by simpa using h)
      rw [icells_cons, show (i + 1) * 2 + 1 = i * 2 + 1 + 1 + 1 by omega]
      simp only [List.set_cons_succ]
      rw [this]
      rfl
theorem icells_one (l : List Itm) : ∀ u ∈ icells l, u.oneCell' = true := by
  intro u hu
  unfold icells at hu
  rw [List.mem_flatMap] at hu
  obtain ⟨x, _, hx⟩ := hu
  simp at hx
  rcases hx with rfl | rfl <;> rfl
theorem addr_lit (a : Addr) (j : Nat) (h : j ≠ 0) : a.add j = ⟨a.block, a.off + j, none⟩ := by unfold Addr.add; rw [if_neg h]
/-- The two cells of an item. -/
def ItmCells (w : World) (a : Addr) (x : Itm) : Prop := w.cell? a = some (.int .i64 x.t) ∧ w.cell? ⟨a.block, a.off + 1, none⟩ = some (.int .i64 x.v)
section
variable {w w' : World} {B m : Nat} {A : Option Addr} {l : List Itm}
theorem ItmCells.below {a : Addr} {x : Itm} (h : ItmCells w a x) (hb : Below B w w') (hlt : a.block < B) : ItmCells w' a x :=
  ⟨(hb.cell hlt).trans h.1, (hb.cell (p := ⟨a.block, a.off + 1, none⟩) hlt).trans h.2⟩
theorem Reads.itm_len (h : Reads w B 2 A m (icells l)) : l.length = m := by have := h.1; rw [icells_len] at this; omega
theorem Reads.itm {i : Nat} (h : Reads w B 2 A m (icells l)) (hi : i < m) : ∃ ad, A = some ad ∧ ad.block < B ∧ ItmCells w (ad.add (i * 2)) (itmAt l i) := by
  obtain ⟨ad, e, hb, hc⟩ := h.2 (by omega)
  have ht := icells_at l i (by rw [h.itm_len]; exact hi)
  refine ⟨ad, e, hb, hc _ _ ht.1, ?_⟩
  rw [← addr_lit _ 1 (by decide), add_of_add]
  exact hc _ _ ht.2
end
/-- Raw items as an argument. -/
structure RIn (A : Option Addr) (m c : Nat) (l : List Itm) (w : World) : Prop where
  reads : Reads w w.heap.size 2 A m (icells l)
  tB : ∀ i, -9223372036854775808 ≤ (itmAt l i).t ∧ (itmAt l i).t ≤ 9223372036854775807
  vB : ∀ i, -9223372036854775808 ≤ (itmAt l i).v ∧ (itmAt l i).v ≤ 9223372036854775807
  mc : m ≤ c
  cB : c ≤ maxLen
theorem RIn.below {A : Option Addr} {m c : Nat} {l : List Itm} {w w' : World} (h : RIn A m c l w) (hb : Below w.heap.size w w') : RIn A m c l w' := ⟨(h.reads.below hb).more hb.size, h.tB, h.vB, h.mc, h.cB⟩
/-- Items as they are made: their ticks ascend by at most so much a step, their values lie between bounds. -/
def Made (st lo hi last : Int) (l : List Itm) : Prop :=
  (∀ i, i < l.length → 0 ≤ (itmAt l i).t ∧ (itmAt l i).t ≤ last ∧ (∀ j, j ≤ i → (itmAt l j).t ≤ (itmAt l i).t) ∧ lo ≤ (itmAt l i).v ∧ (itmAt l i).v ≤ hi) ∧ 0 ≤ last ∧ last ≤ st * l.length
theorem itm_left {l : List Itm} {x : Itm} {i : Nat} (h : i < l.length) : itmAt (l ++ [x]) i = itmAt l i := by
  unfold itmAt
  rw [List.getD_eq_getElem?_getD, List.getD_eq_getElem?_getD, List.getElem?_append_left h]
theorem itm_last {l : List Itm} {x : Itm} : itmAt (l ++ [x]) l.length = x := by
  unfold itmAt
  rw [List.getD_eq_getElem?_getD, List.getElem?_append_right (Nat.le_refl _)]
  simp
theorem made_nil {st lo hi : Int} : Made st lo hi 0 [] := ⟨fun i h => absurd h (by simp), Int.le_refl _, by simp⟩
theorem made_snoc {st lo hi last g v : Int} {l : List Itm} (h : Made st lo hi last l) (g0 : 0 ≤ g) (g1 : g ≤ st) (v0 : lo ≤ v) (v1 : v ≤ hi) : Made st lo hi (last + g) (l ++ [⟨last + g, v⟩]) := by
  obtain ⟨h1, h2, h3⟩ := h
  refine ⟨fun i hi => ?_, by omega, ?_⟩
  · rw [List.length_append, List.length_singleton] at hi
    by_cases c : i < l.length
    · have q := h1 i c
      rw [itm_left c]
      refine ⟨q.1, by omega, fun j hj => ?_, q.2.2.2⟩
      rw [itm_left (by omega)]
      exact q.2.2.1 j hj
    · obtain rfl : i = l.length := by omega
      rw [itm_last]
      refine ⟨(show 0 ≤ last + g by omega), Int.le_refl _, fun j hj => ?_, v0, v1⟩
      by_cases c2 : j < l.length
      · rw [itm_left c2]
        have := (h1 j c2).2.1
        show _ ≤ last + g
        omega
      · obtain rfl : j = l.length := by omega
        rw [itm_last]
        exact Int.le_refl _
  · rw [List.length_append, List.length_singleton]
    have e : st * ((l.length + 1 : Nat) : Int) = st * (l.length : Int) + st := by rw [Int.natCast_succ, Int.mul_add, Int.mul_one]
    rw [e]
    omega
theorem made_bound {st lo hi last : Int} {l : List Itm} (h : Made st lo hi last l) (hs0 : 0 ≤ st) (hs : st ≤ 2097153) (hl : l.length ≤ 1000000) : last ≤ 2097153000000 := by
  have h3 := h.2.2
  have : st * (l.length : Int) ≤ 2097153 * 1000000 := Int.mul_le_mul hs (by omega) (by omega) (by omega)
  omega
theorem info_itm : (Try.prog.info? 41).map (fun i => (i.zero, i.size, i.bytes)) = some (some (.agg #[.int .i64 0, .int .i64 0]), 2, 16) := by kernel_rfl
end Go.Proofs.Ytdibjlphcmjnoaa
