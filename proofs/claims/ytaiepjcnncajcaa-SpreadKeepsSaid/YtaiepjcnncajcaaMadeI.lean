/- Items made out of any numbers, walked. -/
import Derived.Test.YtaiepjcnncajcaaMade
set_option linter.unusedVariables false
set_option linter.unusedSimpArgs false
set_option linter.unusedSectionVars false
set_option linter.unnecessarySimpa false
namespace Go.Proofs.Ytaiepjcnncajcaa
open Go.RowKit
/-- An item. -/
structure Itm where
  t : Int
  v : Int
def itmAt (l : List Itm) (i : Nat) : Itm := l.getD i ⟨0, 0⟩
def icells (l : List Itm) : List Value := l.flatMap fun x => [.int .i64 x.t, .int .i64 x.v]
theorem icells_cons (x : Itm) (l : List Itm) : icells (x :: l) = .int .i64 x.t :: .int .i64 x.v :: icells l := rfl
theorem icells_append (a b : List Itm) : icells (a ++ b) = icells a ++ icells b := by unfold icells; rw [List.flatMap_append]
theorem icells_len : ∀ l : List Itm, (icells l).length = l.length * 2
  | [] => rfl
  | x :: l => by rw [icells_cons]; simp only [List.length_cons, icells_len l]; omega
theorem icells_at : ∀ (l : List Itm) (i : Nat), i < l.length → (icells l)[i * 2]? = some (.int .i64 (itmAt l i).t) ∧ (icells l)[i * 2 + 1]? = some (.int .i64 (itmAt l i).v)
  | [], i, h => absurd h (by simp)
  | x :: l, 0, _ => ⟨rfl, rfl⟩
  | x :: l, i + 1, h => by
    have ih := icells_at l i (by simpa using h)
    rw [icells_cons, show (i + 1) * 2 = i * 2 + 1 + 1 by omega, show i * 2 + 1 + 1 + 1 = (i * 2 + 1) + 1 + 1 by omega]
    simp only [List.getElem?_cons_succ]
    exact ih
theorem icells_set (l : List Itm) (i : Nat) (h : i < l.length) (v : Int) : (icells l).set (i * 2 + 1) (.int .i64 v) = icells (l.set i { itmAt l i with v := v }) := by
  induction l generalizing i with
  | nil => exact absurd h (by simp)
  | cons x l ih =>
    cases i with
    | zero => rfl
    | succ i =>
      have := ih i (by simpa using h)
      rw [icells_cons, show (i + 1) * 2 + 1 = i * 2 + 1 + 1 + 1 by omega]
      simp only [List.set_cons_succ]
      rw [this]
      rfl
theorem icells_one (l : List Itm) : ∀ u ∈ icells l, u.oneCell' = true := by
  intro u hu
  unfold icells at hu
  rw [List.mem_flatMap] at hu
  obtain ⟨x, _, hx⟩ := hu
  simp at hx
  rcases hx with rfl | rfl <;> rfl
theorem addr_lit (a : Addr) (j : Nat) (h : j ≠ 0) : a.add j = ⟨a.block, a.off + j, none⟩ := by unfold Addr.add; rw [if_neg h]
/-- The two cells of an item. -/
def ItmCells (w : World) (a : Addr) (x : Itm) : Prop := w.cell? a = some (.int .i64 x.t) ∧ w.cell? ⟨a.block, a.off + 1, none⟩ = some (.int .i64 x.v)
section
variable {w w' : World} {B m : Nat} {A : Option Addr} {l : List Itm}
theorem ItmCells.below {a : Addr} {x : Itm} (h : ItmCells w a x) (hb : Below B w w') (hlt : a.block < B) : ItmCells w' a x :=
  ⟨(hb.cell hlt).trans h.1, (hb.cell (p := ⟨a.block, a.off + 1, none⟩) hlt).trans h.2⟩
theorem Reads.itm_len (h : Reads w B 2 A m (icells l)) : l.length = m := by have := h.1; rw [icells_len] at this; omega
theorem Reads.itm {i : Nat} (h : Reads w B 2 A m (icells l)) (hi : i < m) : ∃ ad, A = some ad ∧ ad.block < B ∧ ItmCells w (ad.add (i * 2)) (itmAt l i) := by
  obtain ⟨ad, e, hb, hc⟩ := h.2 (by omega)
  have ht := icells_at l i (by rw [h.itm_len]; exact hi)
  refine ⟨ad, e, hb, hc _ _ ht.1, ?_⟩
  rw [← addr_lit _ 1 (by decide), add_of_add]
  exact hc _ _ ht.2
end
/-- Raw items as an argument. -/
structure RIn (A : Option Addr) (m c : Nat) (l : List Itm) (w : World) : Prop where
  reads : Reads w w.heap.size 2 A m (icells l)
  tB : ∀ i, -9223372036854775808 ≤ (itmAt l i).t ∧ (itmAt l i).t ≤ 9223372036854775807
  vB : ∀ i, -9223372036854775808 ≤ (itmAt l i).v ∧ (itmAt l i).v ≤ 9223372036854775807
  mc : m ≤ c
  cB : c ≤ maxLen
theorem RIn.below {A : Option Addr} {m c : Nat} {l : List Itm} {w w' : World} (h : RIn A m c l w) (hb : Below w.heap.size w w') : RIn A m c l w' := ⟨(h.reads.below hb).more hb.size, h.tB, h.vB, h.mc, h.cB⟩
/-- Items as they are made: their ticks ascend by at most so much a step, their values lie between bounds. -/
def Made (st lo hi last : Int) (l : List Itm) : Prop :=
  (∀ i, i < l.length → 0 ≤ (itmAt l i).t ∧ (itmAt l i).t ≤ last ∧ (∀ j, j ≤ i → (itmAt l j).t ≤ (itmAt l i).t) ∧ lo ≤ (itmAt l i).v ∧ (itmAt l i).v ≤ hi) ∧ 0 ≤ last ∧ last ≤ st * l.length
theorem itm_left {l : List Itm} {x : Itm} {i : Nat} (h : i < l.length) : itmAt (l ++ [x]) i = itmAt l i := by
  unfold itmAt
  rw [List.getD_eq_getElem?_getD, List.getD_eq_getElem?_getD, List.getElem?_append_left h]
theorem itm_last {l : List Itm} {x : Itm} : itmAt (l ++ [x]) l.length = x := by
  unfold itmAt
  rw [List.getD_eq_getElem?_getD, List.getElem?_append_right (Nat.le_refl _)]
  simp
theorem made_nil {st lo hi : Int} : Made st lo hi 0 [] := ⟨fun i h => absurd h (by simp), Int.le_refl _, by simp⟩
theorem made_snoc {st lo hi last g v : Int} {l : List Itm} (h : Made st lo hi last l) (g0 : 0 ≤ g) (g1 : g ≤ st) (v0 : lo ≤ v) (v1 : v ≤ hi) : Made st lo hi (last + g) (l ++ [⟨last + g, v⟩]) := by
  obtain ⟨h1, h2, h3⟩ := h
  refine ⟨fun i hi => ?_, by omega, ?_⟩
  · rw [List.length_append, List.length_singleton] at hi
    by_cases c : i < l.length
    · have q := h1 i c
      rw [itm_left c]
      refine ⟨q.1, by omega, fun j hj => ?_, q.2.2.2⟩
      rw [itm_left (by omega)]
      exact q.2.2.1 j hj
    · obtain rfl : i = l.length := by omega
      rw [itm_last]
      refine ⟨(show 0 ≤ last + g by omega), Int.le_refl _, fun j hj => ?_, v0, v1⟩
      by_cases c2 : j < l.length
      · rw [itm_left c2]
        have := (h1 j c2).2.1
        show _ ≤ last + g
        omega
      · obtain rfl : j = l.length := by omega
        rw [itm_last]
        exact Int.le_refl _
  · rw [List.length_append, List.length_singleton]
    have e : st * ((l.length + 1 : Nat) : Int) = st * (l.length : Int) + st := by rw [Int.natCast_succ, Int.mul_add, Int.mul_one]
    rw [e]
    omega
theorem made_bound {st lo hi last : Int} {l : List Itm} (h : Made st lo hi last l) (hs0 : 0 ≤ st) (hs : st ≤ 2097153) (hl : l.length ≤ 1000000) : last ≤ 2097153000000 := by
  have h3 := h.2.2
  have : st * (l.length : Int) ≤ 2097153 * 1000000 := Int.mul_le_mul hs (by omega) (by omega) (by omega)
  omega
theorem info_itm : (Try.prog.info? 51).map (fun i => (i.zero, i.size, i.bytes)) = some (some (.agg #[.int .i64 0, .int .i64 0]), 2, 16) := by kernel_rfl
/-- What the making of items leaves: a slice of the call's own (nil where there is none) that reads as made items. -/
def IRet (most : Nat) (st lo hi : Int) (w : World) (e : Ending) (w' : World) : Prop :=
  ∃ (v : Value) (l : List Itm) (last : Int), e = .returned v ∧ w'.ownsRow w.heap.size 51 2 v l.length (icells l) ∧ l.length ≤ most ∧ Made st lo hi last l ∧ Below w.heap.size w w'
set_option maxHeartbeats 2000000 in
theorem pitems (A : Option Addr) (m c : Nat) (l : List Itm) (wd most : Nat) (w : World) (hin : RIn A m c l w) (hw1 : 1 ≤ wd) (hw2 : wd ≤ 1048576) (hmost : most ≤ 100000) :
    Calls Try.prog 25 #[.slice A m c, .int .i64 wd, .int .i64 most] w (IRet most (2 * (wd : Int) + 1) (-4096) 4096 w) := by
  have HR := Lib.hid hin
  have hmB : m ≤ 9223372036854775807 := by have := hin.mc; have := hin.cB; unfold maxLen at *; omega
  obtain ⟨i1, hi1, iz0, iz1, iz2⟩ := info_parts info_itm
  clear hin
  go_enter Try.func25, Try.ntmps25
  go_wp2
  go_loopw [7, 8, 9] (fun v tt i wr => ∃ (l' : List Itm) (last : Int), l'.length ≤ m ∧ l'.length ≤ most ∧ i = .int .i64 (l'.length : Nat) ∧ tt = .int .i64 last ∧ wr.ownsRow w.heap.size 51 2 v l'.length (icells l') ∧ RowKit.Hid (Made (2 * (wd : Int) + 1) (-4096) 4096 last l') ∧ Below w.heap.size w wr) (fun _ _ i _ => m - (intOf i).toNat)
  case atStart => exact ⟨[], 0, by simp, by simp, rfl, rfl, World.ownsRow_nil _ _ _ _, Lib.hid made_nil, Below.refl _ _⟩
  case round =>
    obtain ⟨l', last, hk1, hk2, rfl, rfl, own, HM, hb⟩ := hrel
    have lb := made_bound HM.out (by omega) (by omega) (by omega)
    have lb0 := HM.out.2.1
    generalize hk : l'.length = k at hk1 hk2 own ⊢
    have HK := Lib.hid hk
    clear hk
    by_cases hlt : k < m
    · by_cases hlt2 : k < most
      · obtain ⟨ad, rfl, hadb, hi0⟩ := HR.out.reads.itm hlt
        obtain ⟨c0, c1⟩ := hi0.below hb (by rw [block_of_add]; exact hadb)
        have tB := HR.out.tB k
        have vB := HR.out.vB k
        have PG := Lib.hid (fun w => pgap (itmAt l k).t (wd : Int) tB (by omega) (by omega) w)
        have PV := Lib.hid (fun w => pval (itmAt l k).v vB w)
        have gB := mgap_bd (itmAt l k).t (w := (wd : Int)) (by omega)
        have wB := mval_bd (itmAt l k).v
        generalize mgap (itmAt l k).t (wd : Int) = g at PG gB
        generalize mval (itmAt l k).v = v at PV wB
        generalize (itmAt l k).t = rt at c0 PG
        generalize (itmAt l k).v = rv at c1 PV
        obtain ⟨gB0, gB1⟩ := gB
        obtain ⟨wB0, wB1⟩ := wB
        have HM2 := Lib.hid (made_snoc HM.out gB0 gB1 wB0 wB1)
        have i2 : (k : Int) < (m : Int) := by omega
        have i3 : (k : Int) < (most : Int) := by omega
        have i4 : (0 : Int) ≤ (k : Int) := by omega
        have hbl := own.lt
        have OWN := Lib.hid own
        have zb := hb.size
        clear hi0 tB vB own
        go_wp2_with (first | (go_at_call 63; with_reducible refine (PG.out _).mono ?_; rintro e w9 ⟨rfl, rfl⟩) | (go_at_call 55; with_reducible refine (PV.out _).mono ?_; rintro e w9 ⟨rfl, rfl⟩) | (at_builtin; refine wpList_push rfl _ _ 39 rfl 51 i1 (.agg #[.int .i64 0, .int .i64 0]) 2 16 Try.underlying39 hi1 iz0 iz1 iz2 rfl (by decide) w.heap.size u7 k (icells l') rfl OWN.out #[.int .i64 (last + g), .int .i64 v] rfl rfl (by simp [Value.oneCell']) (by unfold maxLen; omega) (by omega) zb ?_; intro g' c4 w8 own8 hg8 hat8 hgr8))
        have L8 : w8.ownsRow w.heap.size 51 2 (.slice (some ⟨g', 0, none⟩) (k + 1) c4) (l' ++ [(⟨last + g, v⟩ : Itm)]).length (icells (l' ++ [(⟨last + g, v⟩ : Itm)])) := by
          rw [icells_append, List.length_append, HK.out]
          exact own8.row hg8
        have L9 : Below w.heap.size w w8 := below_grown (hb.alloc zb _) hgr8 (fun b e => (hbl b e).1) (by simp; omega)
        have hlen : (l' ++ [(⟨last + g, v⟩ : Itm)]).length = k + 1 := by rw [List.length_append, HK.out]; rfl
        clear own8 hgr8 hat8
        go_roundw
        case rel => exact ⟨l' ++ [(⟨last + g, v⟩ : Itm)], last + g, by omega, by omega, by rw [hlen]; go_num, rfl, L8, HM2, L9⟩
        case measure => simp [intOf]; omega
      · have i2 : (k : Int) < (m : Int) := by omega
        have i3 : ¬ (k : Int) < (most : Int) := by omega
        go_wp2
        go_ret
        exact ⟨_, l', last, rfl, by rw [HK.out]; exact own, by rw [HK.out]; omega, HM.out, hb⟩
    · have i2 : ¬ (k : Int) < (m : Int) := by omega
      go_wp2
      go_ret
      exact ⟨_, l', last, rfl, by rw [HK.out]; exact own, by rw [HK.out]; omega, HM.out, hb⟩
/-- An item whose value is turned into its remainder. -/
def imod (q : Int) (x : Itm) : Itm := { x with v := x.v % q }
def ipart (q : Int) (l : List Itm) (k : Nat) : List Itm := (l.take k).map (imod q) ++ l.drop k
theorem ipart_zero (q : Int) (l : List Itm) : ipart q l 0 = l := by simp [ipart]
theorem ipart_all (q : Int) (l : List Itm) : ipart q l l.length = l.map (imod q) := by simp [ipart]
theorem ipart_len (q : Int) (l : List Itm) (k : Nat) : (ipart q l k).length = l.length := by simp [ipart]; omega
theorem itm_eq {l : List Itm} {i : Nat} (h : i < l.length) : l[i] = itmAt l i := by unfold itmAt; rw [List.getD_eq_getElem?_getD, List.getElem?_eq_getElem h]; rfl
theorem ipart_at {q : Int} {l : List Itm} {k : Nat} (h : k < l.length) : itmAt (ipart q l k) k = itmAt l k := by
  unfold ipart itmAt
  rw [List.getD_eq_getElem?_getD, List.getD_eq_getElem?_getD, List.getElem?_append_right (by simp; omega)]
  simp [Nat.min_eq_left (Nat.le_of_lt h)]
theorem ipart_step {q : Int} {l : List Itm} {k : Nat} (h : k < l.length) : (ipart q l k).set k { itmAt (ipart q l k) k with v := (itmAt l k).v % q } = ipart q l (k + 1) := by
  rw [ipart_at h]
  unfold ipart
  rw [List.set_append_right _ _ (by simp; omega), List.length_map, List.length_take, Nat.min_eq_left (by omega), Nat.sub_self, List.drop_eq_getElem_cons h, List.set_cons_zero, List.take_succ_eq_append_getElem h, List.map_append, itm_eq h]
  simp [imod]
theorem itm_map (q : Int) (l : List Itm) (i : Nat) (h : i < l.length) : itmAt (l.map (imod q)) i = imod q (itmAt l i) := by
  unfold itmAt
  rw [List.getD_eq_getElem?_getD, List.getD_eq_getElem?_getD, List.getElem?_map, List.getElem?_eq_getElem h]
  rfl
theorem made_map {st lo hi last q : Int} {l : List Itm} (hq : 1 ≤ q) (h : Made st lo hi last l) : Made st 0 (q - 1) last (l.map (imod q)) := by
  obtain ⟨h1, h2, h3⟩ := h
  refine ⟨fun i hi => ?_, h2, by rw [List.length_map]; exact h3⟩
  rw [List.length_map] at hi
  rw [itm_map q l i hi]
  have a := h1 i hi
  have b0 := Int.emod_nonneg (itmAt l i).v (show q ≠ 0 by omega)
  have b1 := Int.emod_lt_of_pos (itmAt l i).v (show 0 < q by omega)
  refine ⟨a.1, a.2.1, fun j hj => ?_, b0, by show _ % q ≤ q - 1; omega⟩
  rw [itm_map q l j (by omega)]
  exact a.2.2.1 j hj
end Go.Proofs.Ytaiepjcnncajcaa
