/- Summaries of a stream: joining tuples leaves every block of old alone but the row that was given. -/
import Derived.Test.YtdibjlphcmjnoaaSumC
set_option linter.unusedVariables false
set_option linter.unusedSimpArgs false
set_option linter.unusedSectionVars false
set_option linter.unnecessarySimpa false
namespace Go.Proofs.Ytdibjlphcmjnoaa
open Go.RowKit
/-- Every block of old is as it was, but block g0. -/
def Apart (g0 : Nat) (w w' : World) : Prop := w.heap.size ≤ w'.heap.size ∧ ∀ b, b < w.heap.size → b ≠ g0 → w'.heap[b]? = w.heap[b]?
theorem Apart.refl (g0 : Nat) (w : World) : Apart g0 w w := ⟨Nat.le_refl _, fun _ _ _ => rfl⟩
theorem Apart.alloc {g0 : Nat} {w w' : World} (h : Apart g0 w w') (o : Obj) : Apart g0 w (w'.alloc o) := ⟨by have := h.1; simp; omega, fun b hb hn => (Below.heap_alloc w' o b (by have := h.1; omega)).trans (h.2 b hb hn)⟩
theorem Apart.drew {g0 : Nat} {w w' : World} (h : Apart g0 w w') : Apart g0 w w'.drew := h
theorem Apart.setCell {g0 : Nat} {w w' : World} (h : Apart g0 w w') {p : Addr} (hp : p.block = g0 ∨ w.heap.size ≤ p.block) (v : Value) : Apart g0 w (w'.setCell p v) :=
  ⟨by have := h.1; simp; omega, fun b hb hn => (Below.heap_setCell w' p v b (fun e => by rcases hp with hp | hp <;> omega)).trans (h.2 b hb hn)⟩
theorem Apart.grown {g0 : Nat} {w w' w2 : World} (h : Apart g0 w w') {r : Option Nat} (hg : w'.grownBy w2 r) (hr : ∀ k, r = some k → k = g0 ∨ w.heap.size ≤ k) : Apart g0 w w2 :=
  ⟨Nat.le_trans h.1 hg.size, fun b hb hn => (hg.block b (by have := h.1; omega) (fun e => by rcases hr b e.symm with h | h <;> omega)).trans (h.2 b hb hn)⟩
theorem row_apart {g0 : Nat} {w w' : World} {b : Nat} {t : TypeId} {cs : Array Value} (h : Row w b t cs) (ha : Apart g0 w w') (hne : b ≠ g0) : Row w' b t cs := (ha.2 b (row_lt h) hne).trans h
/-- Below and Apart. -/
def BA (g0 : Nat) (w w' : World) : Prop := Below g0 w w' ∧ Apart g0 w w'
theorem BA.refl (g0 : Nat) (w : World) : BA g0 w w := ⟨Below.refl _ _, Apart.refl _ _⟩
theorem BA.alloc {g0 : Nat} {w w' : World} (h : BA g0 w w') (hs : g0 ≤ w'.heap.size) (o : Obj) : BA g0 w (w'.alloc o) := ⟨h.1.alloc hs o, h.2.alloc o⟩
theorem BA.drew {g0 : Nat} {w w' : World} (h : BA g0 w w') : BA g0 w w'.drew := ⟨h.1.drew, h.2.drew⟩
theorem BA.setCell {g0 : Nat} {w w' : World} (h : BA g0 w w') {p : Addr} (hb : g0 ≤ p.block) (hp : p.block = g0 ∨ w.heap.size ≤ p.block) (v : Value) : BA g0 w (w'.setCell p v) := ⟨h.1.setCell hb v, h.2.setCell hp v⟩
theorem BA.grown {g0 : Nat} {w w' w2 : World} (h : BA g0 w w') {r : Option Nat} (hg : w'.grownBy w2 r) (h1 : ∀ k, r = some k → g0 ≤ k) (hr : ∀ k, r = some k → k = g0 ∨ w.heap.size ≤ k) (hB : g0 ≤ w'.heap.size) : BA g0 w w2 := ⟨below_grown h.1 hg h1 hB, h.2.grown hg hr⟩
/-- What joining leaves: as CRet, and it leaves every other block alone. -/
def CRetA (g0 : Nat) (ts : List Tup) (w : World) (e : Ending) (w' : World) : Prop :=
  ∃ g L c, e = .returned (.slice (some ⟨g, 0, none⟩) L c) ∧ Own w' 66 3 g L c (tcells ts) ∧ g0 ≤ g ∧ (g = g0 ∨ w.heap.size ≤ g) ∧ BA g0 w w'
theorem pcompressA_short (m : Int) (g0 L c : Nat) (ts : List Tup) (w : World) (ho : Own w 66 3 g0 L c (tcells ts)) (hs : L ≤ 2) : Calls Try.prog 35 #[.slice (some ⟨g0, 0, none⟩) L c, .int .i64 m] w (CRetA g0 (comp m ts) w) := by
  rw [comp_short (by rw [ho.tlen]; exact hs)]
  have OW := Lib.hid ho
  have i1 : ¬ 1 ≤ (L : Int) - 2 := by omega
  clear ho
  go_enter Try.func35, Try.ntmps35
  go_wp2
  go_loopw [0, 5] (fun v i wr => v = .slice (some ⟨g0, 0, none⟩) L c ∧ i = .int .i64 ((L : Int) - 2) ∧ wr = w) (fun _ i _ => (intOf i).toNat)
  case atStart => exact ⟨rfl, rfl, rfl⟩
  case round =>
    obtain ⟨rfl, rfl, rfl⟩ := hrel
    go_wp2
    go_ret
    exact ⟨g0, L, c, rfl, OW.out, Nat.le_refl _, .inl rfl, BA.refl _ _⟩
set_option maxHeartbeats 4000000 in
theorem pcompressA_main (m : Int) (g0 L0 c0 : Nat) (ts : List Tup) (w : World) (ho : Own w 66 3 g0 L0 c0 (tcells ts)) (hs : 2 < L0) (hb : ∀ t ∈ ts, TB 4398046511104 t) (hm0 : 0 ≤ m) (hm : m ≤ 4398046511104) (hL : L0 ≤ 1000000) :
    Calls Try.prog 35 #[.slice (some ⟨g0, 0, none⟩) L0 c0, .int .i64 m] w (CRetA g0 (comp m ts) w) := by
  have hl := ho.tlen
  have hne : ts ≠ [] := fun e => by rw [e] at hl; simp at hl; omega
  have HNE := Lib.hid hne
  have HL := Lib.hid hl
  have HB := Lib.hid hb
  have st : Own w 66 3 g0 L0 c0 (tcells (cur m ts (L0 - 2 + 1))) := by
    rw [show L0 - 2 + 1 = ts.length - 1 by omega, cur_last hne]
    exact ho
  have e0 : (L0 : Int) - 2 = ((L0 - 2 : Nat) : Int) := by omega
  obtain ⟨i0, hi0⟩ : ∃ i0 : Nat, i0 = L0 - 2 := ⟨_, rfl⟩
  rw [← hi0] at st e0
  have i0L : i0 + 1 < L0 := by omega
  obtain ⟨i1, hi1, iz0, iz1, iz2⟩ := info_parts (show (Try.prog.info? 66).map (fun i => (i.zero, i.size, i.bytes)) = some (some (.agg #[.int .i64 0, .int .i64 0, .int .i64 0]), 3, 24) from by kernel_rfl)
  clear ho hl hne hb hi0
  go_enter Try.func35, Try.ntmps35
  go_wp2
  clear e0
  go_loopw [0, 5] (fun v i wr => ∃ j g L c : Nat, j + 1 < L0 ∧ i = .int .i64 (j : Nat) ∧ v = .slice (some ⟨g, 0, none⟩) L c ∧ Own wr 66 3 g L c (tcells (cur m ts (j + 1))) ∧ g0 ≤ g ∧ (g = g0 ∨ w.heap.size ≤ g) ∧ BA g0 w wr) (fun _ i _ => (intOf i).toNat)
  case atStart => exact ⟨i0, g0, L0, c0, i0L, rfl, rfl, st, Nat.le_refl _, .inl rfl, BA.refl _ _⟩
  case round =>
    clear st
    obtain ⟨j, g, L, c, hj, rfl, rfl, own, hg, hq, hbl⟩ := hrel
    by_cases hj1 : 1 ≤ j
    · have k1 : (1 : Int) ≤ (j : Int) := by omega
      have hcl : j + 1 + 1 ≤ L := by have := cur_len_ge m (ts := ts) (i := j + 1) (by rw [HL.out]; exact hj); rw [own.tlen] at this; exact this
      have hcu : L ≤ L0 := by have := cur_len m ts (j + 1); rw [own.tlen, HL.out] at this; exact this
      obtain ⟨p0, p1, p2⟩ := own.tup (i := j) (by omega)
      obtain ⟨n0, n1, n2⟩ := own.tup (i := j + 1) (by omega)
      have b1 := TB_at (by decide) (cur_TB hm HB.out (j + 1)) j
      have b2 := TB_at (by decide) (cur_TB hm HB.out (j + 1)) (j + 1)
      have k2 : (0 : Int) ≤ (j : Int) := by omega
      have k3 : (j : Int) < (L : Int) := by omega
      have k4 : (j : Int) + 1 < (L : Int) := by omega
      have k5 : (0 : Int) ≤ (j : Int) + 1 := by omega
      have wj : IntKind.i64.wrap ((j : Int) + 1) = (j : Int) + 1 := IntWalk.i64_in _ (by omega)
      have tj : ((j : Int) + 1).toNat = j + 1 := by omega
      go_upto_region 5 with (fail)
      have st1 := cur_step_yes (m := m) (ts := ts) (i := j) (by rw [HL.out]; exact hj)
      have st0 := cur_step_no (m := m) (ts := ts) (i := j) (by rw [HL.out]; exact hj)
      generalize hcu0 : cur m ts (j + 1) = cu at own p0 p1 p2 n0 n1 n2 b1 b2 st1 st0 ⊢
      have ST1 := Lib.hid st1
      have ST0 := Lib.hid st0
      generalize hx : (tupAt cu j).g = x at p1 b1
      generalize hy : (tupAt cu (j + 1)).g = y at n1 b2 ⊢
      generalize hz : (tupAt cu (j + 1)).d = z at n2 b2 ⊢
      generalize (tupAt cu (j + 1)).v = v1 at n0 b2 ⊢
      have b1g : 0 ≤ x ∧ x ≤ 4398046511104 := by unfold TB at b1; rw [hx] at b1; omega
      have b2g : (0 ≤ y ∧ y ≤ 4398046511104) ∧ 0 ≤ z ∧ z ≤ 4398046511104 := by unfold TB at b2; rw [hy, hz] at b2; omega
      have HX := Lib.hid hx
      have HY := Lib.hid hy
      have HZ := Lib.hid hz
      obtain ⟨x0, x1⟩ := b1g
      obtain ⟨⟨y0, y1⟩, z0, z1⟩ := b2g
      have wa : IntKind.i64.wrap (x + y) = x + y := IntWalk.i64_in _ (by omega)
      have wb : IntKind.i64.wrap (x + y + z) = x + y + z := IntWalk.i64_in _ (by omega)
      have wc : IntKind.i64.wrap (y + x) = y + x := IntWalk.i64_in _ (by omega)
      have zg := own.lt
      have K1 : Row (wr.alloc (.cells #[.int .i64 v1, .int .i64 y, .int .i64 z] 66)) wr.heap.size 66 #[.int .i64 v1, .int .i64 y, .int .i64 z] := row_new rfl
      have K2 := own.alloc (.cells #[.int .i64 v1, .int .i64 y, .int .i64 z] 66)
      have K3 := hbl.alloc (by have := hbl.1.size; omega) (.cells #[.int .i64 v1, .int .i64 y, .int .i64 z] 66)
      have K4 : (wr.alloc (.cells #[.int .i64 v1, .int .i64 y, .int .i64 z] 66)).cell? ⟨g, j * 3 + 1, none⟩ = some (.int .i64 x) := by rw [World.cell?_alloc_lt _ _ _ zg]; exact p1
      have K5 : (wr.alloc (.cells #[.int .i64 v1, .int .i64 y, .int .i64 z] 66)).cell? ⟨g, (j + 1) * 3 + 1, none⟩ = some (.int .i64 y) := by rw [World.cell?_alloc_lt _ _ _ zg]; exact n1
      have K6 : g < (wr.alloc (.cells #[.int .i64 v1, .int .i64 y, .int .i64 z] 66)).heap.size := K2.lt
      have ne : wr.heap.size ≠ g := by omega
      generalize (wr.alloc (.cells #[.int .i64 v1, .int .i64 y, .int .i64 z] 66)) = w3 at K1 K2 K3 K4 K5 K6 ⊢
      generalize wr.heap.size = nb at K1 ne ⊢
      clear p0 p1 p2 n0 n1 n2 b1 b2 hx hy hz st1 st0 hcu0 own hbl
      have LL : Row w3 nb 66 #[.int .i64 v1, .int .i64 y, .int .i64 z] ∧ w3.cell? ⟨g, j * 3 + 1, none⟩ = some (.int .i64 x) ∧ w3.cell? ⟨g, (j + 1) * 3 + 1, none⟩ = some (.int .i64 y) ∧ Own w3 66 3 g L c (tcells cu) ∧ BA g0 w w3 := ⟨K1, K4, K5, K2, K3⟩
      clear K1 K4 K5 K2 K3
      refine wp_region_free0 [0, 1, 2, 3, 4, 5, 6, 7, 8, 9, 10, 11] [] [0, 1, 2, 3, 4, 5, 6, 7, 8, 9, 10, 11] 12 (fun w' => Row w' nb 66 #[.int .i64 v1, .int .i64 y, .int .i64 z] ∧ w'.cell? ⟨g, j * 3 + 1, none⟩ = some (.int .i64 x) ∧ w'.cell? ⟨g, (j + 1) * 3 + 1, none⟩ = some (.int .i64 y) ∧ Own w' 66 3 g L c (tcells cu) ∧ BA g0 w w') (by kernel_rfl) (by kernel_rfl) (fun _ _ d _ _ h => by cases d <;> exact h) ?_ ?_
      · exact ⟨LL.1, LL.2.1, LL.2.2.1, LL.2.2.2.1, LL.2.2.2.2.drew⟩
      (refine plan_pure ?_ rfl rfl (fun w' => ?_) ?_; rotate_left; (go_simp; try with_reducible rfl); simp only [Act.put, List.setIfInBounds_toArray, List.set_cons_zero, List.set_cons_succ])
      (refine plan_pure ?_ rfl rfl (fun w' => ?_) ?_; rotate_left; (go_simp; try with_reducible rfl); simp only [Act.put, List.setIfInBounds_toArray, List.set_cons_zero, List.set_cons_succ])
      (refine plan_pure ?_ rfl rfl (fun w' => ?_) ?_; rotate_left; (go_simp; try with_reducible rfl); simp only [Act.put, List.setIfInBounds_toArray, List.set_cons_zero, List.set_cons_succ])
      (refine plan_pure ?_ rfl rfl (fun w' => ?_) ?_; rotate_left; (go_simp; try with_reducible rfl); simp only [Act.put, List.setIfInBounds_toArray, List.set_cons_zero, List.set_cons_succ])
      (refine plan_val ?_ rfl rfl rfl (fun w' hS => ?_) ?_; rotate_left; (obtain ⟨B0, B1, B2, B3, B4, B5⟩ := row_three hS.1; have q1 := hS.2.1; have q2 := hS.2.2.1; go_simp; try with_reducible rfl); simp only [Act.put, List.setIfInBounds_toArray, List.set_cons_zero, List.set_cons_succ])
      (refine plan_pure ?_ rfl rfl (fun w' => ?_) ?_; rotate_left; (go_simp; try with_reducible rfl); simp only [Act.put, List.setIfInBounds_toArray, List.set_cons_zero, List.set_cons_succ])
      (refine plan_val ?_ rfl rfl rfl (fun w' hS => ?_) ?_; rotate_left; (obtain ⟨B0, B1, B2, B3, B4, B5⟩ := row_three hS.1; have q1 := hS.2.1; have q2 := hS.2.2.1; go_simp; try with_reducible rfl); simp only [Act.put, List.setIfInBounds_toArray, List.set_cons_zero, List.set_cons_succ])
      (refine plan_pure ?_ rfl rfl (fun w' => ?_) ?_; rotate_left; (go_simp; try with_reducible rfl); simp only [Act.put, List.setIfInBounds_toArray, List.set_cons_zero, List.set_cons_succ])
      (refine plan_pure ?_ rfl rfl (fun w' => ?_) ?_; rotate_left; (go_simp; try with_reducible rfl); simp only [Act.put, List.setIfInBounds_toArray, List.set_cons_zero, List.set_cons_succ])
      (refine plan_val ?_ rfl rfl rfl (fun w' hS => ?_) ?_; rotate_left; (obtain ⟨B0, B1, B2, B3, B4, B5⟩ := row_three hS.1; have q1 := hS.2.1; have q2 := hS.2.2.1; go_simp; try with_reducible rfl); simp only [Act.put, List.setIfInBounds_toArray, List.set_cons_zero, List.set_cons_succ])
      (refine plan_pure ?_ rfl rfl (fun w' => ?_) ?_; rotate_left; (go_simp; try with_reducible rfl); simp only [Act.put, List.setIfInBounds_toArray, List.set_cons_zero, List.set_cons_succ])
      (refine plan_pure ?_ rfl rfl (fun w' => ?_) ?_; rotate_left; (go_simp; try with_reducible rfl); simp only [Act.put, List.setIfInBounds_toArray, List.set_cons_zero, List.set_cons_succ])
      refine plan_nil ?_
      intro w4 L4
      simp only [List.drop_succ_cons, List.drop_zero]
      try simp only [Act.put, List.setIfInBounds_toArray, List.set_cons_zero, List.set_cons_succ]
      clear LL
      by_cases hc : x + y + z ≤ m
      · have st := ST1.out (by rw [HX.out, HY.out, HZ.out]; exact hc)
        rw [HX.out, HY.out] at st
        have STT := Lib.hid st
        clear st
        go_upto_region 6 with (fail)
        refine wp_region_free0 [0, 1, 2, 3, 4, 5, 6, 7, 8, 9, 10, 11, 12, 13] [] [0, 1, 2, 3, 4, 5, 6, 7, 8, 9, 10, 11, 12, 13] 14 (fun w' => Row w' nb 66 #[.int .i64 v1, .int .i64 y, .int .i64 z] ∧ w'.cell? ⟨g, j * 3 + 1, none⟩ = some (.int .i64 x) ∧ w'.cell? ⟨g, (j + 1) * 3 + 1, none⟩ = some (.int .i64 y) ∧ Own w' 66 3 g L c (tcells cu) ∧ BA g0 w w') (by kernel_rfl) (by kernel_rfl) (fun _ _ d _ _ h => by cases d <;> exact h) ?_ ?_
        · exact ⟨L4.1, L4.2.1, L4.2.2.1, L4.2.2.2.1, L4.2.2.2.2.drew⟩
        (refine plan_pure ?_ rfl rfl (fun w' => ?_) ?_; rotate_left; (go_simp; try with_reducible rfl); simp only [Act.put, List.setIfInBounds_toArray, List.set_cons_zero, List.set_cons_succ])
        (refine plan_pure ?_ rfl rfl (fun w' => ?_) ?_; rotate_left; (go_simp; try with_reducible rfl); simp only [Act.put, List.setIfInBounds_toArray, List.set_cons_zero, List.set_cons_succ])
        (refine plan_pure ?_ rfl rfl (fun w' => ?_) ?_; rotate_left; (go_simp; try with_reducible rfl); simp only [Act.put, List.setIfInBounds_toArray, List.set_cons_zero, List.set_cons_succ])
        (refine plan_pure ?_ rfl rfl (fun w' => ?_) ?_; rotate_left; (go_simp; try with_reducible rfl); simp only [Act.put, List.setIfInBounds_toArray, List.set_cons_zero, List.set_cons_succ])
        (refine plan_pure ?_ rfl rfl (fun w' => ?_) ?_; rotate_left; (go_simp; try with_reducible rfl); simp only [Act.put, List.setIfInBounds_toArray, List.set_cons_zero, List.set_cons_succ])
        (refine plan_val ?_ rfl rfl rfl (fun w' hS => ?_) ?_; rotate_left; (obtain ⟨B0, B1, B2, B3, B4, B5⟩ := row_three hS.1; have q1 := hS.2.1; have q2 := hS.2.2.1; go_simp; try with_reducible rfl); simp only [Act.put, List.setIfInBounds_toArray, List.set_cons_zero, List.set_cons_succ])
        (refine plan_pure ?_ rfl rfl (fun w' => ?_) ?_; rotate_left; (go_simp; try with_reducible rfl); simp only [Act.put, List.setIfInBounds_toArray, List.set_cons_zero, List.set_cons_succ])
        (refine plan_pure ?_ rfl rfl (fun w' => ?_) ?_; rotate_left; (go_simp; try with_reducible rfl); simp only [Act.put, List.setIfInBounds_toArray, List.set_cons_zero, List.set_cons_succ])
        (refine plan_pure ?_ rfl rfl (fun w' => ?_) ?_; rotate_left; (go_simp; try with_reducible rfl); simp only [Act.put, List.setIfInBounds_toArray, List.set_cons_zero, List.set_cons_succ])
        (refine plan_pure ?_ rfl rfl (fun w' => ?_) ?_; rotate_left; (go_simp; try with_reducible rfl); simp only [Act.put, List.setIfInBounds_toArray, List.set_cons_zero, List.set_cons_succ])
        (refine plan_val ?_ rfl rfl rfl (fun w' hS => ?_) ?_; rotate_left; (obtain ⟨B0, B1, B2, B3, B4, B5⟩ := row_three hS.1; have q1 := hS.2.1; have q2 := hS.2.2.1; go_simp; try with_reducible rfl); simp only [Act.put, List.setIfInBounds_toArray, List.set_cons_zero, List.set_cons_succ])
        (refine plan_pure ?_ rfl rfl (fun w' => ?_) ?_; rotate_left; (go_simp; try with_reducible rfl); simp only [Act.put, List.setIfInBounds_toArray, List.set_cons_zero, List.set_cons_succ])
        (refine plan_pure ?_ rfl rfl (fun w' => ?_) ?_; rotate_left; (go_simp; try with_reducible rfl); simp only [Act.put, List.setIfInBounds_toArray, List.set_cons_zero, List.set_cons_succ])
        (refine plan_pure ?_ rfl rfl (fun w' => ?_) ?_; rotate_left; (go_simp; try with_reducible rfl); simp only [Act.put, List.setIfInBounds_toArray, List.set_cons_zero, List.set_cons_succ])
        refine plan_nil ?_
        intro w5 L5
        simp only [List.drop_succ_cons, List.drop_zero]
        try simp only [Act.put, List.setIfInBounds_toArray, List.set_cons_zero, List.set_cons_succ]
        clear L4
        obtain ⟨k1', k2', k3', own5, bl5⟩ := L5
        have fr5 := own5.free ((j + 1) * 3 + 1)
        have own6 := own5.set ((j + 1) * 3 + 1) (.int .i64 (y + x))
        rw [tcells_set _ _ (by have := own5.tlen; omega)] at own6
        have bl6 : BA g0 w (w5.setCell ⟨g, (j + 1) * 3 + 1, none⟩ (.int .i64 (y + x))) := bl5.setCell hg hq _
        go_upto_region 7 with (fail)
        generalize hcu1 : cu.set (j + 1) { tupAt cu (j + 1) with g := y + x } = cv at own6
        have HCV := Lib.hid hcu1
        generalize (w5.setCell ⟨g, (j + 1) * 3 + 1, none⟩ (.int .i64 (y + x))) = w6 at own6 bl6 ⊢
        clear own5 bl5 k1' k2' k3' fr5 hcu1
        have nc6 := own6.cap
        have jc : (j : Int) ≤ (c : Int) := by omega
        have jc1 : (j : Int) + 1 ≤ (c : Int) := by omega
        have jc2 : (j : Int) + 1 ≤ (L : Int) := by omega
        have jc3 : j ≤ c := by omega
        have jc4 : j + 1 ≤ L := by omega
        have L6 : Own w6 66 3 g L c (tcells cv) ∧ BA g0 w w6 := ⟨own6, bl6⟩
        clear own6 bl6
        refine wp_region_free0 [0, 1, 3, 4, 5, 2, 6] [] [0, 1, 2, 3, 4, 5, 6] 7 (fun w' => Own w' 66 3 g L c (tcells cv) ∧ BA g0 w w') (by kernel_rfl) (by kernel_rfl) (fun _ _ d _ _ h => by cases d <;> exact h) ?_ ?_
        · exact ⟨L6.1, L6.2.drew⟩
        (refine plan_pure ?_ rfl rfl (fun w' => ?_) ?_; rotate_left; (go_simp; try with_reducible rfl); simp only [Act.put, List.setIfInBounds_toArray, List.set_cons_zero, List.set_cons_succ])
        (refine plan_pure ?_ rfl rfl (fun w' => ?_) ?_; rotate_left; (go_simp; try with_reducible rfl); simp only [Act.put, List.setIfInBounds_toArray, List.set_cons_zero, List.set_cons_succ])
        (refine plan_pure ?_ rfl rfl (fun w' => ?_) ?_; rotate_left; (go_simp; try with_reducible rfl); simp only [Act.put, List.setIfInBounds_toArray, List.set_cons_zero, List.set_cons_succ])
        (refine plan_pure ?_ rfl rfl (fun w' => ?_) ?_; rotate_left; (go_simp; try with_reducible rfl); simp only [Act.put, List.setIfInBounds_toArray, List.set_cons_zero, List.set_cons_succ])
        (refine plan_pure ?_ rfl rfl (fun w' => ?_) ?_; rotate_left; (go_simp; try with_reducible rfl); simp only [Act.put, List.setIfInBounds_toArray, List.set_cons_zero, List.set_cons_succ])
        (refine plan_pure ?_ rfl rfl (fun w' => ?_) ?_; rotate_left; (go_simp; try with_reducible rfl); simp only [Act.put, List.setIfInBounds_toArray, List.set_cons_zero, List.set_cons_succ])
        (refine plan_pure ?_ rfl rfl (fun w' => ?_) ?_; rotate_left; (go_simp; try with_reducible rfl); simp only [Act.put, List.setIfInBounds_toArray, List.set_cons_zero, List.set_cons_succ])
        refine plan_nil ?_
        intro w7 L7
        simp only [List.drop_succ_cons, List.drop_zero]
        try simp only [Act.put, List.setIfInBounds_toArray, List.set_cons_zero, List.set_cons_succ]
        obtain ⟨own7, bl7⟩ := L7
        have hd := own7.cut (k := j) (by omega)
        rw [tcells_take] at hd
        have hr := own7.reads.cut (k := j + 1) (cap := c) (by omega) (by omega)
        rw [tcells_drop] at hr
        have ea : (⟨g, 0, none⟩ : Addr).add ((j + 1) * 3) = ⟨g, (j + 1) * 3, none⟩ := by rw [add_lit_one _ _ (by omega)]; simp
        have hr' : Reads w7 w7.heap.size 3 (if c = j + 1 then some (⟨g, 0, none⟩ : Addr) else some ⟨g, (j + 1) * 3, none⟩) (L - (j + 1)) (tcells (cv.drop (j + 1))) := by
          simpa [ea] using hr
        have HR' := Lib.hid hr'
        have HD' := Lib.hid hd
        have z7 := bl7.2.1
        have hg7 := own7.lt
        clear hr hr' hd ea L6 K6
        go_wp2_with (at_builtin; refine wpList_append_any _ rfl _ _ 22 rfl g0 66 i1 (.agg #[.int .i64 0, .int .i64 0, .int .i64 0]) 3 24 Try.underlying22 hi1 iz0 iz1 iz2 rfl (by decide) (.slice (some ⟨g, 0, none⟩) j c) j (tcells (cv.take j)) rfl (HD'.out.row hg) w7.heap.size _ (L - (j + 1)) (c - (j + 1)) (tcells (cv.drop (j + 1))) rfl HR'.out (tcells_one _) (by unfold maxLen; omega) (by omega) (by omega) ?_; intro v' w8 hown8 hgr8 hat8)
        rw [← tcells_append] at hown8
        have ecv : cv.take j ++ cv.drop (j + 1) = cur m ts j := by
          have := STT.out
          rw [← HCV.out]
          exact this.symm
        rw [ecv] at hown8
        obtain ⟨g', c', rfl, hg', hlt'⟩ := hown8.form (by omega)
        have own8 := (own_of_row hown8).1
        have bl8 : BA g0 w w8 := bl7.grown hgr8 (fun k e => by simp [Value.ownBlock] at e; omega) (fun k e => by simp [Value.ownBlock] at e; omega) (by omega)
        have hq8 : g' = g0 ∨ w.heap.size ≤ g' := by
          have z := bl7.2.1
          simp [Value.ownBlock] at hat8
          omega
        clear hown8 hgr8 hat8 own7 bl7 ecv
        go_wp2
        go_roundw
        case rel => exact ⟨j - 1, g', j + (L - (j + 1)), c', by omega, congrArg (Value.int .i64) (by omega), rfl, by rw [show j - 1 + 1 = j by omega]; exact own8, hg', hq8, bl8⟩
        case measure => simp [intOf]; omega
      · have st := ST0.out (by rw [HX.out, HY.out, HZ.out]; exact hc)
        have own5 := L4.2.2.2.1
        have bl5 := L4.2.2.2.2
        rw [← st] at own5
        clear L4 st
        go_wp2
        go_roundw
        case rel => exact ⟨j - 1, g, L, c, by omega, congrArg (Value.int .i64) (by omega), rfl, by rw [show j - 1 + 1 = j by omega]; exact own5, hg, hq, bl5⟩
        case measure => simp [intOf]; omega
    · have k1 : ¬ 1 ≤ (j : Int) := by omega
      obtain rfl : j = 0 := by omega
      rw [cur_one HNE.out] at own
      go_wp2
      go_ret
      exact ⟨g, L, c, rfl, own, hg, hq, hbl⟩
theorem pcompressA (m : Int) (g0 L c : Nat) (ts : List Tup) (w : World) (ho : Own w 66 3 g0 L c (tcells ts)) (hb : ∀ t ∈ ts, TB 4398046511104 t) (hm0 : 0 ≤ m) (hm : m ≤ 4398046511104) (hL : L ≤ 1000000) :
    Calls Try.prog 35 #[.slice (some ⟨g0, 0, none⟩) L c, .int .i64 m] w (CRetA g0 (comp m ts) w) := by
  by_cases hs : L ≤ 2
  · exact pcompressA_short m g0 L c ts w ho hs
  · exact pcompressA_main m g0 L c ts w ho (by omega) hb hm0 hm hL
end Go.Proofs.Ytdibjlphcmjnoaa
