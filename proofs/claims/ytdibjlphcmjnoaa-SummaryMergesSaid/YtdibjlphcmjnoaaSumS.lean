/- Summaries of a stream: the reference's joining, walked. -/
import Derived.Test.YtdibjlphcmjnoaaSumQ
import Derived.ArgAppend
namespace Go.Proofs.Ytdibjlphcmjnoaa
open Go.RowKit
theorem Reads.cells' {w : World} {B size n : Nat} {a : Addr} {xs : List Value} (h : Reads w B size (some a) n xs) (hn : 0 < n) : ∀ j u, xs[j]? = some u → w.cell? (a.add j) = some u := by
  obtain ⟨ad, e, _, hc⟩ := h.2 hn
  cases e
  exact hc
def JRet (k cap n : Int) (ts : List Tup) (w : World) (e : Ending) (w' : World) : Prop :=
  ∃ g L c, e = .returned (.agg #[.int .i64 k, .int .i64 cap, .int .i64 n, .slice (some ⟨g, 0, none⟩) L c]) ∧ Own w' 66 3 g L c (tcells ts) ∧ w.heap.size ≤ g ∧ Below w.heap.size w w'
set_option maxHeartbeats 8000000 in
theorem rjoin (k cap n : Int) (A : Option Addr) (m c : Nat) (ts : List Tup) (w : World) (hin : SIn k cap n A m c ts w) (n0 : 0 ≤ n) (n1 : n ≤ 1099511627776) (k0 : 1 ≤ k) (hb : ∀ t ∈ ts, TB 4398046511104 t) (hmm : m ≤ 1000000) :
    Calls Try.prog 39 #[.agg #[.int .i64 k, .int .i64 cap, .int .i64 n, .slice A m c]] w (JRet k cap n (comp (smost n k) ts) w) := by
  have HR := Lib.hid hin
  have hl := hin.len
  have HL := Lib.hid hl
  have HB := Lib.hid hb
  have PM := fun A m c w1 => rmost k cap n A m c ts n0 n1 k0 w1
  have M1 := smost_pos (n := n) (k := k)
  have M2 := smost_small (n := n) (k := k) n0 n1 k0
  generalize smost n k = M at PM M1 M2 ⊢
  have PM := Lib.hid PM
  have hm0 : 0 ≤ M := by omega
  have hm : M ≤ 4398046511104 := by omega
  obtain ⟨ii, hii, iz0, iz1, iz2⟩ := info_parts info_tup
  clear hin hl hb
  go_enter Try.func39, Try.ntmps39
  have X : Row ((w.alloc (.cells #[.int .i64 k, .int .i64 cap, .int .i64 n, .slice A m c] 24)).alloc (.cells #[.int .i64 0, .int .i64 0, .int .i64 0, .slice none 0 0] 24)) (w.heap.size) 24 #[.int .i64 k, .int .i64 cap, .int .i64 n, .slice A m c] := row_alloc (row_new rfl) _
  have R : Row ((w.alloc (.cells #[.int .i64 k, .int .i64 cap, .int .i64 n, .slice A m c] 24)).alloc (.cells #[.int .i64 0, .int .i64 0, .int .i64 0, .slice none 0 0] 24)) (w.heap.size + 1) 24 #[.int .i64 0, .int .i64 0, .int .i64 0, .slice none 0 0] := row_new (by simp)
  have o1 : Below w.heap.size w ((w.alloc (.cells #[.int .i64 k, .int .i64 cap, .int .i64 n, .slice A m c] 24)).alloc (.cells #[.int .i64 0, .int .i64 0, .int .i64 0, .slice none 0 0] 24)) := by (repeat (first | exact Below.refl _ _ | refine Below.setCell ?_ (by first | (simp; done) | (simp; omega) | omega) _ | refine Below.alloc ?_ (by first | (simp; done) | (simp; omega) | omega) _ | refine Below.drew ?_ | refine Below.trans ?_ (Below.mono (by assumption) (by first | (simp; done) | (simp; omega) | omega))))
  have zz : w.heap.size + 2 ≤ ((w.alloc (.cells #[.int .i64 k, .int .i64 cap, .int .i64 n, .slice A m c] 24)).alloc (.cells #[.int .i64 0, .int .i64 0, .int .i64 0, .slice none 0 0] 24)).heap.size := by simp
  go_upto_region 1 with (fail)
  generalize ((w.alloc (.cells #[.int .i64 k, .int .i64 cap, .int .i64 n, .slice A m c] 24)).alloc (.cells #[.int .i64 0, .int .i64 0, .int .i64 0, .slice none 0 0] 24)) = w1 at X R o1 zz ⊢
  have q2_0 : w.heap.size < w1.heap.size := by omega
  have q2_1 : w.heap.size + 1 < w1.heap.size := by omega
  have rd1 := Lib.hid (HR.out.reads.below o1)
  obtain ⟨X0, X1, X2, X3, _, _, _, _⟩ := row_four X
  go_upto_region 2 with (at_builtin; refine wpList_clone rfl _ _ 22 rfl 66 ii (.agg #[.int .i64 0, .int .i64 0, .int .i64 0]) 3 24 Try.underlying22 hii iz0 iz1 iz2 rfl (by decide) rfl w.heap.size A m c (tcells ts) rfl rd1.out o1.size (tcells_one _) (by unfold maxLen; omega) (by omega) ?_; intro g0 c0 w2 own2 hg2 hb2 hz2; have r1 := row_call X hb2; have r2 := row_call R hb2; have o2 := o1.trans (hb2.mono o1.size))
  have gR : w.heap.size + 1 < g0 := by omega
  clear X0 X1 X2 X3 X R o1 hb2 hz2
  by_cases hs : m ≤ 2
  · have own2 : Own w2 66 3 g0 m c0 (tcells (comp M ts)) := by
      rw [comp_short (by rw [HL.out]; exact hs)]
      exact own2
    obtain ⟨im, him⟩ : ∃ im : Int, im = (m : Int) - 2 := ⟨_, rfl⟩
    have i1 : ¬ 1 ≤ im := by omega
    have wm2 : IntKind.i64.wrap ((m : Int) - 2) = im := by rw [IntWalk.i64_in _ (by omega)]; exact him.symm
    clear him
    go_wp2
    go_loopw [3, 4] (fun v i wr => v = .slice (some ⟨g0, 0, none⟩) m c0 ∧ i = .int .i64 im ∧ wr = w2) (fun _ i _ => (intOf i).toNat)
    case atStart => exact ⟨rfl, rfl, rfl⟩
    case round =>
      obtain ⟨rfl, rfl, rfl⟩ := hrel
      have i2 : ¬ 1 ≤ im := Int.not_le.2 i1
      clear i1
      obtain ⟨A0, A1, A2, A3, A4, A5, A6, A7⟩ := row_four r1
      obtain ⟨B0, B1, B2, B3, B4, B5, B6, B7⟩ := row_four r2
      have ne0 : g0 ≠ w.heap.size := by omega
      have ne1 : g0 ≠ w.heap.size + 1 := by omega
      go_wp2
      have ow : Own ((((((wr).setCell ⟨w.heap.size, 3, none⟩ (.slice (some ⟨g0, 0, none⟩) m c0)).setCell ⟨w.heap.size + 1, 0, none⟩ (.int .i64 k)).setCell ⟨w.heap.size + 1, 1, none⟩ (.int .i64 cap)).setCell ⟨w.heap.size + 1, 2, none⟩ (.int .i64 n)).setCell ⟨w.heap.size + 1, 3, none⟩ (.slice (some ⟨g0, 0, none⟩) m c0)) 66 3 g0 m c0 (tcells (comp M ts)) :=
        ((((own2.other (by simp; omega) _).other (by simp; omega) _).other (by simp; omega) _).other (by simp; omega) _).other (by simp; omega) _
      have ob : Below w.heap.size w ((((((wr).setCell ⟨w.heap.size, 3, none⟩ (.slice (some ⟨g0, 0, none⟩) m c0)).setCell ⟨w.heap.size + 1, 0, none⟩ (.int .i64 k)).setCell ⟨w.heap.size + 1, 1, none⟩ (.int .i64 cap)).setCell ⟨w.heap.size + 1, 2, none⟩ (.int .i64 n)).setCell ⟨w.heap.size + 1, 3, none⟩ (.slice (some ⟨g0, 0, none⟩) m c0)) := by
        (repeat (first | exact Below.refl _ _ | refine Below.setCell ?_ (by first | (simp; done) | (simp; omega) | omega) _ | refine Below.alloc ?_ (by first | (simp; done) | (simp; omega) | omega) _ | refine Below.drew ?_ | refine Below.trans ?_ (Below.mono (by assumption) (by first | (simp; done) | (simp; omega) | omega))))
      exact bodyPost_ret (v := .agg #[.int .i64 k, .int .i64 cap, .int .i64 n, .slice (some ⟨g0, 0, none⟩) m c0]) (by simp [results, Try.results39, go_sem, A0, A1, A2, A3, B0, B1, B2, B3]) rfl ⟨g0, m, c0, rfl, ow, by omega, ob⟩
  · have hne : ts ≠ [] := fun e => by have := HL.out; rw [e] at this; simp at this; omega
    have HNE := Lib.hid hne
    have st : Own w2 66 3 g0 m c0 (tcells (cur M ts (m - 2 + 1))) := by
      rw [show m - 2 + 1 = ts.length - 1 by have := HL.out; omega, cur_last hne]
      exact own2
    have e0 : (m : Int) - 2 = ((m - 2 : Nat) : Int) := by omega
    have wm2 : IntKind.i64.wrap ((m : Int) - 2) = ((m - 2 : Nat) : Int) := by rw [IntWalk.i64_in _ (by omega)]; exact e0
    obtain ⟨i0, hi0⟩ : ∃ i0 : Nat, i0 = m - 2 := ⟨_, rfl⟩
    rw [← hi0] at st wm2
    have i0L : i0 + 1 < m := by omega
    clear hne hi0 own2 e0
    go_wp2
    go_loopw [3, 4] (fun v i wr => ∃ j g L c2 : Nat, j + 1 < m ∧ i = .int .i64 (j : Nat) ∧ v = .slice (some ⟨g, 0, none⟩) L c2 ∧ Own wr 66 3 g L c2 (tcells (cur M ts (j + 1))) ∧ w.heap.size + 1 < g ∧ Row wr (w.heap.size) 24 #[.int .i64 k, .int .i64 cap, .int .i64 n, .slice A m c] ∧ Row wr (w.heap.size + 1) 24 #[.int .i64 0, .int .i64 0, .int .i64 0, .slice none 0 0] ∧ Below w.heap.size w wr) (fun _ i _ => (intOf i).toNat)
    case atStart => exact ⟨i0, g0, m, c0, i0L, rfl, rfl, st, gR, r1, r2, o2⟩
    case round =>
      clear st r1 r2 o2 gR wm2
      obtain ⟨j, g, L, c2, hj, rfl, rfl, own, hg, r1, r2, hbl⟩ := hrel
      by_cases hj1 : 1 ≤ j
      · have k1 : (1 : Int) ≤ (j : Int) := by omega
        have hcl : j + 1 + 1 ≤ L := by have := cur_len_ge M (ts := ts) (i := j + 1) (by rw [HL.out]; exact hj); rw [own.tlen] at this; exact this
        have hcu : L ≤ m := by have := cur_len M ts (j + 1); rw [own.tlen, HL.out] at this; exact this
        obtain ⟨p0, p1, p2⟩ := own.tup (i := j) (by omega)
        obtain ⟨n0', n1', n2'⟩ := own.tup (i := j + 1) (by omega)
        have b1 := TB_at (by decide) (cur_TB hm HB.out (j + 1)) j
        have b2 := TB_at (by decide) (cur_TB hm HB.out (j + 1)) (j + 1)
        have k2 : (0 : Int) ≤ (j : Int) := by omega
        have k3 : (j : Int) < (L : Int) := by omega
        have k4 : (j : Int) + 1 < (L : Int) := by omega
        have k5 : (0 : Int) ≤ (j : Int) + 1 := by omega
        have wj : IntKind.i64.wrap ((j : Int) + 1) = (j : Int) + 1 := IntWalk.i64_in _ (by omega)
        have tj : ((j : Int) + 1).toNat = j + 1 := by omega
        go_upto_region 5 with (fail)
        have st1 := cur_step_yes (m := M) (ts := ts) (i := j) (by rw [HL.out]; exact hj)
        have st0 := cur_step_no (m := M) (ts := ts) (i := j) (by rw [HL.out]; exact hj)
        generalize hcu0 : cur M ts (j + 1) = cu at own p1 n1' n2' b1 b2 st1 st0 ⊢
        have ST1 := Lib.hid st1
        have ST0 := Lib.hid st0
        generalize hx : (tupAt cu j).g = x at p1
        generalize hy : (tupAt cu (j + 1)).g = y at n1'
        generalize hz : (tupAt cu (j + 1)).d = z at n2'
        have b1g : 0 ≤ x ∧ x ≤ 4398046511104 := by unfold TB at b1; rw [hx] at b1; omega
        have b2g : (0 ≤ y ∧ y ≤ 4398046511104) ∧ 0 ≤ z ∧ z ≤ 4398046511104 := by unfold TB at b2; rw [hy, hz] at b2; omega
        have HX := Lib.hid hx
        have HY := Lib.hid hy
        have HZ := Lib.hid hz
        obtain ⟨x0, x1⟩ := b1g
        obtain ⟨⟨y0, y1⟩, z0, z1⟩ := b2g
        have wa : IntKind.i64.wrap (x + y) = x + y := IntWalk.i64_in _ (by omega)
        have wb : IntKind.i64.wrap (x + y + z) = x + y + z := IntWalk.i64_in _ (by omega)
        have wc : IntKind.i64.wrap (y + x) = y + x := IntWalk.i64_in _ (by omega)
        have LL : wr.cell? ⟨g, j * 3 + 1, none⟩ = some (.int .i64 x) ∧ wr.cell? ⟨g, (j + 1) * 3 + 1, none⟩ = some (.int .i64 y) ∧ wr.cell? ⟨g, (j + 1) * 3 + 2, none⟩ = some (.int .i64 z) ∧ Own wr 66 3 g L c2 (tcells cu) ∧ Row wr (w.heap.size) 24 #[.int .i64 k, .int .i64 cap, .int .i64 n, .slice A m c] ∧ Row wr (w.heap.size + 1) 24 #[.int .i64 0, .int .i64 0, .int .i64 0, .slice none 0 0] ∧ Below w.heap.size w wr := ⟨p1, n1', n2', own, r1, r2, hbl⟩
        clear p0 p1 p2 n0' n1' n2' b1 b2 hx hy hz st1 st0 hcu0 own hbl r1 r2
        refine wp_region_free0 [0, 1, 2, 3, 4, 5, 6, 7, 8, 9, 10, 11, 12, 13, 14, 15, 16, 17, 19, 18, 20] [] [0, 1, 2, 3, 4, 5, 6, 7, 8, 9, 10, 11, 12, 13, 14, 15, 16, 17, 18, 19, 20] 21 (fun w' => w'.cell? ⟨g, j * 3 + 1, none⟩ = some (.int .i64 x) ∧ w'.cell? ⟨g, (j + 1) * 3 + 1, none⟩ = some (.int .i64 y) ∧ w'.cell? ⟨g, (j + 1) * 3 + 2, none⟩ = some (.int .i64 z) ∧ Own w' 66 3 g L c2 (tcells cu) ∧ Row w' (w.heap.size) 24 #[.int .i64 k, .int .i64 cap, .int .i64 n, .slice A m c] ∧ Row w' (w.heap.size + 1) 24 #[.int .i64 0, .int .i64 0, .int .i64 0, .slice none 0 0] ∧ Below w.heap.size w w') (by kernel_rfl) (by kernel_rfl) (fun _ _ d _ _ h => by cases d <;> exact h) ?_ ?_
        · exact ⟨LL.1, LL.2.1, LL.2.2.1, LL.2.2.2.1, LL.2.2.2.2.1, LL.2.2.2.2.2.1, LL.2.2.2.2.2.2.drew⟩
        (refine plan_pure ?_ rfl rfl (fun w' => ?_) ?_; rotate_left; (go_simp; try with_reducible rfl); simp only [Act.put, List.setIfInBounds_toArray, List.set_cons_zero, List.set_cons_succ])
        (refine plan_pure ?_ rfl rfl (fun w' => ?_) ?_; rotate_left; (go_simp; try with_reducible rfl); simp only [Act.put, List.setIfInBounds_toArray, List.set_cons_zero, List.set_cons_succ])
        (refine plan_pure ?_ rfl rfl (fun w' => ?_) ?_; rotate_left; (go_simp; try with_reducible rfl); simp only [Act.put, List.setIfInBounds_toArray, List.set_cons_zero, List.set_cons_succ])
        (refine plan_pure ?_ rfl rfl (fun w' => ?_) ?_; rotate_left; (go_simp; try with_reducible rfl); simp only [Act.put, List.setIfInBounds_toArray, List.set_cons_zero, List.set_cons_succ])
        (refine plan_val ?_ rfl rfl rfl (fun w' hS => ?_) ?_; rotate_left; (have q1 := hS.1; have q2 := hS.2.1; have q3 := hS.2.2.1; obtain ⟨A0, A1, A2, A3, _, _, _, _⟩ := row_four hS.2.2.2.2.1; go_simp; try with_reducible rfl); simp only [Act.put, List.setIfInBounds_toArray, List.set_cons_zero, List.set_cons_succ])
        (refine plan_pure ?_ rfl rfl (fun w' => ?_) ?_; rotate_left; (go_simp; try with_reducible rfl); simp only [Act.put, List.setIfInBounds_toArray, List.set_cons_zero, List.set_cons_succ])
        (refine plan_pure ?_ rfl rfl (fun w' => ?_) ?_; rotate_left; (go_simp; try with_reducible rfl); simp only [Act.put, List.setIfInBounds_toArray, List.set_cons_zero, List.set_cons_succ])
        (refine plan_pure ?_ rfl rfl (fun w' => ?_) ?_; rotate_left; (go_simp; try with_reducible rfl); simp only [Act.put, List.setIfInBounds_toArray, List.set_cons_zero, List.set_cons_succ])
        (refine plan_pure ?_ rfl rfl (fun w' => ?_) ?_; rotate_left; (go_simp; try with_reducible rfl); simp only [Act.put, List.setIfInBounds_toArray, List.set_cons_zero, List.set_cons_succ])
        (refine plan_pure ?_ rfl rfl (fun w' => ?_) ?_; rotate_left; (go_simp; try with_reducible rfl); simp only [Act.put, List.setIfInBounds_toArray, List.set_cons_zero, List.set_cons_succ])
        (refine plan_val ?_ rfl rfl rfl (fun w' hS => ?_) ?_; rotate_left; (have q1 := hS.1; have q2 := hS.2.1; have q3 := hS.2.2.1; obtain ⟨A0, A1, A2, A3, _, _, _, _⟩ := row_four hS.2.2.2.2.1; go_simp; try with_reducible rfl); simp only [Act.put, List.setIfInBounds_toArray, List.set_cons_zero, List.set_cons_succ])
        (refine plan_pure ?_ rfl rfl (fun w' => ?_) ?_; rotate_left; (go_simp; try with_reducible rfl); simp only [Act.put, List.setIfInBounds_toArray, List.set_cons_zero, List.set_cons_succ])
        (refine plan_pure ?_ rfl rfl (fun w' => ?_) ?_; rotate_left; (go_simp; try with_reducible rfl); simp only [Act.put, List.setIfInBounds_toArray, List.set_cons_zero, List.set_cons_succ])
        (refine plan_pure ?_ rfl rfl (fun w' => ?_) ?_; rotate_left; (go_simp; try with_reducible rfl); simp only [Act.put, List.setIfInBounds_toArray, List.set_cons_zero, List.set_cons_succ])
        (refine plan_pure ?_ rfl rfl (fun w' => ?_) ?_; rotate_left; (go_simp; try with_reducible rfl); simp only [Act.put, List.setIfInBounds_toArray, List.set_cons_zero, List.set_cons_succ])
        (refine plan_pure ?_ rfl rfl (fun w' => ?_) ?_; rotate_left; (go_simp; try with_reducible rfl); simp only [Act.put, List.setIfInBounds_toArray, List.set_cons_zero, List.set_cons_succ])
        (refine plan_pure ?_ rfl rfl (fun w' => ?_) ?_; rotate_left; (go_simp; try with_reducible rfl); simp only [Act.put, List.setIfInBounds_toArray, List.set_cons_zero, List.set_cons_succ])
        (refine plan_val ?_ rfl rfl rfl (fun w' hS => ?_) ?_; rotate_left; (have q1 := hS.1; have q2 := hS.2.1; have q3 := hS.2.2.1; obtain ⟨A0, A1, A2, A3, _, _, _, _⟩ := row_four hS.2.2.2.2.1; go_simp; try with_reducible rfl); simp only [Act.put, List.setIfInBounds_toArray, List.set_cons_zero, List.set_cons_succ])
        (refine plan_val ?_ rfl rfl rfl (fun w' hS => ?_) ?_; rotate_left; (have q1 := hS.1; have q2 := hS.2.1; have q3 := hS.2.2.1; obtain ⟨A0, A1, A2, A3, _, _, _, _⟩ := row_four hS.2.2.2.2.1; go_simp; try with_reducible rfl); simp only [Act.put, List.setIfInBounds_toArray, List.set_cons_zero, List.set_cons_succ])
        (refine plan_pure ?_ rfl rfl (fun w' => ?_) ?_; rotate_left; (go_simp; try with_reducible rfl); simp only [Act.put, List.setIfInBounds_toArray, List.set_cons_zero, List.set_cons_succ])
        refine plan_call (.int .i64 M) 40 #[.agg #[.int .i64 k, .int .i64 cap, .int .i64 n, .slice A m c]] rfl rfl rfl (fun _ _ h hb => ⟨(hb.cell h.2.2.2.1.lt).trans h.1, (hb.cell h.2.2.2.1.lt).trans h.2.1, (hb.cell h.2.2.2.1.lt).trans h.2.2.1, h.2.2.2.1.call hb, row_call h.2.2.2.2.1 hb, row_call h.2.2.2.2.2.1 hb, h.2.2.2.2.2.2.trans (hb.mono h.2.2.2.2.2.2.size)⟩) (fun w' hS => by have q1 := hS.1; have q2 := hS.2.1; have q3 := hS.2.2.1; obtain ⟨A0, A1, A2, A3, _, _, _, _⟩ := row_four hS.2.2.2.2.1; go_simp) (fun w' hS => PM.out _ _ _ w') ?_
        simp only [Act.put, List.setIfInBounds_toArray, List.set_cons_zero, List.set_cons_succ]
        refine plan_nil ?_
        intro w4 L4
        simp only [List.drop_succ_cons, List.drop_zero]
        try simp only [Act.put, List.setIfInBounds_toArray, List.set_cons_zero, List.set_cons_succ]
        clear LL
        by_cases hc : x + y + z ≤ M
        · have st := ST1.out (by rw [HX.out, HY.out, HZ.out]; exact hc)
          rw [HX.out, HY.out] at st
          have STT := Lib.hid st
          clear st
          go_upto_region 6 with (fail)
          refine wp_region_free0 [0, 1, 2, 3, 4, 5, 6, 7, 8, 9, 10, 11, 12, 13, 14, 15, 16] [] [0, 1, 2, 3, 4, 5, 6, 7, 8, 9, 10, 11, 12, 13, 14, 15, 16] 17 (fun w' => w'.cell? ⟨g, j * 3 + 1, none⟩ = some (.int .i64 x) ∧ w'.cell? ⟨g, (j + 1) * 3 + 1, none⟩ = some (.int .i64 y) ∧ w'.cell? ⟨g, (j + 1) * 3 + 2, none⟩ = some (.int .i64 z) ∧ Own w' 66 3 g L c2 (tcells cu) ∧ Row w' (w.heap.size) 24 #[.int .i64 k, .int .i64 cap, .int .i64 n, .slice A m c] ∧ Row w' (w.heap.size + 1) 24 #[.int .i64 0, .int .i64 0, .int .i64 0, .slice none 0 0] ∧ Below w.heap.size w w') (by kernel_rfl) (by kernel_rfl) (fun _ _ d _ _ h => by cases d <;> exact h) ?_ ?_
          · exact ⟨L4.1, L4.2.1, L4.2.2.1, L4.2.2.2.1, L4.2.2.2.2.1, L4.2.2.2.2.2.1, L4.2.2.2.2.2.2.drew⟩
          (refine plan_pure ?_ rfl rfl (fun w' => ?_) ?_; rotate_left; (go_simp; try with_reducible rfl); simp only [Act.put, List.setIfInBounds_toArray, List.set_cons_zero, List.set_cons_succ])
          (refine plan_pure ?_ rfl rfl (fun w' => ?_) ?_; rotate_left; (go_simp; try with_reducible rfl); simp only [Act.put, List.setIfInBounds_toArray, List.set_cons_zero, List.set_cons_succ])
          (refine plan_pure ?_ rfl rfl (fun w' => ?_) ?_; rotate_left; (go_simp; try with_reducible rfl); simp only [Act.put, List.setIfInBounds_toArray, List.set_cons_zero, List.set_cons_succ])
          (refine plan_pure ?_ rfl rfl (fun w' => ?_) ?_; rotate_left; (go_simp; try with_reducible rfl); simp only [Act.put, List.setIfInBounds_toArray, List.set_cons_zero, List.set_cons_succ])
          (refine plan_pure ?_ rfl rfl (fun w' => ?_) ?_; rotate_left; (go_simp; try with_reducible rfl); simp only [Act.put, List.setIfInBounds_toArray, List.set_cons_zero, List.set_cons_succ])
          (refine plan_pure ?_ rfl rfl (fun w' => ?_) ?_; rotate_left; (go_simp; try with_reducible rfl); simp only [Act.put, List.setIfInBounds_toArray, List.set_cons_zero, List.set_cons_succ])
          (refine plan_pure ?_ rfl rfl (fun w' => ?_) ?_; rotate_left; (go_simp; try with_reducible rfl); simp only [Act.put, List.setIfInBounds_toArray, List.set_cons_zero, List.set_cons_succ])
          (refine plan_pure ?_ rfl rfl (fun w' => ?_) ?_; rotate_left; (go_simp; try with_reducible rfl); simp only [Act.put, List.setIfInBounds_toArray, List.set_cons_zero, List.set_cons_succ])
          (refine plan_val ?_ rfl rfl rfl (fun w' hS => ?_) ?_; rotate_left; (have q1 := hS.1; have q2 := hS.2.1; have q3 := hS.2.2.1; obtain ⟨A0, A1, A2, A3, _, _, _, _⟩ := row_four hS.2.2.2.2.1; go_simp; try with_reducible rfl); simp only [Act.put, List.setIfInBounds_toArray, List.set_cons_zero, List.set_cons_succ])
          (refine plan_pure ?_ rfl rfl (fun w' => ?_) ?_; rotate_left; (go_simp; try with_reducible rfl); simp only [Act.put, List.setIfInBounds_toArray, List.set_cons_zero, List.set_cons_succ])
          (refine plan_pure ?_ rfl rfl (fun w' => ?_) ?_; rotate_left; (go_simp; try with_reducible rfl); simp only [Act.put, List.setIfInBounds_toArray, List.set_cons_zero, List.set_cons_succ])
          (refine plan_pure ?_ rfl rfl (fun w' => ?_) ?_; rotate_left; (go_simp; try with_reducible rfl); simp only [Act.put, List.setIfInBounds_toArray, List.set_cons_zero, List.set_cons_succ])
          (refine plan_pure ?_ rfl rfl (fun w' => ?_) ?_; rotate_left; (go_simp; try with_reducible rfl); simp only [Act.put, List.setIfInBounds_toArray, List.set_cons_zero, List.set_cons_succ])
          (refine plan_val ?_ rfl rfl rfl (fun w' hS => ?_) ?_; rotate_left; (have q1 := hS.1; have q2 := hS.2.1; have q3 := hS.2.2.1; obtain ⟨A0, A1, A2, A3, _, _, _, _⟩ := row_four hS.2.2.2.2.1; go_simp; try with_reducible rfl); simp only [Act.put, List.setIfInBounds_toArray, List.set_cons_zero, List.set_cons_succ])
          (refine plan_pure ?_ rfl rfl (fun w' => ?_) ?_; rotate_left; (go_simp; try with_reducible rfl); simp only [Act.put, List.setIfInBounds_toArray, List.set_cons_zero, List.set_cons_succ])
          (refine plan_pure ?_ rfl rfl (fun w' => ?_) ?_; rotate_left; (go_simp; try with_reducible rfl); simp only [Act.put, List.setIfInBounds_toArray, List.set_cons_zero, List.set_cons_succ])
          (refine plan_pure ?_ rfl rfl (fun w' => ?_) ?_; rotate_left; (go_simp; try with_reducible rfl); simp only [Act.put, List.setIfInBounds_toArray, List.set_cons_zero, List.set_cons_succ])
          refine plan_nil ?_
          intro w5 L5
          simp only [List.drop_succ_cons, List.drop_zero]
          try simp only [Act.put, List.setIfInBounds_toArray, List.set_cons_zero, List.set_cons_succ]
          clear L4
          obtain ⟨k1', k2', k3', own5, s1, s2, bl5⟩ := L5
          have fr5 := own5.free ((j + 1) * 3 + 1)
          have own6 := own5.set ((j + 1) * 3 + 1) (.int .i64 (y + x))
          rw [tcells_set _ _ (by have := own5.tlen; omega)] at own6
          have s1 := row_other (p := ⟨g, (j + 1) * 3 + 1, none⟩) s1 (by simp; omega) (.int .i64 (y + x))
          have s2 := row_other (p := ⟨g, (j + 1) * 3 + 1, none⟩) s2 (by simp; omega) (.int .i64 (y + x))
          have bl6 : Below w.heap.size w (w5.setCell ⟨g, (j + 1) * 3 + 1, none⟩ (.int .i64 (y + x))) := bl5.setCell (by simp; omega) _
          go_upto_region 7 with (fail)
          generalize hcu1 : cu.set (j + 1) { tupAt cu (j + 1) with g := y + x } = cv at own6
          have HCV := Lib.hid hcu1
          generalize (w5.setCell ⟨g, (j + 1) * 3 + 1, none⟩ (.int .i64 (y + x))) = w6 at own6 bl6 s1 s2 ⊢
          clear own5 bl5 k1' k2' k3' fr5 hcu1
          have nc6 := own6.cap
          have jc : (j : Int) ≤ (c2 : Int) := by omega
          have jc1 : (j : Int) + 1 ≤ (c2 : Int) := by omega
          have jc2 : (j : Int) + 1 ≤ (L : Int) := by omega
          have jc3 : j ≤ c2 := by omega
          have jc4 : j + 1 ≤ L := by omega
          have jc5 : ¬ c2 = j + 1 := by omega
          have L6 : Own w6 66 3 g L c2 (tcells cv) ∧ Row w6 (w.heap.size) 24 #[.int .i64 k, .int .i64 cap, .int .i64 n, .slice A m c] ∧ Row w6 (w.heap.size + 1) 24 #[.int .i64 0, .int .i64 0, .int .i64 0, .slice none 0 0] ∧ Below w.heap.size w w6 := ⟨own6, s1, s2, bl6⟩
          clear own6 bl6 s1 s2
          refine wp_region_free0 [0, 1, 2, 4, 5, 6, 3, 7] [] [0, 1, 2, 3, 4, 5, 6, 7] 8 (fun w' => Own w' 66 3 g L c2 (tcells cv) ∧ Row w' (w.heap.size) 24 #[.int .i64 k, .int .i64 cap, .int .i64 n, .slice A m c] ∧ Row w' (w.heap.size + 1) 24 #[.int .i64 0, .int .i64 0, .int .i64 0, .slice none 0 0] ∧ Below w.heap.size w w') (by kernel_rfl) (by kernel_rfl) (fun _ _ d _ _ h => by cases d <;> exact h) ?_ ?_
          · exact ⟨L6.1, L6.2.1, L6.2.2.1, L6.2.2.2.drew⟩
          (refine plan_pure ?_ rfl rfl (fun w' => ?_) ?_; rotate_left; (go_simp; try with_reducible rfl); simp only [Act.put, List.setIfInBounds_toArray, List.set_cons_zero, List.set_cons_succ])
          (refine plan_pure ?_ rfl rfl (fun w' => ?_) ?_; rotate_left; (go_simp; try with_reducible rfl); simp only [Act.put, List.setIfInBounds_toArray, List.set_cons_zero, List.set_cons_succ])
          (refine plan_pure ?_ rfl rfl (fun w' => ?_) ?_; rotate_left; (go_simp; try with_reducible rfl); simp only [Act.put, List.setIfInBounds_toArray, List.set_cons_zero, List.set_cons_succ])
          (refine plan_pure ?_ rfl rfl (fun w' => ?_) ?_; rotate_left; (go_simp; try with_reducible rfl); simp only [Act.put, List.setIfInBounds_toArray, List.set_cons_zero, List.set_cons_succ])
          (refine plan_pure ?_ rfl rfl (fun w' => ?_) ?_; rotate_left; (go_simp; try with_reducible rfl); simp only [Act.put, List.setIfInBounds_toArray, List.set_cons_zero, List.set_cons_succ])
          (refine plan_pure ?_ rfl rfl (fun w' => ?_) ?_; rotate_left; (go_simp; try with_reducible rfl); simp only [Act.put, List.setIfInBounds_toArray, List.set_cons_zero, List.set_cons_succ])
          (refine plan_pure ?_ rfl rfl (fun w' => ?_) ?_; rotate_left; (go_simp; try with_reducible rfl); simp only [Act.put, List.setIfInBounds_toArray, List.set_cons_zero, List.set_cons_succ])
          (refine plan_pure ?_ rfl rfl (fun w' => ?_) ?_; rotate_left; (go_simp; try with_reducible rfl); simp only [Act.put, List.setIfInBounds_toArray, List.set_cons_zero, List.set_cons_succ])
          refine plan_nil ?_
          intro w7 L7
          simp only [List.drop_succ_cons, List.drop_zero]
          try simp only [Act.put, List.setIfInBounds_toArray, List.set_cons_zero, List.set_cons_succ]
          obtain ⟨own7, s1, s2, bl7⟩ := L7
          have hr := own7.reads.cut (k := j + 1) (cap := c2) (by omega) (by omega)
          rw [tcells_drop, if_neg jc5] at hr
          have ea : (⟨g, 0, none⟩ : Addr).add ((j + 1) * 3) = ⟨g, (j + 1) * 3, none⟩ := by rw [add_lit_one _ _ (by omega)]; simp
          have hr' : Reads w7 w7.heap.size 3 (some ⟨g, (j + 1) * 3, none⟩) (L - (j + 1)) (tcells (cv.drop (j + 1))) := by
            simpa [ea] using hr
          have hp := own7.reads.pre (k := j) (by omega)
          rw [tcells_take] at hp
          have HR' := Lib.hid hr'
          have HP' := Lib.hid hp
          have z7 := bl7.size
          clear hr hr' hp ea L6
          have HPC := Lib.hid (Reads.cells' HP'.out (by omega))
          have HRC := Lib.hid (Reads.cells' HR'.out (by omega))
          go_wp2_with (at_builtin; refine wpList_append_grows _ rfl _ _ 22 rfl 66 ii (.agg #[.int .i64 0, .int .i64 0, .int .i64 0]) 3 24 Try.underlying22 hii iz0 iz1 iz2 rfl (by decide) (some ⟨g, 0, none⟩) j j (tcells (cv.take j)) rfl (fun e => by cases e) HP'.out.1 (fun b e => by cases e; exact HPC.out) ⟨g, (j + 1) * 3, none⟩ (L - (j + 1)) (c2 - (j + 1)) (tcells (cv.drop (j + 1))) rfl HR'.out.1 HRC.out (tcells_one _) (by omega) (by unfold maxLen; omega) (by omega) ?_; intro v' w8 hown8 hgr8)
          rw [← tcells_append] at hown8
          have ecv : cv.take j ++ cv.drop (j + 1) = cur M ts j := by
            have := STT.out
            rw [← HCV.out]
            exact this.symm
          rw [ecv] at hown8
          obtain ⟨g', c', rfl, hg', hlt'⟩ := hown8.form (by omega)
          have own8 := (own_of_row hown8).1
          have bl8 : Below w.heap.size w w8 := below_grown bl7 hgr8 (fun k e => by cases e) z7
          have s1 := row_grown s1 hgr8 (by simp)
          have s2 := row_grown s2 hgr8 (by simp)
          have gr' : w.heap.size + 1 < g' := by have := row_lt s2; have := own7.lt; omega
          clear hown8 hgr8 own7 bl7 ecv
          go_wp2
          go_roundw
          case rel => exact ⟨j - 1, g', j + (L - (j + 1)), c', by omega, congrArg (Value.int .i64) (by omega), rfl, by rw [show j - 1 + 1 = j by omega]; exact own8, gr', s1, s2, bl8⟩
          case measure => simp [intOf]; omega
        · have st := ST0.out (by rw [HX.out, HY.out, HZ.out]; exact hc)
          obtain ⟨_, _, _, own5, s1, s2, bl5⟩ := L4
          rw [← st] at own5
          clear st
          go_wp2
          go_roundw
          case rel => exact ⟨j - 1, g, L, c2, by omega, congrArg (Value.int .i64) (by omega), rfl, by rw [show j - 1 + 1 = j by omega]; exact own5, hg, s1, s2, bl5⟩
          case measure => simp [intOf]; omega
      · have k1 : ¬ 1 ≤ (j : Int) := by omega
        obtain rfl : j = 0 := by omega
        rw [cur_one HNE.out] at own
        obtain ⟨A0, A1, A2, A3, A4, A5, A6, A7⟩ := row_four r1
        obtain ⟨B0, B1, B2, B3, B4, B5, B6, B7⟩ := row_four r2
        have ne0 : g ≠ w.heap.size := by omega
        have ne1 : g ≠ w.heap.size + 1 := by omega
        go_wp2
        have ow : Own ((((((wr).setCell ⟨w.heap.size, 3, none⟩ (.slice (some ⟨g, 0, none⟩) L c2)).setCell ⟨w.heap.size + 1, 0, none⟩ (.int .i64 k)).setCell ⟨w.heap.size + 1, 1, none⟩ (.int .i64 cap)).setCell ⟨w.heap.size + 1, 2, none⟩ (.int .i64 n)).setCell ⟨w.heap.size + 1, 3, none⟩ (.slice (some ⟨g, 0, none⟩) L c2)) 66 3 g L c2 (tcells (comp M ts)) :=
          ((((own.other (by simp; omega) _).other (by simp; omega) _).other (by simp; omega) _).other (by simp; omega) _).other (by simp; omega) _
        have ob : Below w.heap.size w ((((((wr).setCell ⟨w.heap.size, 3, none⟩ (.slice (some ⟨g, 0, none⟩) L c2)).setCell ⟨w.heap.size + 1, 0, none⟩ (.int .i64 k)).setCell ⟨w.heap.size + 1, 1, none⟩ (.int .i64 cap)).setCell ⟨w.heap.size + 1, 2, none⟩ (.int .i64 n)).setCell ⟨w.heap.size + 1, 3, none⟩ (.slice (some ⟨g, 0, none⟩) L c2)) := by
          (repeat (first | exact Below.refl _ _ | refine Below.setCell ?_ (by first | (simp; done) | (simp; omega) | omega) _ | refine Below.alloc ?_ (by first | (simp; done) | (simp; omega) | omega) _ | refine Below.drew ?_ | refine Below.trans ?_ (Below.mono (by assumption) (by first | (simp; done) | (simp; omega) | omega))))
        exact bodyPost_ret (v := .agg #[.int .i64 k, .int .i64 cap, .int .i64 n, .slice (some ⟨g, 0, none⟩) L c2]) (by simp [results, Try.results39, go_sem, A0, A1, A2, A3, B0, B1, B2, B3]) rfl ⟨g, L, c2, rfl, ow, by omega, ob⟩
end Go.Proofs.Ytdibjlphcmjnoaa
