/- Smooth histograms: the program's check, walked. -/
import Derived.Test.YthknkdjpfanlnaaSmA
set_option linter.unusedVariables false
set_option linter.unusedSimpArgs false
set_option linter.unusedSectionVars false
set_option linter.unnecessarySimpa false
namespace Go.Proofs.Ythknkdjpfanlnaa
open Go.RowKit
theorem MIn.belowB {A : Option Addr} {m c : Nat} {l : List Mk} {w w' : World} (h : MIn A m c l w) (hb : Below w.heap.size w w') : MIn A m c l w' := h.below hb
theorem below_of_same {P : Program} {f : FuncId} {args : Array Value} {w : World} {e0 : Ending} (h : Calls P f args w fun e w' => e = e0 ∧ w' = w) : Calls P f args w fun e w' => e = e0 ∧ Below w.heap.size w w' := h.mono fun _ _ ⟨a, b⟩ => ⟨a, by rw [b]; exact Below.refl _ _⟩
theorem pgoodS (agg wd k cap now : Int) (w : World) : Calls Try.prog 36 #[.int .i64 agg, .int .i64 wd, .int .i64 k, .int .i64 cap, .int .i64 now] w fun e w' => e = .returned (.bool (decide (smGood agg wd k cap now))) ∧ w' = w := by
  by_cases h0 : 1 ≤ agg
  · by_cases h1 : agg ≤ 4
    · have e : decide (smGood agg wd k cap now) = decide (1 ≤ wd ∧ wd ≤ 1048576 ∧ 1 ≤ k ∧ k ≤ 64 ∧ 1 ≤ cap ∧ cap ≤ 65536 ∧ 0 ≤ now ∧ now ≤ 16777216) := by
        unfold smGood
        exact decide_eq_decide.2 ⟨fun h => h.2, fun h => ⟨⟨h0, h1⟩, h⟩⟩
      rw [e]
      exact pgoodS_c agg wd k cap now _ w h0 h1 (fun w => pgood wd k cap now w)
    · rw [decide_eq_false (fun a => h1 a.1.2)]
      exact pgoodS_b agg wd k cap now w h0 (Int.not_le.1 h1)
  · rw [decide_eq_false (fun a => h0 a.1.1)]
    exact pgoodS_a agg wd k cap now w (Int.not_le.1 h0)
theorem pvalS_a (A : Option Addr) (m c : Nat) (l : List Mk) (agg wd k cap now seq : Int) (w : World) (hG : ¬ smGood agg wd k cap now) : Calls Try.prog 12 #[.agg #[.int .i64 agg, .int .i64 wd, .int .i64 k, .int .i64 cap, .int .i64 now, .int .i64 seq, .slice A m c]] w fun e w' => e = .returned (.int .i64 (smvalE agg wd k cap now seq l)) ∧ Below w.heap.size w w' := by
  have E := Lib.hid (smvalE_no (agg := agg) (wd := wd) (k := k) (cap := cap) (now := now) (seq := seq) (l := l) (fun a => hG a.1))
  have PG := fun w => pgoodS agg wd k cap now w
  rw [decide_eq_false hG] at PG
  replace PG := Lib.hid PG
  clear hG
  go_enter Try.func12, Try.ntmps12
  go_upto_region 1 with (fail)
  have X : Row (w.alloc (.cells #[.int .i64 agg, .int .i64 wd, .int .i64 k, .int .i64 cap, .int .i64 now, .int .i64 seq, .slice A m c] 24)) w.heap.size 24 #[.int .i64 agg, .int .i64 wd, .int .i64 k, .int .i64 cap, .int .i64 now, .int .i64 seq, .slice A m c] := row_new rfl
  have o : Below w.heap.size w (w.alloc (.cells #[.int .i64 agg, .int .i64 wd, .int .i64 k, .int .i64 cap, .int .i64 now, .int .i64 seq, .slice A m c] 24)) := by (repeat (first | exact Below.refl _ _ | refine Below.setCell ?_ (by first | (simp; done) | (simp; omega) | omega) _ | refine Below.alloc ?_ (by first | (simp; done) | (simp; omega) | omega) _ | refine Below.drew ?_ | refine Below.trans ?_ (Below.mono (by assumption) (by first | (simp; done) | (simp; omega) | omega))))
  generalize (w.alloc (.cells #[.int .i64 agg, .int .i64 wd, .int .i64 k, .int .i64 cap, .int .i64 now, .int .i64 seq, .slice A m c] 24)) = w1 at X o ⊢
  refine wp_region_free0 [0, 1, 2, 3, 4, 5, 6, 7, 8, 9, 10, 11, 12, 13, 14, 15, 16, 17, 18, 19, 20, 21, 22, 23, 24, 25, 26, 27] [] [0, 1, 2, 3, 4, 5, 6, 7, 8, 9, 10, 11, 12, 13, 14, 15, 16, 17, 18, 19, 20, 21, 22, 23, 24, 25, 26, 27] 28 (fun w' => Row w' (w.heap.size) 24 #[.int .i64 agg, .int .i64 wd, .int .i64 k, .int .i64 cap, .int .i64 now, .int .i64 seq, .slice A m c] ∧ Below w.heap.size w w') (by kernel_rfl) (by kernel_rfl) (fun _ _ d _ _ h => by cases d <;> exact h) ?_ ?_
  · exact ⟨X, o.drew⟩
  (refine plan_pure ?_ rfl rfl (fun w' => ?_) ?_; rotate_left; (go_simp; try with_reducible rfl); simp only [Act.put, List.setIfInBounds_toArray, List.set_cons_zero, List.set_cons_succ])
  (refine plan_val ?_ rfl rfl rfl (fun w' hS => ?_) ?_; rotate_left; (obtain ⟨X0, X1, X2, X3, X4, X5, X6, Xf0, Xf1, Xf2, Xf3, Xf4, Xf5, Xf6⟩ := row_seven hS.1; go_simp; try with_reducible rfl); simp only [Act.put, List.setIfInBounds_toArray, List.set_cons_zero, List.set_cons_succ])
  (refine plan_pure ?_ rfl rfl (fun w' => ?_) ?_; rotate_left; (go_simp; try with_reducible rfl); simp only [Act.put, List.setIfInBounds_toArray, List.set_cons_zero, List.set_cons_succ])
  (refine plan_val ?_ rfl rfl rfl (fun w' hS => ?_) ?_; rotate_left; (obtain ⟨X0, X1, X2, X3, X4, X5, X6, Xf0, Xf1, Xf2, Xf3, Xf4, Xf5, Xf6⟩ := row_seven hS.1; go_simp; try with_reducible rfl); simp only [Act.put, List.setIfInBounds_toArray, List.set_cons_zero, List.set_cons_succ])
  (refine plan_pure ?_ rfl rfl (fun w' => ?_) ?_; rotate_left; (go_simp; try with_reducible rfl); simp only [Act.put, List.setIfInBounds_toArray, List.set_cons_zero, List.set_cons_succ])
  (refine plan_val ?_ rfl rfl rfl (fun w' hS => ?_) ?_; rotate_left; (obtain ⟨X0, X1, X2, X3, X4, X5, X6, Xf0, Xf1, Xf2, Xf3, Xf4, Xf5, Xf6⟩ := row_seven hS.1; go_simp; try with_reducible rfl); simp only [Act.put, List.setIfInBounds_toArray, List.set_cons_zero, List.set_cons_succ])
  (refine plan_pure ?_ rfl rfl (fun w' => ?_) ?_; rotate_left; (go_simp; try with_reducible rfl); simp only [Act.put, List.setIfInBounds_toArray, List.set_cons_zero, List.set_cons_succ])
  (refine plan_val ?_ rfl rfl rfl (fun w' hS => ?_) ?_; rotate_left; (obtain ⟨X0, X1, X2, X3, X4, X5, X6, Xf0, Xf1, Xf2, Xf3, Xf4, Xf5, Xf6⟩ := row_seven hS.1; go_simp; try with_reducible rfl); simp only [Act.put, List.setIfInBounds_toArray, List.set_cons_zero, List.set_cons_succ])
  (refine plan_pure ?_ rfl rfl (fun w' => ?_) ?_; rotate_left; (go_simp; try with_reducible rfl); simp only [Act.put, List.setIfInBounds_toArray, List.set_cons_zero, List.set_cons_succ])
  (refine plan_val ?_ rfl rfl rfl (fun w' hS => ?_) ?_; rotate_left; (obtain ⟨X0, X1, X2, X3, X4, X5, X6, Xf0, Xf1, Xf2, Xf3, Xf4, Xf5, Xf6⟩ := row_seven hS.1; go_simp; try with_reducible rfl); simp only [Act.put, List.setIfInBounds_toArray, List.set_cons_zero, List.set_cons_succ])
  refine plan_call (.bool false) 36 #[.int .i64 agg, .int .i64 wd, .int .i64 k, .int .i64 cap, .int .i64 now] rfl rfl rfl (fun _ _ h hb => ⟨row_call h.1 hb, h.2.trans (hb.mono h.2.size)⟩) (fun w' hS => by obtain ⟨X0, X1, X2, X3, X4, X5, X6, Xf0, Xf1, Xf2, Xf3, Xf4, Xf5, Xf6⟩ := row_seven hS.1; go_simp) (fun w' hS => below_of_same (PG.out w')) ?_
  simp only [Act.put, List.setIfInBounds_toArray, List.set_cons_zero, List.set_cons_succ]
  (refine plan_pure ?_ rfl rfl (fun w' => ?_) ?_; rotate_left; (go_simp; try with_reducible rfl); simp only [Act.put, List.setIfInBounds_toArray, List.set_cons_zero, List.set_cons_succ])
  (refine plan_pure ?_ rfl rfl (fun w' => ?_) ?_; rotate_left; (go_simp; try with_reducible rfl); simp only [Act.put, List.setIfInBounds_toArray, List.set_cons_zero, List.set_cons_succ])
  refine plan_not rfl rfl ?_
  simp only [Act.put, List.setIfInBounds_toArray, List.set_cons_zero, List.set_cons_succ]
  refine plan_not rfl rfl ?_
  simp only [Act.put, List.setIfInBounds_toArray, List.set_cons_zero, List.set_cons_succ]
  refine plan_not rfl rfl ?_
  simp only [Act.put, List.setIfInBounds_toArray, List.set_cons_zero, List.set_cons_succ]
  refine plan_not rfl rfl ?_
  simp only [Act.put, List.setIfInBounds_toArray, List.set_cons_zero, List.set_cons_succ]
  refine plan_not rfl rfl ?_
  simp only [Act.put, List.setIfInBounds_toArray, List.set_cons_zero, List.set_cons_succ]
  refine plan_not rfl rfl ?_
  simp only [Act.put, List.setIfInBounds_toArray, List.set_cons_zero, List.set_cons_succ]
  refine plan_not rfl rfl ?_
  simp only [Act.put, List.setIfInBounds_toArray, List.set_cons_zero, List.set_cons_succ]
  refine plan_not rfl rfl ?_
  simp only [Act.put, List.setIfInBounds_toArray, List.set_cons_zero, List.set_cons_succ]
  refine plan_not rfl rfl ?_
  simp only [Act.put, List.setIfInBounds_toArray, List.set_cons_zero, List.set_cons_succ]
  refine plan_not rfl rfl ?_
  simp only [Act.put, List.setIfInBounds_toArray, List.set_cons_zero, List.set_cons_succ]
  refine plan_not rfl rfl ?_
  simp only [Act.put, List.setIfInBounds_toArray, List.set_cons_zero, List.set_cons_succ]
  refine plan_not rfl rfl ?_
  simp only [Act.put, List.setIfInBounds_toArray, List.set_cons_zero, List.set_cons_succ]
  refine plan_not rfl rfl ?_
  simp only [Act.put, List.setIfInBounds_toArray, List.set_cons_zero, List.set_cons_succ]
  refine plan_not rfl rfl ?_
  simp only [Act.put, List.setIfInBounds_toArray, List.set_cons_zero, List.set_cons_succ]
  refine plan_not rfl rfl ?_
  simp only [Act.put, List.setIfInBounds_toArray, List.set_cons_zero, List.set_cons_succ]
  refine plan_nil ?_
  intro w2 L
  simp only [List.drop_succ_cons, List.drop_zero]
  try simp only [Act.put, List.setIfInBounds_toArray, List.set_cons_zero, List.set_cons_succ]
  have o2 := L.2
  clear L X o
  go_wp2
  go_ret
  exact ⟨ret_i64 E.out.symm, o2⟩
theorem pvalS_b (A : Option Addr) (m c : Nat) (l : List Mk) (agg wd k cap now seq : Int) (w : World) (hin : MIn A m c l w) (sB : I64 seq) (hG : smGood agg wd k cap now) (hV : ¬ mvalid l seq cap now wd (leastV agg)) : Calls Try.prog 12 #[.agg #[.int .i64 agg, .int .i64 wd, .int .i64 k, .int .i64 cap, .int .i64 now, .int .i64 seq, .slice A m c]] w fun e w' => e = .returned (.int .i64 (smvalE agg wd k cap now seq l)) ∧ Below w.heap.size w w' := by
  have E := Lib.hid (smvalE_no (agg := agg) (wd := wd) (k := k) (cap := cap) (now := now) (seq := seq) (l := l) (fun a => hV a.2.1))
  have PG := fun w => pgoodS agg wd k cap now w
  rw [decide_eq_true hG] at PG
  replace PG := Lib.hid PG
  obtain ⟨⟨a0, a1⟩, d0, d1, k0, k1, c0, c1, n0, n1⟩ := hG
  have PL := fun w => pleast agg w
  have PV := fun w' (hb : Below w.heap.size w w') => pmvalid A m c l seq cap now wd (leastV agg) w' (hin.below hb) sB c0 c1 n0 n1 d0 d1 (leastV_ge agg)
  rw [decide_eq_false hV] at PV
  generalize leastV agg = least at PL PV
  replace PL := Lib.hid PL
  replace PV := Lib.hid PV
  clear hV hin sB
  go_enter Try.func12, Try.ntmps12
  go_upto_region 1 with (fail)
  have X : Row (w.alloc (.cells #[.int .i64 agg, .int .i64 wd, .int .i64 k, .int .i64 cap, .int .i64 now, .int .i64 seq, .slice A m c] 24)) w.heap.size 24 #[.int .i64 agg, .int .i64 wd, .int .i64 k, .int .i64 cap, .int .i64 now, .int .i64 seq, .slice A m c] := row_new rfl
  have o : Below w.heap.size w (w.alloc (.cells #[.int .i64 agg, .int .i64 wd, .int .i64 k, .int .i64 cap, .int .i64 now, .int .i64 seq, .slice A m c] 24)) := by (repeat (first | exact Below.refl _ _ | refine Below.setCell ?_ (by first | (simp; done) | (simp; omega) | omega) _ | refine Below.alloc ?_ (by first | (simp; done) | (simp; omega) | omega) _ | refine Below.drew ?_ | refine Below.trans ?_ (Below.mono (by assumption) (by first | (simp; done) | (simp; omega) | omega))))
  generalize (w.alloc (.cells #[.int .i64 agg, .int .i64 wd, .int .i64 k, .int .i64 cap, .int .i64 now, .int .i64 seq, .slice A m c] 24)) = w1 at X o ⊢
  refine wp_region_free0 [0, 1, 2, 3, 4, 5, 6, 7, 8, 9, 10, 11, 12, 13, 14, 15, 16, 17, 18, 19, 20, 21, 22, 23, 24, 25, 26, 27] [] [0, 1, 2, 3, 4, 5, 6, 7, 8, 9, 10, 11, 12, 13, 14, 15, 16, 17, 18, 19, 20, 21, 22, 23, 24, 25, 26, 27] 28 (fun w' => Row w' (w.heap.size) 24 #[.int .i64 agg, .int .i64 wd, .int .i64 k, .int .i64 cap, .int .i64 now, .int .i64 seq, .slice A m c] ∧ Below w.heap.size w w') (by kernel_rfl) (by kernel_rfl) (fun _ _ d _ _ h => by cases d <;> exact h) ?_ ?_
  · exact ⟨X, o.drew⟩
  (refine plan_pure ?_ rfl rfl (fun w' => ?_) ?_; rotate_left; (go_simp; try with_reducible rfl); simp only [Act.put, List.setIfInBounds_toArray, List.set_cons_zero, List.set_cons_succ])
  (refine plan_val ?_ rfl rfl rfl (fun w' hS => ?_) ?_; rotate_left; (obtain ⟨X0, X1, X2, X3, X4, X5, X6, Xf0, Xf1, Xf2, Xf3, Xf4, Xf5, Xf6⟩ := row_seven hS.1; go_simp; try with_reducible rfl); simp only [Act.put, List.setIfInBounds_toArray, List.set_cons_zero, List.set_cons_succ])
  (refine plan_pure ?_ rfl rfl (fun w' => ?_) ?_; rotate_left; (go_simp; try with_reducible rfl); simp only [Act.put, List.setIfInBounds_toArray, List.set_cons_zero, List.set_cons_succ])
  (refine plan_val ?_ rfl rfl rfl (fun w' hS => ?_) ?_; rotate_left; (obtain ⟨X0, X1, X2, X3, X4, X5, X6, Xf0, Xf1, Xf2, Xf3, Xf4, Xf5, Xf6⟩ := row_seven hS.1; go_simp; try with_reducible rfl); simp only [Act.put, List.setIfInBounds_toArray, List.set_cons_zero, List.set_cons_succ])
  (refine plan_pure ?_ rfl rfl (fun w' => ?_) ?_; rotate_left; (go_simp; try with_reducible rfl); simp only [Act.put, List.setIfInBounds_toArray, List.set_cons_zero, List.set_cons_succ])
  (refine plan_val ?_ rfl rfl rfl (fun w' hS => ?_) ?_; rotate_left; (obtain ⟨X0, X1, X2, X3, X4, X5, X6, Xf0, Xf1, Xf2, Xf3, Xf4, Xf5, Xf6⟩ := row_seven hS.1; go_simp; try with_reducible rfl); simp only [Act.put, List.setIfInBounds_toArray, List.set_cons_zero, List.set_cons_succ])
  (refine plan_pure ?_ rfl rfl (fun w' => ?_) ?_; rotate_left; (go_simp; try with_reducible rfl); simp only [Act.put, List.setIfInBounds_toArray, List.set_cons_zero, List.set_cons_succ])
  (refine plan_val ?_ rfl rfl rfl (fun w' hS => ?_) ?_; rotate_left; (obtain ⟨X0, X1, X2, X3, X4, X5, X6, Xf0, Xf1, Xf2, Xf3, Xf4, Xf5, Xf6⟩ := row_seven hS.1; go_simp; try with_reducible rfl); simp only [Act.put, List.setIfInBounds_toArray, List.set_cons_zero, List.set_cons_succ])
  (refine plan_pure ?_ rfl rfl (fun w' => ?_) ?_; rotate_left; (go_simp; try with_reducible rfl); simp only [Act.put, List.setIfInBounds_toArray, List.set_cons_zero, List.set_cons_succ])
  (refine plan_val ?_ rfl rfl rfl (fun w' hS => ?_) ?_; rotate_left; (obtain ⟨X0, X1, X2, X3, X4, X5, X6, Xf0, Xf1, Xf2, Xf3, Xf4, Xf5, Xf6⟩ := row_seven hS.1; go_simp; try with_reducible rfl); simp only [Act.put, List.setIfInBounds_toArray, List.set_cons_zero, List.set_cons_succ])
  refine plan_call (.bool true) 36 #[.int .i64 agg, .int .i64 wd, .int .i64 k, .int .i64 cap, .int .i64 now] rfl rfl rfl (fun _ _ h hb => ⟨row_call h.1 hb, h.2.trans (hb.mono h.2.size)⟩) (fun w' hS => by obtain ⟨X0, X1, X2, X3, X4, X5, X6, Xf0, Xf1, Xf2, Xf3, Xf4, Xf5, Xf6⟩ := row_seven hS.1; go_simp) (fun w' hS => below_of_same (PG.out w')) ?_
  simp only [Act.put, List.setIfInBounds_toArray, List.set_cons_zero, List.set_cons_succ]
  (refine plan_pure ?_ rfl rfl (fun w' => ?_) ?_; rotate_left; (go_simp; try with_reducible rfl); simp only [Act.put, List.setIfInBounds_toArray, List.set_cons_zero, List.set_cons_succ])
  (refine plan_pure ?_ rfl rfl (fun w' => ?_) ?_; rotate_left; (go_simp; try with_reducible rfl); simp only [Act.put, List.setIfInBounds_toArray, List.set_cons_zero, List.set_cons_succ])
  (refine plan_pure ?_ rfl rfl (fun w' => ?_) ?_; rotate_left; (go_simp; try with_reducible rfl); simp only [Act.put, List.setIfInBounds_toArray, List.set_cons_zero, List.set_cons_succ])
  (refine plan_val ?_ rfl rfl rfl (fun w' hS => ?_) ?_; rotate_left; (obtain ⟨X0, X1, X2, X3, X4, X5, X6, Xf0, Xf1, Xf2, Xf3, Xf4, Xf5, Xf6⟩ := row_seven hS.1; go_simp; try with_reducible rfl); simp only [Act.put, List.setIfInBounds_toArray, List.set_cons_zero, List.set_cons_succ])
  (refine plan_pure ?_ rfl rfl (fun w' => ?_) ?_; rotate_left; (go_simp; try with_reducible rfl); simp only [Act.put, List.setIfInBounds_toArray, List.set_cons_zero, List.set_cons_succ])
  (refine plan_val ?_ rfl rfl rfl (fun w' hS => ?_) ?_; rotate_left; (obtain ⟨X0, X1, X2, X3, X4, X5, X6, Xf0, Xf1, Xf2, Xf3, Xf4, Xf5, Xf6⟩ := row_seven hS.1; go_simp; try with_reducible rfl); simp only [Act.put, List.setIfInBounds_toArray, List.set_cons_zero, List.set_cons_succ])
  (refine plan_pure ?_ rfl rfl (fun w' => ?_) ?_; rotate_left; (go_simp; try with_reducible rfl); simp only [Act.put, List.setIfInBounds_toArray, List.set_cons_zero, List.set_cons_succ])
  (refine plan_val ?_ rfl rfl rfl (fun w' hS => ?_) ?_; rotate_left; (obtain ⟨X0, X1, X2, X3, X4, X5, X6, Xf0, Xf1, Xf2, Xf3, Xf4, Xf5, Xf6⟩ := row_seven hS.1; go_simp; try with_reducible rfl); simp only [Act.put, List.setIfInBounds_toArray, List.set_cons_zero, List.set_cons_succ])
  (refine plan_pure ?_ rfl rfl (fun w' => ?_) ?_; rotate_left; (go_simp; try with_reducible rfl); simp only [Act.put, List.setIfInBounds_toArray, List.set_cons_zero, List.set_cons_succ])
  (refine plan_val ?_ rfl rfl rfl (fun w' hS => ?_) ?_; rotate_left; (obtain ⟨X0, X1, X2, X3, X4, X5, X6, Xf0, Xf1, Xf2, Xf3, Xf4, Xf5, Xf6⟩ := row_seven hS.1; go_simp; try with_reducible rfl); simp only [Act.put, List.setIfInBounds_toArray, List.set_cons_zero, List.set_cons_succ])
  (refine plan_pure ?_ rfl rfl (fun w' => ?_) ?_; rotate_left; (go_simp; try with_reducible rfl); simp only [Act.put, List.setIfInBounds_toArray, List.set_cons_zero, List.set_cons_succ])
  (refine plan_val ?_ rfl rfl rfl (fun w' hS => ?_) ?_; rotate_left; (obtain ⟨X0, X1, X2, X3, X4, X5, X6, Xf0, Xf1, Xf2, Xf3, Xf4, Xf5, Xf6⟩ := row_seven hS.1; go_simp; try with_reducible rfl); simp only [Act.put, List.setIfInBounds_toArray, List.set_cons_zero, List.set_cons_succ])
  (refine plan_pure ?_ rfl rfl (fun w' => ?_) ?_; rotate_left; (go_simp; try with_reducible rfl); simp only [Act.put, List.setIfInBounds_toArray, List.set_cons_zero, List.set_cons_succ])
  (refine plan_val ?_ rfl rfl rfl (fun w' hS => ?_) ?_; rotate_left; (obtain ⟨X0, X1, X2, X3, X4, X5, X6, Xf0, Xf1, Xf2, Xf3, Xf4, Xf5, Xf6⟩ := row_seven hS.1; go_simp; try with_reducible rfl); simp only [Act.put, List.setIfInBounds_toArray, List.set_cons_zero, List.set_cons_succ])
  refine plan_call (.int .i64 least) 38 #[.int .i64 agg] rfl rfl rfl (fun _ _ h hb => ⟨row_call h.1 hb, h.2.trans (hb.mono h.2.size)⟩) (fun w' hS => by obtain ⟨X0, X1, X2, X3, X4, X5, X6, Xf0, Xf1, Xf2, Xf3, Xf4, Xf5, Xf6⟩ := row_seven hS.1; go_simp) (fun w' hS => below_of_same (PL.out w')) ?_
  simp only [Act.put, List.setIfInBounds_toArray, List.set_cons_zero, List.set_cons_succ]
  refine plan_call (.bool false) 37 #[.slice A m c, .int .i64 seq, .int .i64 cap, .int .i64 now, .int .i64 wd, .int .i64 least] rfl rfl rfl (fun _ _ h hb => ⟨row_call h.1 hb, h.2.trans (hb.mono h.2.size)⟩) (fun w' hS => by obtain ⟨X0, X1, X2, X3, X4, X5, X6, Xf0, Xf1, Xf2, Xf3, Xf4, Xf5, Xf6⟩ := row_seven hS.1; go_simp) (fun w' hS => PV.out w' (hS.2)) ?_
  simp only [Act.put, List.setIfInBounds_toArray, List.set_cons_zero, List.set_cons_succ]
  (refine plan_pure ?_ rfl rfl (fun w' => ?_) ?_; rotate_left; (go_simp; try with_reducible rfl); simp only [Act.put, List.setIfInBounds_toArray, List.set_cons_zero, List.set_cons_succ])
  refine plan_nil ?_
  intro w2 L
  simp only [List.drop_succ_cons, List.drop_zero]
  try simp only [Act.put, List.setIfInBounds_toArray, List.set_cons_zero, List.set_cons_succ]
  have o2 := L.2
  clear L X o
  go_wp2
  go_ret
  exact ⟨ret_i64 E.out.symm, o2⟩
set_option maxRecDepth 100000 in
set_option maxHeartbeats 8000000 in
theorem pvalS_c (A : Option Addr) (m c : Nat) (l : List Mk) (agg wd k cap now seq : Int) (w : World) (hin : MIn A m c l w) (sB : I64 seq) (hG : smGood agg wd k cap now) (hV : mvalid l seq cap now wd (leastV agg)) : Calls Try.prog 12 #[.agg #[.int .i64 agg, .int .i64 wd, .int .i64 k, .int .i64 cap, .int .i64 now, .int .i64 seq, .slice A m c]] w fun e w' => e = .returned (.int .i64 (smvalE agg wd k cap now seq l)) ∧ Below w.heap.size w w' := by
  have HG := Lib.hid hG
  have HV := Lib.hid hV
  have HR := Lib.hid hin
  have HL := Lib.hid hin.len
  have mB := hin.max
  have PG := fun w => pgoodS agg wd k cap now w
  rw [decide_eq_true hG] at PG
  replace PG := Lib.hid PG
  obtain ⟨⟨a0, a1⟩, d0, d1, k0, k1, c0, c1, n0, n1⟩ := hG
  have PL := fun w => pleast agg w
  have PV := fun w' (hb : Below w.heap.size w w') => pmvalid A m c l seq cap now wd (leastV agg) w' (hin.below hb) sB c0 c1 n0 n1 d0 d1 (leastV_ge agg)
  rw [decide_eq_true hV] at PV
  generalize leastV agg = least at PL PV
  replace PL := Lib.hid PL
  replace PV := Lib.hid PV
  clear hV hin sB
  go_enter Try.func12, Try.ntmps12
  go_upto_region 1 with (fail)
  have X : Row (w.alloc (.cells #[.int .i64 agg, .int .i64 wd, .int .i64 k, .int .i64 cap, .int .i64 now, .int .i64 seq, .slice A m c] 24)) w.heap.size 24 #[.int .i64 agg, .int .i64 wd, .int .i64 k, .int .i64 cap, .int .i64 now, .int .i64 seq, .slice A m c] := row_new rfl
  have o : Below w.heap.size w (w.alloc (.cells #[.int .i64 agg, .int .i64 wd, .int .i64 k, .int .i64 cap, .int .i64 now, .int .i64 seq, .slice A m c] 24)) := by (repeat (first | exact Below.refl _ _ | refine Below.setCell ?_ (by first | (simp; done) | (simp; omega) | omega) _ | refine Below.alloc ?_ (by first | (simp; done) | (simp; omega) | omega) _ | refine Below.drew ?_ | refine Below.trans ?_ (Below.mono (by assumption) (by first | (simp; done) | (simp; omega) | omega))))
  generalize (w.alloc (.cells #[.int .i64 agg, .int .i64 wd, .int .i64 k, .int .i64 cap, .int .i64 now, .int .i64 seq, .slice A m c] 24)) = w1 at X o ⊢
  refine wp_region_free0 [0, 1, 2, 3, 4, 5, 6, 7, 8, 9, 10, 11, 12, 13, 14, 15, 16, 17, 18, 19, 20, 21, 22, 23, 24, 25, 26, 27] [] [0, 1, 2, 3, 4, 5, 6, 7, 8, 9, 10, 11, 12, 13, 14, 15, 16, 17, 18, 19, 20, 21, 22, 23, 24, 25, 26, 27] 28 (fun w' => Row w' (w.heap.size) 24 #[.int .i64 agg, .int .i64 wd, .int .i64 k, .int .i64 cap, .int .i64 now, .int .i64 seq, .slice A m c] ∧ Below w.heap.size w w') (by kernel_rfl) (by kernel_rfl) (fun _ _ d _ _ h => by cases d <;> exact h) ?_ ?_
  · exact ⟨X, o.drew⟩
  (refine plan_pure ?_ rfl rfl (fun w' => ?_) ?_; rotate_left; (go_simp; try with_reducible rfl); simp only [Act.put, List.setIfInBounds_toArray, List.set_cons_zero, List.set_cons_succ])
  (refine plan_val ?_ rfl rfl rfl (fun w' hS => ?_) ?_; rotate_left; (obtain ⟨X0, X1, X2, X3, X4, X5, X6, Xf0, Xf1, Xf2, Xf3, Xf4, Xf5, Xf6⟩ := row_seven hS.1; go_simp; try with_reducible rfl); simp only [Act.put, List.setIfInBounds_toArray, List.set_cons_zero, List.set_cons_succ])
  (refine plan_pure ?_ rfl rfl (fun w' => ?_) ?_; rotate_left; (go_simp; try with_reducible rfl); simp only [Act.put, List.setIfInBounds_toArray, List.set_cons_zero, List.set_cons_succ])
  (refine plan_val ?_ rfl rfl rfl (fun w' hS => ?_) ?_; rotate_left; (obtain ⟨X0, X1, X2, X3, X4, X5, X6, Xf0, Xf1, Xf2, Xf3, Xf4, Xf5, Xf6⟩ := row_seven hS.1; go_simp; try with_reducible rfl); simp only [Act.put, List.setIfInBounds_toArray, List.set_cons_zero, List.set_cons_succ])
  (refine plan_pure ?_ rfl rfl (fun w' => ?_) ?_; rotate_left; (go_simp; try with_reducible rfl); simp only [Act.put, List.setIfInBounds_toArray, List.set_cons_zero, List.set_cons_succ])
  (refine plan_val ?_ rfl rfl rfl (fun w' hS => ?_) ?_; rotate_left; (obtain ⟨X0, X1, X2, X3, X4, X5, X6, Xf0, Xf1, Xf2, Xf3, Xf4, Xf5, Xf6⟩ := row_seven hS.1; go_simp; try with_reducible rfl); simp only [Act.put, List.setIfInBounds_toArray, List.set_cons_zero, List.set_cons_succ])
  (refine plan_pure ?_ rfl rfl (fun w' => ?_) ?_; rotate_left; (go_simp; try with_reducible rfl); simp only [Act.put, List.setIfInBounds_toArray, List.set_cons_zero, List.set_cons_succ])
  (refine plan_val ?_ rfl rfl rfl (fun w' hS => ?_) ?_; rotate_left; (obtain ⟨X0, X1, X2, X3, X4, X5, X6, Xf0, Xf1, Xf2, Xf3, Xf4, Xf5, Xf6⟩ := row_seven hS.1; go_simp; try with_reducible rfl); simp only [Act.put, List.setIfInBounds_toArray, List.set_cons_zero, List.set_cons_succ])
  (refine plan_pure ?_ rfl rfl (fun w' => ?_) ?_; rotate_left; (go_simp; try with_reducible rfl); simp only [Act.put, List.setIfInBounds_toArray, List.set_cons_zero, List.set_cons_succ])
  (refine plan_val ?_ rfl rfl rfl (fun w' hS => ?_) ?_; rotate_left; (obtain ⟨X0, X1, X2, X3, X4, X5, X6, Xf0, Xf1, Xf2, Xf3, Xf4, Xf5, Xf6⟩ := row_seven hS.1; go_simp; try with_reducible rfl); simp only [Act.put, List.setIfInBounds_toArray, List.set_cons_zero, List.set_cons_succ])
  refine plan_call (.bool true) 36 #[.int .i64 agg, .int .i64 wd, .int .i64 k, .int .i64 cap, .int .i64 now] rfl rfl rfl (fun _ _ h hb => ⟨row_call h.1 hb, h.2.trans (hb.mono h.2.size)⟩) (fun w' hS => by obtain ⟨X0, X1, X2, X3, X4, X5, X6, Xf0, Xf1, Xf2, Xf3, Xf4, Xf5, Xf6⟩ := row_seven hS.1; go_simp) (fun w' hS => below_of_same (PG.out w')) ?_
  simp only [Act.put, List.setIfInBounds_toArray, List.set_cons_zero, List.set_cons_succ]
  (refine plan_pure ?_ rfl rfl (fun w' => ?_) ?_; rotate_left; (go_simp; try with_reducible rfl); simp only [Act.put, List.setIfInBounds_toArray, List.set_cons_zero, List.set_cons_succ])
  (refine plan_pure ?_ rfl rfl (fun w' => ?_) ?_; rotate_left; (go_simp; try with_reducible rfl); simp only [Act.put, List.setIfInBounds_toArray, List.set_cons_zero, List.set_cons_succ])
  (refine plan_pure ?_ rfl rfl (fun w' => ?_) ?_; rotate_left; (go_simp; try with_reducible rfl); simp only [Act.put, List.setIfInBounds_toArray, List.set_cons_zero, List.set_cons_succ])
  (refine plan_val ?_ rfl rfl rfl (fun w' hS => ?_) ?_; rotate_left; (obtain ⟨X0, X1, X2, X3, X4, X5, X6, Xf0, Xf1, Xf2, Xf3, Xf4, Xf5, Xf6⟩ := row_seven hS.1; go_simp; try with_reducible rfl); simp only [Act.put, List.setIfInBounds_toArray, List.set_cons_zero, List.set_cons_succ])
  (refine plan_pure ?_ rfl rfl (fun w' => ?_) ?_; rotate_left; (go_simp; try with_reducible rfl); simp only [Act.put, List.setIfInBounds_toArray, List.set_cons_zero, List.set_cons_succ])
  (refine plan_val ?_ rfl rfl rfl (fun w' hS => ?_) ?_; rotate_left; (obtain ⟨X0, X1, X2, X3, X4, X5, X6, Xf0, Xf1, Xf2, Xf3, Xf4, Xf5, Xf6⟩ := row_seven hS.1; go_simp; try with_reducible rfl); simp only [Act.put, List.setIfInBounds_toArray, List.set_cons_zero, List.set_cons_succ])
  (refine plan_pure ?_ rfl rfl (fun w' => ?_) ?_; rotate_left; (go_simp; try with_reducible rfl); simp only [Act.put, List.setIfInBounds_toArray, List.set_cons_zero, List.set_cons_succ])
  (refine plan_val ?_ rfl rfl rfl (fun w' hS => ?_) ?_; rotate_left; (obtain ⟨X0, X1, X2, X3, X4, X5, X6, Xf0, Xf1, Xf2, Xf3, Xf4, Xf5, Xf6⟩ := row_seven hS.1; go_simp; try with_reducible rfl); simp only [Act.put, List.setIfInBounds_toArray, List.set_cons_zero, List.set_cons_succ])
  (refine plan_pure ?_ rfl rfl (fun w' => ?_) ?_; rotate_left; (go_simp; try with_reducible rfl); simp only [Act.put, List.setIfInBounds_toArray, List.set_cons_zero, List.set_cons_succ])
  (refine plan_val ?_ rfl rfl rfl (fun w' hS => ?_) ?_; rotate_left; (obtain ⟨X0, X1, X2, X3, X4, X5, X6, Xf0, Xf1, Xf2, Xf3, Xf4, Xf5, Xf6⟩ := row_seven hS.1; go_simp; try with_reducible rfl); simp only [Act.put, List.setIfInBounds_toArray, List.set_cons_zero, List.set_cons_succ])
  (refine plan_pure ?_ rfl rfl (fun w' => ?_) ?_; rotate_left; (go_simp; try with_reducible rfl); simp only [Act.put, List.setIfInBounds_toArray, List.set_cons_zero, List.set_cons_succ])
  (refine plan_val ?_ rfl rfl rfl (fun w' hS => ?_) ?_; rotate_left; (obtain ⟨X0, X1, X2, X3, X4, X5, X6, Xf0, Xf1, Xf2, Xf3, Xf4, Xf5, Xf6⟩ := row_seven hS.1; go_simp; try with_reducible rfl); simp only [Act.put, List.setIfInBounds_toArray, List.set_cons_zero, List.set_cons_succ])
  (refine plan_pure ?_ rfl rfl (fun w' => ?_) ?_; rotate_left; (go_simp; try with_reducible rfl); simp only [Act.put, List.setIfInBounds_toArray, List.set_cons_zero, List.set_cons_succ])
  (refine plan_val ?_ rfl rfl rfl (fun w' hS => ?_) ?_; rotate_left; (obtain ⟨X0, X1, X2, X3, X4, X5, X6, Xf0, Xf1, Xf2, Xf3, Xf4, Xf5, Xf6⟩ := row_seven hS.1; go_simp; try with_reducible rfl); simp only [Act.put, List.setIfInBounds_toArray, List.set_cons_zero, List.set_cons_succ])
  refine plan_call (.int .i64 least) 38 #[.int .i64 agg] rfl rfl rfl (fun _ _ h hb => ⟨row_call h.1 hb, h.2.trans (hb.mono h.2.size)⟩) (fun w' hS => by obtain ⟨X0, X1, X2, X3, X4, X5, X6, Xf0, Xf1, Xf2, Xf3, Xf4, Xf5, Xf6⟩ := row_seven hS.1; go_simp) (fun w' hS => below_of_same (PL.out w')) ?_
  simp only [Act.put, List.setIfInBounds_toArray, List.set_cons_zero, List.set_cons_succ]
  refine plan_call (.bool true) 37 #[.slice A m c, .int .i64 seq, .int .i64 cap, .int .i64 now, .int .i64 wd, .int .i64 least] rfl rfl rfl (fun _ _ h hb => ⟨row_call h.1 hb, h.2.trans (hb.mono h.2.size)⟩) (fun w' hS => by obtain ⟨X0, X1, X2, X3, X4, X5, X6, Xf0, Xf1, Xf2, Xf3, Xf4, Xf5, Xf6⟩ := row_seven hS.1; go_simp) (fun w' hS => PV.out w' (hS.2)) ?_
  simp only [Act.put, List.setIfInBounds_toArray, List.set_cons_zero, List.set_cons_succ]
  (refine plan_pure ?_ rfl rfl (fun w' => ?_) ?_; rotate_left; (go_simp; try with_reducible rfl); simp only [Act.put, List.setIfInBounds_toArray, List.set_cons_zero, List.set_cons_succ])
  refine plan_nil ?_
  intro w2 L
  simp only [List.drop_succ_cons, List.drop_zero]
  try simp only [Act.put, List.setIfInBounds_toArray, List.set_cons_zero, List.set_cons_succ]
  obtain ⟨X, o⟩ := L
  obtain ⟨xb, hxb⟩ : ∃ x, x = w.heap.size := ⟨_, rfl⟩
  have zx : w.heap.size ≤ xb := by omega
  rw [← hxb] at X ⊢
  clear hxb
  obtain ⟨X0, X1, X2, X3, X4, X5, X6, Xf0, Xf1, Xf2, Xf3, Xf4, Xf5, Xf6⟩ := row_seven X
  go_wp2
  go_loopw [37] (fun i wr => ∃ j : Nat, j ≤ m ∧ i = .int .i64 (j : Nat) ∧ RowKit.Hid (∀ e, e < j → smAt agg k l e) ∧ Row wr xb 24 #[.int .i64 agg, .int .i64 wd, .int .i64 k, .int .i64 cap, .int .i64 now, .int .i64 seq, .slice A m c] ∧ Below w.heap.size w wr) (fun i _ => m - (intOf i).toNat)
  case atStart => exact ⟨0, by omega, rfl, Lib.hid (fun e h => absurd h (by omega)), X, o⟩
  case round =>
    obtain ⟨j, hj, rfl, HA, X, o⟩ := hrel
    by_cases hlt : j < m
    · skip
      obtain ⟨ad, rfl, hadb, ht0⟩ := HR.out.reads.mk hlt
      have hM0 := HR.out.mB j
      have hG0 := ofV_bound (HV.out.2.2.1 j (by rw [HL.out]; exact hlt)).1 c1
      generalize hO0 : mkAt l j = mj at ht0 hM0 hG0
      have HO0 := Lib.hid hO0
      obtain ⟨sq, tk, n, s, q, lo, hi⟩ := mj
      obtain ⟨q0, q1, q2, q3, q4, q5, q6⟩ := ht0.below o (by rw [block_of_add]; exact hadb)
      dsimp only at q0 q1 q2 q3 q4 q5 q6
      clear hO0 ht0
      have i1 : (j : Int) < (m : Int) := by omega
      have i2 : (0 : Int) ≤ (j : Int) := by omega
      go_upto_region 6 with (fail)
      have K : Row (wr.alloc (.cells #[.int .i64 sq, .int .i64 tk, .int .i64 n, .int .i64 s, .int .i64 q, .int .i64 lo, .int .i64 hi] 43)) wr.heap.size 43 #[.int .i64 sq, .int .i64 tk, .int .i64 n, .int .i64 s, .int .i64 q, .int .i64 lo, .int .i64 hi] := row_new rfl
      have z0 := o.size
      replace X := row_alloc X (.cells #[.int .i64 sq, .int .i64 tk, .int .i64 n, .int .i64 s, .int .i64 q, .int .i64 lo, .int .i64 hi] 43)
      replace o := o.alloc o.size (.cells #[.int .i64 sq, .int .i64 tk, .int .i64 n, .int .i64 s, .int .i64 q, .int .i64 lo, .int .i64 hi] 43)
      generalize (wr.alloc (.cells #[.int .i64 sq, .int .i64 tk, .int .i64 n, .int .i64 s, .int .i64 q, .int .i64 lo, .int .i64 hi] 43)) = w3 at K X o ⊢
      generalize wr.heap.size = mb at K z0 ⊢
      clear q0 q1 q2 q3 q4 q5 q6
      by_cases j2 : 2 ≤ j
      · skip
        obtain ⟨adz, eaz, _, htz⟩ := HR.out.reads.mk (i := (j - 2)) (by omega)
        obtain rfl : ad = adz := by injection eaz
        have hMz := HR.out.mB (j - 2)
        have hGz := ofV_bound (HV.out.2.2.1 (j - 2) (by rw [HL.out]; omega)).1 c1
        generalize hOz : mkAt l (j - 2) = mz at htz hMz hGz
        have PN := fun w => pnear agg k mz ⟨sq, tk, n, s, q, lo, hi⟩ w k0 k1 hMz hM0 hGz.1 hGz.2 hG0.1 hG0.2
        obtain ⟨nv, hnv⟩ : ∃ b, nearB agg k mz ⟨sq, tk, n, s, q, lo, hi⟩ = b := ⟨_, rfl⟩
        rw [hnv] at PN
        have HNV := Lib.hid hnv
        clear hnv
        have HOz := Lib.hid hOz
        obtain ⟨zsq, ztk, zn, zs, zq, zlo, zhi⟩ := mz
        have HTz := Lib.hid htz
        replace PN := Lib.hid PN
        clear hOz htz eaz hMz hGz
        have g2 : (2 : Int) ≤ (j : Int) := by omega
        have g2d : decide ((2 : Int) ≤ (j : Int)) = true := decide_eq_true g2
        obtain ⟨p, hp⟩ : ∃ p : Nat, j = p + 2 := ⟨j - 2, by omega⟩
        have wj : IntKind.i64.wrap ((j : Int) - 2) = (p : Int) := by rw [IntWalk.i64_in _ (by omega)]; omega
        have p1 : (p : Int) < (m : Int) := by omega
        have p0 : (0 : Int) ≤ (p : Int) := by omega
        have HTz : RowKit.Hid (MkCells w (ad.add (p * 7)) ⟨zsq, ztk, zn, zs, zq, zlo, zhi⟩) := by rw [show p = j - 2 by omega]; exact HTz
        clear hp
        cases nv
        · skip
          refine wp_region_free0 [0, 1, 2, 3, 4, 5, 6, 7, 8, 9, 10, 11, 12, 13, 14] [] [0, 1, 2, 3, 4, 5, 6, 7, 8, 9, 10, 11, 12, 13, 14] 15 (fun w' => Row w' (xb) 24 #[.int .i64 agg, .int .i64 wd, .int .i64 k, .int .i64 cap, .int .i64 now, .int .i64 seq, .slice (some ad) m c] ∧ Row w' (mb) 43 #[.int .i64 sq, .int .i64 tk, .int .i64 n, .int .i64 s, .int .i64 q, .int .i64 lo, .int .i64 hi] ∧ Below w.heap.size w w') (by kernel_rfl) (by kernel_rfl) (fun _ _ d _ _ h => by cases d <;> exact h) ?_ ?_
          · exact ⟨X, K, o.drew⟩
          (refine plan_pure ?_ rfl rfl (fun w' => ?_) ?_; rotate_left; (go_simp; try with_reducible rfl); simp only [Act.put, List.setIfInBounds_toArray, List.set_cons_zero, List.set_cons_succ])
          (refine plan_pure ?_ rfl rfl (fun w' => ?_) ?_; rotate_left; (go_simp; try with_reducible rfl); simp only [Act.put, List.setIfInBounds_toArray, List.set_cons_zero, List.set_cons_succ])
          (refine plan_pure ?_ rfl rfl (fun w' => ?_) ?_; rotate_left; (go_simp; try with_reducible rfl); simp only [Act.put, List.setIfInBounds_toArray, List.set_cons_zero, List.set_cons_succ])
          (refine plan_pure ?_ rfl rfl (fun w' => ?_) ?_; rotate_left; (go_simp; try with_reducible rfl); simp only [Act.put, List.setIfInBounds_toArray, List.set_cons_zero, List.set_cons_succ])
          (refine plan_val ?_ rfl rfl rfl (fun w' hS => ?_) ?_; rotate_left; (obtain ⟨X0, X1, X2, X3, X4, X5, X6, Xf0, Xf1, Xf2, Xf3, Xf4, Xf5, Xf6⟩ := row_seven hS.1; obtain ⟨K0, K1, K2, K3, K4, K5, K6, Kf0, Kf1, Kf2, Kf3, Kf4, Kf5, Kf6⟩ := row_seven hS.2.1; obtain ⟨q0, q1, q2, q3, q4, q5, q6⟩ := HTz.out.below hS.2.2 (by rw [block_of_add]; exact hadb); dsimp only at q0 q1 q2 q3 q4 q5 q6; go_simp; try with_reducible rfl); simp only [Act.put, List.setIfInBounds_toArray, List.set_cons_zero, List.set_cons_succ])
          (refine plan_pure ?_ rfl rfl (fun w' => ?_) ?_; rotate_left; (go_simp; try with_reducible rfl); simp only [Act.put, List.setIfInBounds_toArray, List.set_cons_zero, List.set_cons_succ])
          (refine plan_pure ?_ rfl rfl (fun w' => ?_) ?_; rotate_left; (go_simp; try with_reducible rfl); simp only [Act.put, List.setIfInBounds_toArray, List.set_cons_zero, List.set_cons_succ])
          (refine plan_pure ?_ rfl rfl (fun w' => ?_) ?_; rotate_left; (go_simp; try with_reducible rfl); simp only [Act.put, List.setIfInBounds_toArray, List.set_cons_zero, List.set_cons_succ])
          (refine plan_val ?_ rfl rfl rfl (fun w' hS => ?_) ?_; rotate_left; (obtain ⟨X0, X1, X2, X3, X4, X5, X6, Xf0, Xf1, Xf2, Xf3, Xf4, Xf5, Xf6⟩ := row_seven hS.1; obtain ⟨K0, K1, K2, K3, K4, K5, K6, Kf0, Kf1, Kf2, Kf3, Kf4, Kf5, Kf6⟩ := row_seven hS.2.1; obtain ⟨q0, q1, q2, q3, q4, q5, q6⟩ := HTz.out.below hS.2.2 (by rw [block_of_add]; exact hadb); dsimp only at q0 q1 q2 q3 q4 q5 q6; go_simp; try with_reducible rfl); simp only [Act.put, List.setIfInBounds_toArray, List.set_cons_zero, List.set_cons_succ])
          (refine plan_val ?_ rfl rfl rfl (fun w' hS => ?_) ?_; rotate_left; (obtain ⟨X0, X1, X2, X3, X4, X5, X6, Xf0, Xf1, Xf2, Xf3, Xf4, Xf5, Xf6⟩ := row_seven hS.1; obtain ⟨K0, K1, K2, K3, K4, K5, K6, Kf0, Kf1, Kf2, Kf3, Kf4, Kf5, Kf6⟩ := row_seven hS.2.1; obtain ⟨q0, q1, q2, q3, q4, q5, q6⟩ := HTz.out.below hS.2.2 (by rw [block_of_add]; exact hadb); dsimp only at q0 q1 q2 q3 q4 q5 q6; go_simp; try with_reducible rfl); simp only [Act.put, List.setIfInBounds_toArray, List.set_cons_zero, List.set_cons_succ])
          (refine plan_pure ?_ rfl rfl (fun w' => ?_) ?_; rotate_left; (go_simp; try with_reducible rfl); simp only [Act.put, List.setIfInBounds_toArray, List.set_cons_zero, List.set_cons_succ])
          (refine plan_val ?_ rfl rfl rfl (fun w' hS => ?_) ?_; rotate_left; (obtain ⟨X0, X1, X2, X3, X4, X5, X6, Xf0, Xf1, Xf2, Xf3, Xf4, Xf5, Xf6⟩ := row_seven hS.1; obtain ⟨K0, K1, K2, K3, K4, K5, K6, Kf0, Kf1, Kf2, Kf3, Kf4, Kf5, Kf6⟩ := row_seven hS.2.1; obtain ⟨q0, q1, q2, q3, q4, q5, q6⟩ := HTz.out.below hS.2.2 (by rw [block_of_add]; exact hadb); dsimp only at q0 q1 q2 q3 q4 q5 q6; go_simp; try with_reducible rfl); simp only [Act.put, List.setIfInBounds_toArray, List.set_cons_zero, List.set_cons_succ])
          (refine plan_pure ?_ rfl rfl (fun w' => ?_) ?_; rotate_left; (go_simp; try with_reducible rfl); simp only [Act.put, List.setIfInBounds_toArray, List.set_cons_zero, List.set_cons_succ])
          (refine plan_val ?_ rfl rfl rfl (fun w' hS => ?_) ?_; rotate_left; (obtain ⟨X0, X1, X2, X3, X4, X5, X6, Xf0, Xf1, Xf2, Xf3, Xf4, Xf5, Xf6⟩ := row_seven hS.1; obtain ⟨K0, K1, K2, K3, K4, K5, K6, Kf0, Kf1, Kf2, Kf3, Kf4, Kf5, Kf6⟩ := row_seven hS.2.1; obtain ⟨q0, q1, q2, q3, q4, q5, q6⟩ := HTz.out.below hS.2.2 (by rw [block_of_add]; exact hadb); dsimp only at q0 q1 q2 q3 q4 q5 q6; go_simp; try with_reducible rfl); simp only [Act.put, List.setIfInBounds_toArray, List.set_cons_zero, List.set_cons_succ])
          refine plan_call (.bool false) 39 #[.agg #[.int .i64 zsq, .int .i64 ztk, .int .i64 zn, .int .i64 zs, .int .i64 zq, .int .i64 zlo, .int .i64 zhi], .agg #[.int .i64 sq, .int .i64 tk, .int .i64 n, .int .i64 s, .int .i64 q, .int .i64 lo, .int .i64 hi], .int .i64 agg, .int .i64 k] rfl rfl rfl (fun _ _ h hb => ⟨row_call h.1 hb, row_call h.2.1 hb, h.2.2.trans (hb.mono h.2.2.size)⟩) (fun w' hS => by obtain ⟨X0, X1, X2, X3, X4, X5, X6, Xf0, Xf1, Xf2, Xf3, Xf4, Xf5, Xf6⟩ := row_seven hS.1; obtain ⟨K0, K1, K2, K3, K4, K5, K6, Kf0, Kf1, Kf2, Kf3, Kf4, Kf5, Kf6⟩ := row_seven hS.2.1; obtain ⟨q0, q1, q2, q3, q4, q5, q6⟩ := HTz.out.below hS.2.2 (by rw [block_of_add]; exact hadb); dsimp only at q0 q1 q2 q3 q4 q5 q6; go_simp) (fun w' hS => PN.out w') ?_
          simp only [Act.put, List.setIfInBounds_toArray, List.set_cons_zero, List.set_cons_succ]
          refine plan_nil ?_
          intro w4 L
          simp only [List.drop_succ_cons, List.drop_zero]
          try simp only [Act.put, List.setIfInBounds_toArray, List.set_cons_zero, List.set_cons_succ]
          obtain ⟨X, K, o⟩ := L
          have HN := Lib.hid (show ¬ nearP agg k (mkAt l (j - 2)) (mkAt l j) by rw [HOz.out, HO0.out]; exact of_decide_eq_false HNV.out)
          clear PN HNV HTz wj p0 p1
          go_upto_region 8 with (fail)
          have g1 : (1 : Int) ≤ (j : Int) := by omega
          have g1d : decide ((1 : Int) ≤ (j : Int)) = true := decide_eq_true g1
          obtain ⟨ado, eao, _, hto⟩ := HR.out.reads.mk (i := (j - 1)) (by omega)
          obtain rfl : ad = ado := by injection eao
          have hMo := HR.out.mB (j - 1)
          have hGo := ofV_bound (HV.out.2.2.1 (j - 1) (by rw [HL.out]; omega)).1 c1
          generalize hOo : mkAt l (j - 1) = mo at hto hMo hGo
          have PN := fun w => pnear agg k mo ⟨sq, tk, n, s, q, lo, hi⟩ w k0 k1 hMo hM0 hGo.1 hGo.2 hG0.1 hG0.2
          obtain ⟨nv, hnv⟩ : ∃ b, nearB agg k mo ⟨sq, tk, n, s, q, lo, hi⟩ = b := ⟨_, rfl⟩
          rw [hnv] at PN
          have HNV := Lib.hid hnv
          clear hnv
          have HOo := Lib.hid hOo
          obtain ⟨osq, otk, on, os, oq, olo, ohi⟩ := mo
          have HTo := Lib.hid hto
          replace PN := Lib.hid PN
          clear hOo hto eao hMo hGo
          have hB0 := hM0.1
          have HS := Lib.hid (show (mkAt l j).seq - (mkAt l (j - 1)).seq = sq - osq by rw [HO0.out, HOo.out])
          obtain ⟨p, hp⟩ : ∃ p : Nat, j = p + 1 := ⟨j - 1, by omega⟩
          have wj : IntKind.i64.wrap ((j : Int) - 1) = (p : Int) := by rw [IntWalk.i64_in _ (by omega)]; omega
          have p1 : (p : Int) < (m : Int) := by omega
          have p0 : (0 : Int) ≤ (p : Int) := by omega
          have HTo : RowKit.Hid (MkCells w (ad.add (p * 7)) ⟨osq, otk, on, os, oq, olo, ohi⟩) := by rw [show p = j - 1 by omega]; exact HTo
          have S1 := (HV.out.2.2.1 j (by rw [HL.out]; exact hlt)).1
          have S2 := (HV.out.2.2.1 (j - 1) (by rw [HL.out]; omega)).1
          rw [HO0.out] at S1
          rw [HOo.out] at S2
          have ws : IntKind.i64.wrap (sq - osq) = sq - osq := IntWalk.i64_in _ (by have := S1.1; have := S1.2.1; have := S2.1; have := S2.2.1; have := HV.out.2.1; dsimp only at *; omega)
          clear hp S1 S2 hB0
          by_cases gd : 1 < sq - osq
          · cases nv
            · skip
              have gdd : decide (1 < sq - osq) = true := decide_eq_true gd
              refine wp_region_free0 [0, 1, 2, 3, 4, 5, 6, 7, 8, 9, 10, 11, 12, 13, 14, 15, 16, 17, 18, 19, 20, 21, 22, 23, 24, 25, 26, 27, 28] [] [0, 1, 2, 3, 4, 5, 6, 7, 8, 9, 10, 11, 12, 13, 14, 15, 16, 17, 18, 19, 20, 21, 22, 23, 24, 25, 26, 27, 28] 29 (fun w' => Row w' (xb) 24 #[.int .i64 agg, .int .i64 wd, .int .i64 k, .int .i64 cap, .int .i64 now, .int .i64 seq, .slice (some ad) m c] ∧ Row w' (mb) 43 #[.int .i64 sq, .int .i64 tk, .int .i64 n, .int .i64 s, .int .i64 q, .int .i64 lo, .int .i64 hi] ∧ Below w.heap.size w w') (by kernel_rfl) (by kernel_rfl) (fun _ _ d _ _ h => by cases d <;> exact h) ?_ ?_
              · exact ⟨X, K, o.drew⟩
              (refine plan_pure ?_ rfl rfl (fun w' => ?_) ?_; rotate_left; (go_simp; try with_reducible rfl); simp only [Act.put, List.setIfInBounds_toArray, List.set_cons_zero, List.set_cons_succ])
              (refine plan_pure ?_ rfl rfl (fun w' => ?_) ?_; rotate_left; (go_simp; try with_reducible rfl); simp only [Act.put, List.setIfInBounds_toArray, List.set_cons_zero, List.set_cons_succ])
              (refine plan_pure ?_ rfl rfl (fun w' => ?_) ?_; rotate_left; (go_simp; try with_reducible rfl); simp only [Act.put, List.setIfInBounds_toArray, List.set_cons_zero, List.set_cons_succ])
              (refine plan_pure ?_ rfl rfl (fun w' => ?_) ?_; rotate_left; (go_simp; try with_reducible rfl); simp only [Act.put, List.setIfInBounds_toArray, List.set_cons_zero, List.set_cons_succ])
              (refine plan_val ?_ rfl rfl rfl (fun w' hS => ?_) ?_; rotate_left; (obtain ⟨X0, X1, X2, X3, X4, X5, X6, Xf0, Xf1, Xf2, Xf3, Xf4, Xf5, Xf6⟩ := row_seven hS.1; obtain ⟨K0, K1, K2, K3, K4, K5, K6, Kf0, Kf1, Kf2, Kf3, Kf4, Kf5, Kf6⟩ := row_seven hS.2.1; obtain ⟨q0, q1, q2, q3, q4, q5, q6⟩ := HTo.out.below hS.2.2 (by rw [block_of_add]; exact hadb); dsimp only at q0 q1 q2 q3 q4 q5 q6; go_simp; try with_reducible rfl); simp only [Act.put, List.setIfInBounds_toArray, List.set_cons_zero, List.set_cons_succ])
              (refine plan_pure ?_ rfl rfl (fun w' => ?_) ?_; rotate_left; (go_simp; try with_reducible rfl); simp only [Act.put, List.setIfInBounds_toArray, List.set_cons_zero, List.set_cons_succ])
              (refine plan_val ?_ rfl rfl rfl (fun w' hS => ?_) ?_; rotate_left; (obtain ⟨X0, X1, X2, X3, X4, X5, X6, Xf0, Xf1, Xf2, Xf3, Xf4, Xf5, Xf6⟩ := row_seven hS.1; obtain ⟨K0, K1, K2, K3, K4, K5, K6, Kf0, Kf1, Kf2, Kf3, Kf4, Kf5, Kf6⟩ := row_seven hS.2.1; obtain ⟨q0, q1, q2, q3, q4, q5, q6⟩ := HTo.out.below hS.2.2 (by rw [block_of_add]; exact hadb); dsimp only at q0 q1 q2 q3 q4 q5 q6; go_simp; try with_reducible rfl); simp only [Act.put, List.setIfInBounds_toArray, List.set_cons_zero, List.set_cons_succ])
              (refine plan_pure ?_ rfl rfl (fun w' => ?_) ?_; rotate_left; (go_simp; try with_reducible rfl); simp only [Act.put, List.setIfInBounds_toArray, List.set_cons_zero, List.set_cons_succ])
              (refine plan_pure ?_ rfl rfl (fun w' => ?_) ?_; rotate_left; (go_simp; try with_reducible rfl); simp only [Act.put, List.setIfInBounds_toArray, List.set_cons_zero, List.set_cons_succ])
              (refine plan_pure ?_ rfl rfl (fun w' => ?_) ?_; rotate_left; (go_simp; try with_reducible rfl); simp only [Act.put, List.setIfInBounds_toArray, List.set_cons_zero, List.set_cons_succ])
              (refine plan_pure ?_ rfl rfl (fun w' => ?_) ?_; rotate_left; (go_simp; try with_reducible rfl); simp only [Act.put, List.setIfInBounds_toArray, List.set_cons_zero, List.set_cons_succ])
              (refine plan_val ?_ rfl rfl rfl (fun w' hS => ?_) ?_; rotate_left; (obtain ⟨X0, X1, X2, X3, X4, X5, X6, Xf0, Xf1, Xf2, Xf3, Xf4, Xf5, Xf6⟩ := row_seven hS.1; obtain ⟨K0, K1, K2, K3, K4, K5, K6, Kf0, Kf1, Kf2, Kf3, Kf4, Kf5, Kf6⟩ := row_seven hS.2.1; obtain ⟨q0, q1, q2, q3, q4, q5, q6⟩ := HTo.out.below hS.2.2 (by rw [block_of_add]; exact hadb); dsimp only at q0 q1 q2 q3 q4 q5 q6; go_simp; try with_reducible rfl); simp only [Act.put, List.setIfInBounds_toArray, List.set_cons_zero, List.set_cons_succ])
              (refine plan_pure ?_ rfl rfl (fun w' => ?_) ?_; rotate_left; (go_simp; try with_reducible rfl); simp only [Act.put, List.setIfInBounds_toArray, List.set_cons_zero, List.set_cons_succ])
              (refine plan_pure ?_ rfl rfl (fun w' => ?_) ?_; rotate_left; (go_simp; try with_reducible rfl); simp only [Act.put, List.setIfInBounds_toArray, List.set_cons_zero, List.set_cons_succ])
              (refine plan_pure ?_ rfl rfl (fun w' => ?_) ?_; rotate_left; (go_simp; try with_reducible rfl); simp only [Act.put, List.setIfInBounds_toArray, List.set_cons_zero, List.set_cons_succ])
              (refine plan_pure ?_ rfl rfl (fun w' => ?_) ?_; rotate_left; (go_simp; try with_reducible rfl); simp only [Act.put, List.setIfInBounds_toArray, List.set_cons_zero, List.set_cons_succ])
              (refine plan_pure ?_ rfl rfl (fun w' => ?_) ?_; rotate_left; (go_simp; try with_reducible rfl); simp only [Act.put, List.setIfInBounds_toArray, List.set_cons_zero, List.set_cons_succ])
              (refine plan_val ?_ rfl rfl rfl (fun w' hS => ?_) ?_; rotate_left; (obtain ⟨X0, X1, X2, X3, X4, X5, X6, Xf0, Xf1, Xf2, Xf3, Xf4, Xf5, Xf6⟩ := row_seven hS.1; obtain ⟨K0, K1, K2, K3, K4, K5, K6, Kf0, Kf1, Kf2, Kf3, Kf4, Kf5, Kf6⟩ := row_seven hS.2.1; obtain ⟨q0, q1, q2, q3, q4, q5, q6⟩ := HTo.out.below hS.2.2 (by rw [block_of_add]; exact hadb); dsimp only at q0 q1 q2 q3 q4 q5 q6; go_simp; try with_reducible rfl); simp only [Act.put, List.setIfInBounds_toArray, List.set_cons_zero, List.set_cons_succ])
              (refine plan_pure ?_ rfl rfl (fun w' => ?_) ?_; rotate_left; (go_simp; try with_reducible rfl); simp only [Act.put, List.setIfInBounds_toArray, List.set_cons_zero, List.set_cons_succ])
              (refine plan_pure ?_ rfl rfl (fun w' => ?_) ?_; rotate_left; (go_simp; try with_reducible rfl); simp only [Act.put, List.setIfInBounds_toArray, List.set_cons_zero, List.set_cons_succ])
              (refine plan_pure ?_ rfl rfl (fun w' => ?_) ?_; rotate_left; (go_simp; try with_reducible rfl); simp only [Act.put, List.setIfInBounds_toArray, List.set_cons_zero, List.set_cons_succ])
              (refine plan_val ?_ rfl rfl rfl (fun w' hS => ?_) ?_; rotate_left; (obtain ⟨X0, X1, X2, X3, X4, X5, X6, Xf0, Xf1, Xf2, Xf3, Xf4, Xf5, Xf6⟩ := row_seven hS.1; obtain ⟨K0, K1, K2, K3, K4, K5, K6, Kf0, Kf1, Kf2, Kf3, Kf4, Kf5, Kf6⟩ := row_seven hS.2.1; obtain ⟨q0, q1, q2, q3, q4, q5, q6⟩ := HTo.out.below hS.2.2 (by rw [block_of_add]; exact hadb); dsimp only at q0 q1 q2 q3 q4 q5 q6; go_simp; try with_reducible rfl); simp only [Act.put, List.setIfInBounds_toArray, List.set_cons_zero, List.set_cons_succ])
              (refine plan_val ?_ rfl rfl rfl (fun w' hS => ?_) ?_; rotate_left; (obtain ⟨X0, X1, X2, X3, X4, X5, X6, Xf0, Xf1, Xf2, Xf3, Xf4, Xf5, Xf6⟩ := row_seven hS.1; obtain ⟨K0, K1, K2, K3, K4, K5, K6, Kf0, Kf1, Kf2, Kf3, Kf4, Kf5, Kf6⟩ := row_seven hS.2.1; obtain ⟨q0, q1, q2, q3, q4, q5, q6⟩ := HTo.out.below hS.2.2 (by rw [block_of_add]; exact hadb); dsimp only at q0 q1 q2 q3 q4 q5 q6; go_simp; try with_reducible rfl); simp only [Act.put, List.setIfInBounds_toArray, List.set_cons_zero, List.set_cons_succ])
              (refine plan_pure ?_ rfl rfl (fun w' => ?_) ?_; rotate_left; (go_simp; try with_reducible rfl); simp only [Act.put, List.setIfInBounds_toArray, List.set_cons_zero, List.set_cons_succ])
              (refine plan_val ?_ rfl rfl rfl (fun w' hS => ?_) ?_; rotate_left; (obtain ⟨X0, X1, X2, X3, X4, X5, X6, Xf0, Xf1, Xf2, Xf3, Xf4, Xf5, Xf6⟩ := row_seven hS.1; obtain ⟨K0, K1, K2, K3, K4, K5, K6, Kf0, Kf1, Kf2, Kf3, Kf4, Kf5, Kf6⟩ := row_seven hS.2.1; obtain ⟨q0, q1, q2, q3, q4, q5, q6⟩ := HTo.out.below hS.2.2 (by rw [block_of_add]; exact hadb); dsimp only at q0 q1 q2 q3 q4 q5 q6; go_simp; try with_reducible rfl); simp only [Act.put, List.setIfInBounds_toArray, List.set_cons_zero, List.set_cons_succ])
              (refine plan_pure ?_ rfl rfl (fun w' => ?_) ?_; rotate_left; (go_simp; try with_reducible rfl); simp only [Act.put, List.setIfInBounds_toArray, List.set_cons_zero, List.set_cons_succ])
              (refine plan_val ?_ rfl rfl rfl (fun w' hS => ?_) ?_; rotate_left; (obtain ⟨X0, X1, X2, X3, X4, X5, X6, Xf0, Xf1, Xf2, Xf3, Xf4, Xf5, Xf6⟩ := row_seven hS.1; obtain ⟨K0, K1, K2, K3, K4, K5, K6, Kf0, Kf1, Kf2, Kf3, Kf4, Kf5, Kf6⟩ := row_seven hS.2.1; obtain ⟨q0, q1, q2, q3, q4, q5, q6⟩ := HTo.out.below hS.2.2 (by rw [block_of_add]; exact hadb); dsimp only at q0 q1 q2 q3 q4 q5 q6; go_simp; try with_reducible rfl); simp only [Act.put, List.setIfInBounds_toArray, List.set_cons_zero, List.set_cons_succ])
              refine plan_call (.bool false) 39 #[.agg #[.int .i64 osq, .int .i64 otk, .int .i64 on, .int .i64 os, .int .i64 oq, .int .i64 olo, .int .i64 ohi], .agg #[.int .i64 sq, .int .i64 tk, .int .i64 n, .int .i64 s, .int .i64 q, .int .i64 lo, .int .i64 hi], .int .i64 agg, .int .i64 k] rfl rfl rfl (fun _ _ h hb => ⟨row_call h.1 hb, row_call h.2.1 hb, h.2.2.trans (hb.mono h.2.2.size)⟩) (fun w' hS => by obtain ⟨X0, X1, X2, X3, X4, X5, X6, Xf0, Xf1, Xf2, Xf3, Xf4, Xf5, Xf6⟩ := row_seven hS.1; obtain ⟨K0, K1, K2, K3, K4, K5, K6, Kf0, Kf1, Kf2, Kf3, Kf4, Kf5, Kf6⟩ := row_seven hS.2.1; obtain ⟨q0, q1, q2, q3, q4, q5, q6⟩ := HTo.out.below hS.2.2 (by rw [block_of_add]; exact hadb); dsimp only at q0 q1 q2 q3 q4 q5 q6; go_simp) (fun w' hS => PN.out w') ?_
              simp only [Act.put, List.setIfInBounds_toArray, List.set_cons_zero, List.set_cons_succ]
              (refine plan_pure ?_ rfl rfl (fun w' => ?_) ?_; rotate_left; (go_simp; try with_reducible rfl); simp only [Act.put, List.setIfInBounds_toArray, List.set_cons_zero, List.set_cons_succ])
              refine plan_nil ?_
              intro w5 L
              simp only [List.drop_succ_cons, List.drop_zero]
              try simp only [Act.put, List.setIfInBounds_toArray, List.set_cons_zero, List.set_cons_succ]
              have o2 := L.2.2
              clear L X K o
              have E := Lib.hid (smvalE_no (agg := agg) (wd := wd) (k := k) (cap := cap) (now := now) (seq := seq) (l := l) (fun a => absurd ((a.2.2 j (by rw [HL.out]; exact hlt)).2 (by omega) (by rw [HS.out]; exact gd)) (by rw [HOo.out, HO0.out]; exact of_decide_eq_false HNV.out)))
              go_wp2
              go_ret
              exact ⟨ret_i64 E.out.symm, o2⟩
            · skip
              have gdd : decide (1 < sq - osq) = true := decide_eq_true gd
              refine wp_region_free0 [0, 1, 2, 3, 4, 5, 6, 7, 8, 9, 10, 11, 12, 13, 14, 15, 16, 17, 18, 19, 20, 21, 22, 23, 24, 25, 26, 27, 28] [] [0, 1, 2, 3, 4, 5, 6, 7, 8, 9, 10, 11, 12, 13, 14, 15, 16, 17, 18, 19, 20, 21, 22, 23, 24, 25, 26, 27, 28] 29 (fun w' => Row w' (xb) 24 #[.int .i64 agg, .int .i64 wd, .int .i64 k, .int .i64 cap, .int .i64 now, .int .i64 seq, .slice (some ad) m c] ∧ Row w' (mb) 43 #[.int .i64 sq, .int .i64 tk, .int .i64 n, .int .i64 s, .int .i64 q, .int .i64 lo, .int .i64 hi] ∧ Below w.heap.size w w') (by kernel_rfl) (by kernel_rfl) (fun _ _ d _ _ h => by cases d <;> exact h) ?_ ?_
              · exact ⟨X, K, o.drew⟩
              (refine plan_pure ?_ rfl rfl (fun w' => ?_) ?_; rotate_left; (go_simp; try with_reducible rfl); simp only [Act.put, List.setIfInBounds_toArray, List.set_cons_zero, List.set_cons_succ])
              (refine plan_pure ?_ rfl rfl (fun w' => ?_) ?_; rotate_left; (go_simp; try with_reducible rfl); simp only [Act.put, List.setIfInBounds_toArray, List.set_cons_zero, List.set_cons_succ])
              (refine plan_pure ?_ rfl rfl (fun w' => ?_) ?_; rotate_left; (go_simp; try with_reducible rfl); simp only [Act.put, List.setIfInBounds_toArray, List.set_cons_zero, List.set_cons_succ])
              (refine plan_pure ?_ rfl rfl (fun w' => ?_) ?_; rotate_left; (go_simp; try with_reducible rfl); simp only [Act.put, List.setIfInBounds_toArray, List.set_cons_zero, List.set_cons_succ])
              (refine plan_val ?_ rfl rfl rfl (fun w' hS => ?_) ?_; rotate_left; (obtain ⟨X0, X1, X2, X3, X4, X5, X6, Xf0, Xf1, Xf2, Xf3, Xf4, Xf5, Xf6⟩ := row_seven hS.1; obtain ⟨K0, K1, K2, K3, K4, K5, K6, Kf0, Kf1, Kf2, Kf3, Kf4, Kf5, Kf6⟩ := row_seven hS.2.1; obtain ⟨q0, q1, q2, q3, q4, q5, q6⟩ := HTo.out.below hS.2.2 (by rw [block_of_add]; exact hadb); dsimp only at q0 q1 q2 q3 q4 q5 q6; go_simp; try with_reducible rfl); simp only [Act.put, List.setIfInBounds_toArray, List.set_cons_zero, List.set_cons_succ])
              (refine plan_pure ?_ rfl rfl (fun w' => ?_) ?_; rotate_left; (go_simp; try with_reducible rfl); simp only [Act.put, List.setIfInBounds_toArray, List.set_cons_zero, List.set_cons_succ])
              (refine plan_val ?_ rfl rfl rfl (fun w' hS => ?_) ?_; rotate_left; (obtain ⟨X0, X1, X2, X3, X4, X5, X6, Xf0, Xf1, Xf2, Xf3, Xf4, Xf5, Xf6⟩ := row_seven hS.1; obtain ⟨K0, K1, K2, K3, K4, K5, K6, Kf0, Kf1, Kf2, Kf3, Kf4, Kf5, Kf6⟩ := row_seven hS.2.1; obtain ⟨q0, q1, q2, q3, q4, q5, q6⟩ := HTo.out.below hS.2.2 (by rw [block_of_add]; exact hadb); dsimp only at q0 q1 q2 q3 q4 q5 q6; go_simp; try with_reducible rfl); simp only [Act.put, List.setIfInBounds_toArray, List.set_cons_zero, List.set_cons_succ])
              (refine plan_pure ?_ rfl rfl (fun w' => ?_) ?_; rotate_left; (go_simp; try with_reducible rfl); simp only [Act.put, List.setIfInBounds_toArray, List.set_cons_zero, List.set_cons_succ])
              (refine plan_pure ?_ rfl rfl (fun w' => ?_) ?_; rotate_left; (go_simp; try with_reducible rfl); simp only [Act.put, List.setIfInBounds_toArray, List.set_cons_zero, List.set_cons_succ])
              (refine plan_pure ?_ rfl rfl (fun w' => ?_) ?_; rotate_left; (go_simp; try with_reducible rfl); simp only [Act.put, List.setIfInBounds_toArray, List.set_cons_zero, List.set_cons_succ])
              (refine plan_pure ?_ rfl rfl (fun w' => ?_) ?_; rotate_left; (go_simp; try with_reducible rfl); simp only [Act.put, List.setIfInBounds_toArray, List.set_cons_zero, List.set_cons_succ])
              (refine plan_val ?_ rfl rfl rfl (fun w' hS => ?_) ?_; rotate_left; (obtain ⟨X0, X1, X2, X3, X4, X5, X6, Xf0, Xf1, Xf2, Xf3, Xf4, Xf5, Xf6⟩ := row_seven hS.1; obtain ⟨K0, K1, K2, K3, K4, K5, K6, Kf0, Kf1, Kf2, Kf3, Kf4, Kf5, Kf6⟩ := row_seven hS.2.1; obtain ⟨q0, q1, q2, q3, q4, q5, q6⟩ := HTo.out.below hS.2.2 (by rw [block_of_add]; exact hadb); dsimp only at q0 q1 q2 q3 q4 q5 q6; go_simp; try with_reducible rfl); simp only [Act.put, List.setIfInBounds_toArray, List.set_cons_zero, List.set_cons_succ])
              (refine plan_pure ?_ rfl rfl (fun w' => ?_) ?_; rotate_left; (go_simp; try with_reducible rfl); simp only [Act.put, List.setIfInBounds_toArray, List.set_cons_zero, List.set_cons_succ])
              (refine plan_pure ?_ rfl rfl (fun w' => ?_) ?_; rotate_left; (go_simp; try with_reducible rfl); simp only [Act.put, List.setIfInBounds_toArray, List.set_cons_zero, List.set_cons_succ])
              (refine plan_pure ?_ rfl rfl (fun w' => ?_) ?_; rotate_left; (go_simp; try with_reducible rfl); simp only [Act.put, List.setIfInBounds_toArray, List.set_cons_zero, List.set_cons_succ])
              (refine plan_pure ?_ rfl rfl (fun w' => ?_) ?_; rotate_left; (go_simp; try with_reducible rfl); simp only [Act.put, List.setIfInBounds_toArray, List.set_cons_zero, List.set_cons_succ])
              (refine plan_pure ?_ rfl rfl (fun w' => ?_) ?_; rotate_left; (go_simp; try with_reducible rfl); simp only [Act.put, List.setIfInBounds_toArray, List.set_cons_zero, List.set_cons_succ])
              (refine plan_val ?_ rfl rfl rfl (fun w' hS => ?_) ?_; rotate_left; (obtain ⟨X0, X1, X2, X3, X4, X5, X6, Xf0, Xf1, Xf2, Xf3, Xf4, Xf5, Xf6⟩ := row_seven hS.1; obtain ⟨K0, K1, K2, K3, K4, K5, K6, Kf0, Kf1, Kf2, Kf3, Kf4, Kf5, Kf6⟩ := row_seven hS.2.1; obtain ⟨q0, q1, q2, q3, q4, q5, q6⟩ := HTo.out.below hS.2.2 (by rw [block_of_add]; exact hadb); dsimp only at q0 q1 q2 q3 q4 q5 q6; go_simp; try with_reducible rfl); simp only [Act.put, List.setIfInBounds_toArray, List.set_cons_zero, List.set_cons_succ])
              (refine plan_pure ?_ rfl rfl (fun w' => ?_) ?_; rotate_left; (go_simp; try with_reducible rfl); simp only [Act.put, List.setIfInBounds_toArray, List.set_cons_zero, List.set_cons_succ])
              (refine plan_pure ?_ rfl rfl (fun w' => ?_) ?_; rotate_left; (go_simp; try with_reducible rfl); simp only [Act.put, List.setIfInBounds_toArray, List.set_cons_zero, List.set_cons_succ])
              (refine plan_pure ?_ rfl rfl (fun w' => ?_) ?_; rotate_left; (go_simp; try with_reducible rfl); simp only [Act.put, List.setIfInBounds_toArray, List.set_cons_zero, List.set_cons_succ])
              (refine plan_val ?_ rfl rfl rfl (fun w' hS => ?_) ?_; rotate_left; (obtain ⟨X0, X1, X2, X3, X4, X5, X6, Xf0, Xf1, Xf2, Xf3, Xf4, Xf5, Xf6⟩ := row_seven hS.1; obtain ⟨K0, K1, K2, K3, K4, K5, K6, Kf0, Kf1, Kf2, Kf3, Kf4, Kf5, Kf6⟩ := row_seven hS.2.1; obtain ⟨q0, q1, q2, q3, q4, q5, q6⟩ := HTo.out.below hS.2.2 (by rw [block_of_add]; exact hadb); dsimp only at q0 q1 q2 q3 q4 q5 q6; go_simp; try with_reducible rfl); simp only [Act.put, List.setIfInBounds_toArray, List.set_cons_zero, List.set_cons_succ])
              (refine plan_val ?_ rfl rfl rfl (fun w' hS => ?_) ?_; rotate_left; (obtain ⟨X0, X1, X2, X3, X4, X5, X6, Xf0, Xf1, Xf2, Xf3, Xf4, Xf5, Xf6⟩ := row_seven hS.1; obtain ⟨K0, K1, K2, K3, K4, K5, K6, Kf0, Kf1, Kf2, Kf3, Kf4, Kf5, Kf6⟩ := row_seven hS.2.1; obtain ⟨q0, q1, q2, q3, q4, q5, q6⟩ := HTo.out.below hS.2.2 (by rw [block_of_add]; exact hadb); dsimp only at q0 q1 q2 q3 q4 q5 q6; go_simp; try with_reducible rfl); simp only [Act.put, List.setIfInBounds_toArray, List.set_cons_zero, List.set_cons_succ])
              (refine plan_pure ?_ rfl rfl (fun w' => ?_) ?_; rotate_left; (go_simp; try with_reducible rfl); simp only [Act.put, List.setIfInBounds_toArray, List.set_cons_zero, List.set_cons_succ])
              (refine plan_val ?_ rfl rfl rfl (fun w' hS => ?_) ?_; rotate_left; (obtain ⟨X0, X1, X2, X3, X4, X5, X6, Xf0, Xf1, Xf2, Xf3, Xf4, Xf5, Xf6⟩ := row_seven hS.1; obtain ⟨K0, K1, K2, K3, K4, K5, K6, Kf0, Kf1, Kf2, Kf3, Kf4, Kf5, Kf6⟩ := row_seven hS.2.1; obtain ⟨q0, q1, q2, q3, q4, q5, q6⟩ := HTo.out.below hS.2.2 (by rw [block_of_add]; exact hadb); dsimp only at q0 q1 q2 q3 q4 q5 q6; go_simp; try with_reducible rfl); simp only [Act.put, List.setIfInBounds_toArray, List.set_cons_zero, List.set_cons_succ])
              (refine plan_pure ?_ rfl rfl (fun w' => ?_) ?_; rotate_left; (go_simp; try with_reducible rfl); simp only [Act.put, List.setIfInBounds_toArray, List.set_cons_zero, List.set_cons_succ])
              (refine plan_val ?_ rfl rfl rfl (fun w' hS => ?_) ?_; rotate_left; (obtain ⟨X0, X1, X2, X3, X4, X5, X6, Xf0, Xf1, Xf2, Xf3, Xf4, Xf5, Xf6⟩ := row_seven hS.1; obtain ⟨K0, K1, K2, K3, K4, K5, K6, Kf0, Kf1, Kf2, Kf3, Kf4, Kf5, Kf6⟩ := row_seven hS.2.1; obtain ⟨q0, q1, q2, q3, q4, q5, q6⟩ := HTo.out.below hS.2.2 (by rw [block_of_add]; exact hadb); dsimp only at q0 q1 q2 q3 q4 q5 q6; go_simp; try with_reducible rfl); simp only [Act.put, List.setIfInBounds_toArray, List.set_cons_zero, List.set_cons_succ])
              refine plan_call (.bool true) 39 #[.agg #[.int .i64 osq, .int .i64 otk, .int .i64 on, .int .i64 os, .int .i64 oq, .int .i64 olo, .int .i64 ohi], .agg #[.int .i64 sq, .int .i64 tk, .int .i64 n, .int .i64 s, .int .i64 q, .int .i64 lo, .int .i64 hi], .int .i64 agg, .int .i64 k] rfl rfl rfl (fun _ _ h hb => ⟨row_call h.1 hb, row_call h.2.1 hb, h.2.2.trans (hb.mono h.2.2.size)⟩) (fun w' hS => by obtain ⟨X0, X1, X2, X3, X4, X5, X6, Xf0, Xf1, Xf2, Xf3, Xf4, Xf5, Xf6⟩ := row_seven hS.1; obtain ⟨K0, K1, K2, K3, K4, K5, K6, Kf0, Kf1, Kf2, Kf3, Kf4, Kf5, Kf6⟩ := row_seven hS.2.1; obtain ⟨q0, q1, q2, q3, q4, q5, q6⟩ := HTo.out.below hS.2.2 (by rw [block_of_add]; exact hadb); dsimp only at q0 q1 q2 q3 q4 q5 q6; go_simp) (fun w' hS => PN.out w') ?_
              simp only [Act.put, List.setIfInBounds_toArray, List.set_cons_zero, List.set_cons_succ]
              (refine plan_pure ?_ rfl rfl (fun w' => ?_) ?_; rotate_left; (go_simp; try with_reducible rfl); simp only [Act.put, List.setIfInBounds_toArray, List.set_cons_zero, List.set_cons_succ])
              refine plan_nil ?_
              intro w5 L
              simp only [List.drop_succ_cons, List.drop_zero]
              try simp only [Act.put, List.setIfInBounds_toArray, List.set_cons_zero, List.set_cons_succ]
              obtain ⟨X, K, o⟩ := L
              have HA2 : RowKit.Hid (∀ e, e < j + 1 → smAt agg k l e) := Lib.hid (fun e he => by
                rcases Nat.lt_or_ge e j with g | g
                · exact HA.out e g
                · rw [show e = j by omega]
                  exact ⟨fun _ => HN.out, fun _ _ => by rw [HOo.out, HO0.out]; exact of_decide_eq_true HNV.out⟩)
              go_wp2
              go_roundw
              case rel => exact ⟨j + 1, by omega, (by first | go_num | exact congrArg (Value.int .i64) (by omega)), HA2, X, o⟩
              case measure => simp [intOf]; omega
          · skip
            have gdd : decide (1 < sq - osq) = false := decide_eq_false gd
            refine wp_region_free0 [0, 1, 2, 3, 4, 5, 6, 7, 8, 9, 10, 11, 12, 13, 14, 15, 16, 17, 18, 19, 20, 21, 22, 23, 24, 25, 26, 27, 28] [] [0, 1, 2, 3, 4, 5, 6, 7, 8, 9, 10, 11, 12, 13, 14, 15, 16, 17, 18, 19, 20, 21, 22, 23, 24, 25, 26, 27, 28] 29 (fun w' => Row w' (xb) 24 #[.int .i64 agg, .int .i64 wd, .int .i64 k, .int .i64 cap, .int .i64 now, .int .i64 seq, .slice (some ad) m c] ∧ Row w' (mb) 43 #[.int .i64 sq, .int .i64 tk, .int .i64 n, .int .i64 s, .int .i64 q, .int .i64 lo, .int .i64 hi] ∧ Below w.heap.size w w') (by kernel_rfl) (by kernel_rfl) (fun _ _ d _ _ h => by cases d <;> exact h) ?_ ?_
            · exact ⟨X, K, o.drew⟩
            (refine plan_pure ?_ rfl rfl (fun w' => ?_) ?_; rotate_left; (go_simp; try with_reducible rfl); simp only [Act.put, List.setIfInBounds_toArray, List.set_cons_zero, List.set_cons_succ])
            (refine plan_pure ?_ rfl rfl (fun w' => ?_) ?_; rotate_left; (go_simp; try with_reducible rfl); simp only [Act.put, List.setIfInBounds_toArray, List.set_cons_zero, List.set_cons_succ])
            (refine plan_pure ?_ rfl rfl (fun w' => ?_) ?_; rotate_left; (go_simp; try with_reducible rfl); simp only [Act.put, List.setIfInBounds_toArray, List.set_cons_zero, List.set_cons_succ])
            (refine plan_pure ?_ rfl rfl (fun w' => ?_) ?_; rotate_left; (go_simp; try with_reducible rfl); simp only [Act.put, List.setIfInBounds_toArray, List.set_cons_zero, List.set_cons_succ])
            (refine plan_val ?_ rfl rfl rfl (fun w' hS => ?_) ?_; rotate_left; (obtain ⟨X0, X1, X2, X3, X4, X5, X6, Xf0, Xf1, Xf2, Xf3, Xf4, Xf5, Xf6⟩ := row_seven hS.1; obtain ⟨K0, K1, K2, K3, K4, K5, K6, Kf0, Kf1, Kf2, Kf3, Kf4, Kf5, Kf6⟩ := row_seven hS.2.1; obtain ⟨q0, q1, q2, q3, q4, q5, q6⟩ := HTo.out.below hS.2.2 (by rw [block_of_add]; exact hadb); dsimp only at q0 q1 q2 q3 q4 q5 q6; go_simp; try with_reducible rfl); simp only [Act.put, List.setIfInBounds_toArray, List.set_cons_zero, List.set_cons_succ])
            (refine plan_pure ?_ rfl rfl (fun w' => ?_) ?_; rotate_left; (go_simp; try with_reducible rfl); simp only [Act.put, List.setIfInBounds_toArray, List.set_cons_zero, List.set_cons_succ])
            (refine plan_val ?_ rfl rfl rfl (fun w' hS => ?_) ?_; rotate_left; (obtain ⟨X0, X1, X2, X3, X4, X5, X6, Xf0, Xf1, Xf2, Xf3, Xf4, Xf5, Xf6⟩ := row_seven hS.1; obtain ⟨K0, K1, K2, K3, K4, K5, K6, Kf0, Kf1, Kf2, Kf3, Kf4, Kf5, Kf6⟩ := row_seven hS.2.1; obtain ⟨q0, q1, q2, q3, q4, q5, q6⟩ := HTo.out.below hS.2.2 (by rw [block_of_add]; exact hadb); dsimp only at q0 q1 q2 q3 q4 q5 q6; go_simp; try with_reducible rfl); simp only [Act.put, List.setIfInBounds_toArray, List.set_cons_zero, List.set_cons_succ])
            (refine plan_pure ?_ rfl rfl (fun w' => ?_) ?_; rotate_left; (go_simp; try with_reducible rfl); simp only [Act.put, List.setIfInBounds_toArray, List.set_cons_zero, List.set_cons_succ])
            (refine plan_pure ?_ rfl rfl (fun w' => ?_) ?_; rotate_left; (go_simp; try with_reducible rfl); simp only [Act.put, List.setIfInBounds_toArray, List.set_cons_zero, List.set_cons_succ])
            (refine plan_pure ?_ rfl rfl (fun w' => ?_) ?_; rotate_left; (go_simp; try with_reducible rfl); simp only [Act.put, List.setIfInBounds_toArray, List.set_cons_zero, List.set_cons_succ])
            (refine plan_pure ?_ rfl rfl (fun w' => ?_) ?_; rotate_left; (go_simp; try with_reducible rfl); simp only [Act.put, List.setIfInBounds_toArray, List.set_cons_zero, List.set_cons_succ])
            (refine plan_val ?_ rfl rfl rfl (fun w' hS => ?_) ?_; rotate_left; (obtain ⟨X0, X1, X2, X3, X4, X5, X6, Xf0, Xf1, Xf2, Xf3, Xf4, Xf5, Xf6⟩ := row_seven hS.1; obtain ⟨K0, K1, K2, K3, K4, K5, K6, Kf0, Kf1, Kf2, Kf3, Kf4, Kf5, Kf6⟩ := row_seven hS.2.1; obtain ⟨q0, q1, q2, q3, q4, q5, q6⟩ := HTo.out.below hS.2.2 (by rw [block_of_add]; exact hadb); dsimp only at q0 q1 q2 q3 q4 q5 q6; go_simp; try with_reducible rfl); simp only [Act.put, List.setIfInBounds_toArray, List.set_cons_zero, List.set_cons_succ])
            (refine plan_pure ?_ rfl rfl (fun w' => ?_) ?_; rotate_left; (go_simp; try with_reducible rfl); simp only [Act.put, List.setIfInBounds_toArray, List.set_cons_zero, List.set_cons_succ])
            (refine plan_pure ?_ rfl rfl (fun w' => ?_) ?_; rotate_left; (go_simp; try with_reducible rfl); simp only [Act.put, List.setIfInBounds_toArray, List.set_cons_zero, List.set_cons_succ])
            (refine plan_pure ?_ rfl rfl (fun w' => ?_) ?_; rotate_left; (go_simp; try with_reducible rfl); simp only [Act.put, List.setIfInBounds_toArray, List.set_cons_zero, List.set_cons_succ])
            (refine plan_pure ?_ rfl rfl (fun w' => ?_) ?_; rotate_left; (go_simp; try with_reducible rfl); simp only [Act.put, List.setIfInBounds_toArray, List.set_cons_zero, List.set_cons_succ])
            refine plan_not rfl rfl ?_
            simp only [Act.put, List.setIfInBounds_toArray, List.set_cons_zero, List.set_cons_succ]
            refine plan_not rfl rfl ?_
            simp only [Act.put, List.setIfInBounds_toArray, List.set_cons_zero, List.set_cons_succ]
            refine plan_not rfl rfl ?_
            simp only [Act.put, List.setIfInBounds_toArray, List.set_cons_zero, List.set_cons_succ]
            refine plan_not rfl rfl ?_
            simp only [Act.put, List.setIfInBounds_toArray, List.set_cons_zero, List.set_cons_succ]
            refine plan_not rfl rfl ?_
            simp only [Act.put, List.setIfInBounds_toArray, List.set_cons_zero, List.set_cons_succ]
            refine plan_not rfl rfl ?_
            simp only [Act.put, List.setIfInBounds_toArray, List.set_cons_zero, List.set_cons_succ]
            refine plan_not rfl rfl ?_
            simp only [Act.put, List.setIfInBounds_toArray, List.set_cons_zero, List.set_cons_succ]
            refine plan_not rfl rfl ?_
            simp only [Act.put, List.setIfInBounds_toArray, List.set_cons_zero, List.set_cons_succ]
            refine plan_not rfl rfl ?_
            simp only [Act.put, List.setIfInBounds_toArray, List.set_cons_zero, List.set_cons_succ]
            refine plan_not rfl rfl ?_
            simp only [Act.put, List.setIfInBounds_toArray, List.set_cons_zero, List.set_cons_succ]
            refine plan_not rfl rfl ?_
            simp only [Act.put, List.setIfInBounds_toArray, List.set_cons_zero, List.set_cons_succ]
            refine plan_not rfl rfl ?_
            simp only [Act.put, List.setIfInBounds_toArray, List.set_cons_zero, List.set_cons_succ]
            refine plan_not rfl rfl ?_
            simp only [Act.put, List.setIfInBounds_toArray, List.set_cons_zero, List.set_cons_succ]
            refine plan_nil ?_
            intro w5 L
            simp only [List.drop_succ_cons, List.drop_zero]
            try simp only [Act.put, List.setIfInBounds_toArray, List.set_cons_zero, List.set_cons_succ]
            obtain ⟨X, K, o⟩ := L
            have HA2 : RowKit.Hid (∀ e, e < j + 1 → smAt agg k l e) := Lib.hid (fun e he => by
              rcases Nat.lt_or_ge e j with g | g
              · exact HA.out e g
              · rw [show e = j by omega]
                exact ⟨fun _ => HN.out, fun _ h => absurd (by rw [← HS.out]; exact h) gd⟩)
            go_wp2
            go_roundw
            case rel => exact ⟨j + 1, by omega, (by first | go_num | exact congrArg (Value.int .i64) (by omega)), HA2, X, o⟩
            case measure => simp [intOf]; omega
        · skip
          refine wp_region_free0 [0, 1, 2, 3, 4, 5, 6, 7, 8, 9, 10, 11, 12, 13, 14] [] [0, 1, 2, 3, 4, 5, 6, 7, 8, 9, 10, 11, 12, 13, 14] 15 (fun w' => Row w' (xb) 24 #[.int .i64 agg, .int .i64 wd, .int .i64 k, .int .i64 cap, .int .i64 now, .int .i64 seq, .slice (some ad) m c] ∧ Row w' (mb) 43 #[.int .i64 sq, .int .i64 tk, .int .i64 n, .int .i64 s, .int .i64 q, .int .i64 lo, .int .i64 hi] ∧ Below w.heap.size w w') (by kernel_rfl) (by kernel_rfl) (fun _ _ d _ _ h => by cases d <;> exact h) ?_ ?_
          · exact ⟨X, K, o.drew⟩
          (refine plan_pure ?_ rfl rfl (fun w' => ?_) ?_; rotate_left; (go_simp; try with_reducible rfl); simp only [Act.put, List.setIfInBounds_toArray, List.set_cons_zero, List.set_cons_succ])
          (refine plan_pure ?_ rfl rfl (fun w' => ?_) ?_; rotate_left; (go_simp; try with_reducible rfl); simp only [Act.put, List.setIfInBounds_toArray, List.set_cons_zero, List.set_cons_succ])
          (refine plan_pure ?_ rfl rfl (fun w' => ?_) ?_; rotate_left; (go_simp; try with_reducible rfl); simp only [Act.put, List.setIfInBounds_toArray, List.set_cons_zero, List.set_cons_succ])
          (refine plan_pure ?_ rfl rfl (fun w' => ?_) ?_; rotate_left; (go_simp; try with_reducible rfl); simp only [Act.put, List.setIfInBounds_toArray, List.set_cons_zero, List.set_cons_succ])
          (refine plan_val ?_ rfl rfl rfl (fun w' hS => ?_) ?_; rotate_left; (obtain ⟨X0, X1, X2, X3, X4, X5, X6, Xf0, Xf1, Xf2, Xf3, Xf4, Xf5, Xf6⟩ := row_seven hS.1; obtain ⟨K0, K1, K2, K3, K4, K5, K6, Kf0, Kf1, Kf2, Kf3, Kf4, Kf5, Kf6⟩ := row_seven hS.2.1; obtain ⟨q0, q1, q2, q3, q4, q5, q6⟩ := HTz.out.below hS.2.2 (by rw [block_of_add]; exact hadb); dsimp only at q0 q1 q2 q3 q4 q5 q6; go_simp; try with_reducible rfl); simp only [Act.put, List.setIfInBounds_toArray, List.set_cons_zero, List.set_cons_succ])
          (refine plan_pure ?_ rfl rfl (fun w' => ?_) ?_; rotate_left; (go_simp; try with_reducible rfl); simp only [Act.put, List.setIfInBounds_toArray, List.set_cons_zero, List.set_cons_succ])
          (refine plan_pure ?_ rfl rfl (fun w' => ?_) ?_; rotate_left; (go_simp; try with_reducible rfl); simp only [Act.put, List.setIfInBounds_toArray, List.set_cons_zero, List.set_cons_succ])
          (refine plan_pure ?_ rfl rfl (fun w' => ?_) ?_; rotate_left; (go_simp; try with_reducible rfl); simp only [Act.put, List.setIfInBounds_toArray, List.set_cons_zero, List.set_cons_succ])
          (refine plan_val ?_ rfl rfl rfl (fun w' hS => ?_) ?_; rotate_left; (obtain ⟨X0, X1, X2, X3, X4, X5, X6, Xf0, Xf1, Xf2, Xf3, Xf4, Xf5, Xf6⟩ := row_seven hS.1; obtain ⟨K0, K1, K2, K3, K4, K5, K6, Kf0, Kf1, Kf2, Kf3, Kf4, Kf5, Kf6⟩ := row_seven hS.2.1; obtain ⟨q0, q1, q2, q3, q4, q5, q6⟩ := HTz.out.below hS.2.2 (by rw [block_of_add]; exact hadb); dsimp only at q0 q1 q2 q3 q4 q5 q6; go_simp; try with_reducible rfl); simp only [Act.put, List.setIfInBounds_toArray, List.set_cons_zero, List.set_cons_succ])
          (refine plan_val ?_ rfl rfl rfl (fun w' hS => ?_) ?_; rotate_left; (obtain ⟨X0, X1, X2, X3, X4, X5, X6, Xf0, Xf1, Xf2, Xf3, Xf4, Xf5, Xf6⟩ := row_seven hS.1; obtain ⟨K0, K1, K2, K3, K4, K5, K6, Kf0, Kf1, Kf2, Kf3, Kf4, Kf5, Kf6⟩ := row_seven hS.2.1; obtain ⟨q0, q1, q2, q3, q4, q5, q6⟩ := HTz.out.below hS.2.2 (by rw [block_of_add]; exact hadb); dsimp only at q0 q1 q2 q3 q4 q5 q6; go_simp; try with_reducible rfl); simp only [Act.put, List.setIfInBounds_toArray, List.set_cons_zero, List.set_cons_succ])
          (refine plan_pure ?_ rfl rfl (fun w' => ?_) ?_; rotate_left; (go_simp; try with_reducible rfl); simp only [Act.put, List.setIfInBounds_toArray, List.set_cons_zero, List.set_cons_succ])
          (refine plan_val ?_ rfl rfl rfl (fun w' hS => ?_) ?_; rotate_left; (obtain ⟨X0, X1, X2, X3, X4, X5, X6, Xf0, Xf1, Xf2, Xf3, Xf4, Xf5, Xf6⟩ := row_seven hS.1; obtain ⟨K0, K1, K2, K3, K4, K5, K6, Kf0, Kf1, Kf2, Kf3, Kf4, Kf5, Kf6⟩ := row_seven hS.2.1; obtain ⟨q0, q1, q2, q3, q4, q5, q6⟩ := HTz.out.below hS.2.2 (by rw [block_of_add]; exact hadb); dsimp only at q0 q1 q2 q3 q4 q5 q6; go_simp; try with_reducible rfl); simp only [Act.put, List.setIfInBounds_toArray, List.set_cons_zero, List.set_cons_succ])
          (refine plan_pure ?_ rfl rfl (fun w' => ?_) ?_; rotate_left; (go_simp; try with_reducible rfl); simp only [Act.put, List.setIfInBounds_toArray, List.set_cons_zero, List.set_cons_succ])
          (refine plan_val ?_ rfl rfl rfl (fun w' hS => ?_) ?_; rotate_left; (obtain ⟨X0, X1, X2, X3, X4, X5, X6, Xf0, Xf1, Xf2, Xf3, Xf4, Xf5, Xf6⟩ := row_seven hS.1; obtain ⟨K0, K1, K2, K3, K4, K5, K6, Kf0, Kf1, Kf2, Kf3, Kf4, Kf5, Kf6⟩ := row_seven hS.2.1; obtain ⟨q0, q1, q2, q3, q4, q5, q6⟩ := HTz.out.below hS.2.2 (by rw [block_of_add]; exact hadb); dsimp only at q0 q1 q2 q3 q4 q5 q6; go_simp; try with_reducible rfl); simp only [Act.put, List.setIfInBounds_toArray, List.set_cons_zero, List.set_cons_succ])
          refine plan_call (.bool true) 39 #[.agg #[.int .i64 zsq, .int .i64 ztk, .int .i64 zn, .int .i64 zs, .int .i64 zq, .int .i64 zlo, .int .i64 zhi], .agg #[.int .i64 sq, .int .i64 tk, .int .i64 n, .int .i64 s, .int .i64 q, .int .i64 lo, .int .i64 hi], .int .i64 agg, .int .i64 k] rfl rfl rfl (fun _ _ h hb => ⟨row_call h.1 hb, row_call h.2.1 hb, h.2.2.trans (hb.mono h.2.2.size)⟩) (fun w' hS => by obtain ⟨X0, X1, X2, X3, X4, X5, X6, Xf0, Xf1, Xf2, Xf3, Xf4, Xf5, Xf6⟩ := row_seven hS.1; obtain ⟨K0, K1, K2, K3, K4, K5, K6, Kf0, Kf1, Kf2, Kf3, Kf4, Kf5, Kf6⟩ := row_seven hS.2.1; obtain ⟨q0, q1, q2, q3, q4, q5, q6⟩ := HTz.out.below hS.2.2 (by rw [block_of_add]; exact hadb); dsimp only at q0 q1 q2 q3 q4 q5 q6; go_simp) (fun w' hS => PN.out w') ?_
          simp only [Act.put, List.setIfInBounds_toArray, List.set_cons_zero, List.set_cons_succ]
          refine plan_nil ?_
          intro w4 L
          simp only [List.drop_succ_cons, List.drop_zero]
          try simp only [Act.put, List.setIfInBounds_toArray, List.set_cons_zero, List.set_cons_succ]
          have o2 := L.2.2
          clear L X K o
          have E := Lib.hid (smvalE_no (agg := agg) (wd := wd) (k := k) (cap := cap) (now := now) (seq := seq) (l := l) (fun a => absurd ((a.2.2 j (by rw [HL.out]; exact hlt)).1 j2) (by rw [HOz.out, HO0.out]; exact not_not_intro (of_decide_eq_true HNV.out))))
          go_wp2
          go_ret
          exact ⟨ret_i64 E.out.symm, o2⟩
      · skip
        have g2 : ¬ (2 : Int) ≤ (j : Int) := by omega
        have g2d : decide ((2 : Int) ≤ (j : Int)) = false := decide_eq_false g2
        refine wp_region_free0 [0, 1, 2, 3, 4, 5, 6, 7, 8, 9, 10, 11, 12, 13, 14] [] [0, 1, 2, 3, 4, 5, 6, 7, 8, 9, 10, 11, 12, 13, 14] 15 (fun w' => Row w' (xb) 24 #[.int .i64 agg, .int .i64 wd, .int .i64 k, .int .i64 cap, .int .i64 now, .int .i64 seq, .slice (some ad) m c] ∧ Row w' (mb) 43 #[.int .i64 sq, .int .i64 tk, .int .i64 n, .int .i64 s, .int .i64 q, .int .i64 lo, .int .i64 hi] ∧ Below w.heap.size w w') (by kernel_rfl) (by kernel_rfl) (fun _ _ d _ _ h => by cases d <;> exact h) ?_ ?_
        · exact ⟨X, K, o.drew⟩
        (refine plan_pure ?_ rfl rfl (fun w' => ?_) ?_; rotate_left; (go_simp; try with_reducible rfl); simp only [Act.put, List.setIfInBounds_toArray, List.set_cons_zero, List.set_cons_succ])
        (refine plan_pure ?_ rfl rfl (fun w' => ?_) ?_; rotate_left; (go_simp; try with_reducible rfl); simp only [Act.put, List.setIfInBounds_toArray, List.set_cons_zero, List.set_cons_succ])
        (refine plan_pure ?_ rfl rfl (fun w' => ?_) ?_; rotate_left; (go_simp; try with_reducible rfl); simp only [Act.put, List.setIfInBounds_toArray, List.set_cons_zero, List.set_cons_succ])
        refine plan_not rfl rfl ?_
        simp only [Act.put, List.setIfInBounds_toArray, List.set_cons_zero, List.set_cons_succ]
        refine plan_not rfl rfl ?_
        simp only [Act.put, List.setIfInBounds_toArray, List.set_cons_zero, List.set_cons_succ]
        refine plan_not rfl rfl ?_
        simp only [Act.put, List.setIfInBounds_toArray, List.set_cons_zero, List.set_cons_succ]
        refine plan_not rfl rfl ?_
        simp only [Act.put, List.setIfInBounds_toArray, List.set_cons_zero, List.set_cons_succ]
        refine plan_not rfl rfl ?_
        simp only [Act.put, List.setIfInBounds_toArray, List.set_cons_zero, List.set_cons_succ]
        refine plan_not rfl rfl ?_
        simp only [Act.put, List.setIfInBounds_toArray, List.set_cons_zero, List.set_cons_succ]
        refine plan_not rfl rfl ?_
        simp only [Act.put, List.setIfInBounds_toArray, List.set_cons_zero, List.set_cons_succ]
        refine plan_not rfl rfl ?_
        simp only [Act.put, List.setIfInBounds_toArray, List.set_cons_zero, List.set_cons_succ]
        refine plan_not rfl rfl ?_
        simp only [Act.put, List.setIfInBounds_toArray, List.set_cons_zero, List.set_cons_succ]
        refine plan_not rfl rfl ?_
        simp only [Act.put, List.setIfInBounds_toArray, List.set_cons_zero, List.set_cons_succ]
        refine plan_not rfl rfl ?_
        simp only [Act.put, List.setIfInBounds_toArray, List.set_cons_zero, List.set_cons_succ]
        refine plan_not rfl rfl ?_
        simp only [Act.put, List.setIfInBounds_toArray, List.set_cons_zero, List.set_cons_succ]
        refine plan_nil ?_
        intro w4 L
        simp only [List.drop_succ_cons, List.drop_zero]
        try simp only [Act.put, List.setIfInBounds_toArray, List.set_cons_zero, List.set_cons_succ]
        obtain ⟨X, K, o⟩ := L
        go_upto_region 8 with (fail)
        by_cases j1 : 1 ≤ j
        · skip
          have g1 : (1 : Int) ≤ (j : Int) := by omega
          have g1d : decide ((1 : Int) ≤ (j : Int)) = true := decide_eq_true g1
          obtain ⟨ado, eao, _, hto⟩ := HR.out.reads.mk (i := (j - 1)) (by omega)
          obtain rfl : ad = ado := by injection eao
          have hMo := HR.out.mB (j - 1)
          have hGo := ofV_bound (HV.out.2.2.1 (j - 1) (by rw [HL.out]; omega)).1 c1
          generalize hOo : mkAt l (j - 1) = mo at hto hMo hGo
          have PN := fun w => pnear agg k mo ⟨sq, tk, n, s, q, lo, hi⟩ w k0 k1 hMo hM0 hGo.1 hGo.2 hG0.1 hG0.2
          obtain ⟨nv, hnv⟩ : ∃ b, nearB agg k mo ⟨sq, tk, n, s, q, lo, hi⟩ = b := ⟨_, rfl⟩
          rw [hnv] at PN
          have HNV := Lib.hid hnv
          clear hnv
          have HOo := Lib.hid hOo
          obtain ⟨osq, otk, on, os, oq, olo, ohi⟩ := mo
          have HTo := Lib.hid hto
          replace PN := Lib.hid PN
          clear hOo hto eao hMo hGo
          have hB0 := hM0.1
          have HS := Lib.hid (show (mkAt l j).seq - (mkAt l (j - 1)).seq = sq - osq by rw [HO0.out, HOo.out])
          obtain ⟨p, hp⟩ : ∃ p : Nat, j = p + 1 := ⟨j - 1, by omega⟩
          have wj : IntKind.i64.wrap ((j : Int) - 1) = (p : Int) := by rw [IntWalk.i64_in _ (by omega)]; omega
          have p1 : (p : Int) < (m : Int) := by omega
          have p0 : (0 : Int) ≤ (p : Int) := by omega
          have HTo : RowKit.Hid (MkCells w (ad.add (p * 7)) ⟨osq, otk, on, os, oq, olo, ohi⟩) := by rw [show p = j - 1 by omega]; exact HTo
          have S1 := (HV.out.2.2.1 j (by rw [HL.out]; exact hlt)).1
          have S2 := (HV.out.2.2.1 (j - 1) (by rw [HL.out]; omega)).1
          rw [HO0.out] at S1
          rw [HOo.out] at S2
          have ws : IntKind.i64.wrap (sq - osq) = sq - osq := IntWalk.i64_in _ (by have := S1.1; have := S1.2.1; have := S2.1; have := S2.2.1; have := HV.out.2.1; dsimp only at *; omega)
          clear hp S1 S2 hB0
          by_cases gd : 1 < sq - osq
          · cases nv
            · skip
              have gdd : decide (1 < sq - osq) = true := decide_eq_true gd
              refine wp_region_free0 [0, 1, 2, 3, 4, 5, 6, 7, 8, 9, 10, 11, 12, 13, 14, 15, 16, 17, 18, 19, 20, 21, 22, 23, 24, 25, 26, 27, 28] [] [0, 1, 2, 3, 4, 5, 6, 7, 8, 9, 10, 11, 12, 13, 14, 15, 16, 17, 18, 19, 20, 21, 22, 23, 24, 25, 26, 27, 28] 29 (fun w' => Row w' (xb) 24 #[.int .i64 agg, .int .i64 wd, .int .i64 k, .int .i64 cap, .int .i64 now, .int .i64 seq, .slice (some ad) m c] ∧ Row w' (mb) 43 #[.int .i64 sq, .int .i64 tk, .int .i64 n, .int .i64 s, .int .i64 q, .int .i64 lo, .int .i64 hi] ∧ Below w.heap.size w w') (by kernel_rfl) (by kernel_rfl) (fun _ _ d _ _ h => by cases d <;> exact h) ?_ ?_
              · exact ⟨X, K, o.drew⟩
              (refine plan_pure ?_ rfl rfl (fun w' => ?_) ?_; rotate_left; (go_simp; try with_reducible rfl); simp only [Act.put, List.setIfInBounds_toArray, List.set_cons_zero, List.set_cons_succ])
              (refine plan_pure ?_ rfl rfl (fun w' => ?_) ?_; rotate_left; (go_simp; try with_reducible rfl); simp only [Act.put, List.setIfInBounds_toArray, List.set_cons_zero, List.set_cons_succ])
              (refine plan_pure ?_ rfl rfl (fun w' => ?_) ?_; rotate_left; (go_simp; try with_reducible rfl); simp only [Act.put, List.setIfInBounds_toArray, List.set_cons_zero, List.set_cons_succ])
              (refine plan_pure ?_ rfl rfl (fun w' => ?_) ?_; rotate_left; (go_simp; try with_reducible rfl); simp only [Act.put, List.setIfInBounds_toArray, List.set_cons_zero, List.set_cons_succ])
              (refine plan_val ?_ rfl rfl rfl (fun w' hS => ?_) ?_; rotate_left; (obtain ⟨X0, X1, X2, X3, X4, X5, X6, Xf0, Xf1, Xf2, Xf3, Xf4, Xf5, Xf6⟩ := row_seven hS.1; obtain ⟨K0, K1, K2, K3, K4, K5, K6, Kf0, Kf1, Kf2, Kf3, Kf4, Kf5, Kf6⟩ := row_seven hS.2.1; obtain ⟨q0, q1, q2, q3, q4, q5, q6⟩ := HTo.out.below hS.2.2 (by rw [block_of_add]; exact hadb); dsimp only at q0 q1 q2 q3 q4 q5 q6; go_simp; try with_reducible rfl); simp only [Act.put, List.setIfInBounds_toArray, List.set_cons_zero, List.set_cons_succ])
              (refine plan_pure ?_ rfl rfl (fun w' => ?_) ?_; rotate_left; (go_simp; try with_reducible rfl); simp only [Act.put, List.setIfInBounds_toArray, List.set_cons_zero, List.set_cons_succ])
              (refine plan_val ?_ rfl rfl rfl (fun w' hS => ?_) ?_; rotate_left; (obtain ⟨X0, X1, X2, X3, X4, X5, X6, Xf0, Xf1, Xf2, Xf3, Xf4, Xf5, Xf6⟩ := row_seven hS.1; obtain ⟨K0, K1, K2, K3, K4, K5, K6, Kf0, Kf1, Kf2, Kf3, Kf4, Kf5, Kf6⟩ := row_seven hS.2.1; obtain ⟨q0, q1, q2, q3, q4, q5, q6⟩ := HTo.out.below hS.2.2 (by rw [block_of_add]; exact hadb); dsimp only at q0 q1 q2 q3 q4 q5 q6; go_simp; try with_reducible rfl); simp only [Act.put, List.setIfInBounds_toArray, List.set_cons_zero, List.set_cons_succ])
              (refine plan_pure ?_ rfl rfl (fun w' => ?_) ?_; rotate_left; (go_simp; try with_reducible rfl); simp only [Act.put, List.setIfInBounds_toArray, List.set_cons_zero, List.set_cons_succ])
              (refine plan_pure ?_ rfl rfl (fun w' => ?_) ?_; rotate_left; (go_simp; try with_reducible rfl); simp only [Act.put, List.setIfInBounds_toArray, List.set_cons_zero, List.set_cons_succ])
              (refine plan_pure ?_ rfl rfl (fun w' => ?_) ?_; rotate_left; (go_simp; try with_reducible rfl); simp only [Act.put, List.setIfInBounds_toArray, List.set_cons_zero, List.set_cons_succ])
              (refine plan_pure ?_ rfl rfl (fun w' => ?_) ?_; rotate_left; (go_simp; try with_reducible rfl); simp only [Act.put, List.setIfInBounds_toArray, List.set_cons_zero, List.set_cons_succ])
              (refine plan_val ?_ rfl rfl rfl (fun w' hS => ?_) ?_; rotate_left; (obtain ⟨X0, X1, X2, X3, X4, X5, X6, Xf0, Xf1, Xf2, Xf3, Xf4, Xf5, Xf6⟩ := row_seven hS.1; obtain ⟨K0, K1, K2, K3, K4, K5, K6, Kf0, Kf1, Kf2, Kf3, Kf4, Kf5, Kf6⟩ := row_seven hS.2.1; obtain ⟨q0, q1, q2, q3, q4, q5, q6⟩ := HTo.out.below hS.2.2 (by rw [block_of_add]; exact hadb); dsimp only at q0 q1 q2 q3 q4 q5 q6; go_simp; try with_reducible rfl); simp only [Act.put, List.setIfInBounds_toArray, List.set_cons_zero, List.set_cons_succ])
              (refine plan_pure ?_ rfl rfl (fun w' => ?_) ?_; rotate_left; (go_simp; try with_reducible rfl); simp only [Act.put, List.setIfInBounds_toArray, List.set_cons_zero, List.set_cons_succ])
              (refine plan_pure ?_ rfl rfl (fun w' => ?_) ?_; rotate_left; (go_simp; try with_reducible rfl); simp only [Act.put, List.setIfInBounds_toArray, List.set_cons_zero, List.set_cons_succ])
              (refine plan_pure ?_ rfl rfl (fun w' => ?_) ?_; rotate_left; (go_simp; try with_reducible rfl); simp only [Act.put, List.setIfInBounds_toArray, List.set_cons_zero, List.set_cons_succ])
              (refine plan_pure ?_ rfl rfl (fun w' => ?_) ?_; rotate_left; (go_simp; try with_reducible rfl); simp only [Act.put, List.setIfInBounds_toArray, List.set_cons_zero, List.set_cons_succ])
              (refine plan_pure ?_ rfl rfl (fun w' => ?_) ?_; rotate_left; (go_simp; try with_reducible rfl); simp only [Act.put, List.setIfInBounds_toArray, List.set_cons_zero, List.set_cons_succ])
              (refine plan_val ?_ rfl rfl rfl (fun w' hS => ?_) ?_; rotate_left; (obtain ⟨X0, X1, X2, X3, X4, X5, X6, Xf0, Xf1, Xf2, Xf3, Xf4, Xf5, Xf6⟩ := row_seven hS.1; obtain ⟨K0, K1, K2, K3, K4, K5, K6, Kf0, Kf1, Kf2, Kf3, Kf4, Kf5, Kf6⟩ := row_seven hS.2.1; obtain ⟨q0, q1, q2, q3, q4, q5, q6⟩ := HTo.out.below hS.2.2 (by rw [block_of_add]; exact hadb); dsimp only at q0 q1 q2 q3 q4 q5 q6; go_simp; try with_reducible rfl); simp only [Act.put, List.setIfInBounds_toArray, List.set_cons_zero, List.set_cons_succ])
              (refine plan_pure ?_ rfl rfl (fun w' => ?_) ?_; rotate_left; (go_simp; try with_reducible rfl); simp only [Act.put, List.setIfInBounds_toArray, List.set_cons_zero, List.set_cons_succ])
              (refine plan_pure ?_ rfl rfl (fun w' => ?_) ?_; rotate_left; (go_simp; try with_reducible rfl); simp only [Act.put, List.setIfInBounds_toArray, List.set_cons_zero, List.set_cons_succ])
              (refine plan_pure ?_ rfl rfl (fun w' => ?_) ?_; rotate_left; (go_simp; try with_reducible rfl); simp only [Act.put, List.setIfInBounds_toArray, List.set_cons_zero, List.set_cons_succ])
              (refine plan_val ?_ rfl rfl rfl (fun w' hS => ?_) ?_; rotate_left; (obtain ⟨X0, X1, X2, X3, X4, X5, X6, Xf0, Xf1, Xf2, Xf3, Xf4, Xf5, Xf6⟩ := row_seven hS.1; obtain ⟨K0, K1, K2, K3, K4, K5, K6, Kf0, Kf1, Kf2, Kf3, Kf4, Kf5, Kf6⟩ := row_seven hS.2.1; obtain ⟨q0, q1, q2, q3, q4, q5, q6⟩ := HTo.out.below hS.2.2 (by rw [block_of_add]; exact hadb); dsimp only at q0 q1 q2 q3 q4 q5 q6; go_simp; try with_reducible rfl); simp only [Act.put, List.setIfInBounds_toArray, List.set_cons_zero, List.set_cons_succ])
              (refine plan_val ?_ rfl rfl rfl (fun w' hS => ?_) ?_; rotate_left; (obtain ⟨X0, X1, X2, X3, X4, X5, X6, Xf0, Xf1, Xf2, Xf3, Xf4, Xf5, Xf6⟩ := row_seven hS.1; obtain ⟨K0, K1, K2, K3, K4, K5, K6, Kf0, Kf1, Kf2, Kf3, Kf4, Kf5, Kf6⟩ := row_seven hS.2.1; obtain ⟨q0, q1, q2, q3, q4, q5, q6⟩ := HTo.out.below hS.2.2 (by rw [block_of_add]; exact hadb); dsimp only at q0 q1 q2 q3 q4 q5 q6; go_simp; try with_reducible rfl); simp only [Act.put, List.setIfInBounds_toArray, List.set_cons_zero, List.set_cons_succ])
              (refine plan_pure ?_ rfl rfl (fun w' => ?_) ?_; rotate_left; (go_simp; try with_reducible rfl); simp only [Act.put, List.setIfInBounds_toArray, List.set_cons_zero, List.set_cons_succ])
              (refine plan_val ?_ rfl rfl rfl (fun w' hS => ?_) ?_; rotate_left; (obtain ⟨X0, X1, X2, X3, X4, X5, X6, Xf0, Xf1, Xf2, Xf3, Xf4, Xf5, Xf6⟩ := row_seven hS.1; obtain ⟨K0, K1, K2, K3, K4, K5, K6, Kf0, Kf1, Kf2, Kf3, Kf4, Kf5, Kf6⟩ := row_seven hS.2.1; obtain ⟨q0, q1, q2, q3, q4, q5, q6⟩ := HTo.out.below hS.2.2 (by rw [block_of_add]; exact hadb); dsimp only at q0 q1 q2 q3 q4 q5 q6; go_simp; try with_reducible rfl); simp only [Act.put, List.setIfInBounds_toArray, List.set_cons_zero, List.set_cons_succ])
              (refine plan_pure ?_ rfl rfl (fun w' => ?_) ?_; rotate_left; (go_simp; try with_reducible rfl); simp only [Act.put, List.setIfInBounds_toArray, List.set_cons_zero, List.set_cons_succ])
              (refine plan_val ?_ rfl rfl rfl (fun w' hS => ?_) ?_; rotate_left; (obtain ⟨X0, X1, X2, X3, X4, X5, X6, Xf0, Xf1, Xf2, Xf3, Xf4, Xf5, Xf6⟩ := row_seven hS.1; obtain ⟨K0, K1, K2, K3, K4, K5, K6, Kf0, Kf1, Kf2, Kf3, Kf4, Kf5, Kf6⟩ := row_seven hS.2.1; obtain ⟨q0, q1, q2, q3, q4, q5, q6⟩ := HTo.out.below hS.2.2 (by rw [block_of_add]; exact hadb); dsimp only at q0 q1 q2 q3 q4 q5 q6; go_simp; try with_reducible rfl); simp only [Act.put, List.setIfInBounds_toArray, List.set_cons_zero, List.set_cons_succ])
              refine plan_call (.bool false) 39 #[.agg #[.int .i64 osq, .int .i64 otk, .int .i64 on, .int .i64 os, .int .i64 oq, .int .i64 olo, .int .i64 ohi], .agg #[.int .i64 sq, .int .i64 tk, .int .i64 n, .int .i64 s, .int .i64 q, .int .i64 lo, .int .i64 hi], .int .i64 agg, .int .i64 k] rfl rfl rfl (fun _ _ h hb => ⟨row_call h.1 hb, row_call h.2.1 hb, h.2.2.trans (hb.mono h.2.2.size)⟩) (fun w' hS => by obtain ⟨X0, X1, X2, X3, X4, X5, X6, Xf0, Xf1, Xf2, Xf3, Xf4, Xf5, Xf6⟩ := row_seven hS.1; obtain ⟨K0, K1, K2, K3, K4, K5, K6, Kf0, Kf1, Kf2, Kf3, Kf4, Kf5, Kf6⟩ := row_seven hS.2.1; obtain ⟨q0, q1, q2, q3, q4, q5, q6⟩ := HTo.out.below hS.2.2 (by rw [block_of_add]; exact hadb); dsimp only at q0 q1 q2 q3 q4 q5 q6; go_simp) (fun w' hS => PN.out w') ?_
              simp only [Act.put, List.setIfInBounds_toArray, List.set_cons_zero, List.set_cons_succ]
              (refine plan_pure ?_ rfl rfl (fun w' => ?_) ?_; rotate_left; (go_simp; try with_reducible rfl); simp only [Act.put, List.setIfInBounds_toArray, List.set_cons_zero, List.set_cons_succ])
              refine plan_nil ?_
              intro w5 L
              simp only [List.drop_succ_cons, List.drop_zero]
              try simp only [Act.put, List.setIfInBounds_toArray, List.set_cons_zero, List.set_cons_succ]
              have o2 := L.2.2
              clear L X K o
              have E := Lib.hid (smvalE_no (agg := agg) (wd := wd) (k := k) (cap := cap) (now := now) (seq := seq) (l := l) (fun a => absurd ((a.2.2 j (by rw [HL.out]; exact hlt)).2 (by omega) (by rw [HS.out]; exact gd)) (by rw [HOo.out, HO0.out]; exact of_decide_eq_false HNV.out)))
              go_wp2
              go_ret
              exact ⟨ret_i64 E.out.symm, o2⟩
            · skip
              have gdd : decide (1 < sq - osq) = true := decide_eq_true gd
              refine wp_region_free0 [0, 1, 2, 3, 4, 5, 6, 7, 8, 9, 10, 11, 12, 13, 14, 15, 16, 17, 18, 19, 20, 21, 22, 23, 24, 25, 26, 27, 28] [] [0, 1, 2, 3, 4, 5, 6, 7, 8, 9, 10, 11, 12, 13, 14, 15, 16, 17, 18, 19, 20, 21, 22, 23, 24, 25, 26, 27, 28] 29 (fun w' => Row w' (xb) 24 #[.int .i64 agg, .int .i64 wd, .int .i64 k, .int .i64 cap, .int .i64 now, .int .i64 seq, .slice (some ad) m c] ∧ Row w' (mb) 43 #[.int .i64 sq, .int .i64 tk, .int .i64 n, .int .i64 s, .int .i64 q, .int .i64 lo, .int .i64 hi] ∧ Below w.heap.size w w') (by kernel_rfl) (by kernel_rfl) (fun _ _ d _ _ h => by cases d <;> exact h) ?_ ?_
              · exact ⟨X, K, o.drew⟩
              (refine plan_pure ?_ rfl rfl (fun w' => ?_) ?_; rotate_left; (go_simp; try with_reducible rfl); simp only [Act.put, List.setIfInBounds_toArray, List.set_cons_zero, List.set_cons_succ])
              (refine plan_pure ?_ rfl rfl (fun w' => ?_) ?_; rotate_left; (go_simp; try with_reducible rfl); simp only [Act.put, List.setIfInBounds_toArray, List.set_cons_zero, List.set_cons_succ])
              (refine plan_pure ?_ rfl rfl (fun w' => ?_) ?_; rotate_left; (go_simp; try with_reducible rfl); simp only [Act.put, List.setIfInBounds_toArray, List.set_cons_zero, List.set_cons_succ])
              (refine plan_pure ?_ rfl rfl (fun w' => ?_) ?_; rotate_left; (go_simp; try with_reducible rfl); simp only [Act.put, List.setIfInBounds_toArray, List.set_cons_zero, List.set_cons_succ])
              (refine plan_val ?_ rfl rfl rfl (fun w' hS => ?_) ?_; rotate_left; (obtain ⟨X0, X1, X2, X3, X4, X5, X6, Xf0, Xf1, Xf2, Xf3, Xf4, Xf5, Xf6⟩ := row_seven hS.1; obtain ⟨K0, K1, K2, K3, K4, K5, K6, Kf0, Kf1, Kf2, Kf3, Kf4, Kf5, Kf6⟩ := row_seven hS.2.1; obtain ⟨q0, q1, q2, q3, q4, q5, q6⟩ := HTo.out.below hS.2.2 (by rw [block_of_add]; exact hadb); dsimp only at q0 q1 q2 q3 q4 q5 q6; go_simp; try with_reducible rfl); simp only [Act.put, List.setIfInBounds_toArray, List.set_cons_zero, List.set_cons_succ])
              (refine plan_pure ?_ rfl rfl (fun w' => ?_) ?_; rotate_left; (go_simp; try with_reducible rfl); simp only [Act.put, List.setIfInBounds_toArray, List.set_cons_zero, List.set_cons_succ])
              (refine plan_val ?_ rfl rfl rfl (fun w' hS => ?_) ?_; rotate_left; (obtain ⟨X0, X1, X2, X3, X4, X5, X6, Xf0, Xf1, Xf2, Xf3, Xf4, Xf5, Xf6⟩ := row_seven hS.1; obtain ⟨K0, K1, K2, K3, K4, K5, K6, Kf0, Kf1, Kf2, Kf3, Kf4, Kf5, Kf6⟩ := row_seven hS.2.1; obtain ⟨q0, q1, q2, q3, q4, q5, q6⟩ := HTo.out.below hS.2.2 (by rw [block_of_add]; exact hadb); dsimp only at q0 q1 q2 q3 q4 q5 q6; go_simp; try with_reducible rfl); simp only [Act.put, List.setIfInBounds_toArray, List.set_cons_zero, List.set_cons_succ])
              (refine plan_pure ?_ rfl rfl (fun w' => ?_) ?_; rotate_left; (go_simp; try with_reducible rfl); simp only [Act.put, List.setIfInBounds_toArray, List.set_cons_zero, List.set_cons_succ])
              (refine plan_pure ?_ rfl rfl (fun w' => ?_) ?_; rotate_left; (go_simp; try with_reducible rfl); simp only [Act.put, List.setIfInBounds_toArray, List.set_cons_zero, List.set_cons_succ])
              (refine plan_pure ?_ rfl rfl (fun w' => ?_) ?_; rotate_left; (go_simp; try with_reducible rfl); simp only [Act.put, List.setIfInBounds_toArray, List.set_cons_zero, List.set_cons_succ])
              (refine plan_pure ?_ rfl rfl (fun w' => ?_) ?_; rotate_left; (go_simp; try with_reducible rfl); simp only [Act.put, List.setIfInBounds_toArray, List.set_cons_zero, List.set_cons_succ])
              (refine plan_val ?_ rfl rfl rfl (fun w' hS => ?_) ?_; rotate_left; (obtain ⟨X0, X1, X2, X3, X4, X5, X6, Xf0, Xf1, Xf2, Xf3, Xf4, Xf5, Xf6⟩ := row_seven hS.1; obtain ⟨K0, K1, K2, K3, K4, K5, K6, Kf0, Kf1, Kf2, Kf3, Kf4, Kf5, Kf6⟩ := row_seven hS.2.1; obtain ⟨q0, q1, q2, q3, q4, q5, q6⟩ := HTo.out.below hS.2.2 (by rw [block_of_add]; exact hadb); dsimp only at q0 q1 q2 q3 q4 q5 q6; go_simp; try with_reducible rfl); simp only [Act.put, List.setIfInBounds_toArray, List.set_cons_zero, List.set_cons_succ])
              (refine plan_pure ?_ rfl rfl (fun w' => ?_) ?_; rotate_left; (go_simp; try with_reducible rfl); simp only [Act.put, List.setIfInBounds_toArray, List.set_cons_zero, List.set_cons_succ])
              (refine plan_pure ?_ rfl rfl (fun w' => ?_) ?_; rotate_left; (go_simp; try with_reducible rfl); simp only [Act.put, List.setIfInBounds_toArray, List.set_cons_zero, List.set_cons_succ])
              (refine plan_pure ?_ rfl rfl (fun w' => ?_) ?_; rotate_left; (go_simp; try with_reducible rfl); simp only [Act.put, List.setIfInBounds_toArray, List.set_cons_zero, List.set_cons_succ])
              (refine plan_pure ?_ rfl rfl (fun w' => ?_) ?_; rotate_left; (go_simp; try with_reducible rfl); simp only [Act.put, List.setIfInBounds_toArray, List.set_cons_zero, List.set_cons_succ])
              (refine plan_pure ?_ rfl rfl (fun w' => ?_) ?_; rotate_left; (go_simp; try with_reducible rfl); simp only [Act.put, List.setIfInBounds_toArray, List.set_cons_zero, List.set_cons_succ])
              (refine plan_val ?_ rfl rfl rfl (fun w' hS => ?_) ?_; rotate_left; (obtain ⟨X0, X1, X2, X3, X4, X5, X6, Xf0, Xf1, Xf2, Xf3, Xf4, Xf5, Xf6⟩ := row_seven hS.1; obtain ⟨K0, K1, K2, K3, K4, K5, K6, Kf0, Kf1, Kf2, Kf3, Kf4, Kf5, Kf6⟩ := row_seven hS.2.1; obtain ⟨q0, q1, q2, q3, q4, q5, q6⟩ := HTo.out.below hS.2.2 (by rw [block_of_add]; exact hadb); dsimp only at q0 q1 q2 q3 q4 q5 q6; go_simp; try with_reducible rfl); simp only [Act.put, List.setIfInBounds_toArray, List.set_cons_zero, List.set_cons_succ])
              (refine plan_pure ?_ rfl rfl (fun w' => ?_) ?_; rotate_left; (go_simp; try with_reducible rfl); simp only [Act.put, List.setIfInBounds_toArray, List.set_cons_zero, List.set_cons_succ])
              (refine plan_pure ?_ rfl rfl (fun w' => ?_) ?_; rotate_left; (go_simp; try with_reducible rfl); simp only [Act.put, List.setIfInBounds_toArray, List.set_cons_zero, List.set_cons_succ])
              (refine plan_pure ?_ rfl rfl (fun w' => ?_) ?_; rotate_left; (go_simp; try with_reducible rfl); simp only [Act.put, List.setIfInBounds_toArray, List.set_cons_zero, List.set_cons_succ])
              (refine plan_val ?_ rfl rfl rfl (fun w' hS => ?_) ?_; rotate_left; (obtain ⟨X0, X1, X2, X3, X4, X5, X6, Xf0, Xf1, Xf2, Xf3, Xf4, Xf5, Xf6⟩ := row_seven hS.1; obtain ⟨K0, K1, K2, K3, K4, K5, K6, Kf0, Kf1, Kf2, Kf3, Kf4, Kf5, Kf6⟩ := row_seven hS.2.1; obtain ⟨q0, q1, q2, q3, q4, q5, q6⟩ := HTo.out.below hS.2.2 (by rw [block_of_add]; exact hadb); dsimp only at q0 q1 q2 q3 q4 q5 q6; go_simp; try with_reducible rfl); simp only [Act.put, List.setIfInBounds_toArray, List.set_cons_zero, List.set_cons_succ])
              (refine plan_val ?_ rfl rfl rfl (fun w' hS => ?_) ?_; rotate_left; (obtain ⟨X0, X1, X2, X3, X4, X5, X6, Xf0, Xf1, Xf2, Xf3, Xf4, Xf5, Xf6⟩ := row_seven hS.1; obtain ⟨K0, K1, K2, K3, K4, K5, K6, Kf0, Kf1, Kf2, Kf3, Kf4, Kf5, Kf6⟩ := row_seven hS.2.1; obtain ⟨q0, q1, q2, q3, q4, q5, q6⟩ := HTo.out.below hS.2.2 (by rw [block_of_add]; exact hadb); dsimp only at q0 q1 q2 q3 q4 q5 q6; go_simp; try with_reducible rfl); simp only [Act.put, List.setIfInBounds_toArray, List.set_cons_zero, List.set_cons_succ])
              (refine plan_pure ?_ rfl rfl (fun w' => ?_) ?_; rotate_left; (go_simp; try with_reducible rfl); simp only [Act.put, List.setIfInBounds_toArray, List.set_cons_zero, List.set_cons_succ])
              (refine plan_val ?_ rfl rfl rfl (fun w' hS => ?_) ?_; rotate_left; (obtain ⟨X0, X1, X2, X3, X4, X5, X6, Xf0, Xf1, Xf2, Xf3, Xf4, Xf5, Xf6⟩ := row_seven hS.1; obtain ⟨K0, K1, K2, K3, K4, K5, K6, Kf0, Kf1, Kf2, Kf3, Kf4, Kf5, Kf6⟩ := row_seven hS.2.1; obtain ⟨q0, q1, q2, q3, q4, q5, q6⟩ := HTo.out.below hS.2.2 (by rw [block_of_add]; exact hadb); dsimp only at q0 q1 q2 q3 q4 q5 q6; go_simp; try with_reducible rfl); simp only [Act.put, List.setIfInBounds_toArray, List.set_cons_zero, List.set_cons_succ])
              (refine plan_pure ?_ rfl rfl (fun w' => ?_) ?_; rotate_left; (go_simp; try with_reducible rfl); simp only [Act.put, List.setIfInBounds_toArray, List.set_cons_zero, List.set_cons_succ])
              (refine plan_val ?_ rfl rfl rfl (fun w' hS => ?_) ?_; rotate_left; (obtain ⟨X0, X1, X2, X3, X4, X5, X6, Xf0, Xf1, Xf2, Xf3, Xf4, Xf5, Xf6⟩ := row_seven hS.1; obtain ⟨K0, K1, K2, K3, K4, K5, K6, Kf0, Kf1, Kf2, Kf3, Kf4, Kf5, Kf6⟩ := row_seven hS.2.1; obtain ⟨q0, q1, q2, q3, q4, q5, q6⟩ := HTo.out.below hS.2.2 (by rw [block_of_add]; exact hadb); dsimp only at q0 q1 q2 q3 q4 q5 q6; go_simp; try with_reducible rfl); simp only [Act.put, List.setIfInBounds_toArray, List.set_cons_zero, List.set_cons_succ])
              refine plan_call (.bool true) 39 #[.agg #[.int .i64 osq, .int .i64 otk, .int .i64 on, .int .i64 os, .int .i64 oq, .int .i64 olo, .int .i64 ohi], .agg #[.int .i64 sq, .int .i64 tk, .int .i64 n, .int .i64 s, .int .i64 q, .int .i64 lo, .int .i64 hi], .int .i64 agg, .int .i64 k] rfl rfl rfl (fun _ _ h hb => ⟨row_call h.1 hb, row_call h.2.1 hb, h.2.2.trans (hb.mono h.2.2.size)⟩) (fun w' hS => by obtain ⟨X0, X1, X2, X3, X4, X5, X6, Xf0, Xf1, Xf2, Xf3, Xf4, Xf5, Xf6⟩ := row_seven hS.1; obtain ⟨K0, K1, K2, K3, K4, K5, K6, Kf0, Kf1, Kf2, Kf3, Kf4, Kf5, Kf6⟩ := row_seven hS.2.1; obtain ⟨q0, q1, q2, q3, q4, q5, q6⟩ := HTo.out.below hS.2.2 (by rw [block_of_add]; exact hadb); dsimp only at q0 q1 q2 q3 q4 q5 q6; go_simp) (fun w' hS => PN.out w') ?_
              simp only [Act.put, List.setIfInBounds_toArray, List.set_cons_zero, List.set_cons_succ]
              (refine plan_pure ?_ rfl rfl (fun w' => ?_) ?_; rotate_left; (go_simp; try with_reducible rfl); simp only [Act.put, List.setIfInBounds_toArray, List.set_cons_zero, List.set_cons_succ])
              refine plan_nil ?_
              intro w5 L
              simp only [List.drop_succ_cons, List.drop_zero]
              try simp only [Act.put, List.setIfInBounds_toArray, List.set_cons_zero, List.set_cons_succ]
              obtain ⟨X, K, o⟩ := L
              have HA2 : RowKit.Hid (∀ e, e < j + 1 → smAt agg k l e) := Lib.hid (fun e he => by
                rcases Nat.lt_or_ge e j with g | g
                · exact HA.out e g
                · rw [show e = j by omega]
                  exact ⟨fun h => absurd h j2, fun _ _ => by rw [HOo.out, HO0.out]; exact of_decide_eq_true HNV.out⟩)
              go_wp2
              go_roundw
              case rel => exact ⟨j + 1, by omega, (by first | go_num | exact congrArg (Value.int .i64) (by omega)), HA2, X, o⟩
              case measure => simp [intOf]; omega
          · skip
            have gdd : decide (1 < sq - osq) = false := decide_eq_false gd
            refine wp_region_free0 [0, 1, 2, 3, 4, 5, 6, 7, 8, 9, 10, 11, 12, 13, 14, 15, 16, 17, 18, 19, 20, 21, 22, 23, 24, 25, 26, 27, 28] [] [0, 1, 2, 3, 4, 5, 6, 7, 8, 9, 10, 11, 12, 13, 14, 15, 16, 17, 18, 19, 20, 21, 22, 23, 24, 25, 26, 27, 28] 29 (fun w' => Row w' (xb) 24 #[.int .i64 agg, .int .i64 wd, .int .i64 k, .int .i64 cap, .int .i64 now, .int .i64 seq, .slice (some ad) m c] ∧ Row w' (mb) 43 #[.int .i64 sq, .int .i64 tk, .int .i64 n, .int .i64 s, .int .i64 q, .int .i64 lo, .int .i64 hi] ∧ Below w.heap.size w w') (by kernel_rfl) (by kernel_rfl) (fun _ _ d _ _ h => by cases d <;> exact h) ?_ ?_
            · exact ⟨X, K, o.drew⟩
            (refine plan_pure ?_ rfl rfl (fun w' => ?_) ?_; rotate_left; (go_simp; try with_reducible rfl); simp only [Act.put, List.setIfInBounds_toArray, List.set_cons_zero, List.set_cons_succ])
            (refine plan_pure ?_ rfl rfl (fun w' => ?_) ?_; rotate_left; (go_simp; try with_reducible rfl); simp only [Act.put, List.setIfInBounds_toArray, List.set_cons_zero, List.set_cons_succ])
            (refine plan_pure ?_ rfl rfl (fun w' => ?_) ?_; rotate_left; (go_simp; try with_reducible rfl); simp only [Act.put, List.setIfInBounds_toArray, List.set_cons_zero, List.set_cons_succ])
            (refine plan_pure ?_ rfl rfl (fun w' => ?_) ?_; rotate_left; (go_simp; try with_reducible rfl); simp only [Act.put, List.setIfInBounds_toArray, List.set_cons_zero, List.set_cons_succ])
            (refine plan_val ?_ rfl rfl rfl (fun w' hS => ?_) ?_; rotate_left; (obtain ⟨X0, X1, X2, X3, X4, X5, X6, Xf0, Xf1, Xf2, Xf3, Xf4, Xf5, Xf6⟩ := row_seven hS.1; obtain ⟨K0, K1, K2, K3, K4, K5, K6, Kf0, Kf1, Kf2, Kf3, Kf4, Kf5, Kf6⟩ := row_seven hS.2.1; obtain ⟨q0, q1, q2, q3, q4, q5, q6⟩ := HTo.out.below hS.2.2 (by rw [block_of_add]; exact hadb); dsimp only at q0 q1 q2 q3 q4 q5 q6; go_simp; try with_reducible rfl); simp only [Act.put, List.setIfInBounds_toArray, List.set_cons_zero, List.set_cons_succ])
            (refine plan_pure ?_ rfl rfl (fun w' => ?_) ?_; rotate_left; (go_simp; try with_reducible rfl); simp only [Act.put, List.setIfInBounds_toArray, List.set_cons_zero, List.set_cons_succ])
            (refine plan_val ?_ rfl rfl rfl (fun w' hS => ?_) ?_; rotate_left; (obtain ⟨X0, X1, X2, X3, X4, X5, X6, Xf0, Xf1, Xf2, Xf3, Xf4, Xf5, Xf6⟩ := row_seven hS.1; obtain ⟨K0, K1, K2, K3, K4, K5, K6, Kf0, Kf1, Kf2, Kf3, Kf4, Kf5, Kf6⟩ := row_seven hS.2.1; obtain ⟨q0, q1, q2, q3, q4, q5, q6⟩ := HTo.out.below hS.2.2 (by rw [block_of_add]; exact hadb); dsimp only at q0 q1 q2 q3 q4 q5 q6; go_simp; try with_reducible rfl); simp only [Act.put, List.setIfInBounds_toArray, List.set_cons_zero, List.set_cons_succ])
            (refine plan_pure ?_ rfl rfl (fun w' => ?_) ?_; rotate_left; (go_simp; try with_reducible rfl); simp only [Act.put, List.setIfInBounds_toArray, List.set_cons_zero, List.set_cons_succ])
            (refine plan_pure ?_ rfl rfl (fun w' => ?_) ?_; rotate_left; (go_simp; try with_reducible rfl); simp only [Act.put, List.setIfInBounds_toArray, List.set_cons_zero, List.set_cons_succ])
            (refine plan_pure ?_ rfl rfl (fun w' => ?_) ?_; rotate_left; (go_simp; try with_reducible rfl); simp only [Act.put, List.setIfInBounds_toArray, List.set_cons_zero, List.set_cons_succ])
            (refine plan_pure ?_ rfl rfl (fun w' => ?_) ?_; rotate_left; (go_simp; try with_reducible rfl); simp only [Act.put, List.setIfInBounds_toArray, List.set_cons_zero, List.set_cons_succ])
            (refine plan_val ?_ rfl rfl rfl (fun w' hS => ?_) ?_; rotate_left; (obtain ⟨X0, X1, X2, X3, X4, X5, X6, Xf0, Xf1, Xf2, Xf3, Xf4, Xf5, Xf6⟩ := row_seven hS.1; obtain ⟨K0, K1, K2, K3, K4, K5, K6, Kf0, Kf1, Kf2, Kf3, Kf4, Kf5, Kf6⟩ := row_seven hS.2.1; obtain ⟨q0, q1, q2, q3, q4, q5, q6⟩ := HTo.out.below hS.2.2 (by rw [block_of_add]; exact hadb); dsimp only at q0 q1 q2 q3 q4 q5 q6; go_simp; try with_reducible rfl); simp only [Act.put, List.setIfInBounds_toArray, List.set_cons_zero, List.set_cons_succ])
            (refine plan_pure ?_ rfl rfl (fun w' => ?_) ?_; rotate_left; (go_simp; try with_reducible rfl); simp only [Act.put, List.setIfInBounds_toArray, List.set_cons_zero, List.set_cons_succ])
            (refine plan_pure ?_ rfl rfl (fun w' => ?_) ?_; rotate_left; (go_simp; try with_reducible rfl); simp only [Act.put, List.setIfInBounds_toArray, List.set_cons_zero, List.set_cons_succ])
            (refine plan_pure ?_ rfl rfl (fun w' => ?_) ?_; rotate_left; (go_simp; try with_reducible rfl); simp only [Act.put, List.setIfInBounds_toArray, List.set_cons_zero, List.set_cons_succ])
            (refine plan_pure ?_ rfl rfl (fun w' => ?_) ?_; rotate_left; (go_simp; try with_reducible rfl); simp only [Act.put, List.setIfInBounds_toArray, List.set_cons_zero, List.set_cons_succ])
            refine plan_not rfl rfl ?_
            simp only [Act.put, List.setIfInBounds_toArray, List.set_cons_zero, List.set_cons_succ]
            refine plan_not rfl rfl ?_
            simp only [Act.put, List.setIfInBounds_toArray, List.set_cons_zero, List.set_cons_succ]
            refine plan_not rfl rfl ?_
            simp only [Act.put, List.setIfInBounds_toArray, List.set_cons_zero, List.set_cons_succ]
            refine plan_not rfl rfl ?_
            simp only [Act.put, List.setIfInBounds_toArray, List.set_cons_zero, List.set_cons_succ]
            refine plan_not rfl rfl ?_
            simp only [Act.put, List.setIfInBounds_toArray, List.set_cons_zero, List.set_cons_succ]
            refine plan_not rfl rfl ?_
            simp only [Act.put, List.setIfInBounds_toArray, List.set_cons_zero, List.set_cons_succ]
            refine plan_not rfl rfl ?_
            simp only [Act.put, List.setIfInBounds_toArray, List.set_cons_zero, List.set_cons_succ]
            refine plan_not rfl rfl ?_
            simp only [Act.put, List.setIfInBounds_toArray, List.set_cons_zero, List.set_cons_succ]
            refine plan_not rfl rfl ?_
            simp only [Act.put, List.setIfInBounds_toArray, List.set_cons_zero, List.set_cons_succ]
            refine plan_not rfl rfl ?_
            simp only [Act.put, List.setIfInBounds_toArray, List.set_cons_zero, List.set_cons_succ]
            refine plan_not rfl rfl ?_
            simp only [Act.put, List.setIfInBounds_toArray, List.set_cons_zero, List.set_cons_succ]
            refine plan_not rfl rfl ?_
            simp only [Act.put, List.setIfInBounds_toArray, List.set_cons_zero, List.set_cons_succ]
            refine plan_not rfl rfl ?_
            simp only [Act.put, List.setIfInBounds_toArray, List.set_cons_zero, List.set_cons_succ]
            refine plan_nil ?_
            intro w5 L
            simp only [List.drop_succ_cons, List.drop_zero]
            try simp only [Act.put, List.setIfInBounds_toArray, List.set_cons_zero, List.set_cons_succ]
            obtain ⟨X, K, o⟩ := L
            have HA2 : RowKit.Hid (∀ e, e < j + 1 → smAt agg k l e) := Lib.hid (fun e he => by
              rcases Nat.lt_or_ge e j with g | g
              · exact HA.out e g
              · rw [show e = j by omega]
                exact ⟨fun h => absurd h j2, fun _ h => absurd (by rw [← HS.out]; exact h) gd⟩)
            go_wp2
            go_roundw
            case rel => exact ⟨j + 1, by omega, (by first | go_num | exact congrArg (Value.int .i64) (by omega)), HA2, X, o⟩
            case measure => simp [intOf]; omega
        · skip
          have g1 : ¬ (1 : Int) ≤ (j : Int) := by omega
          have g1d : decide ((1 : Int) ≤ (j : Int)) = false := decide_eq_false g1
          refine wp_region_free0 [0, 1, 2, 3, 4, 5, 6, 7, 8, 9, 10, 11, 12, 13, 14, 15, 16, 17, 18, 19, 20, 21, 22, 23, 24, 25, 26, 27, 28] [] [0, 1, 2, 3, 4, 5, 6, 7, 8, 9, 10, 11, 12, 13, 14, 15, 16, 17, 18, 19, 20, 21, 22, 23, 24, 25, 26, 27, 28] 29 (fun w' => Row w' (xb) 24 #[.int .i64 agg, .int .i64 wd, .int .i64 k, .int .i64 cap, .int .i64 now, .int .i64 seq, .slice (some ad) m c] ∧ Row w' (mb) 43 #[.int .i64 sq, .int .i64 tk, .int .i64 n, .int .i64 s, .int .i64 q, .int .i64 lo, .int .i64 hi] ∧ Below w.heap.size w w') (by kernel_rfl) (by kernel_rfl) (fun _ _ d _ _ h => by cases d <;> exact h) ?_ ?_
          · exact ⟨X, K, o.drew⟩
          (refine plan_pure ?_ rfl rfl (fun w' => ?_) ?_; rotate_left; (go_simp; try with_reducible rfl); simp only [Act.put, List.setIfInBounds_toArray, List.set_cons_zero, List.set_cons_succ])
          (refine plan_pure ?_ rfl rfl (fun w' => ?_) ?_; rotate_left; (go_simp; try with_reducible rfl); simp only [Act.put, List.setIfInBounds_toArray, List.set_cons_zero, List.set_cons_succ])
          (refine plan_pure ?_ rfl rfl (fun w' => ?_) ?_; rotate_left; (go_simp; try with_reducible rfl); simp only [Act.put, List.setIfInBounds_toArray, List.set_cons_zero, List.set_cons_succ])
          refine plan_not rfl rfl ?_
          simp only [Act.put, List.setIfInBounds_toArray, List.set_cons_zero, List.set_cons_succ]
          refine plan_not rfl rfl ?_
          simp only [Act.put, List.setIfInBounds_toArray, List.set_cons_zero, List.set_cons_succ]
          refine plan_not rfl rfl ?_
          simp only [Act.put, List.setIfInBounds_toArray, List.set_cons_zero, List.set_cons_succ]
          refine plan_not rfl rfl ?_
          simp only [Act.put, List.setIfInBounds_toArray, List.set_cons_zero, List.set_cons_succ]
          refine plan_not rfl rfl ?_
          simp only [Act.put, List.setIfInBounds_toArray, List.set_cons_zero, List.set_cons_succ]
          refine plan_not rfl rfl ?_
          simp only [Act.put, List.setIfInBounds_toArray, List.set_cons_zero, List.set_cons_succ]
          refine plan_not rfl rfl ?_
          simp only [Act.put, List.setIfInBounds_toArray, List.set_cons_zero, List.set_cons_succ]
          refine plan_not rfl rfl ?_
          simp only [Act.put, List.setIfInBounds_toArray, List.set_cons_zero, List.set_cons_succ]
          refine plan_not rfl rfl ?_
          simp only [Act.put, List.setIfInBounds_toArray, List.set_cons_zero, List.set_cons_succ]
          refine plan_not rfl rfl ?_
          simp only [Act.put, List.setIfInBounds_toArray, List.set_cons_zero, List.set_cons_succ]
          refine plan_not rfl rfl ?_
          simp only [Act.put, List.setIfInBounds_toArray, List.set_cons_zero, List.set_cons_succ]
          (refine plan_pure ?_ rfl rfl (fun w' => ?_) ?_; rotate_left; (go_simp; try with_reducible rfl); simp only [Act.put, List.setIfInBounds_toArray, List.set_cons_zero, List.set_cons_succ])
          (refine plan_pure ?_ rfl rfl (fun w' => ?_) ?_; rotate_left; (go_simp; try with_reducible rfl); simp only [Act.put, List.setIfInBounds_toArray, List.set_cons_zero, List.set_cons_succ])
          refine plan_not rfl rfl ?_
          simp only [Act.put, List.setIfInBounds_toArray, List.set_cons_zero, List.set_cons_succ]
          refine plan_not rfl rfl ?_
          simp only [Act.put, List.setIfInBounds_toArray, List.set_cons_zero, List.set_cons_succ]
          refine plan_not rfl rfl ?_
          simp only [Act.put, List.setIfInBounds_toArray, List.set_cons_zero, List.set_cons_succ]
          refine plan_not rfl rfl ?_
          simp only [Act.put, List.setIfInBounds_toArray, List.set_cons_zero, List.set_cons_succ]
          refine plan_not rfl rfl ?_
          simp only [Act.put, List.setIfInBounds_toArray, List.set_cons_zero, List.set_cons_succ]
          refine plan_not rfl rfl ?_
          simp only [Act.put, List.setIfInBounds_toArray, List.set_cons_zero, List.set_cons_succ]
          refine plan_not rfl rfl ?_
          simp only [Act.put, List.setIfInBounds_toArray, List.set_cons_zero, List.set_cons_succ]
          refine plan_not rfl rfl ?_
          simp only [Act.put, List.setIfInBounds_toArray, List.set_cons_zero, List.set_cons_succ]
          refine plan_not rfl rfl ?_
          simp only [Act.put, List.setIfInBounds_toArray, List.set_cons_zero, List.set_cons_succ]
          refine plan_not rfl rfl ?_
          simp only [Act.put, List.setIfInBounds_toArray, List.set_cons_zero, List.set_cons_succ]
          refine plan_not rfl rfl ?_
          simp only [Act.put, List.setIfInBounds_toArray, List.set_cons_zero, List.set_cons_succ]
          refine plan_not rfl rfl ?_
          simp only [Act.put, List.setIfInBounds_toArray, List.set_cons_zero, List.set_cons_succ]
          refine plan_not rfl rfl ?_
          simp only [Act.put, List.setIfInBounds_toArray, List.set_cons_zero, List.set_cons_succ]
          refine plan_nil ?_
          intro w5 L
          simp only [List.drop_succ_cons, List.drop_zero]
          try simp only [Act.put, List.setIfInBounds_toArray, List.set_cons_zero, List.set_cons_succ]
          obtain ⟨X, K, o⟩ := L
          have HA2 : RowKit.Hid (∀ e, e < j + 1 → smAt agg k l e) := Lib.hid (fun e he => by
            rcases Nat.lt_or_ge e j with g | g
            · exact HA.out e g
            · rw [show e = j by omega]
              exact ⟨fun h => absurd h j2, fun h => absurd h (by omega)⟩)
          go_wp2
          go_roundw
          case rel => exact ⟨j + 1, by omega, (by first | go_num | exact congrArg (Value.int .i64) (by omega)), HA2, X, o⟩
          case measure => simp [intOf]; omega
    · have i1 : ¬ (j : Int) < (m : Int) := by omega
      obtain rfl : j = m := by omega
      have E := Lib.hid (smvalE_yes (agg := agg) (wd := wd) (k := k) (cap := cap) (now := now) (seq := seq) (l := l) ⟨HG.out, HV.out, fun i hi => HA.out i (by rw [HL.out] at hi; exact hi)⟩)
      clear HA X
      go_wp2
      go_ret
      exact ⟨ret_i64 E.out.symm, o⟩
theorem pvalS (A : Option Addr) (m c : Nat) (l : List Mk) (agg wd k cap now seq : Int) (w : World) (hin : MIn A m c l w) (sB : I64 seq) : Calls Try.prog 12 #[.agg #[.int .i64 agg, .int .i64 wd, .int .i64 k, .int .i64 cap, .int .i64 now, .int .i64 seq, .slice A m c]] w fun e w' => e = .returned (.int .i64 (smvalE agg wd k cap now seq l)) ∧ Below w.heap.size w w' := by
  by_cases hG : smGood agg wd k cap now
  · by_cases hV : mvalid l seq cap now wd (leastV agg)
    · exact pvalS_c A m c l agg wd k cap now seq w hin sB hG hV
    · exact pvalS_b A m c l agg wd k cap now seq w hin sB hG hV
  · exact pvalS_a A m c l agg wd k cap now seq w hG
end Go.Proofs.Ythknkdjpfanlnaa
