/- The law SmoothTruth of the given program: for every input the call returns true, and each argument reads behind the call as it read before. No conditions. -/
import Derived.Test.YthknkdjpfanlnaaZSmoothTruth3
section
/- Bounds: ratios in lowest terms, walked. -/
set_option linter.unusedVariables false
set_option linter.unusedSimpArgs false
set_option linter.unusedSectionVars false
set_option linter.unnecessarySimpa false
namespace Go.Proofs.Ythknkdjpfanlnaa
open Go.RowKit
theorem rabsN (a : Nat) (h : a < 9223372036854775808) (w : World) : Calls Try.prog 105 #[.int .i64 (a : Nat)] w fun e w' => e = .returned (.int .u64 (a : Nat)) ∧ w' = w := by
  have t0 : ¬ (a : Int) < 0 := by omega
  have wa : IntKind.u64.wrap (a : Int) = (a : Int) := IntWalk.u64_in _ (by omega)
  clear h
  go_enter Try.func105, Try.ntmps105
  go_wp2
  go_ret
  exact ⟨rfl, rfl⟩
set_option maxHeartbeats 2000000 in
theorem pratval (a b : Nat) (w : World) (ha : a < 9223372036854775808) (hb0 : 1 ≤ b) (hb : b < 9223372036854775808) (hg : Nat.gcd a b = 1) : Calls Try.prog 69 #[.agg #[.int .i64 (a : Nat), .int .i64 (b : Nat)]] w fun e w' => e = .returned (.bool true) ∧ Below w.heap.size w w' := by
  have PZ := Lib.hid (fun w => psize a ha w)
  have PA := Lib.hid (fun w => pof a (by omega) w)
  have PB := Lib.hid (fun w => pof b (by omega) w)
  have PO := Lib.hid (fun w => pof 1 (by omega) w)
  have PG := fun w => pgcd a b (by unfold big; omega) (by unfold big; omega) w
  rw [hg] at PG
  replace PG := Lib.hid PG
  have i1 : (1 : Int) ≤ (b : Int) := by omega
  have d1 : decide ((1 : Int) ≤ (b : Int)) = true := decide_eq_true i1
  have wb : IntKind.u64.wrap (b : Int) = (b : Int) := IntWalk.u64_in _ (by omega)
  clear hg
  go_enter Try.func69, Try.ntmps69
  go_upto_region 1 with (fail)
  have X : Row (w.alloc (.cells #[.int .i64 (a : Nat), .int .i64 (b : Nat)] 48)) w.heap.size 48 #[.int .i64 (a : Nat), .int .i64 (b : Nat)] := row_new rfl
  have o : Below w.heap.size w (w.alloc (.cells #[.int .i64 (a : Nat), .int .i64 (b : Nat)] 48)) := by (repeat (first | exact Below.refl _ _ | refine Below.setCell ?_ (by first | (simp; done) | (simp; omega) | omega) _ | refine Below.alloc ?_ (by first | (simp; done) | (simp; omega) | omega) _ | refine Below.drew ?_ | refine Below.trans ?_ (Below.mono (by assumption) (by first | (simp; done) | (simp; omega) | omega))))
  generalize (w.alloc (.cells #[.int .i64 (a : Nat), .int .i64 (b : Nat)] 48)) = w1 at X o ⊢
  refine wp_region_free0 [0, 1, 2, 3, 4, 5, 6, 7, 8, 9, 10, 11, 12, 13, 14, 15] [] [0, 1, 2, 3, 4, 5, 6, 7, 8, 9, 10, 11, 12, 13, 14, 15] 16 (fun w' => Row w' (w.heap.size) 48 #[.int .i64 (a : Nat), .int .i64 (b : Nat)] ∧ Below w.heap.size w w') (by kernel_rfl) (by kernel_rfl) (fun _ _ d _ _ h => by cases d <;> exact h) ?_ ?_
  · exact ⟨X, o.drew⟩
  (refine plan_pure ?_ rfl rfl (fun w' => ?_) ?_; rotate_left; (go_simp; try with_reducible rfl); simp only [Act.put, List.setIfInBounds_toArray, List.set_cons_zero, List.set_cons_succ])
  (refine plan_val ?_ rfl rfl rfl (fun w' hS => ?_) ?_; rotate_left; (obtain ⟨X0, X1, Xf0, Xf1⟩ := row_two hS.1; go_simp; try with_reducible rfl); simp only [Act.put, List.setIfInBounds_toArray, List.set_cons_zero, List.set_cons_succ])
  (refine plan_pure ?_ rfl rfl (fun w' => ?_) ?_; rotate_left; (go_simp; try with_reducible rfl); simp only [Act.put, List.setIfInBounds_toArray, List.set_cons_zero, List.set_cons_succ])
  (refine plan_pure ?_ rfl rfl (fun w' => ?_) ?_; rotate_left; (go_simp; try with_reducible rfl); simp only [Act.put, List.setIfInBounds_toArray, List.set_cons_zero, List.set_cons_succ])
  (refine plan_pure ?_ rfl rfl (fun w' => ?_) ?_; rotate_left; (go_simp; try with_reducible rfl); simp only [Act.put, List.setIfInBounds_toArray, List.set_cons_zero, List.set_cons_succ])
  (refine plan_val ?_ rfl rfl rfl (fun w' hS => ?_) ?_; rotate_left; (obtain ⟨X0, X1, Xf0, Xf1⟩ := row_two hS.1; go_simp; try with_reducible rfl); simp only [Act.put, List.setIfInBounds_toArray, List.set_cons_zero, List.set_cons_succ])
  refine plan_call (.int .u64 (a : Nat)) 89 #[.int .i64 (a : Nat)] rfl rfl rfl (fun _ _ h hb => ⟨row_call h.1 hb, h.2.trans (hb.mono h.2.size)⟩) (fun w' hS => by obtain ⟨X0, X1, Xf0, Xf1⟩ := row_two hS.1; go_simp) (fun w' hS => (PZ.out w').mono fun _ _ h => ⟨h.1, by rw [h.2]; exact Below.refl _ _⟩) ?_
  simp only [Act.put, List.setIfInBounds_toArray, List.set_cons_zero, List.set_cons_succ]
  refine plan_call (W a) 88 #[.int .u64 (a : Nat)] rfl rfl rfl (fun _ _ h hb => ⟨row_call h.1 hb, h.2.trans (hb.mono h.2.size)⟩) (fun w' hS => by obtain ⟨X0, X1, Xf0, Xf1⟩ := row_two hS.1; go_simp) (fun w' hS => PA.out w') ?_
  simp only [Act.put, List.setIfInBounds_toArray, List.set_cons_zero, List.set_cons_succ]
  (refine plan_pure ?_ rfl rfl (fun w' => ?_) ?_; rotate_left; (go_simp; try with_reducible rfl); simp only [Act.put, List.setIfInBounds_toArray, List.set_cons_zero, List.set_cons_succ])
  (refine plan_val ?_ rfl rfl rfl (fun w' hS => ?_) ?_; rotate_left; (obtain ⟨X0, X1, Xf0, Xf1⟩ := row_two hS.1; go_simp; try with_reducible rfl); simp only [Act.put, List.setIfInBounds_toArray, List.set_cons_zero, List.set_cons_succ])
  (refine plan_pure ?_ rfl rfl (fun w' => ?_) ?_; rotate_left; (go_simp; try with_reducible rfl); simp only [Act.put, List.setIfInBounds_toArray, List.set_cons_zero, List.set_cons_succ])
  refine plan_call (W b) 88 #[.int .u64 (b : Nat)] rfl rfl rfl (fun _ _ h hb => ⟨row_call h.1 hb, h.2.trans (hb.mono h.2.size)⟩) (fun w' hS => by obtain ⟨X0, X1, Xf0, Xf1⟩ := row_two hS.1; go_simp) (fun w' hS => PB.out w') ?_
  simp only [Act.put, List.setIfInBounds_toArray, List.set_cons_zero, List.set_cons_succ]
  refine plan_call (W 1) 87 #[W a, W b] rfl rfl rfl (fun _ _ h hb => ⟨row_call h.1 hb, h.2.trans (hb.mono h.2.size)⟩) (fun w' hS => by obtain ⟨X0, X1, Xf0, Xf1⟩ := row_two hS.1; go_simp) (fun w' hS => PG.out w') ?_
  simp only [Act.put, List.setIfInBounds_toArray, List.set_cons_zero, List.set_cons_succ]
  refine plan_call (W 1) 88 #[.int .u64 1] rfl rfl rfl (fun _ _ h hb => ⟨row_call h.1 hb, h.2.trans (hb.mono h.2.size)⟩) (fun w' hS => by obtain ⟨X0, X1, Xf0, Xf1⟩ := row_two hS.1; go_simp) (fun w' hS => PO.out w') ?_
  simp only [Act.put, List.setIfInBounds_toArray, List.set_cons_zero, List.set_cons_succ]
  (refine plan_pure ?_ rfl rfl (fun w' => ?_) ?_; rotate_left; (go_simp; try with_reducible rfl); simp only [Act.put, List.setIfInBounds_toArray, List.set_cons_zero, List.set_cons_succ])
  (refine plan_pure ?_ rfl rfl (fun w' => ?_) ?_; rotate_left; (go_simp; try with_reducible rfl); simp only [Act.put, List.setIfInBounds_toArray, List.set_cons_zero, List.set_cons_succ])
  refine plan_nil ?_
  intro w3 L
  simp only [List.drop_succ_cons, List.drop_zero]
  try simp only [Act.put, List.setIfInBounds_toArray, List.set_cons_zero, List.set_cons_succ]
  have o2 := L.2
  clear L X o
  go_wp2
  go_ret
  exact ⟨rfl, o2⟩
set_option maxHeartbeats 2000000 in
theorem rratval (a b : Nat) (w : World) (ha : a < 9223372036854775808) (hb0 : 1 ≤ b) (hb : b < 9223372036854775808) (hg : Nat.gcd a b = 1) : Calls Try.prog 96 #[.agg #[.int .i64 (a : Nat), .int .i64 (b : Nat)]] w fun e w' => e = .returned (.bool true) ∧ Below w.heap.size w w' := by
  have PZ := Lib.hid (fun w => rabsN a ha w)
  have PA := Lib.hid (fun w => rof a (by omega) w)
  have PB := Lib.hid (fun w => rof b (by omega) w)
  have PO := Lib.hid (fun w => rof 1 (by omega) w)
  have PG := fun w => rgcd a b (by unfold big; omega) (by unfold big; omega) w
  rw [hg] at PG
  replace PG := Lib.hid PG
  have i1 : (1 : Int) ≤ (b : Int) := by omega
  have d1 : decide ((1 : Int) ≤ (b : Int)) = true := decide_eq_true i1
  have wb : IntKind.u64.wrap (b : Int) = (b : Int) := IntWalk.u64_in _ (by omega)
  clear hg
  go_enter Try.func96, Try.ntmps96
  go_upto_region 1 with (fail)
  have X : Row (w.alloc (.cells #[.int .i64 (a : Nat), .int .i64 (b : Nat)] 48)) w.heap.size 48 #[.int .i64 (a : Nat), .int .i64 (b : Nat)] := row_new rfl
  have o : Below w.heap.size w (w.alloc (.cells #[.int .i64 (a : Nat), .int .i64 (b : Nat)] 48)) := by (repeat (first | exact Below.refl _ _ | refine Below.setCell ?_ (by first | (simp; done) | (simp; omega) | omega) _ | refine Below.alloc ?_ (by first | (simp; done) | (simp; omega) | omega) _ | refine Below.drew ?_ | refine Below.trans ?_ (Below.mono (by assumption) (by first | (simp; done) | (simp; omega) | omega))))
  generalize (w.alloc (.cells #[.int .i64 (a : Nat), .int .i64 (b : Nat)] 48)) = w1 at X o ⊢
  refine wp_region_free0 [0, 1, 2, 3, 4, 5, 6, 7, 8, 9, 10, 11, 12, 13, 14, 15] [] [0, 1, 2, 3, 4, 5, 6, 7, 8, 9, 10, 11, 12, 13, 14, 15] 16 (fun w' => Row w' (w.heap.size) 48 #[.int .i64 (a : Nat), .int .i64 (b : Nat)] ∧ Below w.heap.size w w') (by kernel_rfl) (by kernel_rfl) (fun _ _ d _ _ h => by cases d <;> exact h) ?_ ?_
  · exact ⟨X, o.drew⟩
  (refine plan_pure ?_ rfl rfl (fun w' => ?_) ?_; rotate_left; (go_simp; try with_reducible rfl); simp only [Act.put, List.setIfInBounds_toArray, List.set_cons_zero, List.set_cons_succ])
  (refine plan_val ?_ rfl rfl rfl (fun w' hS => ?_) ?_; rotate_left; (obtain ⟨X0, X1, Xf0, Xf1⟩ := row_two hS.1; go_simp; try with_reducible rfl); simp only [Act.put, List.setIfInBounds_toArray, List.set_cons_zero, List.set_cons_succ])
  (refine plan_pure ?_ rfl rfl (fun w' => ?_) ?_; rotate_left; (go_simp; try with_reducible rfl); simp only [Act.put, List.setIfInBounds_toArray, List.set_cons_zero, List.set_cons_succ])
  (refine plan_pure ?_ rfl rfl (fun w' => ?_) ?_; rotate_left; (go_simp; try with_reducible rfl); simp only [Act.put, List.setIfInBounds_toArray, List.set_cons_zero, List.set_cons_succ])
  (refine plan_pure ?_ rfl rfl (fun w' => ?_) ?_; rotate_left; (go_simp; try with_reducible rfl); simp only [Act.put, List.setIfInBounds_toArray, List.set_cons_zero, List.set_cons_succ])
  (refine plan_val ?_ rfl rfl rfl (fun w' hS => ?_) ?_; rotate_left; (obtain ⟨X0, X1, Xf0, Xf1⟩ := row_two hS.1; go_simp; try with_reducible rfl); simp only [Act.put, List.setIfInBounds_toArray, List.set_cons_zero, List.set_cons_succ])
  refine plan_call (.int .u64 (a : Nat)) 105 #[.int .i64 (a : Nat)] rfl rfl rfl (fun _ _ h hb => ⟨row_call h.1 hb, h.2.trans (hb.mono h.2.size)⟩) (fun w' hS => by obtain ⟨X0, X1, Xf0, Xf1⟩ := row_two hS.1; go_simp) (fun w' hS => (PZ.out w').mono fun _ _ h => ⟨h.1, by rw [h.2]; exact Below.refl _ _⟩) ?_
  simp only [Act.put, List.setIfInBounds_toArray, List.set_cons_zero, List.set_cons_succ]
  refine plan_call (W a) 104 #[.int .u64 (a : Nat)] rfl rfl rfl (fun _ _ h hb => ⟨row_call h.1 hb, h.2.trans (hb.mono h.2.size)⟩) (fun w' hS => by obtain ⟨X0, X1, Xf0, Xf1⟩ := row_two hS.1; go_simp) (fun w' hS => PA.out w') ?_
  simp only [Act.put, List.setIfInBounds_toArray, List.set_cons_zero, List.set_cons_succ]
  (refine plan_pure ?_ rfl rfl (fun w' => ?_) ?_; rotate_left; (go_simp; try with_reducible rfl); simp only [Act.put, List.setIfInBounds_toArray, List.set_cons_zero, List.set_cons_succ])
  (refine plan_val ?_ rfl rfl rfl (fun w' hS => ?_) ?_; rotate_left; (obtain ⟨X0, X1, Xf0, Xf1⟩ := row_two hS.1; go_simp; try with_reducible rfl); simp only [Act.put, List.setIfInBounds_toArray, List.set_cons_zero, List.set_cons_succ])
  (refine plan_pure ?_ rfl rfl (fun w' => ?_) ?_; rotate_left; (go_simp; try with_reducible rfl); simp only [Act.put, List.setIfInBounds_toArray, List.set_cons_zero, List.set_cons_succ])
  refine plan_call (W b) 104 #[.int .u64 (b : Nat)] rfl rfl rfl (fun _ _ h hb => ⟨row_call h.1 hb, h.2.trans (hb.mono h.2.size)⟩) (fun w' hS => by obtain ⟨X0, X1, Xf0, Xf1⟩ := row_two hS.1; go_simp) (fun w' hS => PB.out w') ?_
  simp only [Act.put, List.setIfInBounds_toArray, List.set_cons_zero, List.set_cons_succ]
  refine plan_call (W 1) 103 #[W a, W b] rfl rfl rfl (fun _ _ h hb => ⟨row_call h.1 hb, h.2.trans (hb.mono h.2.size)⟩) (fun w' hS => by obtain ⟨X0, X1, Xf0, Xf1⟩ := row_two hS.1; go_simp) (fun w' hS => PG.out w') ?_
  simp only [Act.put, List.setIfInBounds_toArray, List.set_cons_zero, List.set_cons_succ]
  refine plan_call (W 1) 104 #[.int .u64 1] rfl rfl rfl (fun _ _ h hb => ⟨row_call h.1 hb, h.2.trans (hb.mono h.2.size)⟩) (fun w' hS => by obtain ⟨X0, X1, Xf0, Xf1⟩ := row_two hS.1; go_simp) (fun w' hS => PO.out w') ?_
  simp only [Act.put, List.setIfInBounds_toArray, List.set_cons_zero, List.set_cons_succ]
  (refine plan_pure ?_ rfl rfl (fun w' => ?_) ?_; rotate_left; (go_simp; try with_reducible rfl); simp only [Act.put, List.setIfInBounds_toArray, List.set_cons_zero, List.set_cons_succ])
  (refine plan_pure ?_ rfl rfl (fun w' => ?_) ?_; rotate_left; (go_simp; try with_reducible rfl); simp only [Act.put, List.setIfInBounds_toArray, List.set_cons_zero, List.set_cons_succ])
  refine plan_nil ?_
  intro w3 L
  simp only [List.drop_succ_cons, List.drop_zero]
  try simp only [Act.put, List.setIfInBounds_toArray, List.set_cons_zero, List.set_cons_succ]
  have o2 := L.2
  clear L X o
  go_wp2
  go_ret
  exact ⟨rfl, o2⟩
theorem pexactR (a b : Nat) (w : World) (ha : a < 9223372036854775808) (hb0 : 1 ≤ b) (hb : b < 9223372036854775808) (hg : Nat.gcd a b = 1) : Calls Try.prog 60 #[.agg #[.int .i64 (a : Nat), .int .i64 (b : Nat)]] w fun e w' => e = .returned (.agg #[.int .i64 (a : Nat), .int .i64 (b : Nat), .int .i64 (a : Nat), .int .i64 (b : Nat), .int .i64 (a : Nat), .int .i64 (b : Nat)]) ∧ Below w.heap.size w w' := by
  have PV := Lib.hid (fun w => pratval a b w ha hb0 hb hg)
  clear ha hb0 hb hg
  go_enter Try.func60, Try.ntmps60
  go_wp2_with fail
  have X : Row ((w.alloc (.cells #[.int .i64 (a : Nat), .int .i64 (b : Nat)] 48)).alloc (.cells #[.int .i64 0, .int .i64 0, .int .i64 0, .int .i64 0, .int .i64 0, .int .i64 0] 50)) w.heap.size 48 #[.int .i64 (a : Nat), .int .i64 (b : Nat)] := row_alloc (row_new rfl) _
  have R : Row ((w.alloc (.cells #[.int .i64 (a : Nat), .int .i64 (b : Nat)] 48)).alloc (.cells #[.int .i64 0, .int .i64 0, .int .i64 0, .int .i64 0, .int .i64 0, .int .i64 0] 50)) (w.heap.size + 1) 50 #[.int .i64 0, .int .i64 0, .int .i64 0, .int .i64 0, .int .i64 0, .int .i64 0] := row_new (by simp)
  have o : Below w.heap.size w ((w.alloc (.cells #[.int .i64 (a : Nat), .int .i64 (b : Nat)] 48)).alloc (.cells #[.int .i64 0, .int .i64 0, .int .i64 0, .int .i64 0, .int .i64 0, .int .i64 0] 50)) := by (repeat (first | exact Below.refl _ _ | refine Below.setCell ?_ (by first | (simp; done) | (simp; omega) | omega) _ | refine Below.alloc ?_ (by first | (simp; done) | (simp; omega) | omega) _ | refine Below.drew ?_ | refine Below.trans ?_ (Below.mono (by assumption) (by first | (simp; done) | (simp; omega) | omega))))
  generalize ((w.alloc (.cells #[.int .i64 (a : Nat), .int .i64 (b : Nat)] 48)).alloc (.cells #[.int .i64 0, .int .i64 0, .int .i64 0, .int .i64 0, .int .i64 0, .int .i64 0] 50)) = w1 at X R o ⊢
  refine (PV.out _).mono ?_
  rintro e w2 ⟨rfl, hb2⟩
  replace X := row_call X hb2
  replace R := row_call R hb2
  replace o := o.trans (hb2.mono o.size)
  clear hb2
  obtain ⟨X0, X1, Xf0, Xf1⟩ := row_two X
  obtain ⟨R0, R1, R2, R3, R4, R5, Rf0, Rf1, Rf2, Rf3, Rf4, Rf5⟩ := row_six R
  go_wp2
  exact bodyPost_ret (v := .agg #[.int .i64 (a : Nat), .int .i64 (b : Nat), .int .i64 (a : Nat), .int .i64 (b : Nat), .int .i64 (a : Nat), .int .i64 (b : Nat)]) (by simp [results, Try.results60, go_sem, R0, R1, R2, R3, R4, R5]) rfl ⟨rfl, below_six o (by omega) _ _ _ _ _ _⟩
theorem rexactR (a b : Nat) (w : World) (ha : a < 9223372036854775808) (hb0 : 1 ≤ b) (hb : b < 9223372036854775808) (hg : Nat.gcd a b = 1) : Calls Try.prog 85 #[.agg #[.int .i64 (a : Nat), .int .i64 (b : Nat)]] w fun e w' => e = .returned (.agg #[.int .i64 (a : Nat), .int .i64 (b : Nat), .int .i64 (a : Nat), .int .i64 (b : Nat), .int .i64 (a : Nat), .int .i64 (b : Nat)]) ∧ Below w.heap.size w w' := by
  have PV := Lib.hid (fun w => rratval a b w ha hb0 hb hg)
  clear ha hb0 hb hg
  go_enter Try.func85, Try.ntmps85
  go_wp2_with fail
  have X : Row ((w.alloc (.cells #[.int .i64 (a : Nat), .int .i64 (b : Nat)] 48)).alloc (.cells #[.int .i64 0, .int .i64 0, .int .i64 0, .int .i64 0, .int .i64 0, .int .i64 0] 50)) w.heap.size 48 #[.int .i64 (a : Nat), .int .i64 (b : Nat)] := row_alloc (row_new rfl) _
  have R : Row ((w.alloc (.cells #[.int .i64 (a : Nat), .int .i64 (b : Nat)] 48)).alloc (.cells #[.int .i64 0, .int .i64 0, .int .i64 0, .int .i64 0, .int .i64 0, .int .i64 0] 50)) (w.heap.size + 1) 50 #[.int .i64 0, .int .i64 0, .int .i64 0, .int .i64 0, .int .i64 0, .int .i64 0] := row_new (by simp)
  have o : Below w.heap.size w ((w.alloc (.cells #[.int .i64 (a : Nat), .int .i64 (b : Nat)] 48)).alloc (.cells #[.int .i64 0, .int .i64 0, .int .i64 0, .int .i64 0, .int .i64 0, .int .i64 0] 50)) := by (repeat (first | exact Below.refl _ _ | refine Below.setCell ?_ (by first | (simp; done) | (simp; omega) | omega) _ | refine Below.alloc ?_ (by first | (simp; done) | (simp; omega) | omega) _ | refine Below.drew ?_ | refine Below.trans ?_ (Below.mono (by assumption) (by first | (simp; done) | (simp; omega) | omega))))
  generalize ((w.alloc (.cells #[.int .i64 (a : Nat), .int .i64 (b : Nat)] 48)).alloc (.cells #[.int .i64 0, .int .i64 0, .int .i64 0, .int .i64 0, .int .i64 0, .int .i64 0] 50)) = w1 at X R o ⊢
  refine (PV.out _).mono ?_
  rintro e w2 ⟨rfl, hb2⟩
  replace X := row_call X hb2
  replace R := row_call R hb2
  replace o := o.trans (hb2.mono o.size)
  clear hb2
  obtain ⟨X0, X1, Xf0, Xf1⟩ := row_two X
  obtain ⟨R0, R1, R2, R3, R4, R5, Rf0, Rf1, Rf2, Rf3, Rf4, Rf5⟩ := row_six R
  go_wp2
  exact bodyPost_ret (v := .agg #[.int .i64 (a : Nat), .int .i64 (b : Nat), .int .i64 (a : Nat), .int .i64 (b : Nat), .int .i64 (a : Nat), .int .i64 (b : Nat)]) (by simp [results, Try.results85, go_sem, R0, R1, R2, R3, R4, R5]) rfl ⟨rfl, below_six o (by omega) _ _ _ _ _ _⟩
end Go.Proofs.Ythknkdjpfanlnaa
end
section
/- Plain facts on products of signed numbers: no program is in sight. -/
set_option linter.unusedVariables false
set_option linter.unusedSimpArgs false
set_option linter.unusedSectionVars false
set_option linter.unnecessarySimpa false
namespace Go.Proofs.Ythknkdjpfanlnaa
open Go.RowKit
/-- The order of two integers. -/
def icmp (p q : Int) : Int := if p < q then -1 else if p = q then 0 else 1
/-- The magnitude of a product. -/
def pabs (a b : Int) : Nat := a.natAbs * b.natAbs
/-- The product is below 0 as far as the signs say. -/
def sneg (a b : Int) : Bool := decide (a < 0) != decide (b < 0)
/-- The product is below 0. -/
def pneg (a b : Int) : Bool := sneg a b && !decide (pabs a b = 0)
/-- The sign. -/
def isign (a : Int) : Int := if a < 0 then -1 else if 0 < a then 1 else 0
theorem i64_abs {a : Int} (h : -9223372036854775808 ≤ a ∧ a ≤ 9223372036854775807) : a.natAbs < 18446744073709551616 := by omega
theorem pabs_eq (a b : Int) : pabs a b = (a * b).natAbs := (Int.natAbs_mul a b).symm
theorem pneg_eq (a b : Int) : pneg a b = decide (a * b < 0) := by
  have hz : pabs a b = 0 ↔ a = 0 ∨ b = 0 := by
    unfold pabs
    rw [Nat.mul_eq_zero]
    omega
  unfold pneg sneg
  rcases Int.lt_trichotomy a 0 with h | h | h <;> rcases Int.lt_trichotomy b 0 with k | k | k
  · have := Int.mul_pos_of_neg_of_neg h k
    simp [h, k]; omega
  · subst k; simp [h, hz]
  · have := Int.mul_neg_of_neg_of_pos h k
    have n0 : ¬ b < 0 := by omega
    have : ¬ (pabs a b = 0) := by rw [hz]; omega
    simp [h, n0, this]; omega
  · subst h; simp [k, hz]
  · subst h; subst k; simp
  · subst h; simp [hz] <;> omega
  · have := Int.mul_neg_of_pos_of_neg h k
    have n0 : ¬ a < 0 := by omega
    have : ¬ (pabs a b = 0) := by rw [hz]; omega
    simp [k, n0, this]; omega
  · subst k; simp [hz] <;> omega
  · have := Int.mul_pos h k
    have n0 : ¬ a < 0 := by omega
    have n1 : ¬ b < 0 := by omega
    simp [n0, n1]; omega
/-- What the program answers. -/
def pcrossV (m n : Bool) (x y : Nat) : Int := if m then (if n then cmp y x else -1) else (if n then 1 else cmp x y)
theorem cross_is (a b c d : Int) : pcrossV (pneg a b) (pneg c d) (pabs a b) (pabs c d) = icmp (a * b) (c * d) := by
  rw [pneg_eq, pneg_eq, pabs_eq, pabs_eq]
  generalize a * b = p
  generalize c * d = q
  unfold pcrossV icmp cmp
  by_cases h : p < 0 <;> by_cases k : q < 0 <;> simp only [h, k, decide_true, decide_false, if_true, if_false, Bool.false_eq_true] <;> repeat (first | omega | split)
/-- What the reference answers. -/
def rcrossV (p q : Int) (x y : Nat) : Int := if p < q then -1 else if q < p then 1 else p * cmp x y
end Go.Proofs.Ythknkdjpfanlnaa
end
section
/- The exact comparison of two products, walked: the program, the reference and the law. -/
set_option linter.unusedVariables false
set_option linter.unusedSimpArgs false
set_option linter.unusedSectionVars false
set_option linter.unnecessarySimpa false
namespace Go.Proofs.Ythknkdjpfanlnaa
open Go.RowKit Go.Shelf
theorem ret_eqX {k : IntKind} {a b : Int} (h : a = b) : Ending.returned (.int k a) = .returned (.int k b) := by rw [h]
theorem neg_wrap (a : Int) (h : -9223372036854775808 ≤ a) (k : a < 0) : IntKind.u64.wrap (-IntKind.u64.wrap a) = (a.natAbs : Int) := by
  rw [IntKind.wrap_u64, IntKind.wrap_u64]
  omega
theorem wpsize (a : Int) (h : -9223372036854775808 ≤ a ∧ a ≤ 9223372036854775807) (w : World) :
    Calls Try.prog 108 #[.int .i64 a] w fun e w' => e = .returned (.int .u64 (a.natAbs : Int)) ∧ w' = w := by
  obtain ⟨h1, h2⟩ := h
  by_cases hn : a < 0
  all_goals
    go_enter Try.func108, Try.ntmps108
    go_wp2
    go_ret
    exact ⟨ret_eqX (by first | omega | exact neg_wrap a h1 hn), rfl⟩
theorem pprodn (x y : Nat) (hx : x < 18446744073709551616) (hy : y < 18446744073709551616) (w : World) :
    Calls Try.prog 73 #[.int .u64 x, .int .u64 y] w fun e w' => e = .returned (W (x * y)) ∧ Below w.heap.size w w' := pproduct x y ⟨by omega, by omega⟩ ⟨by omega, by omega⟩ w
theorem psigned (a b : Int) (ha : -9223372036854775808 ≤ a ∧ a ≤ 9223372036854775807) (hb : -9223372036854775808 ≤ b ∧ b ≤ 9223372036854775807) (w : World) :
    Calls Try.prog 100 #[.int .i64 a, .int .i64 b] w fun e w' => e = .returned (.tuple #[.bool (sneg a b), W (pabs a b)]) ∧ Below w.heap.size w w' := by
  have HA := Lib.hid (fun w => wpsize a ha w)
  have HB := Lib.hid (fun w => wpsize b hb w)
  have HP := Lib.hid (fun w => pprodn a.natAbs b.natAbs (i64_abs ha) (i64_abs hb) w)
  clear ha hb
  unfold sneg pabs
  generalize a.natAbs * b.natAbs = z at HP ⊢
  generalize a.natAbs = x at HA HP
  generalize b.natAbs = y at HB HP
  go_enter Try.func100, Try.ntmps100
  go_wp2_with (first | (go_at_call 108; (first | with_reducible refine (HA.out _).mono ?_ | with_reducible refine (HB.out _).mono ?_); rintro e w9 ⟨rfl, rfl⟩) | (go_at_call 73; refine (HP.out _).mono ?_; rintro e w1 ⟨rfl, hb1⟩; have hz1 := hb1.size; (try simp at hz1); have q1_0 : w.heap.size < w1.heap.size := (by omega); have r1_0 : Row w1 (w.heap.size) 92 #[.int .u64 0, .int .u64 0] := row_call (by (repeat (first | assumption | (refine row_new ?_; (first | (simp; done) | omega)) | refine row_alloc ?_ _ | refine row_drew ?_ | refine row_call ?_ (by assumption)))) hb1; obtain ⟨c1_0a, c1_0b, f1_0a, f1_0b⟩ := row_two r1_0))
  have r2 := row_two_set (u := .int .u64 (hi z)) (v := .int .u64 (lo z)) r1_0
  have o2 : Below w.heap.size w ((w1.setCell ⟨w.heap.size, 0, none⟩ (.int .u64 (hi z))).setCell ⟨w.heap.size, 1, none⟩ (.int .u64 (lo z))) := by
    (repeat (first | exact Below.refl _ _ | refine Below.setCell ?_ (by first | (simp; done) | (simp; omega) | omega) _ | refine Below.alloc ?_ (by first | (simp; done) | (simp; omega) | omega) _ | refine Below.drew ?_ | refine Below.trans ?_ (Below.mono (by assumption) (by first | (simp; done) | (simp; omega) | omega))))
  generalize ((w1.setCell ⟨w.heap.size, 0, none⟩ (.int .u64 (hi z))).setCell ⟨w.heap.size, 1, none⟩ (.int .u64 (lo z))) = w2 at r2 o2 ⊢
  obtain ⟨d1, d2, _, _⟩ := row_two r2
  exact bodyPost_ret (v := .tuple #[.bool (decide (a < 0) != decide (b < 0)), W z]) (by simp [results, Try.results100, go_sem, bne, W, d1, d2]) rfl ⟨rfl, o2⟩
theorem pcross_in (a b c d : Int) (s1 s2 z1 z2 : Bool) (x y : Nat)
    (H1 : RowKit.Hid (∀ w, Calls Try.prog 100 #[.int .i64 a, .int .i64 b] w fun e w' => e = .returned (.tuple #[.bool s1, W x]) ∧ Below w.heap.size w w'))
    (H2 : RowKit.Hid (∀ w, Calls Try.prog 100 #[.int .i64 c, .int .i64 d] w fun e w' => e = .returned (.tuple #[.bool s2, W y]) ∧ Below w.heap.size w w'))
    (Z1 : RowKit.Hid (∀ w, Calls Try.prog 98 #[W x] w fun e w' => e = .returned (.bool z1) ∧ Below w.heap.size w w'))
    (Z2 : RowKit.Hid (∀ w, Calls Try.prog 98 #[W y] w fun e w' => e = .returned (.bool z2) ∧ Below w.heap.size w w')) (w : World) :
    Calls Try.prog 90 #[.int .i64 a, .int .i64 b, .int .i64 c, .int .i64 d] w fun e w' => e = .returned (.int .i64 (pcrossV (s1 && !z1) (s2 && !z2) x y)) ∧ Below w.heap.size w w' := by
  cases s1 <;> cases s2 <;> cases z1 <;> cases z2
  all_goals
    go_enter Try.func90, Try.ntmps90
    go_wp2_with (first | (go_at_call 100; with_reducible refine (H1.out _).mono ?_; rintro e w1 ⟨rfl, hb1⟩; have hz1 := hb1.size; (try simp at hz1)) | (go_at_call 100; with_reducible refine (H2.out _).mono ?_; rintro e w2 ⟨rfl, hb2⟩; have hz2 := hb2.size; (try simp at hz2); have q2_0 : w1.heap.size < w2.heap.size := (by omega); have r2_0 : Row w2 (w1.heap.size) 92 (Wc x) := row_call (by (repeat (first | assumption | (refine row_new ?_; (first | (simp; done) | omega)) | refine row_alloc ?_ _ | refine row_drew ?_ | refine row_call ?_ (by assumption)))) hb2; obtain ⟨c2_0a, c2_0b, f2_0a, f2_0b⟩ := row_two r2_0) | (go_at_call 98; with_reducible refine (Z1.out _).mono ?_; rintro e w3 ⟨rfl, hb3⟩; have hz3 := hb3.size; (try simp at hz3); have q3_0 : w1.heap.size < w3.heap.size := (by omega); have r3_0 : Row w3 (w1.heap.size) 92 (Wc x) := row_call (by (repeat (first | assumption | (refine row_new ?_; (first | (simp; done) | omega)) | refine row_alloc ?_ _ | refine row_drew ?_ | refine row_call ?_ (by assumption)))) hb3; obtain ⟨c3_0a, c3_0b, f3_0a, f3_0b⟩ := row_two r3_0; have q3_1 : w2.heap.size < w3.heap.size := (by omega); have r3_1 : Row w3 (w2.heap.size) 92 (Wc y) := row_call (by (repeat (first | assumption | (refine row_new ?_; (first | (simp; done) | omega)) | refine row_alloc ?_ _ | refine row_drew ?_ | refine row_call ?_ (by assumption)))) hb3; obtain ⟨c3_1a, c3_1b, f3_1a, f3_1b⟩ := row_two r3_1) | (go_at_call 98; with_reducible refine (Z2.out _).mono ?_; rintro e w4 ⟨rfl, hb4⟩; have hz4 := hb4.size; (try simp at hz4); have q4_0 : w1.heap.size < w4.heap.size := (by omega); have r4_0 : Row w4 (w1.heap.size) 92 (Wc x) := row_call (by (repeat (first | assumption | (refine row_new ?_; (first | (simp; done) | omega)) | refine row_alloc ?_ _ | refine row_drew ?_ | refine row_call ?_ (by assumption)))) hb4; obtain ⟨c4_0a, c4_0b, f4_0a, f4_0b⟩ := row_two r4_0; have q4_1 : w2.heap.size < w4.heap.size := (by omega); have r4_1 : Row w4 (w2.heap.size) 92 (Wc y) := row_call (by (repeat (first | assumption | (refine row_new ?_; (first | (simp; done) | omega)) | refine row_alloc ?_ _ | refine row_drew ?_ | refine row_call ?_ (by assumption)))) hb4; obtain ⟨c4_1a, c4_1b, f4_1a, f4_1b⟩ := row_two r4_1) | (go_at_call 101; refine (pcmp_any _ _ _).mono ?_; rintro e w5 ⟨rfl, hb5⟩; have hz5 := hb5.size; (try simp at hz5)))
    all_goals
      go_ret
      refine ⟨rfl, ?_⟩
      (repeat (first | exact Below.refl _ _ | refine Below.setCell ?_ (by first | (simp; done) | (simp; omega) | omega) _ | refine Below.alloc ?_ (by first | (simp; done) | (simp; omega) | omega) _ | refine Below.drew ?_ | refine Below.trans ?_ (Below.mono (by assumption) (by first | (simp; done) | (simp; omega) | omega))))
theorem pcross (a b c d : Int) (ha : -9223372036854775808 ≤ a ∧ a ≤ 9223372036854775807) (hb : -9223372036854775808 ≤ b ∧ b ≤ 9223372036854775807) (hc : -9223372036854775808 ≤ c ∧ c ≤ 9223372036854775807) (hd : -9223372036854775808 ≤ d ∧ d ≤ 9223372036854775807) (w : World) :
    Calls Try.prog 90 #[.int .i64 a, .int .i64 b, .int .i64 c, .int .i64 d] w fun e w' => e = .returned (.int .i64 (icmp (a * b) (c * d))) ∧ Below w.heap.size w w' := by
  have h := pcross_in a b c d _ _ _ _ _ _ (Lib.hid fun w => psigned a b ha hb w) (Lib.hid fun w => psigned c d hc hd w) (Lib.hid fun w => pzero (pabs a b) w) (Lib.hid fun w => pzero (pabs c d) w) w
  rw [show (sneg a b && !decide (pabs a b = 0)) = pneg a b from rfl, show (sneg c d && !decide (pabs c d = 0)) = pneg c d from rfl, cross_is] at h
  exact h
end Go.Proofs.Ythknkdjpfanlnaa
end
section
/- Unsigned numbers of 256 bits times a word, walked. -/
set_option linter.unusedVariables false
set_option linter.unusedSimpArgs false
set_option linter.unusedSectionVars false
set_option linter.unnecessarySimpa false
namespace Go.Proofs.Ythknkdjpfanlnaa
open Go.RowKit Go.Shelf
/-- The word i of a number. -/
def qd (i N : Nat) : Nat := N / 18446744073709551616 ^ i % 18446744073709551616
/-- What the words below i carry over in the product with n. -/
def qc (N n i : Nat) : Nat := N % 18446744073709551616 ^ i * n / 18446744073709551616 ^ i
def QV (N : Nat) : Value := .agg #[.int .u64 (qd 0 N), .int .u64 (qd 1 N), .int .u64 (qd 2 N), .int .u64 (qd 3 N)]
theorem qd_lt (i N : Nat) : qd i N < 18446744073709551616 := Nat.mod_lt _ (by decide)
theorem pow_pos64 (i : Nat) : 0 < 18446744073709551616 ^ i := Nat.pow_pos (by decide)
theorem qc_split (N n i : Nat) : N * n / 18446744073709551616 ^ i = N / 18446744073709551616 ^ i * n + qc N n i := by
  have h := pow_pos64 i
  unfold qc
  generalize 18446744073709551616 ^ i = b at *
  have e : N * n = N % b * n + b * (N / b * n) := by
    have := Nat.mod_add_div N b
    calc N * n = (N % b + b * (N / b)) * n := by rw [this]
      _ = N % b * n + b * (N / b * n) := by rw [Nat.add_mul, Nat.mul_assoc]
  rw [e, Nat.add_mul_div_left _ _ h, Nat.add_comm]
theorem qc_lt {N n i : Nat} (hn : n < 18446744073709551616) : qc N n i < 18446744073709551616 := by
  have h := pow_pos64 i
  unfold qc
  generalize 18446744073709551616 ^ i = b at *
  have h1 : N % b * n ≤ b * n := Nat.mul_le_mul_right _ (Nat.le_of_lt (Nat.mod_lt _ h))
  have h2 : N % b * n / b ≤ b * n / b := Nat.div_le_div_right h1
  rw [Nat.mul_div_cancel_left _ h] at h2
  omega
theorem qd_step (N i : Nat) : N / 18446744073709551616 ^ i = qd i N + 18446744073709551616 * (N / 18446744073709551616 ^ (i + 1)) := by
  unfold qd
  rw [Nat.pow_succ, ← Nat.div_div_eq_div_mul]
  exact (Nat.mod_add_div _ _).symm
theorem q_mod (N n i : Nat) : (qd i N * n + qc N n i) % 18446744073709551616 = qd i (N * n) := by
  have h := qc_split N n i
  have e : qd i (N * n) = (N / 18446744073709551616 ^ i * n + qc N n i) % 18446744073709551616 := by rw [← h]; rfl
  rw [e, qd_step N i, Nat.add_mul, Nat.mul_assoc, Nat.add_right_comm, Nat.add_mul_mod_self_left]
theorem q_div (N n i : Nat) : (qd i N * n + qc N n i) / 18446744073709551616 = qc N n (i + 1) := by
  have h := qc_split N n i
  have h2 := qc_split N n (i + 1)
  have h3 : N * n / 18446744073709551616 ^ (i + 1) = N * n / 18446744073709551616 ^ i / 18446744073709551616 := by rw [Nat.pow_succ, Nat.div_div_eq_div_mul]
  have h4 : (N / 18446744073709551616 ^ i * n + qc N n i) / 18446744073709551616 = (qd i N * n + qc N n i) / 18446744073709551616 + N / 18446744073709551616 ^ (i + 1) * n := by
    rw [qd_step N i, Nat.add_mul, Nat.mul_assoc, Nat.add_right_comm, Nat.add_mul_div_left _ _ (by decide)]
  rw [h3, h, h4] at h2
  generalize N / 18446744073709551616 ^ (i + 1) * n = y at h2
  generalize (qd i N * n + qc N n i) / 18446744073709551616 = z at h2 ⊢
  omega
theorem qc_zero (N n : Nat) : qc N n 0 = 0 := by unfold qc; simp [Nat.mod_one]
theorem lo_hi_add {P c : Nat} (hP : P < big) (hc : c < 18446744073709551616) : (lo P + (c : Int)) % 18446744073709551616 = (((P + c) % 18446744073709551616 : Nat) : Int) ∧ hi P + (lo P + (c : Int)) / 18446744073709551616 = (((P + c) / 18446744073709551616 : Nat) : Int) := by
  unfold lo hi
  omega
theorem q_words {N n i : Nat} (hn : n < 18446744073709551616) : (lo (qd i N * n) + (qc N n i : Int)) % 18446744073709551616 = (qd i (N * n) : Nat) ∧ IntKind.u64.wrap (hi (qd i N * n) + (lo (qd i N * n) + (qc N n i : Int)) / 18446744073709551616) = (qc N n (i + 1) : Nat) := by
  obtain ⟨h1, h2⟩ := lo_hi_add (P := qd i N * n) (c := qc N n i) (mul_big (qd_lt i N) hn) (qc_lt hn)
  rw [h1, h2, q_mod, q_div]
  exact ⟨rfl, wrap_word ⟨by omega, by have := @qc_lt N n (i + 1) hn; omega⟩⟩
theorem qmul64 (x n : Nat) (hx : x < 18446744073709551616) (hn : n < 18446744073709551616) (w : World) : Calls Try.prog 94 #[.int .u64 (x : Nat), .int .u64 (n : Nat)] w fun e w' => e = .returned (.tuple #[.int .u64 (hi (x * n)), .int .u64 (lo (x * n))]) ∧ w' = w := by
  have h := mul64 (x : Int) (n : Int) ⟨by omega, by omega⟩ ⟨by omega, by omega⟩ w
  rw [Int.toNat_natCast, Int.toNat_natCast] at h
  exact h
set_option maxHeartbeats 4000000 in
theorem ptimes_flat (x0 x1 x2 x3 r0 r1 r2 r3 k1 k2 k3 k4 : Int) (N n : Nat) (w : World) (hn : n < 18446744073709551616)
    (hx0 : x0 = (qd 0 N : Nat)) (hx1 : x1 = (qd 1 N : Nat)) (hx2 : x2 = (qd 2 N : Nat)) (hx3 : x3 = (qd 3 N : Nat))
    (hr0 : r0 = (qd 0 (N * n) : Nat)) (hr1 : r1 = (qd 1 (N * n) : Nat)) (hr2 : r2 = (qd 2 (N * n) : Nat)) (hr3 : r3 = (qd 3 (N * n) : Nat))
    (hk1 : k1 = (qc N n 1 : Nat)) (hk2 : k2 = (qc N n 2 : Nat)) (hk3 : k3 = (qc N n 3 : Nat)) (hk4 : k4 = (qc N n 4 : Nat)) :
    Calls Try.prog 72 #[.agg #[.int .u64 x0, .int .u64 x1, .int .u64 x2, .int .u64 x3], .int .u64 (n : Nat)] w fun e w' => e = .returned (.agg #[.int .u64 r0, .int .u64 r1, .int .u64 r2, .int .u64 r3]) ∧ Below w.heap.size w w' := by
  obtain ⟨p0, s0⟩ := q_words (N := N) (n := n) (i := 0) hn
  have M0 := fun w => qmul64 (qd 0 N) n (qd_lt 0 N) hn w
  have l0 := (lo_word (qd 0 N * n)).1
  rw [qc_zero] at p0 s0
  rw [← hx0] at M0
  rw [← hr0] at p0
  rw [show 0 + 1 = 1 from rfl, ← hk1] at s0
  generalize lo (qd 0 N * n) = lo0 at M0 p0 s0 l0
  generalize hi (qd 0 N * n) = hi0 at M0 s0
  replace M0 := Lib.hid M0
  obtain ⟨p1, s1⟩ := q_words (N := N) (n := n) (i := 1) hn
  have M1 := fun w => qmul64 (qd 1 N) n (qd_lt 1 N) hn w
  have l1 := (lo_word (qd 1 N * n)).1
  rw [← hx1] at M1
  rw [← hr1] at p1
  rw [show 1 + 1 = 2 from rfl, ← hk2] at s1
  rw [← hk1] at p1 s1
  have b1 : 0 ≤ k1 := by omega
  generalize lo (qd 1 N * n) = lo1 at M1 p1 s1 l1
  generalize hi (qd 1 N * n) = hi1 at M1 s1
  replace M1 := Lib.hid M1
  obtain ⟨p2, s2⟩ := q_words (N := N) (n := n) (i := 2) hn
  have M2 := fun w => qmul64 (qd 2 N) n (qd_lt 2 N) hn w
  have l2 := (lo_word (qd 2 N * n)).1
  rw [← hx2] at M2
  rw [← hr2] at p2
  rw [show 2 + 1 = 3 from rfl, ← hk3] at s2
  rw [← hk2] at p2 s2
  have b2 : 0 ≤ k2 := by omega
  generalize lo (qd 2 N * n) = lo2 at M2 p2 s2 l2
  generalize hi (qd 2 N * n) = hi2 at M2 s2
  replace M2 := Lib.hid M2
  obtain ⟨p3, s3⟩ := q_words (N := N) (n := n) (i := 3) hn
  have M3 := fun w => qmul64 (qd 3 N) n (qd_lt 3 N) hn w
  have l3 := (lo_word (qd 3 N * n)).1
  rw [← hx3] at M3
  rw [← hr3] at p3
  rw [show 3 + 1 = 4 from rfl, ← hk4] at s3
  rw [← hk3] at p3 s3
  have b3 : 0 ≤ k3 := by omega
  generalize lo (qd 3 N * n) = lo3 at M3 p3 s3 l3
  generalize hi (qd 3 N * n) = hi3 at M3 s3
  replace M3 := Lib.hid M3
  rw [show (((0 : Nat) : Int)) = 0 from rfl, Int.add_zero] at p0 s0
  clear hx0 hx1 hx2 hx3 hr0 hr1 hr2 hr3 hk1 hk2 hk3 hk4
  go_enter Try.func72, Try.ntmps72
  go_upto_region 3 with (fail)
  have W0 : Row (((w.alloc (.cells #[.int .u64 x0, .int .u64 x1, .int .u64 x2, .int .u64 x3] 95)).alloc (.cells #[.int .u64 0, .int .u64 0, .int .u64 0, .int .u64 0] 95)).alloc (.cells #[.int .u64 0, .int .u64 0, .int .u64 0, .int .u64 0] 95)) (w.heap.size) 95 #[.int .u64 x0, .int .u64 x1, .int .u64 x2, .int .u64 x3] := row_alloc (row_alloc (row_new rfl) _) _
  have W1 : Row (((w.alloc (.cells #[.int .u64 x0, .int .u64 x1, .int .u64 x2, .int .u64 x3] 95)).alloc (.cells #[.int .u64 0, .int .u64 0, .int .u64 0, .int .u64 0] 95)).alloc (.cells #[.int .u64 0, .int .u64 0, .int .u64 0, .int .u64 0] 95)) (w.heap.size + 1) 95 #[.int .u64 0, .int .u64 0, .int .u64 0, .int .u64 0] := row_alloc (row_new (by simp)) _
  have W2 : Row (((w.alloc (.cells #[.int .u64 x0, .int .u64 x1, .int .u64 x2, .int .u64 x3] 95)).alloc (.cells #[.int .u64 0, .int .u64 0, .int .u64 0, .int .u64 0] 95)).alloc (.cells #[.int .u64 0, .int .u64 0, .int .u64 0, .int .u64 0] 95)) (w.heap.size + 2) 95 #[.int .u64 0, .int .u64 0, .int .u64 0, .int .u64 0] := row_new (by simp)
  have o : Below w.heap.size w (((w.alloc (.cells #[.int .u64 x0, .int .u64 x1, .int .u64 x2, .int .u64 x3] 95)).alloc (.cells #[.int .u64 0, .int .u64 0, .int .u64 0, .int .u64 0] 95)).alloc (.cells #[.int .u64 0, .int .u64 0, .int .u64 0, .int .u64 0] 95)) := by (repeat (first | exact Below.refl _ _ | refine Below.setCell ?_ (by first | (simp; done) | (simp; omega) | omega) _ | refine Below.alloc ?_ (by first | (simp; done) | (simp; omega) | omega) _ | refine Below.drew ?_ | refine Below.trans ?_ (Below.mono (by assumption) (by first | (simp; done) | (simp; omega) | omega))))
  generalize (((w.alloc (.cells #[.int .u64 x0, .int .u64 x1, .int .u64 x2, .int .u64 x3] 95)).alloc (.cells #[.int .u64 0, .int .u64 0, .int .u64 0, .int .u64 0] 95)).alloc (.cells #[.int .u64 0, .int .u64 0, .int .u64 0, .int .u64 0] 95)) = w3 at W0 W1 W2 o ⊢
  go_upto_region 4 with (fail)
  go_loopw [6, 12] (fun cv i wr => (i = .int .i64 0 ∧ cv = .int .u64 0 ∧ Row wr (w.heap.size) 95 #[.int .u64 x0, .int .u64 x1, .int .u64 x2, .int .u64 x3] ∧ Row wr (w.heap.size + 1) 95 #[.int .u64 0, .int .u64 0, .int .u64 0, .int .u64 0] ∧ Row wr (w.heap.size + 2) 95 #[.int .u64 0, .int .u64 0, .int .u64 0, .int .u64 0] ∧ Below w.heap.size w wr) ∨ (i = .int .i64 1 ∧ cv = .int .u64 k1 ∧ Row wr (w.heap.size) 95 #[.int .u64 x0, .int .u64 x1, .int .u64 x2, .int .u64 x3] ∧ Row wr (w.heap.size + 1) 95 #[.int .u64 0, .int .u64 0, .int .u64 0, .int .u64 0] ∧ Row wr (w.heap.size + 2) 95 #[.int .u64 r0, .int .u64 0, .int .u64 0, .int .u64 0] ∧ Below w.heap.size w wr) ∨ (i = .int .i64 2 ∧ cv = .int .u64 k2 ∧ Row wr (w.heap.size) 95 #[.int .u64 x0, .int .u64 x1, .int .u64 x2, .int .u64 x3] ∧ Row wr (w.heap.size + 1) 95 #[.int .u64 0, .int .u64 0, .int .u64 0, .int .u64 0] ∧ Row wr (w.heap.size + 2) 95 #[.int .u64 r0, .int .u64 r1, .int .u64 0, .int .u64 0] ∧ Below w.heap.size w wr) ∨ (i = .int .i64 3 ∧ cv = .int .u64 k3 ∧ Row wr (w.heap.size) 95 #[.int .u64 x0, .int .u64 x1, .int .u64 x2, .int .u64 x3] ∧ Row wr (w.heap.size + 1) 95 #[.int .u64 0, .int .u64 0, .int .u64 0, .int .u64 0] ∧ Row wr (w.heap.size + 2) 95 #[.int .u64 r0, .int .u64 r1, .int .u64 r2, .int .u64 0] ∧ Below w.heap.size w wr) ∨ (i = .int .i64 4 ∧ cv = .int .u64 k4 ∧ Row wr (w.heap.size) 95 #[.int .u64 x0, .int .u64 x1, .int .u64 x2, .int .u64 x3] ∧ Row wr (w.heap.size + 1) 95 #[.int .u64 0, .int .u64 0, .int .u64 0, .int .u64 0] ∧ Row wr (w.heap.size + 2) 95 #[.int .u64 r0, .int .u64 r1, .int .u64 r2, .int .u64 r3] ∧ Below w.heap.size w wr)) (fun _ i _ => 4 - (intOf i).toNat)
  case atStart => exact .inl ⟨rfl, rfl, W0, W1, W2, o⟩
  case round =>
    clear W0 W1 W2 o
    rcases hrel with ⟨rfl, rfl, W0, W1, W2, o⟩ | ⟨rfl, rfl, W0, W1, W2, o⟩ | ⟨rfl, rfl, W0, W1, W2, o⟩ | ⟨rfl, rfl, W0, W1, W2, o⟩ | ⟨rfl, rfl, W0, W1, W2, o⟩
    · obtain ⟨X0, X1, X2, X3, Xf0, Xf1, Xf2, Xf3⟩ := row_four W0
      obtain ⟨O0, O1, O2, O3, Of0, Of1, Of2, Of3⟩ := row_four W2
      go_wp2_with (first | (go_at_call 94; refine (M0.out _).mono ?_; rintro e w' ⟨rfl, h9⟩; obtain rfl := h9.symm) | simp only [add64_0 lo0 0 l0 (Int.le_refl 0)])
      go_roundw
      case rel => exact .inr (.inl ⟨rfl, rfl, row_other W0 (by show w.heap.size ≠ w.heap.size + 2; omega) _, row_other W1 (by show w.heap.size + 1 ≠ w.heap.size + 2; omega) _, row_set W2 0 _, o.setCell (by show w.heap.size ≤ w.heap.size + 2; omega) _⟩)
      case measure => simp [intOf]
    · obtain ⟨X0, X1, X2, X3, Xf0, Xf1, Xf2, Xf3⟩ := row_four W0
      obtain ⟨O0, O1, O2, O3, Of0, Of1, Of2, Of3⟩ := row_four W2
      go_wp2_with (first | (go_at_call 94; refine (M1.out _).mono ?_; rintro e w' ⟨rfl, h9⟩; obtain rfl := h9.symm) | simp only [add64_0 lo1 k1 l1 b1])
      go_roundw
      case rel => exact .inr (.inr (.inl ⟨rfl, rfl, row_other W0 (by show w.heap.size ≠ w.heap.size + 2; omega) _, row_other W1 (by show w.heap.size + 1 ≠ w.heap.size + 2; omega) _, row_set W2 1 _, o.setCell (by show w.heap.size ≤ w.heap.size + 2; omega) _⟩))
      case measure => simp [intOf]
    · obtain ⟨X0, X1, X2, X3, Xf0, Xf1, Xf2, Xf3⟩ := row_four W0
      obtain ⟨O0, O1, O2, O3, Of0, Of1, Of2, Of3⟩ := row_four W2
      go_wp2_with (first | (go_at_call 94; refine (M2.out _).mono ?_; rintro e w' ⟨rfl, h9⟩; obtain rfl := h9.symm) | simp only [add64_0 lo2 k2 l2 b2])
      go_roundw
      case rel => exact .inr (.inr (.inr (.inl ⟨rfl, rfl, row_other W0 (by show w.heap.size ≠ w.heap.size + 2; omega) _, row_other W1 (by show w.heap.size + 1 ≠ w.heap.size + 2; omega) _, row_set W2 2 _, o.setCell (by show w.heap.size ≤ w.heap.size + 2; omega) _⟩)))
      case measure => simp [intOf]
    · obtain ⟨X0, X1, X2, X3, Xf0, Xf1, Xf2, Xf3⟩ := row_four W0
      obtain ⟨O0, O1, O2, O3, Of0, Of1, Of2, Of3⟩ := row_four W2
      go_wp2_with (first | (go_at_call 94; refine (M3.out _).mono ?_; rintro e w' ⟨rfl, h9⟩; obtain rfl := h9.symm) | simp only [add64_0 lo3 k3 l3 b3])
      go_roundw
      case rel => exact .inr (.inr (.inr (.inr (⟨rfl, rfl, row_other W0 (by show w.heap.size ≠ w.heap.size + 2; omega) _, row_other W1 (by show w.heap.size + 1 ≠ w.heap.size + 2; omega) _, row_set W2 3 _, o.setCell (by show w.heap.size ≤ w.heap.size + 2; omega) _⟩))))
      case measure => simp [intOf]
    · obtain ⟨O0, O1, O2, O3, Of0, Of1, Of2, Of3⟩ := row_four W2
      obtain ⟨R0, R1, R2, R3, Rf0, Rf1, Rf2, Rf3⟩ := row_four W1
      have hbge : w.heap.size ≤ w.heap.size + 1 := by omega
      go_wp2
      have R9 : Row ((((wr.setCell ⟨w.heap.size + 1, 0, none⟩ (.int .u64 r0)).setCell ⟨w.heap.size + 1, 1, none⟩ (.int .u64 r1)).setCell ⟨w.heap.size + 1, 2, none⟩ (.int .u64 r2)).setCell ⟨w.heap.size + 1, 3, none⟩ (.int .u64 r3)) (w.heap.size + 1) 95 #[.int .u64 r0, .int .u64 r1, .int .u64 r2, .int .u64 r3] := (row_set (row_set (row_set (row_set W1 0 (.int .u64 r0)) 1 (.int .u64 r1)) 2 (.int .u64 r2)) 3 (.int .u64 r3))
      have o9 : Below w.heap.size w ((((wr.setCell ⟨w.heap.size + 1, 0, none⟩ (.int .u64 r0)).setCell ⟨w.heap.size + 1, 1, none⟩ (.int .u64 r1)).setCell ⟨w.heap.size + 1, 2, none⟩ (.int .u64 r2)).setCell ⟨w.heap.size + 1, 3, none⟩ (.int .u64 r3)) := (Below.setCell (p := ⟨w.heap.size + 1, 3, none⟩) (Below.setCell (p := ⟨w.heap.size + 1, 2, none⟩) (Below.setCell (p := ⟨w.heap.size + 1, 1, none⟩) (Below.setCell (p := ⟨w.heap.size + 1, 0, none⟩) o hbge (.int .u64 r0)) hbge (.int .u64 r1)) hbge (.int .u64 r2)) hbge (.int .u64 r3))
      generalize ((((wr.setCell ⟨w.heap.size + 1, 0, none⟩ (.int .u64 r0)).setCell ⟨w.heap.size + 1, 1, none⟩ (.int .u64 r1)).setCell ⟨w.heap.size + 1, 2, none⟩ (.int .u64 r2)).setCell ⟨w.heap.size + 1, 3, none⟩ (.int .u64 r3)) = w9 at R9 o9 ⊢
      obtain ⟨N0, N1, N2, N3, Nf0, Nf1, Nf2, Nf3⟩ := row_four R9
      exact bodyPost_ret (v := .agg #[.int .u64 r0, .int .u64 r1, .int .u64 r2, .int .u64 r3]) (by simp [results, Try.results72, go_sem, List.getElem?_toArray, N0, N1, N2, N3]) rfl ⟨rfl, o9⟩
theorem ptimes (N n : Nat) (w : World) (hn : n < 18446744073709551616) : Calls Try.prog 72 #[QV N, .int .u64 (n : Nat)] w fun e w' => e = .returned (QV (N * n)) ∧ Below w.heap.size w w' :=
  ptimes_flat _ _ _ _ _ _ _ _ _ _ _ _ N n w hn rfl rfl rfl rfl rfl rfl rfl rfl rfl rfl rfl rfl
end Go.Proofs.Ythknkdjpfanlnaa
end
section
/- Ratios are compared, intervals are valid and hold a number: for ratios that are not negative, walked. -/
set_option linter.unusedVariables false
set_option linter.unusedSimpArgs false
set_option linter.unusedSectionVars false
set_option linter.unnecessarySimpa false
namespace Go.Proofs.Ythknkdjpfanlnaa
open Go.RowKit Go.Shelf
/-- A ratio in lowest terms that is not negative and not large. -/
def RatOK (a b : Nat) : Prop := a < 4611686018427387904 ∧ (1 ≤ b ∧ b ≤ 4294967295) ∧ Nat.gcd a b = 1
theorem ratOK_one {a : Nat} (h : a < 4611686018427387904) : RatOK a 1 := ⟨h, ⟨by omega, by omega⟩, Nat.gcd_one_right a⟩
theorem pvR {a b : Nat} (h : RatOK a b) (w : World) : Calls Try.prog 69 #[.agg #[.int .i64 (a : Nat), .int .i64 (b : Nat)]] w fun e w' => e = .returned (.bool true) ∧ Below w.heap.size w w' := pratval a b w (by have := h.1; omega) h.2.1.1 (by have := h.2.1.2; omega) h.2.2
theorem pcmpR {a b c d : Nat} (h1 : RatOK a b) (h2 : RatOK c d) (w : World) : Calls Try.prog 70 #[.agg #[.int .i64 (a : Nat), .int .i64 (b : Nat)], .agg #[.int .i64 (c : Nat), .int .i64 (d : Nat)]] w fun e w' => e = .returned (.int .i64 (icmp ((a : Int) * (d : Int)) ((c : Int) * (b : Int)))) ∧ Below w.heap.size w w' := by
  have P1 := Lib.hid (fun w => pvR h1 w)
  have P2 := Lib.hid (fun w => pvR h2 w)
  have P3 := fun w => pcross (a : Int) (d : Int) (c : Int) (b : Int) (by have := h1.1; omega) (by have := h2.2.1.2; omega) (by have := h2.1; omega) (by have := h1.2.1.2; omega) w
  generalize icmp ((a : Int) * (d : Int)) ((c : Int) * (b : Int)) = r at P3 ⊢
  replace P3 := Lib.hid P3
  clear h1 h2
  go_enter Try.func70, Try.ntmps70
  go_wp2_with (first | (go_at_call 69; with_reducible refine (P1.out _).mono ?_; rintro e w1 ⟨rfl, hb1⟩; have hz1 := hb1.size; (try simp at hz1); have o1 : Below w.heap.size w w1 := (by (repeat (first | exact Below.refl _ _ | refine Below.setCell ?_ (by first | (simp; done) | (simp; omega) | omega) _ | refine Below.alloc ?_ (by first | (simp; done) | (simp; omega) | omega) _ | refine Below.drew ?_ | refine Below.trans ?_ (Below.mono (by assumption) (by first | (simp; done) | (simp; omega) | omega))))); have q1_0 : w.heap.size < w1.heap.size := (by omega); have r1_0 : Row w1 (w.heap.size) 48 #[.int .i64 (a : Nat), .int .i64 (b : Nat)] := row_call (by (repeat (first | assumption | (refine row_new ?_; (first | (simp; done) | omega)) | refine row_alloc ?_ _ | refine row_drew ?_ | refine row_call ?_ (by assumption)))) hb1; obtain ⟨c1_0a, c1_0b, f1_0a, f1_0b⟩ := row_two r1_0; have q1_1 : w.heap.size + 1 < w1.heap.size := (by omega); have r1_1 : Row w1 (w.heap.size + 1) 48 #[.int .i64 (c : Nat), .int .i64 (d : Nat)] := row_call (by (repeat (first | assumption | (refine row_new ?_; (first | (simp; done) | omega)) | refine row_alloc ?_ _ | refine row_drew ?_ | refine row_call ?_ (by assumption)))) hb1; obtain ⟨c1_1a, c1_1b, f1_1a, f1_1b⟩ := row_two r1_1) | (go_at_call 69; with_reducible refine (P2.out _).mono ?_; rintro e w2 ⟨rfl, hb2⟩; have hz2 := hb2.size; (try simp at hz2); have o2 : Below w.heap.size w w2 := (by (repeat (first | exact Below.refl _ _ | refine Below.setCell ?_ (by first | (simp; done) | (simp; omega) | omega) _ | refine Below.alloc ?_ (by first | (simp; done) | (simp; omega) | omega) _ | refine Below.drew ?_ | refine Below.trans ?_ (Below.mono (by assumption) (by first | (simp; done) | (simp; omega) | omega))))); have q2_0 : w.heap.size < w2.heap.size := (by omega); have r2_0 : Row w2 (w.heap.size) 48 #[.int .i64 (a : Nat), .int .i64 (b : Nat)] := row_call (by (repeat (first | assumption | (refine row_new ?_; (first | (simp; done) | omega)) | refine row_alloc ?_ _ | refine row_drew ?_ | refine row_call ?_ (by assumption)))) hb2; obtain ⟨c2_0a, c2_0b, f2_0a, f2_0b⟩ := row_two r2_0; have q2_1 : w.heap.size + 1 < w2.heap.size := (by omega); have r2_1 : Row w2 (w.heap.size + 1) 48 #[.int .i64 (c : Nat), .int .i64 (d : Nat)] := row_call (by (repeat (first | assumption | (refine row_new ?_; (first | (simp; done) | omega)) | refine row_alloc ?_ _ | refine row_drew ?_ | refine row_call ?_ (by assumption)))) hb2; obtain ⟨c2_1a, c2_1b, f2_1a, f2_1b⟩ := row_two r2_1) | (go_at_call 90; with_reducible refine (P3.out _).mono ?_; rintro e w3 ⟨rfl, hb3⟩; have hz3 := hb3.size; (try simp at hz3); have o3 : Below w.heap.size w w3 := (by (repeat (first | exact Below.refl _ _ | refine Below.setCell ?_ (by first | (simp; done) | (simp; omega) | omega) _ | refine Below.alloc ?_ (by first | (simp; done) | (simp; omega) | omega) _ | refine Below.drew ?_ | refine Below.trans ?_ (Below.mono (by assumption) (by first | (simp; done) | (simp; omega) | omega)))))))
  go_ret
  exact ⟨rfl, o3⟩
theorem icmp_le {p q : Int} (h : p ≤ q) : icmp p q ≤ 0 := by unfold icmp; split <;> (try split) <;> omega
theorem pleR {a b c d : Nat} (h1 : RatOK a b) (h2 : RatOK c d) (h : a * d ≤ c * b) : ∃ r : Int, r ≤ 0 ∧ ∀ w, Calls Try.prog 70 #[.agg #[.int .i64 (a : Nat), .int .i64 (b : Nat)], .agg #[.int .i64 (c : Nat), .int .i64 (d : Nat)]] w fun e w' => e = .returned (.int .i64 r) ∧ Below w.heap.size w w' :=
  ⟨_, icmp_le (by rw [← Int.natCast_mul, ← Int.natCast_mul]; exact Int.ofNat_le.2 h), fun w => pcmpR h1 h2 w⟩
/-- An interval of ratios with an estimate in it. -/
structure BndOK (l1 l2 m1 m2 h1 h2 : Nat) : Prop where
  lo : RatOK l1 l2
  md : RatOK m1 m2
  hi : RatOK h1 h2
  lm : l1 * m2 ≤ m1 * l2
  mh : m1 * h2 ≤ h1 * m2
set_option maxHeartbeats 1000000 in
theorem pbvalid {l1 l2 m1 m2 h1 h2 : Nat} (h : BndOK l1 l2 m1 m2 h1 h2) (w : World) : Calls Try.prog 68 #[.agg #[.int .i64 (l1 : Nat), .int .i64 (l2 : Nat), .int .i64 (m1 : Nat), .int .i64 (m2 : Nat), .int .i64 (h1 : Nat), .int .i64 (h2 : Nat)]] w fun e w' => e = .returned (.bool true) ∧ Below w.heap.size w w' := by
  have P1 := Lib.hid (fun w => pvR h.lo w)
  have P2 := Lib.hid (fun w => pvR h.md w)
  have P3 := Lib.hid (fun w => pvR h.hi w)
  obtain ⟨r4, i4, P4⟩ := pleR h.lo h.md h.lm
  obtain ⟨r5, i5, P5⟩ := pleR h.md h.hi h.mh
  replace P4 := Lib.hid P4
  replace P5 := Lib.hid P5
  clear h
  go_enter Try.func68, Try.ntmps68
  go_upto_region 1 with (fail)
  have X : Row (w.alloc (.cells #[.int .i64 (l1 : Nat), .int .i64 (l2 : Nat), .int .i64 (m1 : Nat), .int .i64 (m2 : Nat), .int .i64 (h1 : Nat), .int .i64 (h2 : Nat)] 50)) w.heap.size 50 #[.int .i64 (l1 : Nat), .int .i64 (l2 : Nat), .int .i64 (m1 : Nat), .int .i64 (m2 : Nat), .int .i64 (h1 : Nat), .int .i64 (h2 : Nat)] := row_new rfl
  have o : Below w.heap.size w (w.alloc (.cells #[.int .i64 (l1 : Nat), .int .i64 (l2 : Nat), .int .i64 (m1 : Nat), .int .i64 (m2 : Nat), .int .i64 (h1 : Nat), .int .i64 (h2 : Nat)] 50)) := by (repeat (first | exact Below.refl _ _ | refine Below.setCell ?_ (by first | (simp; done) | (simp; omega) | omega) _ | refine Below.alloc ?_ (by first | (simp; done) | (simp; omega) | omega) _ | refine Below.drew ?_ | refine Below.trans ?_ (Below.mono (by assumption) (by first | (simp; done) | (simp; omega) | omega))))
  generalize (w.alloc (.cells #[.int .i64 (l1 : Nat), .int .i64 (l2 : Nat), .int .i64 (m1 : Nat), .int .i64 (m2 : Nat), .int .i64 (h1 : Nat), .int .i64 (h2 : Nat)] 50)) = w0 at X o ⊢
  obtain ⟨X0, X1, X2, X3, X4, X5, Xf0, Xf1, Xf2, Xf3, Xf4, Xf5⟩ := row_six X
  go_wp2_with fail
  refine (P1.out _).mono ?_
  rintro e w1 ⟨rfl, hb⟩
  replace X := row_call X hb
  replace o := o.trans (hb.mono o.size)
  clear hb X0 Xf0 X1 Xf1 X2 Xf2 X3 Xf3 X4 Xf4 X5 Xf5
  obtain ⟨X0, X1, X2, X3, X4, X5, Xf0, Xf1, Xf2, Xf3, Xf4, Xf5⟩ := row_six X
  go_wp2_with fail
  refine (P2.out _).mono ?_
  rintro e w2 ⟨rfl, hb⟩
  replace X := row_call X hb
  replace o := o.trans (hb.mono o.size)
  clear hb X0 Xf0 X1 Xf1 X2 Xf2 X3 Xf3 X4 Xf4 X5 Xf5
  obtain ⟨X0, X1, X2, X3, X4, X5, Xf0, Xf1, Xf2, Xf3, Xf4, Xf5⟩ := row_six X
  go_wp2_with fail
  refine (P3.out _).mono ?_
  rintro e w3 ⟨rfl, hb⟩
  replace X := row_call X hb
  replace o := o.trans (hb.mono o.size)
  clear hb X0 Xf0 X1 Xf1 X2 Xf2 X3 Xf3 X4 Xf4 X5 Xf5
  obtain ⟨X0, X1, X2, X3, X4, X5, Xf0, Xf1, Xf2, Xf3, Xf4, Xf5⟩ := row_six X
  go_wp2_with fail
  refine (P4.out _).mono ?_
  rintro e w4 ⟨rfl, hb⟩
  replace X := row_call X hb
  replace o := o.trans (hb.mono o.size)
  clear hb X0 Xf0 X1 Xf1 X2 Xf2 X3 Xf3 X4 Xf4 X5 Xf5
  obtain ⟨X0, X1, X2, X3, X4, X5, Xf0, Xf1, Xf2, Xf3, Xf4, Xf5⟩ := row_six X
  go_wp2_with fail
  refine (P5.out _).mono ?_
  rintro e w5 ⟨rfl, hb⟩
  replace X := row_call X hb
  replace o := o.trans (hb.mono o.size)
  clear hb X0 Xf0 X1 Xf1 X2 Xf2 X3 Xf3 X4 Xf4 X5 Xf5
  go_wp2
  go_ret
  exact ⟨by first | rfl | (simp; omega), o⟩
set_option maxHeartbeats 1000000 in
theorem pholds {l1 l2 m1 m2 h1 h2 v1 v2 : Nat} (h : BndOK l1 l2 m1 m2 h1 h2) (hv : RatOK v1 v2) (hl : l1 * v2 ≤ v1 * l2) (hh : v1 * h2 ≤ h1 * v2) (w : World) : Calls Try.prog 34 #[.agg #[.int .i64 (l1 : Nat), .int .i64 (l2 : Nat), .int .i64 (m1 : Nat), .int .i64 (m2 : Nat), .int .i64 (h1 : Nat), .int .i64 (h2 : Nat)], .agg #[.int .i64 (v1 : Nat), .int .i64 (v2 : Nat)]] w fun e w' => e = .returned (.bool true) ∧ Below w.heap.size w w' := by
  have P1 := Lib.hid (fun w => pbvalid h w)
  have P2 := Lib.hid (fun w => pvR hv w)
  obtain ⟨r4, i4, P3⟩ := pleR h.lo hv hl
  obtain ⟨r5, i5, P4⟩ := pleR hv h.hi hh
  replace P3 := Lib.hid P3
  replace P4 := Lib.hid P4
  clear h hv hl hh
  go_enter Try.func34, Try.ntmps34
  go_upto_region 1 with (fail)
  have X : Row ((w.alloc (.cells #[.int .i64 (l1 : Nat), .int .i64 (l2 : Nat), .int .i64 (m1 : Nat), .int .i64 (m2 : Nat), .int .i64 (h1 : Nat), .int .i64 (h2 : Nat)] 50)).alloc (.cells #[.int .i64 (v1 : Nat), .int .i64 (v2 : Nat)] 48)) w.heap.size 50 #[.int .i64 (l1 : Nat), .int .i64 (l2 : Nat), .int .i64 (m1 : Nat), .int .i64 (m2 : Nat), .int .i64 (h1 : Nat), .int .i64 (h2 : Nat)] := row_alloc (row_new rfl) _
  have Y : Row ((w.alloc (.cells #[.int .i64 (l1 : Nat), .int .i64 (l2 : Nat), .int .i64 (m1 : Nat), .int .i64 (m2 : Nat), .int .i64 (h1 : Nat), .int .i64 (h2 : Nat)] 50)).alloc (.cells #[.int .i64 (v1 : Nat), .int .i64 (v2 : Nat)] 48)) (w.heap.size + 1) 48 #[.int .i64 (v1 : Nat), .int .i64 (v2 : Nat)] := row_new (by simp)
  have o : Below w.heap.size w ((w.alloc (.cells #[.int .i64 (l1 : Nat), .int .i64 (l2 : Nat), .int .i64 (m1 : Nat), .int .i64 (m2 : Nat), .int .i64 (h1 : Nat), .int .i64 (h2 : Nat)] 50)).alloc (.cells #[.int .i64 (v1 : Nat), .int .i64 (v2 : Nat)] 48)) := by (repeat (first | exact Below.refl _ _ | refine Below.setCell ?_ (by first | (simp; done) | (simp; omega) | omega) _ | refine Below.alloc ?_ (by first | (simp; done) | (simp; omega) | omega) _ | refine Below.drew ?_ | refine Below.trans ?_ (Below.mono (by assumption) (by first | (simp; done) | (simp; omega) | omega))))
  generalize ((w.alloc (.cells #[.int .i64 (l1 : Nat), .int .i64 (l2 : Nat), .int .i64 (m1 : Nat), .int .i64 (m2 : Nat), .int .i64 (h1 : Nat), .int .i64 (h2 : Nat)] 50)).alloc (.cells #[.int .i64 (v1 : Nat), .int .i64 (v2 : Nat)] 48)) = w0 at X Y o ⊢
  obtain ⟨X0, X1, X2, X3, X4, X5, Xf0, Xf1, Xf2, Xf3, Xf4, Xf5⟩ := row_six X
  obtain ⟨Y0, Y1, Yf0, Yf1⟩ := row_two Y
  go_wp2_with fail
  refine (P1.out _).mono ?_
  rintro e w1 ⟨rfl, hb⟩
  replace X := row_call X hb
  replace Y := row_call Y hb
  replace o := o.trans (hb.mono o.size)
  clear hb X0 Xf0 X1 Xf1 X2 Xf2 X3 Xf3 X4 Xf4 X5 Xf5 Y0 Yf0 Y1 Yf1
  obtain ⟨X0, X1, X2, X3, X4, X5, Xf0, Xf1, Xf2, Xf3, Xf4, Xf5⟩ := row_six X
  obtain ⟨Y0, Y1, Yf0, Yf1⟩ := row_two Y
  go_wp2_with fail
  refine (P2.out _).mono ?_
  rintro e w2 ⟨rfl, hb⟩
  replace X := row_call X hb
  replace Y := row_call Y hb
  replace o := o.trans (hb.mono o.size)
  clear hb X0 Xf0 X1 Xf1 X2 Xf2 X3 Xf3 X4 Xf4 X5 Xf5 Y0 Yf0 Y1 Yf1
  obtain ⟨X0, X1, X2, X3, X4, X5, Xf0, Xf1, Xf2, Xf3, Xf4, Xf5⟩ := row_six X
  obtain ⟨Y0, Y1, Yf0, Yf1⟩ := row_two Y
  go_wp2_with fail
  refine (P3.out _).mono ?_
  rintro e w3 ⟨rfl, hb⟩
  replace X := row_call X hb
  replace Y := row_call Y hb
  replace o := o.trans (hb.mono o.size)
  clear hb X0 Xf0 X1 Xf1 X2 Xf2 X3 Xf3 X4 Xf4 X5 Xf5 Y0 Yf0 Y1 Yf1
  obtain ⟨X0, X1, X2, X3, X4, X5, Xf0, Xf1, Xf2, Xf3, Xf4, Xf5⟩ := row_six X
  obtain ⟨Y0, Y1, Yf0, Yf1⟩ := row_two Y
  go_wp2_with fail
  refine (P4.out _).mono ?_
  rintro e w4 ⟨rfl, hb⟩
  replace X := row_call X hb
  replace Y := row_call Y hb
  replace o := o.trans (hb.mono o.size)
  clear hb X0 Xf0 X1 Xf1 X2 Xf2 X3 Xf3 X4 Xf4 X5 Xf5 Y0 Yf0 Y1 Yf1
  go_wp2
  go_ret
  exact ⟨by first | rfl | (simp; omega), o⟩
theorem pbsize (a : Nat) (h : a < 9223372036854775808) (w : World) : Calls Try.prog 91 #[.int .i64 (a : Nat)] w fun e w' => e = .returned (.int .u64 (a : Nat)) ∧ w' = w := by
  have h0 : ¬ (a : Int) < 0 := by omega
  have hw : IntKind.u64.wrap (a : Int) = a := IntWalk.u64_in _ (by omega)
  go_enter Try.func91, Try.ntmps91
  go_wp2
  go_ret
  exact ⟨rfl, rfl⟩
set_option maxHeartbeats 2000000 in
theorem pwidth {l1 l2 m1 m2 h1 h2 : Nat} (hb : BndOK l1 l2 m1 m2 h1 h2) (hle : l1 * h2 ≤ h1 * l2) (w : World) : Calls Try.prog 71 #[.agg #[.int .i64 (l1 : Nat), .int .i64 (l2 : Nat), .int .i64 (m1 : Nat), .int .i64 (m2 : Nat), .int .i64 (h1 : Nat), .int .i64 (h2 : Nat)]] w fun e w' => e = .returned (W (h1 * l2 - l1 * h2)) ∧ Below w.heap.size w w' := by
  have z1 := hb.hi.1
  have z2 := hb.lo.1
  have z3 := hb.hi.2.1.2
  have z4 := hb.lo.2.1.2
  have PS1 := Lib.hid (fun w => pbsize h1 (by omega) w)
  have PS2 := Lib.hid (fun w => pbsize l1 (by omega) w)
  have PX := fun w => pprodn h1 l2 (by omega) (by omega) w
  have PY := fun w => pprodn l1 h2 (by omega) (by omega) w
  have x1 : h1 * l2 < big := mul_big (by omega) (by omega)
  have y1 : l1 * h2 < big := mul_big (by omega) (by omega)
  have hw1 : IntKind.u64.wrap (l2 : Int) = l2 := IntWalk.u64_in _ (by omega)
  have hw2 : IntKind.u64.wrap (h2 : Int) = h2 := IntWalk.u64_in _ (by omega)
  have n1 : ¬ (h1 : Int) < 0 := by omega
  have n2 : ¬ (l1 : Int) < 0 := by omega
  generalize h1 * l2 = x at PX x1 hle ⊢
  generalize l1 * h2 = y at PY y1 hle ⊢
  have PD := Lib.hid (fun w => psub_yes x y x1 y1 hle w)
  replace PX := Lib.hid PX
  replace PY := Lib.hid PY
  generalize x - y = d at PD ⊢
  clear hb x1 y1 hle z1 z2 z3 z4
  go_enter Try.func71, Try.ntmps71
  go_upto_region 1 with (fail)
  have X : Row ((w.alloc (.cells #[.int .i64 (l1 : Nat), .int .i64 (l2 : Nat), .int .i64 (m1 : Nat), .int .i64 (m2 : Nat), .int .i64 (h1 : Nat), .int .i64 (h2 : Nat)] 50)).alloc (.cells #[.int .u64 0, .int .u64 0] 92)) w.heap.size 50 #[.int .i64 (l1 : Nat), .int .i64 (l2 : Nat), .int .i64 (m1 : Nat), .int .i64 (m2 : Nat), .int .i64 (h1 : Nat), .int .i64 (h2 : Nat)] := row_alloc (row_new rfl) _
  have R : Row ((w.alloc (.cells #[.int .i64 (l1 : Nat), .int .i64 (l2 : Nat), .int .i64 (m1 : Nat), .int .i64 (m2 : Nat), .int .i64 (h1 : Nat), .int .i64 (h2 : Nat)] 50)).alloc (.cells #[.int .u64 0, .int .u64 0] 92)) (w.heap.size + 1) 92 #[.int .u64 0, .int .u64 0] := row_new (by simp)
  have o : Below w.heap.size w ((w.alloc (.cells #[.int .i64 (l1 : Nat), .int .i64 (l2 : Nat), .int .i64 (m1 : Nat), .int .i64 (m2 : Nat), .int .i64 (h1 : Nat), .int .i64 (h2 : Nat)] 50)).alloc (.cells #[.int .u64 0, .int .u64 0] 92)) := by (repeat (first | exact Below.refl _ _ | refine Below.setCell ?_ (by first | (simp; done) | (simp; omega) | omega) _ | refine Below.alloc ?_ (by first | (simp; done) | (simp; omega) | omega) _ | refine Below.drew ?_ | refine Below.trans ?_ (Below.mono (by assumption) (by first | (simp; done) | (simp; omega) | omega))))
  generalize hW : ((w.alloc (.cells #[.int .i64 (l1 : Nat), .int .i64 (l2 : Nat), .int .i64 (m1 : Nat), .int .i64 (m2 : Nat), .int .i64 (h1 : Nat), .int .i64 (h2 : Nat)] 50)).alloc (.cells #[.int .u64 0, .int .u64 0] 92)) = w0 at X R o ⊢
  have rlt := row_lt R
  clear hW
  refine wp_region_free2 [0, 1, 2, 3, 4, 5, 6, 7, 8, 9, 10, 11, 12, 13, 14, 15, 16, 17] [] [0, 1, 2, 3, 4, 5, 6, 7, 8, 9, 10, 11, 12, 13, 14, 15, 16, 17, 18, 19] (18, 92, #[.int .u64 0, .int .u64 0]) (19, 92, #[.int .u64 0, .int .u64 0]) 3 4 20 (fun w' => Row w' (w.heap.size) 50 #[.int .i64 (l1 : Nat), .int .i64 (l2 : Nat), .int .i64 (m1 : Nat), .int .i64 (m2 : Nat), .int .i64 (h1 : Nat), .int .i64 (h2 : Nat)] ∧ Row w' (w.heap.size + 1) 92 #[.int .u64 0, .int .u64 0] ∧ Below w.heap.size w w') (by kernel_rfl) (by kernel_rfl) ⟨_, _, rfl, rfl, rfl, fun ρ w' => by go_simp⟩ ⟨_, _, rfl, rfl, rfl, fun ρ w' => by go_simp⟩ rfl rfl (by simp) (by simp) (fun _ h => ⟨row_alloc h.1 _, row_alloc h.2.1 _, h.2.2.alloc h.2.2.size _⟩) (fun _ h => ⟨row_alloc h.1 _, row_alloc h.2.1 _, h.2.2.alloc h.2.2.size _⟩) (fun _ _ d _ _ h => by cases d <;> exact h) ?_ ?_
  · exact ⟨X, R, o.drew⟩
  (refine plan_pure ?_ rfl rfl (fun w' => ?_) ?_; rotate_left; (go_simp; try with_reducible rfl); simp only [Act.put, List.setIfInBounds_toArray, List.set_cons_zero, List.set_cons_succ])
  (refine plan_pure ?_ rfl rfl (fun w' => ?_) ?_; rotate_left; (go_simp; try with_reducible rfl); simp only [Act.put, List.setIfInBounds_toArray, List.set_cons_zero, List.set_cons_succ])
  (refine plan_val ?_ rfl rfl rfl (fun w' hS => ?_) ?_; rotate_left; (obtain ⟨X0, X1, X2, X3, X4, X5, Xf0, Xf1, Xf2, Xf3, Xf4, Xf5⟩ := row_six hS.1; go_simp; try with_reducible rfl); simp only [Act.put, List.setIfInBounds_toArray, List.set_cons_zero, List.set_cons_succ])
  refine plan_call (.int .u64 (h1 : Nat)) 91 #[.int .i64 (h1 : Nat)] rfl rfl rfl (fun _ _ h hb => ⟨row_call h.1 hb, row_call h.2.1 hb, h.2.2.trans (hb.mono h.2.2.size)⟩) (fun w' hS => by obtain ⟨X0, X1, X2, X3, X4, X5, Xf0, Xf1, Xf2, Xf3, Xf4, Xf5⟩ := row_six hS.1; go_simp) (fun w' hS => (PS1.out w').mono (fun e w'' h => ⟨h.1, by rw [h.2]; exact Below.refl _ _⟩)) ?_
  simp only [Act.put, List.setIfInBounds_toArray, List.set_cons_zero, List.set_cons_succ]
  (refine plan_pure ?_ rfl rfl (fun w' => ?_) ?_; rotate_left; (go_simp; try with_reducible rfl); simp only [Act.put, List.setIfInBounds_toArray, List.set_cons_zero, List.set_cons_succ])
  (refine plan_pure ?_ rfl rfl (fun w' => ?_) ?_; rotate_left; (go_simp; try with_reducible rfl); simp only [Act.put, List.setIfInBounds_toArray, List.set_cons_zero, List.set_cons_succ])
  (refine plan_val ?_ rfl rfl rfl (fun w' hS => ?_) ?_; rotate_left; (obtain ⟨X0, X1, X2, X3, X4, X5, Xf0, Xf1, Xf2, Xf3, Xf4, Xf5⟩ := row_six hS.1; go_simp; try with_reducible rfl); simp only [Act.put, List.setIfInBounds_toArray, List.set_cons_zero, List.set_cons_succ])
  (refine plan_pure ?_ rfl rfl (fun w' => ?_) ?_; rotate_left; (go_simp; try with_reducible rfl); simp only [Act.put, List.setIfInBounds_toArray, List.set_cons_zero, List.set_cons_succ])
  refine plan_call (W x) 73 #[.int .u64 (h1 : Nat), .int .u64 (l2 : Nat)] rfl rfl rfl (fun _ _ h hb => ⟨row_call h.1 hb, row_call h.2.1 hb, h.2.2.trans (hb.mono h.2.2.size)⟩) (fun w' hS => by obtain ⟨X0, X1, X2, X3, X4, X5, Xf0, Xf1, Xf2, Xf3, Xf4, Xf5⟩ := row_six hS.1; go_simp) (fun w' hS => PX.out w') ?_
  simp only [Act.put, List.setIfInBounds_toArray, List.set_cons_zero, List.set_cons_succ]
  (refine plan_pure ?_ rfl rfl (fun w' => ?_) ?_; rotate_left; (go_simp; try with_reducible rfl); simp only [Act.put, List.setIfInBounds_toArray, List.set_cons_zero, List.set_cons_succ])
  (refine plan_pure ?_ rfl rfl (fun w' => ?_) ?_; rotate_left; (go_simp; try with_reducible rfl); simp only [Act.put, List.setIfInBounds_toArray, List.set_cons_zero, List.set_cons_succ])
  (refine plan_val ?_ rfl rfl rfl (fun w' hS => ?_) ?_; rotate_left; (obtain ⟨X0, X1, X2, X3, X4, X5, Xf0, Xf1, Xf2, Xf3, Xf4, Xf5⟩ := row_six hS.1; go_simp; try with_reducible rfl); simp only [Act.put, List.setIfInBounds_toArray, List.set_cons_zero, List.set_cons_succ])
  refine plan_call (.int .u64 (l1 : Nat)) 91 #[.int .i64 (l1 : Nat)] rfl rfl rfl (fun _ _ h hb => ⟨row_call h.1 hb, row_call h.2.1 hb, h.2.2.trans (hb.mono h.2.2.size)⟩) (fun w' hS => by obtain ⟨X0, X1, X2, X3, X4, X5, Xf0, Xf1, Xf2, Xf3, Xf4, Xf5⟩ := row_six hS.1; go_simp) (fun w' hS => (PS2.out w').mono (fun e w'' h => ⟨h.1, by rw [h.2]; exact Below.refl _ _⟩)) ?_
  simp only [Act.put, List.setIfInBounds_toArray, List.set_cons_zero, List.set_cons_succ]
  (refine plan_pure ?_ rfl rfl (fun w' => ?_) ?_; rotate_left; (go_simp; try with_reducible rfl); simp only [Act.put, List.setIfInBounds_toArray, List.set_cons_zero, List.set_cons_succ])
  (refine plan_pure ?_ rfl rfl (fun w' => ?_) ?_; rotate_left; (go_simp; try with_reducible rfl); simp only [Act.put, List.setIfInBounds_toArray, List.set_cons_zero, List.set_cons_succ])
  (refine plan_val ?_ rfl rfl rfl (fun w' hS => ?_) ?_; rotate_left; (obtain ⟨X0, X1, X2, X3, X4, X5, Xf0, Xf1, Xf2, Xf3, Xf4, Xf5⟩ := row_six hS.1; go_simp; try with_reducible rfl); simp only [Act.put, List.setIfInBounds_toArray, List.set_cons_zero, List.set_cons_succ])
  (refine plan_pure ?_ rfl rfl (fun w' => ?_) ?_; rotate_left; (go_simp; try with_reducible rfl); simp only [Act.put, List.setIfInBounds_toArray, List.set_cons_zero, List.set_cons_succ])
  refine plan_call (W y) 73 #[.int .u64 (l1 : Nat), .int .u64 (h2 : Nat)] rfl rfl rfl (fun _ _ h hb => ⟨row_call h.1 hb, row_call h.2.1 hb, h.2.2.trans (hb.mono h.2.2.size)⟩) (fun w' hS => by obtain ⟨X0, X1, X2, X3, X4, X5, Xf0, Xf1, Xf2, Xf3, Xf4, Xf5⟩ := row_six hS.1; go_simp) (fun w' hS => PY.out w') ?_
  simp only [Act.put, List.setIfInBounds_toArray, List.set_cons_zero, List.set_cons_succ]
  refine plan_nil ?_
  intro g1 g2 w3 L hr1 hr2 hne hg1 hg2
  simp only [List.drop_succ_cons, List.drop_zero]
  try simp only [Act.put, List.setIfInBounds_toArray, List.set_cons_zero, List.set_cons_succ]
  obtain ⟨X', R', o'⟩ := L
  clear X R o
  unfold W
  have q1 : w.heap.size + 1 ≠ g1 := by omega
  have q2 : w.heap.size + 1 ≠ g2 := by omega
  have q3 : w.heap.size ≠ g1 := by omega
  have q4 : w.heap.size ≠ g2 := by omega
  have q5 : w.heap.size ≤ g1 := by omega
  have q6 : w.heap.size ≤ g2 := by omega
  obtain ⟨A0, A1, Af0, Af1⟩ := row_two hr1
  obtain ⟨C0, C1, Cf0, Cf1⟩ := row_two hr2
  go_upto_region 2 with (fail)
  have Rg := row_two_other (c := g2) (u := .int .u64 (hi y)) (v := .int .u64 (lo y)) (row_two_set (u := .int .u64 (hi x)) (v := .int .u64 (lo x)) hr1) hne
  have Rk := row_two_set (u := .int .u64 (hi y)) (v := .int .u64 (lo y)) (row_two_other (c := g1) (u := .int .u64 (hi x)) (v := .int .u64 (lo x)) hr2 (Ne.symm hne))
  have X := row_two_other (c := g2) (u := .int .u64 (hi y)) (v := .int .u64 (lo y)) (row_two_other (c := g1) (u := .int .u64 (hi x)) (v := .int .u64 (lo x)) X' q3) q4
  have R := row_two_other (c := g2) (u := .int .u64 (hi y)) (v := .int .u64 (lo y)) (row_two_other (c := g1) (u := .int .u64 (hi x)) (v := .int .u64 (lo x)) R' q1) q2
  have o := (((o'.setCell (p := ⟨g1, 0, none⟩) q5 (.int .u64 (hi x))).setCell (p := ⟨g1, 1, none⟩) q5 (.int .u64 (lo x))).setCell (p := ⟨g2, 0, none⟩) q6 (.int .u64 (hi y))).setCell (p := ⟨g2, 1, none⟩) q6 (.int .u64 (lo y))
  generalize (((w3.setCell ⟨g1, 0, none⟩ (.int .u64 (hi x))).setCell ⟨g1, 1, none⟩ (.int .u64 (lo x))).setCell ⟨g2, 0, none⟩ (.int .u64 (hi y))).setCell ⟨g2, 1, none⟩ (.int .u64 (lo y)) = w5 at Rg Rk X R o ⊢
  clear hr1 hr2 X' R' o' A0 A1 Af0 Af1 C0 C1 Cf0 Cf1
  have gl1 := row_lt Rg
  have gl2 := row_lt Rk
  have rl5 := row_lt R
  go_upto_region 4 with (fail)
  have D := row_new (w := w5) (t := 92) (cs := #[.int .u64 0, .int .u64 0]) rfl
  replace Rg := row_alloc Rg (.cells #[.int .u64 0, .int .u64 0] 92)
  replace Rk := row_alloc Rk (.cells #[.int .u64 0, .int .u64 0] 92)
  replace X := row_alloc X (.cells #[.int .u64 0, .int .u64 0] 92)
  replace R := row_alloc R (.cells #[.int .u64 0, .int .u64 0] 92)
  replace o := o.alloc o.size (.cells #[.int .u64 0, .int .u64 0] 92)
  generalize w5.alloc (.cells #[.int .u64 0, .int .u64 0] 92) = w6 at Rg Rk X R D o ⊢
  have d1 : w.heap.size ≤ w5.heap.size := by omega
  have d2 : w.heap.size + 1 ≠ w5.heap.size := by omega
  generalize w5.heap.size = db at D d1 d2 gl1 gl2 rl5 ⊢
  obtain ⟨X0, X1, X2, X3, X4, X5, Xf0, Xf1, Xf2, Xf3, Xf4, Xf5⟩ := row_six X
  obtain ⟨A0, A1, Af0, Af1⟩ := row_two Rg
  obtain ⟨C0, C1, Cf0, Cf1⟩ := row_two Rk
  have PD2 := PD.out
  unfold W at PD2
  replace PD2 := Lib.hid PD2
  go_wp2_with fail
  refine (PD2.out _).mono ?_
  rintro e w7 ⟨rfl, hb⟩
  replace D := row_call D hb
  replace R := row_call R hb
  replace o := o.trans (hb.mono o.size)
  clear hb X X0 X1 X2 X3 X4 X5 Xf0 Xf1 Xf2 Xf3 Xf4 Xf5 Rg Rk A0 A1 Af0 Af1 C0 C1 Cf0 Cf1
  obtain ⟨D0, D1, Df0, Df1⟩ := row_two D
  go_upto_region 8 with (fail)
  have D' := row_two_set (u := .int .u64 (hi d)) (v := .int .u64 (lo d)) D
  replace R := row_two_other (c := db) (u := .int .u64 (hi d)) (v := .int .u64 (lo d)) R d2
  replace o := (o.setCell (p := ⟨db, 0, none⟩) d1 (.int .u64 (hi d))).setCell (p := ⟨db, 1, none⟩) d1 (.int .u64 (lo d))
  generalize (w7.setCell ⟨db, 0, none⟩ (.int .u64 (hi d))).setCell ⟨db, 1, none⟩ (.int .u64 (lo d)) = w8 at D' R o ⊢
  clear D D0 D1 Df0 Df1
  obtain ⟨D0, D1, Df0, Df1⟩ := row_two D'
  obtain ⟨R0, R1, Rf0, Rf1⟩ := row_two R
  go_wp2
  have r9 := row_two_set (u := .int .u64 (hi d)) (v := .int .u64 (lo d)) R
  have hbr : w.heap.size ≤ w.heap.size + 1 := by omega
  have o9 : Below w.heap.size w ((w8.setCell ⟨w.heap.size + 1, 0, none⟩ (.int .u64 (hi d))).setCell ⟨w.heap.size + 1, 1, none⟩ (.int .u64 (lo d))) := (o.setCell (p := ⟨w.heap.size + 1, 0, none⟩) hbr (.int .u64 (hi d))).setCell (p := ⟨w.heap.size + 1, 1, none⟩) hbr (.int .u64 (lo d))
  generalize (w8.setCell ⟨w.heap.size + 1, 0, none⟩ (.int .u64 (hi d))).setCell ⟨w.heap.size + 1, 1, none⟩ (.int .u64 (lo d)) = w9 at r9 o9 ⊢
  obtain ⟨e1, e2, _, _⟩ := row_two r9
  exact bodyPost_ret (v := W d) (by simp [results, Try.results71, go_sem, W, e1, e2]) rfl ⟨rfl, o9⟩
end Go.Proofs.Ythknkdjpfanlnaa
end
section
/- An interval is narrow against a number: for ratios that are not negative, walked. -/
set_option linter.unusedVariables false
set_option linter.unusedSimpArgs false
set_option linter.unusedSectionVars false
set_option linter.unnecessarySimpa false
namespace Go.Proofs.Ythknkdjpfanlnaa
open Go.RowKit Go.Shelf
theorem QV_W {d : Nat} (h : d < big) : QV d = .agg #[.int .u64 (lo d), .int .u64 (hi d), .int .u64 0, .int .u64 0] := by
  have e0 : ((qd 0 d : Nat) : Int) = lo d := by unfold qd lo; rw [Nat.pow_zero, Nat.div_one]
  have e1 : ((qd 1 d : Nat) : Int) = hi d := by
    unfold qd hi big at *
    rw [Nat.pow_one, Nat.mod_eq_of_lt (by omega)]
  have e2 : qd 2 d = 0 := by
    unfold qd big at *
    rw [Nat.div_eq_of_lt (by omega)]
  have e3 : qd 3 d = 0 := by
    unfold qd big at *
    rw [Nat.div_eq_of_lt (by omega)]
  unfold QV
  rw [e0, e1, e2, e3]
  rfl
/-- The words of numbers of 256 bits in order. -/
theorem q_le {L R : Nat} (hL : L < 115792089237316195423570985008687907853269984665640564039457584007913129639936) (hR : R < 115792089237316195423570985008687907853269984665640564039457584007913129639936) (h : L ≤ R) :
    (qd 3 L = qd 3 R ∧ qd 2 L = qd 2 R ∧ qd 1 L = qd 1 R ∧ qd 0 L = qd 0 R) ∨ qd 3 L < qd 3 R ∨ (qd 3 L = qd 3 R ∧ qd 2 L < qd 2 R) ∨ (qd 3 L = qd 3 R ∧ qd 2 L = qd 2 R ∧ qd 1 L < qd 1 R) ∨ (qd 3 L = qd 3 R ∧ qd 2 L = qd 2 R ∧ qd 1 L = qd 1 R ∧ qd 0 L < qd 0 R) := by
  have a0 := qd_step L 0
  have a1 := qd_step L 1
  have a2 := qd_step L 2
  have a3 := qd_step L 3
  have c0 := qd_step R 0
  have c1 := qd_step R 1
  have c2 := qd_step R 2
  have c3 := qd_step R 3
  have l0 := qd_lt 0 L
  have l1 := qd_lt 1 L
  have l2 := qd_lt 2 L
  have l3 := qd_lt 3 L
  have r0 := qd_lt 0 R
  have r1 := qd_lt 1 R
  have r2 := qd_lt 2 R
  have r3 := qd_lt 3 R
  have eL : L / 18446744073709551616 ^ (3 + 1) = 0 := Nat.div_eq_of_lt (by omega)
  have eR : R / 18446744073709551616 ^ (3 + 1) = 0 := Nat.div_eq_of_lt (by omega)
  rw [eL] at a3
  rw [eR] at c3
  rw [Nat.pow_zero, Nat.div_one] at a0 c0
  simp only [Nat.reduceAdd] at *
  generalize L / 18446744073709551616 ^ 1 = L1 at *
  generalize L / 18446744073709551616 ^ 2 = L2 at *
  generalize L / 18446744073709551616 ^ 3 = L3 at *
  generalize R / 18446744073709551616 ^ 1 = R1 at *
  generalize R / 18446744073709551616 ^ 2 = R2 at *
  generalize R / 18446744073709551616 ^ 3 = R3 at *
  omega
theorem info_u64 : (Try.prog.info? 90).isSome = true := by kernel_rfl
theorem cells_u64 : Try.prog.cellsOf 90 = 1 := by kernel_rfl
theorem plain_u64 : Try.prog.plainKey 90 = true := by kernel_rfl
theorem quad_item {xs ys : Array Value} {i : Nat} {is : List Nat} {a b : Int} (w' : World) (hx : xs[i]? = some (.int .u64 a)) (hy : ys[i]? = some (.int .u64 b)) :
    (Op.eqItems 9999 90 1 xs ys (i :: is)).run Try.prog w' = if a = b then (Op.eqItems 9999 90 1 xs ys is).run Try.prog w' else .ok false w' := by
  have px := run_part_plain (w := w') (P := Try.prog) plain_u64 hx
  have py := run_part_plain (w := w') (P := Try.prog) plain_u64 hy
  have e : (Op.equalIn 9999 90 (.int .u64 a) (.int .u64 b)).run Try.prog w' = .ok (a == b) w' := run_equalIn_int w' 9998 90 .u64 .u64 a b Try.underlying90
  rw [Op.eqItems]
  simp only [Sem.run_bind, Nat.mul_one, px, py, e, Result.andThen_ok]
  by_cases h : a = b
  · rw [if_pos h, if_neg (by simp [h])]
  · rw [if_neg h, if_pos (by simp [h])]
    rfl
theorem run_quad_ne {b0 b1 b2 b3 c0 c1 c2 c3 : Int} (h : ¬ (b0 = c0 ∧ b1 = c1 ∧ b2 = c2 ∧ b3 = c3)) (w' : World) : (binOp .eql 95 (.agg #[.int .u64 b0, .int .u64 b1, .int .u64 b2, .int .u64 b3]) (.agg #[.int .u64 c0, .int .u64 c1, .int .u64 c2, .int .u64 c3])).run Try.prog w' = .ok (.bool false) w' := by
  obtain ⟨i, hi⟩ := Option.isSome_iff_exists.1 info_u64
  rw [run_eql_struct, show (10000 : Nat) = 9999 + 1 from rfl, run_equalIn_array w' 9999 _ _ Try.underlying95 hi, cells_u64, show List.range 4 = [0, 1, 2, 3] from rfl,
    quad_item (i := 0) (a := b0) (b := c0) w' rfl rfl, quad_item (i := 1) (a := b1) (b := c1) w' rfl rfl, quad_item (i := 2) (a := b2) (b := c2) w' rfl rfl, quad_item (i := 3) (a := b3) (b := c3) w' rfl rfl]
  split
  · split
    · split
      · split
        · exact absurd ⟨by assumption, by assumption, by assumption, by assumption⟩ h
        · rfl
      · rfl
    · rfl
  · rfl
theorem run_quad_eq {b0 b1 b2 b3 : Int} (w' : World) : (binOp .eql 95 (.agg #[.int .u64 b0, .int .u64 b1, .int .u64 b2, .int .u64 b3]) (.agg #[.int .u64 b0, .int .u64 b1, .int .u64 b2, .int .u64 b3])).run Try.prog w' = .ok (.bool true) w' := by
  obtain ⟨i, hi⟩ := Option.isSome_iff_exists.1 info_u64
  rw [run_eql_struct, show (10000 : Nat) = 9999 + 1 from rfl, run_equalIn_array w' 9999 _ _ Try.underlying95 hi, cells_u64, show List.range 4 = [0, 1, 2, 3] from rfl,
    quad_item (i := 0) (a := b0) (b := b0) w' rfl rfl, quad_item (i := 1) (a := b1) (b := b1) w' rfl rfl, quad_item (i := 2) (a := b2) (b := b2) w' rfl rfl, quad_item (i := 3) (a := b3) (b := b3) w' rfl rfl,
    if_pos rfl, if_pos rfl, if_pos rfl, if_pos rfl]
  rfl
set_option maxHeartbeats 4000000 in
theorem pwithin_flat {l1 l2 m1 m2 h1 h2 v1 v2 k d e : Nat} {a0 a1 a2 a3 b0 b1 b2 b3 c0 c1 c2 c3 : Int} (hb : BndOK l1 l2 m1 m2 h1 h2) (hv : RatOK v1 v2) (hk : 1 ≤ k ∧ k ≤ 64) (hle : l1 * h2 ≤ h1 * l2) (hd : h1 * l2 - l1 * h2 = d) (he : l2 * h2 = e)
    (T1 : RowKit.Hid (∀ w, Calls Try.prog 72 #[.agg #[.int .u64 (lo d), .int .u64 (hi d), .int .u64 0, .int .u64 0], .int .u64 (k : Nat)] w fun e w' => e = .returned (.agg #[.int .u64 a0, .int .u64 a1, .int .u64 a2, .int .u64 a3]) ∧ Below w.heap.size w w'))
    (T2 : RowKit.Hid (∀ w, Calls Try.prog 72 #[.agg #[.int .u64 a0, .int .u64 a1, .int .u64 a2, .int .u64 a3], .int .u64 (v2 : Nat)] w fun e w' => e = .returned (.agg #[.int .u64 b0, .int .u64 b1, .int .u64 b2, .int .u64 b3]) ∧ Below w.heap.size w w'))
    (T3 : RowKit.Hid (∀ w, Calls Try.prog 72 #[.agg #[.int .u64 (lo e), .int .u64 (hi e), .int .u64 0, .int .u64 0], .int .u64 (v1 : Nat)] w fun e w' => e = .returned (.agg #[.int .u64 c0, .int .u64 c1, .int .u64 c2, .int .u64 c3]) ∧ Below w.heap.size w w'))
    (hq : (b3 = c3 ∧ b2 = c2 ∧ b1 = c1 ∧ b0 = c0) ∨ b3 < c3 ∨ (b3 = c3 ∧ b2 < c2) ∨ (b3 = c3 ∧ b2 = c2 ∧ b1 < c1) ∨ (b3 = c3 ∧ b2 = c2 ∧ b1 = c1 ∧ b0 < c0)) (w : World) :
    Calls Try.prog 35 #[.agg #[.int .i64 (l1 : Nat), .int .i64 (l2 : Nat), .int .i64 (m1 : Nat), .int .i64 (m2 : Nat), .int .i64 (h1 : Nat), .int .i64 (h2 : Nat)], .int .i64 (k : Nat), .agg #[.int .i64 (v1 : Nat), .int .i64 (v2 : Nat)]] w fun e w' => e = .returned (.bool true) ∧ Below w.heap.size w w' := by
  have P1 := Lib.hid (fun w => pbvalid hb w)
  have P2 := Lib.hid (fun w => pvR hv w)
  have P3 := fun w => pwidth hb hle w
  have z1 := hb.lo.2.1.2
  have z2 := hb.hi.2.1.2
  have z3 := hv.2.1.2
  have z4 := hv.1
  have P4 := fun w => pprodn l2 h2 (by omega) (by omega) w
  rw [hd] at P3
  rw [he] at P4
  unfold W at P3 P4
  replace P3 := Lib.hid P3
  replace P4 := Lib.hid P4
  have i1 : ¬ (k : Int) < 1 := by omega
  have i2 : ¬ (v1 : Int) < 0 := by omega
  have wk : IntKind.u64.wrap (k : Int) = k := IntWalk.u64_in _ (by omega)
  have wv1 : IntKind.u64.wrap (v1 : Int) = v1 := IntWalk.u64_in _ (by omega)
  have wv2 : IntKind.u64.wrap (v2 : Int) = v2 := IntWalk.u64_in _ (by omega)
  have wl2 : IntKind.u64.wrap (l2 : Int) = l2 := IntWalk.u64_in _ (by omega)
  have wh2 : IntKind.u64.wrap (h2 : Int) = h2 := IntWalk.u64_in _ (by omega)
  have HQ := Lib.hid hq
  clear hb hv hk hle hd he hq z1 z2 z3 z4
  go_enter Try.func35, Try.ntmps35
  go_upto_region 1 with (fail)
  have X : Row ((w.alloc (.cells #[.int .i64 (l1 : Nat), .int .i64 (l2 : Nat), .int .i64 (m1 : Nat), .int .i64 (m2 : Nat), .int .i64 (h1 : Nat), .int .i64 (h2 : Nat)] 50)).alloc (.cells #[.int .i64 (v1 : Nat), .int .i64 (v2 : Nat)] 48)) w.heap.size 50 #[.int .i64 (l1 : Nat), .int .i64 (l2 : Nat), .int .i64 (m1 : Nat), .int .i64 (m2 : Nat), .int .i64 (h1 : Nat), .int .i64 (h2 : Nat)] := row_alloc (row_new rfl) _
  have V : Row ((w.alloc (.cells #[.int .i64 (l1 : Nat), .int .i64 (l2 : Nat), .int .i64 (m1 : Nat), .int .i64 (m2 : Nat), .int .i64 (h1 : Nat), .int .i64 (h2 : Nat)] 50)).alloc (.cells #[.int .i64 (v1 : Nat), .int .i64 (v2 : Nat)] 48)) (w.heap.size + 1) 48 #[.int .i64 (v1 : Nat), .int .i64 (v2 : Nat)] := row_new (by simp)
  have o : Below w.heap.size w ((w.alloc (.cells #[.int .i64 (l1 : Nat), .int .i64 (l2 : Nat), .int .i64 (m1 : Nat), .int .i64 (m2 : Nat), .int .i64 (h1 : Nat), .int .i64 (h2 : Nat)] 50)).alloc (.cells #[.int .i64 (v1 : Nat), .int .i64 (v2 : Nat)] 48)) := by (repeat (first | exact Below.refl _ _ | refine Below.setCell ?_ (by first | (simp; done) | (simp; omega) | omega) _ | refine Below.alloc ?_ (by first | (simp; done) | (simp; omega) | omega) _ | refine Below.drew ?_ | refine Below.trans ?_ (Below.mono (by assumption) (by first | (simp; done) | (simp; omega) | omega))))
  generalize ((w.alloc (.cells #[.int .i64 (l1 : Nat), .int .i64 (l2 : Nat), .int .i64 (m1 : Nat), .int .i64 (m2 : Nat), .int .i64 (h1 : Nat), .int .i64 (h2 : Nat)] 50)).alloc (.cells #[.int .i64 (v1 : Nat), .int .i64 (v2 : Nat)] 48)) = w0 at X V o ⊢
  obtain ⟨X0, X1, X2, X3, X4, X5, Xf0, Xf1, Xf2, Xf3, Xf4, Xf5⟩ := row_six X
  obtain ⟨V0, V1, Vf0, Vf1⟩ := row_two V
  go_wp2_with fail
  refine (P1.out _).mono ?_
  rintro e w1 ⟨rfl, hb⟩
  replace X := row_call X hb
  replace V := row_call V hb
  replace o := o.trans (hb.mono o.size)
  clear hb X0 Xf0 X1 Xf1 X2 Xf2 X3 Xf3 X4 Xf4 X5 Xf5 V0 Vf0 V1 Vf1
  obtain ⟨X0, X1, X2, X3, X4, X5, Xf0, Xf1, Xf2, Xf3, Xf4, Xf5⟩ := row_six X
  obtain ⟨V0, V1, Vf0, Vf1⟩ := row_two V
  go_wp2_with fail
  refine (P2.out _).mono ?_
  rintro e w2 ⟨rfl, hb⟩
  replace X := row_call X hb
  replace V := row_call V hb
  replace o := o.trans (hb.mono o.size)
  clear hb X0 Xf0 X1 Xf1 X2 Xf2 X3 Xf3 X4 Xf4 X5 Xf5 V0 Vf0 V1 Vf1
  obtain ⟨X0, X1, X2, X3, X4, X5, Xf0, Xf1, Xf2, Xf3, Xf4, Xf5⟩ := row_six X
  obtain ⟨V0, V1, Vf0, Vf1⟩ := row_two V
  go_wp2_with fail
  refine (P3.out _).mono ?_
  rintro e w3 ⟨rfl, hb⟩
  replace X := row_call X hb
  replace V := row_call V hb
  replace o := o.trans (hb.mono o.size)
  clear hb X0 Xf0 X1 Xf1 X2 Xf2 X3 Xf3 X4 Xf4 X5 Xf5 V0 Vf0 V1 Vf1
  go_upto_region 4 with (fail)
  have D : Row (w3.alloc (.cells #[.int .u64 (hi d), .int .u64 (lo d)] 92)) w3.heap.size 92 #[.int .u64 (hi d), .int .u64 (lo d)] := row_new rfl
  replace X := row_alloc X (.cells #[.int .u64 (hi d), .int .u64 (lo d)] 92)
  replace V := row_alloc V (.cells #[.int .u64 (hi d), .int .u64 (lo d)] 92)
  replace o := o.alloc o.size (.cells #[.int .u64 (hi d), .int .u64 (lo d)] 92)
  generalize w3.alloc (.cells #[.int .u64 (hi d), .int .u64 (lo d)] 92) = w4 at X V D o ⊢
  generalize w3.heap.size = wb at D ⊢
  have xl := row_lt X
  have vl := row_lt V
  refine wp_region_free1 [0, 1, 2, 3, 4, 5, 6, 7, 8, 9, 10, 11] [] [0, 1, 2, 3, 4, 5, 6, 7, 8, 9, 10, 11, 12] (12, 95, #[.int .u64 0, .int .u64 0, .int .u64 0, .int .u64 0]) 8 13 (fun w' => Row w' (w.heap.size) 50 #[.int .i64 (l1 : Nat), .int .i64 (l2 : Nat), .int .i64 (m1 : Nat), .int .i64 (m2 : Nat), .int .i64 (h1 : Nat), .int .i64 (h2 : Nat)] ∧ Row w' (w.heap.size + 1) 48 #[.int .i64 (v1 : Nat), .int .i64 (v2 : Nat)] ∧ Row w' (wb) 92 #[.int .u64 (hi d), .int .u64 (lo d)] ∧ Below w.heap.size w w') (by kernel_rfl) (by kernel_rfl) ⟨_, _, rfl, rfl, rfl, fun ρ w' => by go_simp⟩ rfl (by simp) (fun _ h => ⟨row_alloc h.1 _, row_alloc h.2.1 _, row_alloc h.2.2.1 _, h.2.2.2.alloc h.2.2.2.size _⟩) (fun _ _ d _ _ h => by cases d <;> exact h) ?_ ?_
  · exact ⟨X, V, D, o.drew⟩
  (refine plan_pure ?_ rfl rfl (fun w' => ?_) ?_; rotate_left; (go_simp; try with_reducible rfl); simp only [Act.put, List.setIfInBounds_toArray, List.set_cons_zero, List.set_cons_succ])
  (refine plan_val ?_ rfl rfl rfl (fun w' hS => ?_) ?_; rotate_left; (obtain ⟨X0, X1, X2, X3, X4, X5, Xf0, Xf1, Xf2, Xf3, Xf4, Xf5⟩ := row_six hS.1; obtain ⟨V0, V1, Vf0, Vf1⟩ := row_two hS.2.1; obtain ⟨D0, D1, Df0, Df1⟩ := row_two hS.2.2.1; go_simp; try with_reducible rfl); simp only [Act.put, List.setIfInBounds_toArray, List.set_cons_zero, List.set_cons_succ])
  (refine plan_pure ?_ rfl rfl (fun w' => ?_) ?_; rotate_left; (go_simp; try with_reducible rfl); simp only [Act.put, List.setIfInBounds_toArray, List.set_cons_zero, List.set_cons_succ])
  (refine plan_val ?_ rfl rfl rfl (fun w' hS => ?_) ?_; rotate_left; (obtain ⟨X0, X1, X2, X3, X4, X5, Xf0, Xf1, Xf2, Xf3, Xf4, Xf5⟩ := row_six hS.1; obtain ⟨V0, V1, Vf0, Vf1⟩ := row_two hS.2.1; obtain ⟨D0, D1, Df0, Df1⟩ := row_two hS.2.2.1; go_simp; try with_reducible rfl); simp only [Act.put, List.setIfInBounds_toArray, List.set_cons_zero, List.set_cons_succ])
  (refine plan_pure ?_ rfl rfl (fun w' => ?_) ?_; rotate_left; (go_simp; try with_reducible rfl); simp only [Act.put, List.setIfInBounds_toArray, List.set_cons_zero, List.set_cons_succ])
  (refine plan_pure ?_ rfl rfl (fun w' => ?_) ?_; rotate_left; (go_simp; try with_reducible rfl); simp only [Act.put, List.setIfInBounds_toArray, List.set_cons_zero, List.set_cons_succ])
  (refine plan_pure ?_ rfl rfl (fun w' => ?_) ?_; rotate_left; (go_simp; try with_reducible rfl); simp only [Act.put, List.setIfInBounds_toArray, List.set_cons_zero, List.set_cons_succ])
  refine plan_call (.agg #[.int .u64 a0, .int .u64 a1, .int .u64 a2, .int .u64 a3]) 72 #[.agg #[.int .u64 (lo d), .int .u64 (hi d), .int .u64 0, .int .u64 0], .int .u64 (k : Nat)] rfl rfl rfl (fun _ _ h hb => ⟨row_call h.1 hb, row_call h.2.1 hb, row_call h.2.2.1 hb, h.2.2.2.trans (hb.mono h.2.2.2.size)⟩) (fun w' hS => by obtain ⟨X0, X1, X2, X3, X4, X5, Xf0, Xf1, Xf2, Xf3, Xf4, Xf5⟩ := row_six hS.1; obtain ⟨V0, V1, Vf0, Vf1⟩ := row_two hS.2.1; obtain ⟨D0, D1, Df0, Df1⟩ := row_two hS.2.2.1; go_simp) (fun w' hS => T1.out w') ?_
  simp only [Act.put, List.setIfInBounds_toArray, List.set_cons_zero, List.set_cons_succ]
  (refine plan_pure ?_ rfl rfl (fun w' => ?_) ?_; rotate_left; (go_simp; try with_reducible rfl); simp only [Act.put, List.setIfInBounds_toArray, List.set_cons_zero, List.set_cons_succ])
  (refine plan_val ?_ rfl rfl rfl (fun w' hS => ?_) ?_; rotate_left; (obtain ⟨X0, X1, X2, X3, X4, X5, Xf0, Xf1, Xf2, Xf3, Xf4, Xf5⟩ := row_six hS.1; obtain ⟨V0, V1, Vf0, Vf1⟩ := row_two hS.2.1; obtain ⟨D0, D1, Df0, Df1⟩ := row_two hS.2.2.1; go_simp; try with_reducible rfl); simp only [Act.put, List.setIfInBounds_toArray, List.set_cons_zero, List.set_cons_succ])
  (refine plan_pure ?_ rfl rfl (fun w' => ?_) ?_; rotate_left; (go_simp; try with_reducible rfl); simp only [Act.put, List.setIfInBounds_toArray, List.set_cons_zero, List.set_cons_succ])
  refine plan_call (.agg #[.int .u64 b0, .int .u64 b1, .int .u64 b2, .int .u64 b3]) 72 #[.agg #[.int .u64 a0, .int .u64 a1, .int .u64 a2, .int .u64 a3], .int .u64 (v2 : Nat)] rfl rfl rfl (fun _ _ h hb => ⟨row_call h.1 hb, row_call h.2.1 hb, row_call h.2.2.1 hb, h.2.2.2.trans (hb.mono h.2.2.2.size)⟩) (fun w' hS => by obtain ⟨X0, X1, X2, X3, X4, X5, Xf0, Xf1, Xf2, Xf3, Xf4, Xf5⟩ := row_six hS.1; obtain ⟨V0, V1, Vf0, Vf1⟩ := row_two hS.2.1; obtain ⟨D0, D1, Df0, Df1⟩ := row_two hS.2.2.1; go_simp) (fun w' hS => T2.out w') ?_
  simp only [Act.put, List.setIfInBounds_toArray, List.set_cons_zero, List.set_cons_succ]
  refine plan_nil ?_
  intro lb w5 L hlb hlg
  simp only [List.drop_succ_cons, List.drop_zero]
  try simp only [Act.put, List.setIfInBounds_toArray, List.set_cons_zero, List.set_cons_succ]
  obtain ⟨X', V', D', o'⟩ := L
  clear X V D o D'
  have n1 : w.heap.size ≠ lb := by omega
  have n2 : w.heap.size + 1 ≠ lb := by omega
  have n3 : w.heap.size ≤ lb := by omega
  obtain ⟨Q0, Q1, Q2, Q3, Qf0, Qf1, Qf2, Qf3⟩ := row_four hlb
  go_upto_region 5 with (fail)
  have LQ : Row ((((w5.setCell ⟨lb, 0, none⟩ (.int .u64 b0)).setCell ⟨lb, 1, none⟩ (.int .u64 b1)).setCell ⟨lb, 2, none⟩ (.int .u64 b2)).setCell ⟨lb, 3, none⟩ (.int .u64 b3)) lb 95 #[.int .u64 b0, .int .u64 b1, .int .u64 b2, .int .u64 b3] := (row_set (row_set (row_set (row_set hlb 0 (.int .u64 b0)) 1 (.int .u64 b1)) 2 (.int .u64 b2)) 3 (.int .u64 b3))
  have X : Row ((((w5.setCell ⟨lb, 0, none⟩ (.int .u64 b0)).setCell ⟨lb, 1, none⟩ (.int .u64 b1)).setCell ⟨lb, 2, none⟩ (.int .u64 b2)).setCell ⟨lb, 3, none⟩ (.int .u64 b3)) w.heap.size 50 #[.int .i64 (l1 : Nat), .int .i64 (l2 : Nat), .int .i64 (m1 : Nat), .int .i64 (m2 : Nat), .int .i64 (h1 : Nat), .int .i64 (h2 : Nat)] := (row_other (row_other (row_other (row_other X' n1 (.int .u64 b0)) n1 (.int .u64 b1)) n1 (.int .u64 b2)) n1 (.int .u64 b3))
  have V : Row ((((w5.setCell ⟨lb, 0, none⟩ (.int .u64 b0)).setCell ⟨lb, 1, none⟩ (.int .u64 b1)).setCell ⟨lb, 2, none⟩ (.int .u64 b2)).setCell ⟨lb, 3, none⟩ (.int .u64 b3)) (w.heap.size + 1) 48 #[.int .i64 (v1 : Nat), .int .i64 (v2 : Nat)] := (row_other (row_other (row_other (row_other V' n2 (.int .u64 b0)) n2 (.int .u64 b1)) n2 (.int .u64 b2)) n2 (.int .u64 b3))
  have o : Below w.heap.size w ((((w5.setCell ⟨lb, 0, none⟩ (.int .u64 b0)).setCell ⟨lb, 1, none⟩ (.int .u64 b1)).setCell ⟨lb, 2, none⟩ (.int .u64 b2)).setCell ⟨lb, 3, none⟩ (.int .u64 b3)) := (Below.setCell (p := ⟨lb, 3, none⟩) (Below.setCell (p := ⟨lb, 2, none⟩) (Below.setCell (p := ⟨lb, 1, none⟩) (Below.setCell (p := ⟨lb, 0, none⟩) o' n3 (.int .u64 b0)) n3 (.int .u64 b1)) n3 (.int .u64 b2)) n3 (.int .u64 b3))
  generalize ((((w5.setCell ⟨lb, 0, none⟩ (.int .u64 b0)).setCell ⟨lb, 1, none⟩ (.int .u64 b1)).setCell ⟨lb, 2, none⟩ (.int .u64 b2)).setCell ⟨lb, 3, none⟩ (.int .u64 b3)) = w6 at LQ X V o ⊢
  clear hlb X' V' o' Q0 Q1 Q2 Q3 Qf0 Qf1 Qf2 Qf3 xl vl hlg
  obtain ⟨X0, X1, X2, X3, X4, X5, Xf0, Xf1, Xf2, Xf3, Xf4, Xf5⟩ := row_six X
  go_wp2_with fail
  refine (P4.out _).mono ?_
  rintro e w7 ⟨rfl, hb⟩
  replace X := row_call X hb
  replace V := row_call V hb
  replace LQ := row_call LQ hb
  replace o := o.trans (hb.mono o.size)
  clear hb X0 Xf0 X1 Xf1 X2 Xf2 X3 Xf3 X4 Xf4 X5 Xf5
  go_upto_region 6 with (fail)
  have E : Row (w7.alloc (.cells #[.int .u64 (hi e), .int .u64 (lo e)] 92)) w7.heap.size 92 #[.int .u64 (hi e), .int .u64 (lo e)] := row_new rfl
  replace V := row_alloc V (.cells #[.int .u64 (hi e), .int .u64 (lo e)] 92)
  replace LQ := row_alloc LQ (.cells #[.int .u64 (hi e), .int .u64 (lo e)] 92)
  replace o := o.alloc o.size (.cells #[.int .u64 (hi e), .int .u64 (lo e)] 92)
  clear X
  generalize w7.alloc (.cells #[.int .u64 (hi e), .int .u64 (lo e)] 92) = w8 at V LQ E o ⊢
  generalize w7.heap.size = eb at E ⊢
  obtain ⟨V0, V1, Vf0, Vf1⟩ := row_two V
  obtain ⟨E0, E1, Ef0, Ef1⟩ := row_two E
  go_wp2_with fail
  refine (T3.out _).mono ?_
  rintro e w9 ⟨rfl, hb⟩
  replace V := row_call V hb
  replace E := row_call E hb
  replace LQ := row_call LQ hb
  replace o := o.trans (hb.mono o.size)
  clear hb V0 Vf0 V1 Vf1 E0 Ef0 E1 Ef1
  clear V E
  go_upto_region 7 with (fail)
  have RQ : Row (w9.alloc (.cells #[.int .u64 c0, .int .u64 c1, .int .u64 c2, .int .u64 c3] 95)) w9.heap.size 95 #[.int .u64 c0, .int .u64 c1, .int .u64 c2, .int .u64 c3] := row_new rfl
  replace LQ := row_alloc LQ (.cells #[.int .u64 c0, .int .u64 c1, .int .u64 c2, .int .u64 c3] 95)
  replace o := o.alloc o.size (.cells #[.int .u64 c0, .int .u64 c1, .int .u64 c2, .int .u64 c3] 95)
  generalize w9.alloc (.cells #[.int .u64 c0, .int .u64 c1, .int .u64 c2, .int .u64 c3] 95) = w10 at LQ RQ o ⊢
  generalize w9.heap.size = rb at RQ ⊢
  obtain ⟨L0, L1, L2, L3, Lf0, Lf1, Lf2, Lf3⟩ := row_four LQ
  obtain ⟨R0, R1, R2, R3, Rf0, Rf1, Rf2, Rf3⟩ := row_four RQ
  rcases HQ.out with ⟨rfl, rfl, rfl, rfl⟩ | h3 | ⟨rfl, h2⟩ | ⟨rfl, rfl, h1⟩ | ⟨rfl, rfl, rfl, h0⟩
  · have he := fun w' => run_quad_eq (b0 := b0) (b1 := b1) (b2 := b2) (b3 := b3) w'
    go_wp2
    go_ret
    exact ⟨rfl, o⟩
  · have hne : ¬ (b0 = c0 ∧ b1 = c1 ∧ b2 = c2 ∧ b3 = c3) := by omega
    have he : ∀ w', (binOp .eql 95 (.agg #[.int .u64 b0, .int .u64 b1, .int .u64 b2, .int .u64 b3]) (.agg #[.int .u64 c0, .int .u64 c1, .int .u64 c2, .int .u64 c3])).run Try.prog w' = .ok (.bool false) w' := fun w' => run_quad_ne hne w'
    clear hne
    have hd : (b3 == c3) = false := by simp; omega
    have LQ' : Row w10 lb 95 #[.int .u64 b0, .int .u64 b1, .int .u64 b2, .int .u64 b3] := LQ
    have RQ' : Row w10 rb 95 #[.int .u64 c0, .int .u64 c1, .int .u64 c2, .int .u64 c3] := RQ
    go_upto_region 10 with (fail)
    clear he L0 L1 L2 L3 Lf0 Lf1 Lf2 Lf3 R0 R1 R2 R3 Rf0 Rf1 Rf2 Rf3 LQ RQ
    go_loopw [11] (fun i wr => (i = .int .i64 3) ∧ Row wr lb 95 #[.int .u64 b0, .int .u64 b1, .int .u64 b2, .int .u64 b3] ∧ Row wr rb 95 #[.int .u64 c0, .int .u64 c1, .int .u64 c2, .int .u64 c3] ∧ Below w.heap.size w wr) (fun i _ => (intOf i).toNat)
    case atStart => exact ⟨rfl, LQ', RQ', o⟩
    case round =>
      clear LQ' RQ' o
      obtain ⟨hi, LQ, RQ, o⟩ := hrel
      obtain ⟨L0, L1, L2, L3, Lf0, Lf1, Lf2, Lf3⟩ := row_four LQ
      obtain ⟨R0, R1, R2, R3, Rf0, Rf1, Rf2, Rf3⟩ := row_four RQ
      rcases hi with rfl
      · go_upto_region 10 with (fail)
        go_quiet (fail)
        go_upto_region 12 with (fail)
        go_quiet (fail)
        go_wp2
        go_ret
        exact ⟨by first | rfl | (simp; omega), o.trans ⟨rfl, rfl, rfl, Nat.le_refl _, fun _ _ => rfl⟩⟩
  · have hne : ¬ (b0 = c0 ∧ b1 = c1 ∧ b2 = c2 ∧ b3 = b3) := by omega
    have he : ∀ w', (binOp .eql 95 (.agg #[.int .u64 b0, .int .u64 b1, .int .u64 b2, .int .u64 b3]) (.agg #[.int .u64 c0, .int .u64 c1, .int .u64 c2, .int .u64 b3])).run Try.prog w' = .ok (.bool false) w' := fun w' => run_quad_ne hne w'
    clear hne
    have hd : (b2 == c2) = false := by simp; omega
    have LQ' : Row w10 lb 95 #[.int .u64 b0, .int .u64 b1, .int .u64 b2, .int .u64 b3] := LQ
    have RQ' : Row w10 rb 95 #[.int .u64 c0, .int .u64 c1, .int .u64 c2, .int .u64 b3] := RQ
    go_upto_region 10 with (fail)
    clear he L0 L1 L2 L3 Lf0 Lf1 Lf2 Lf3 R0 R1 R2 R3 Rf0 Rf1 Rf2 Rf3 LQ RQ
    go_loopw [11] (fun i wr => (i = .int .i64 3 ∨ i = .int .i64 2) ∧ Row wr lb 95 #[.int .u64 b0, .int .u64 b1, .int .u64 b2, .int .u64 b3] ∧ Row wr rb 95 #[.int .u64 c0, .int .u64 c1, .int .u64 c2, .int .u64 b3] ∧ Below w.heap.size w wr) (fun i _ => (intOf i).toNat)
    case atStart => exact ⟨.inl rfl, LQ', RQ', o⟩
    case round =>
      clear LQ' RQ' o
      obtain ⟨hi, LQ, RQ, o⟩ := hrel
      obtain ⟨L0, L1, L2, L3, Lf0, Lf1, Lf2, Lf3⟩ := row_four LQ
      obtain ⟨R0, R1, R2, R3, Rf0, Rf1, Rf2, Rf3⟩ := row_four RQ
      rcases hi with rfl | rfl
      · go_upto_region 10 with (fail)
        go_quiet (fail)
        go_wp2
        go_roundw
        case rel => exact ⟨.inr rfl, LQ, RQ, o.trans ⟨rfl, rfl, rfl, Nat.le_refl _, fun _ _ => rfl⟩⟩
        case measure => simp [intOf]
      · go_upto_region 10 with (fail)
        go_quiet (fail)
        go_upto_region 12 with (fail)
        go_quiet (fail)
        go_wp2
        go_ret
        exact ⟨by first | rfl | (simp; omega), o.trans ⟨rfl, rfl, rfl, Nat.le_refl _, fun _ _ => rfl⟩⟩
  · have hne : ¬ (b0 = c0 ∧ b1 = c1 ∧ b2 = b2 ∧ b3 = b3) := by omega
    have he : ∀ w', (binOp .eql 95 (.agg #[.int .u64 b0, .int .u64 b1, .int .u64 b2, .int .u64 b3]) (.agg #[.int .u64 c0, .int .u64 c1, .int .u64 b2, .int .u64 b3])).run Try.prog w' = .ok (.bool false) w' := fun w' => run_quad_ne hne w'
    clear hne
    have hd : (b1 == c1) = false := by simp; omega
    have LQ' : Row w10 lb 95 #[.int .u64 b0, .int .u64 b1, .int .u64 b2, .int .u64 b3] := LQ
    have RQ' : Row w10 rb 95 #[.int .u64 c0, .int .u64 c1, .int .u64 b2, .int .u64 b3] := RQ
    go_upto_region 10 with (fail)
    clear he L0 L1 L2 L3 Lf0 Lf1 Lf2 Lf3 R0 R1 R2 R3 Rf0 Rf1 Rf2 Rf3 LQ RQ
    go_loopw [11] (fun i wr => (i = .int .i64 3 ∨ i = .int .i64 2 ∨ i = .int .i64 1) ∧ Row wr lb 95 #[.int .u64 b0, .int .u64 b1, .int .u64 b2, .int .u64 b3] ∧ Row wr rb 95 #[.int .u64 c0, .int .u64 c1, .int .u64 b2, .int .u64 b3] ∧ Below w.heap.size w wr) (fun i _ => (intOf i).toNat)
    case atStart => exact ⟨.inl rfl, LQ', RQ', o⟩
    case round =>
      clear LQ' RQ' o
      obtain ⟨hi, LQ, RQ, o⟩ := hrel
      obtain ⟨L0, L1, L2, L3, Lf0, Lf1, Lf2, Lf3⟩ := row_four LQ
      obtain ⟨R0, R1, R2, R3, Rf0, Rf1, Rf2, Rf3⟩ := row_four RQ
      rcases hi with rfl | rfl | rfl
      · go_upto_region 10 with (fail)
        go_quiet (fail)
        go_wp2
        go_roundw
        case rel => exact ⟨.inr (.inl rfl), LQ, RQ, o.trans ⟨rfl, rfl, rfl, Nat.le_refl _, fun _ _ => rfl⟩⟩
        case measure => simp [intOf]
      · go_upto_region 10 with (fail)
        go_quiet (fail)
        go_wp2
        go_roundw
        case rel => exact ⟨.inr (.inr rfl), LQ, RQ, o.trans ⟨rfl, rfl, rfl, Nat.le_refl _, fun _ _ => rfl⟩⟩
        case measure => simp [intOf]
      · go_upto_region 10 with (fail)
        go_quiet (fail)
        go_upto_region 12 with (fail)
        go_quiet (fail)
        go_wp2
        go_ret
        exact ⟨by first | rfl | (simp; omega), o.trans ⟨rfl, rfl, rfl, Nat.le_refl _, fun _ _ => rfl⟩⟩
  · have hne : ¬ (b0 = c0 ∧ b1 = b1 ∧ b2 = b2 ∧ b3 = b3) := by omega
    have he : ∀ w', (binOp .eql 95 (.agg #[.int .u64 b0, .int .u64 b1, .int .u64 b2, .int .u64 b3]) (.agg #[.int .u64 c0, .int .u64 b1, .int .u64 b2, .int .u64 b3])).run Try.prog w' = .ok (.bool false) w' := fun w' => run_quad_ne hne w'
    clear hne
    have hd : (b0 == c0) = false := by simp; omega
    have LQ' : Row w10 lb 95 #[.int .u64 b0, .int .u64 b1, .int .u64 b2, .int .u64 b3] := LQ
    have RQ' : Row w10 rb 95 #[.int .u64 c0, .int .u64 b1, .int .u64 b2, .int .u64 b3] := RQ
    go_upto_region 10 with (fail)
    clear he L0 L1 L2 L3 Lf0 Lf1 Lf2 Lf3 R0 R1 R2 R3 Rf0 Rf1 Rf2 Rf3 LQ RQ
    go_loopw [11] (fun i wr => (i = .int .i64 3 ∨ i = .int .i64 2 ∨ i = .int .i64 1 ∨ i = .int .i64 0) ∧ Row wr lb 95 #[.int .u64 b0, .int .u64 b1, .int .u64 b2, .int .u64 b3] ∧ Row wr rb 95 #[.int .u64 c0, .int .u64 b1, .int .u64 b2, .int .u64 b3] ∧ Below w.heap.size w wr) (fun i _ => (intOf i).toNat)
    case atStart => exact ⟨.inl rfl, LQ', RQ', o⟩
    case round =>
      clear LQ' RQ' o
      obtain ⟨hi, LQ, RQ, o⟩ := hrel
      obtain ⟨L0, L1, L2, L3, Lf0, Lf1, Lf2, Lf3⟩ := row_four LQ
      obtain ⟨R0, R1, R2, R3, Rf0, Rf1, Rf2, Rf3⟩ := row_four RQ
      rcases hi with rfl | rfl | rfl | rfl
      · go_upto_region 10 with (fail)
        go_quiet (fail)
        go_wp2
        go_roundw
        case rel => exact ⟨.inr (.inl rfl), LQ, RQ, o.trans ⟨rfl, rfl, rfl, Nat.le_refl _, fun _ _ => rfl⟩⟩
        case measure => simp [intOf]
      · go_upto_region 10 with (fail)
        go_quiet (fail)
        go_wp2
        go_roundw
        case rel => exact ⟨.inr (.inr (.inl rfl)), LQ, RQ, o.trans ⟨rfl, rfl, rfl, Nat.le_refl _, fun _ _ => rfl⟩⟩
        case measure => simp [intOf]
      · go_upto_region 10 with (fail)
        go_quiet (fail)
        go_wp2
        go_roundw
        case rel => exact ⟨.inr (.inr (.inr rfl)), LQ, RQ, o.trans ⟨rfl, rfl, rfl, Nat.le_refl _, fun _ _ => rfl⟩⟩
        case measure => simp [intOf]
      · go_upto_region 10 with (fail)
        go_quiet (fail)
        go_upto_region 12 with (fail)
        go_quiet (fail)
        go_wp2
        go_ret
        exact ⟨by first | rfl | (simp; omega), o.trans ⟨rfl, rfl, rfl, Nat.le_refl _, fun _ _ => rfl⟩⟩
theorem pwithin {l1 l2 m1 m2 h1 h2 v1 v2 k : Nat} (hb : BndOK l1 l2 m1 m2 h1 h2) (hv : RatOK v1 v2) (hk : 1 ≤ k ∧ k ≤ 64) (hle : l1 * h2 ≤ h1 * l2) (h : k * (h1 * l2 - l1 * h2) * v2 ≤ v1 * (l2 * h2)) (w : World) :
    Calls Try.prog 35 #[.agg #[.int .i64 (l1 : Nat), .int .i64 (l2 : Nat), .int .i64 (m1 : Nat), .int .i64 (m2 : Nat), .int .i64 (h1 : Nat), .int .i64 (h2 : Nat)], .int .i64 (k : Nat), .agg #[.int .i64 (v1 : Nat), .int .i64 (v2 : Nat)]] w fun e w' => e = .returned (.bool true) ∧ Below w.heap.size w w' := by
  have z1 := hb.lo.2.1.2
  have z2 := hb.hi.2.1.2
  have z3 := hv.2.1.2
  have z4 := hv.1
  have z5 := hb.hi.1
  have x1 : h1 * l2 ≤ 4611686018427387904 * 4294967295 := Nat.mul_le_mul (by omega) (by omega)
  have x2 : l2 * h2 ≤ 4294967295 * 4294967295 := Nat.mul_le_mul (by omega) (by omega)
  generalize hd : h1 * l2 - l1 * h2 = d at h
  generalize he : l2 * h2 = e at h x2
  have d1 : d ≤ 4611686018427387904 * 4294967295 := by omega
  have s1 : d * k ≤ 4611686018427387904 * 4294967295 * 64 := Nat.mul_le_mul d1 hk.2
  have s2 : d * k * v2 ≤ 4611686018427387904 * 4294967295 * 64 * 4294967295 := Nat.mul_le_mul s1 z3
  have s3 : e * v1 ≤ 4294967295 * 4294967295 * 4611686018427387904 := Nat.mul_le_mul x2 (by omega)
  have hle2 : d * k * v2 ≤ e * v1 := by rw [Nat.mul_comm d k, Nat.mul_comm e v1]; exact h
  have t1 := fun w => ptimes d k w (by omega)
  have t2 := fun w => ptimes (d * k) v2 w (by omega)
  have t3 := fun w => ptimes e v1 w (by omega)
  have q := q_le (L := d * k * v2) (R := e * v1) (by omega) (by omega) hle2
  rw [QV_W (d := d) (by unfold big; omega)] at t1
  rw [QV_W (d := e) (by unfold big; omega)] at t3
  exact pwithin_flat hb hv hk hle hd he (Lib.hid t1) (Lib.hid t2) (Lib.hid t3) (by omega) w
end Go.Proofs.Ythknkdjpfanlnaa
end
section
/- Smooth histograms: the answer, walked. -/
set_option linter.unusedVariables false
set_option linter.unusedSimpArgs false
set_option linter.unusedSectionVars false
set_option linter.unnecessarySimpa false
namespace Go.Proofs.Ythknkdjpfanlnaa
open Go.RowKit
/-- The answer: an interval, and an error. -/
def askV (ve lo hi : Int) : Value := if ve = 0 then .tuple #[.agg #[.int .i64 lo, .int .i64 1, .int .i64 ((lo + hi) / 2), .int .i64 1, .int .i64 hi, .int .i64 1], .int .i64 0] else .tuple #[.agg #[.int .i64 0, .int .i64 0, .int .i64 0, .int .i64 0, .int .i64 0, .int .i64 0], .int .i64 ve]
theorem rwholeN (n : Nat) (hn : n < 9223372036854775808) (w : World) : Calls Try.prog 64 #[.int .i64 (n : Nat)] w fun e w' => e = .returned (.agg #[.int .i64 (n : Nat), .int .i64 1, .int .i64 (n : Nat), .int .i64 1, .int .i64 (n : Nat), .int .i64 1]) ∧ Below w.heap.size w w' := by
  have P1 := Lib.hid (fun w => rratio (n : Int) w)
  have P2 := Lib.hid (fun w => rexactR n 1 w hn (by omega) (by omega) (Nat.gcd_one_right n))
  clear hn
  go_enter Try.func64, Try.ntmps64
  go_wp2_with fail
  have R : Row (w.alloc (.cells #[.int .i64 0, .int .i64 0, .int .i64 0, .int .i64 0, .int .i64 0, .int .i64 0] 50)) w.heap.size 50 #[.int .i64 0, .int .i64 0, .int .i64 0, .int .i64 0, .int .i64 0, .int .i64 0] := row_new rfl
  have o : Below w.heap.size w (w.alloc (.cells #[.int .i64 0, .int .i64 0, .int .i64 0, .int .i64 0, .int .i64 0, .int .i64 0] 50)) := by (repeat (first | exact Below.refl _ _ | refine Below.setCell ?_ (by first | (simp; done) | (simp; omega) | omega) _ | refine Below.alloc ?_ (by first | (simp; done) | (simp; omega) | omega) _ | refine Below.drew ?_ | refine Below.trans ?_ (Below.mono (by assumption) (by first | (simp; done) | (simp; omega) | omega))))
  generalize (w.alloc (.cells #[.int .i64 0, .int .i64 0, .int .i64 0, .int .i64 0, .int .i64 0, .int .i64 0] 50)) = w1 at R o ⊢
  refine (P1.out _).mono ?_
  rintro e w2 ⟨rfl, hb2⟩
  replace R := row_call R hb2
  replace o := o.trans (hb2.mono o.size)
  clear hb2
  go_wp2_with fail
  refine (P2.out _).mono ?_
  rintro e w3 ⟨rfl, hb3⟩
  replace R := row_call R hb3
  replace o := o.trans (hb3.mono o.size)
  clear hb3
  obtain ⟨R0, R1, R2, R3, R4, R5, Rf0, Rf1, Rf2, Rf3, Rf4, Rf5⟩ := row_six R
  go_wp2
  exact bodyPost_ret (v := .agg #[.int .i64 (n : Nat), .int .i64 1, .int .i64 (n : Nat), .int .i64 1, .int .i64 (n : Nat), .int .i64 1]) (by simp [results, Try.results64, go_sem, R0, R1, R2, R3, R4, R5]) rfl ⟨rfl, below_six o (by omega) _ _ _ _ _ _⟩
theorem pexI (x : Int) (w : World) (h0 : 0 ≤ x) (h1 : x ≤ 1099511627776) : Calls Try.prog 60 #[.agg #[.int .i64 x, .int .i64 1]] w fun e w' => e = .returned (.agg #[.int .i64 x, .int .i64 1, .int .i64 x, .int .i64 1, .int .i64 x, .int .i64 1]) ∧ Below w.heap.size w w' := by
  obtain ⟨n, rfl⟩ : ∃ n : Nat, x = (n : Int) := ⟨x.toNat, by omega⟩
  exact pexactR n 1 w (by omega) (by omega) (by omega) (Nat.gcd_one_right n)
theorem pwhI (x y : Int) (w : World) (h0 : 0 ≤ x) (hxy : x ≤ y) (h1 : y ≤ 1099511627776) : Calls Try.prog 63 #[.int .i64 x, .int .i64 y] w fun e w' => e = .returned (.tuple #[.agg #[.int .i64 x, .int .i64 1, .int .i64 ((x + y) / 2), .int .i64 1, .int .i64 y, .int .i64 1], .bool true]) ∧ Below w.heap.size w w' := by
  obtain ⟨n, rfl⟩ : ∃ n : Nat, x = (n : Int) := ⟨x.toNat, by omega⟩
  obtain ⟨k, rfl⟩ : ∃ k : Nat, y = (k : Int) := ⟨y.toNat, by omega⟩
  rw [show ((n : Int) + (k : Int)) / 2 = (((n + k) / 2 : Nat) : Int) by omega]
  exact pwhole n k (by omega) (by omega) w
set_option maxRecDepth 100000 in
theorem psmask_a (A : Option Addr) (m c : Nat) (l : List Mk) (agg wd k cap now seq : Int) (w : World) (hin : MIn A m c l w) (sB : I64 seq) (hv : smvalE agg wd k cap now seq l = 2) : Calls Try.prog 28 #[.agg #[.int .i64 agg, .int .i64 wd, .int .i64 k, .int .i64 cap, .int .i64 now, .int .i64 seq, .slice A m c]] w fun e w' => e = .returned (askV (smvalE agg wd k cap now seq l) (askLo agg now wd l) (askHi agg now wd l)) ∧ Below w.heap.size w w' := by
  rw [show askV (smvalE agg wd k cap now seq l) (askLo agg now wd l) (askHi agg now wd l) = .tuple #[.agg #[.int .i64 0, .int .i64 0, .int .i64 0, .int .i64 0, .int .i64 0, .int .i64 0], .int .i64 2] by unfold askV; rw [hv]; rfl]
  have P := fun w' (hb : Below w.heap.size w w') => pvalS A m c l agg wd k cap now seq w' (hin.below hb) sB
  rw [hv] at P
  replace P := Lib.hid P
  clear hv hin sB
  go_enter Try.func28, Try.ntmps28
  go_wp2_with (first | (go_at_call 12; with_reducible refine (P.out _ (by (repeat (first | exact Below.refl _ _ | refine Below.setCell ?_ (by first | (simp; done) | (simp; omega) | omega) _ | refine Below.alloc ?_ (by first | (simp; done) | (simp; omega) | omega) _ | refine Below.drew ?_ | refine Below.trans ?_ (Below.mono (by assumption) (by first | (simp; done) | (simp; omega) | omega)))))).mono ?_; rintro e w1 ⟨rfl, hb1⟩; have hz1 := hb1.size; (try simp at hz1); have o1 : Below w.heap.size w w1 := (by (repeat (first | exact Below.refl _ _ | refine Below.setCell ?_ (by first | (simp; done) | (simp; omega) | omega) _ | refine Below.alloc ?_ (by first | (simp; done) | (simp; omega) | omega) _ | refine Below.drew ?_ | refine Below.trans ?_ (Below.mono (by assumption) (by first | (simp; done) | (simp; omega) | omega))))); have q1_0 : w.heap.size < w1.heap.size := (by omega); have r1_0 : Row w1 (w.heap.size) 24 #[.int .i64 agg, .int .i64 wd, .int .i64 k, .int .i64 cap, .int .i64 now, .int .i64 seq, .slice A m c] := row_call (by (repeat (first | assumption | (refine row_new ?_; (first | (simp; done) | omega)) | refine row_alloc ?_ _ | refine row_drew ?_ | refine row_call ?_ (by assumption)))) hb1; obtain ⟨c1_0a, c1_0b, c1_0c, c1_0d, c1_0e, c1_0f, c1_0g, f1_0a, f1_0b, f1_0c, f1_0d, f1_0e, f1_0f, f1_0g⟩ := row_seven r1_0; have q1_1 : w.heap.size + 1 < w1.heap.size := (by omega); have r1_1 : Row w1 (w.heap.size + 1) 50 #[.int .i64 0, .int .i64 0, .int .i64 0, .int .i64 0, .int .i64 0, .int .i64 0] := row_call (by (repeat (first | assumption | (refine row_new ?_; (first | (simp; done) | omega)) | refine row_alloc ?_ _ | refine row_drew ?_ | refine row_call ?_ (by assumption)))) hb1; obtain ⟨c1_1a, c1_1b, c1_1c, c1_1d, c1_1e, c1_1f, f1_1a, f1_1b, f1_1c, f1_1d, f1_1e, f1_1f⟩ := row_six r1_1))
  exact bodyPost_ret (v := .tuple #[.agg #[.int .i64 0, .int .i64 0, .int .i64 0, .int .i64 0, .int .i64 0, .int .i64 0], .int .i64 2]) (by simp [results, Try.results28, go_sem, List.getElem?_toArray, c1_1a, c1_1b, c1_1c, c1_1d, c1_1e, c1_1f]) rfl ⟨rfl, below_six o1 (by omega) _ _ _ _ _ _⟩
set_option maxRecDepth 100000 in
theorem psmask_z (A : Option Addr) (c : Nat) (l : List Mk) (agg wd k cap now seq : Int) (w : World) (hin : MIn A 0 c l w) (sB : I64 seq) (hv : smvalE agg wd k cap now seq l = 0) : Calls Try.prog 28 #[.agg #[.int .i64 agg, .int .i64 wd, .int .i64 k, .int .i64 cap, .int .i64 now, .int .i64 seq, .slice A 0 c]] w fun e w' => e = .returned (askV (smvalE agg wd k cap now seq l) (askLo agg now wd l) (askHi agg now wd l)) ∧ Below w.heap.size w w' := by
  have hl : l = [] := List.eq_nil_of_length_eq_zero hin.len
  rw [show askV (smvalE agg wd k cap now seq l) (askLo agg now wd l) (askHi agg now wd l) = .tuple #[.agg #[.int .i64 0, .int .i64 1, .int .i64 0, .int .i64 1, .int .i64 0, .int .i64 1], .int .i64 0] by rw [hv, hl, askLo_nil, askHi_nil]; rfl]
  have P := fun w' (hb : Below w.heap.size w w') => pvalS A 0 c l agg wd k cap now seq w' (hin.below hb) sB
  rw [hv] at P
  replace P := Lib.hid P
  have PE := Lib.hid (fun w => pexI 0 w (by omega) (by omega))
  clear hv hin sB hl
  go_enter Try.func28, Try.ntmps28
  go_upto_region 5 with (first | (go_at_call 12; with_reducible refine (P.out _ (by (repeat (first | exact Below.refl _ _ | refine Below.setCell ?_ (by first | (simp; done) | (simp; omega) | omega) _ | refine Below.alloc ?_ (by first | (simp; done) | (simp; omega) | omega) _ | refine Below.drew ?_ | refine Below.trans ?_ (Below.mono (by assumption) (by first | (simp; done) | (simp; omega) | omega)))))).mono ?_; rintro e w1 ⟨rfl, hb1⟩; have hz1 := hb1.size; (try simp at hz1); have o1 : Below w.heap.size w w1 := (by (repeat (first | exact Below.refl _ _ | refine Below.setCell ?_ (by first | (simp; done) | (simp; omega) | omega) _ | refine Below.alloc ?_ (by first | (simp; done) | (simp; omega) | omega) _ | refine Below.drew ?_ | refine Below.trans ?_ (Below.mono (by assumption) (by first | (simp; done) | (simp; omega) | omega))))); have q1_0 : w.heap.size < w1.heap.size := (by omega); have r1_0 : Row w1 (w.heap.size) 24 #[.int .i64 agg, .int .i64 wd, .int .i64 k, .int .i64 cap, .int .i64 now, .int .i64 seq, .slice A 0 c] := row_call (by (repeat (first | assumption | (refine row_new ?_; (first | (simp; done) | omega)) | refine row_alloc ?_ _ | refine row_drew ?_ | refine row_call ?_ (by assumption)))) hb1; obtain ⟨c1_0a, c1_0b, c1_0c, c1_0d, c1_0e, c1_0f, c1_0g, f1_0a, f1_0b, f1_0c, f1_0d, f1_0e, f1_0f, f1_0g⟩ := row_seven r1_0; have q1_1 : w.heap.size + 1 < w1.heap.size := (by omega); have r1_1 : Row w1 (w.heap.size + 1) 50 #[.int .i64 0, .int .i64 0, .int .i64 0, .int .i64 0, .int .i64 0, .int .i64 0] := row_call (by (repeat (first | assumption | (refine row_new ?_; (first | (simp; done) | omega)) | refine row_alloc ?_ _ | refine row_drew ?_ | refine row_call ?_ (by assumption)))) hb1; obtain ⟨c1_1a, c1_1b, c1_1c, c1_1d, c1_1e, c1_1f, f1_1a, f1_1b, f1_1c, f1_1d, f1_1e, f1_1f⟩ := row_six r1_1))
  have R := r1_1
  have o := o1
  clear r1_1 r1_0 o1 c1_1a c1_1b c1_1c c1_1d c1_1e c1_1f
  go_wp2_with fail
  refine (pratio 0 _).mono ?_
  rintro e w5 ⟨rfl, hb5⟩
  replace R := row_call R hb5
  replace o := o.trans (hb5.mono o.size)
  clear hb5
  go_wp2_with fail
  refine (PE.out _).mono ?_
  rintro e w6 ⟨rfl, hb6⟩
  replace R := row_call R hb6
  replace o := o.trans (hb6.mono o.size)
  clear hb6
  obtain ⟨R0, R1, R2, R3, R4, R5, Rf0, Rf1, Rf2, Rf3, Rf4, Rf5⟩ := row_six R
  go_wp2
  exact bodyPost_ret (v := .tuple #[.agg #[.int .i64 0, .int .i64 1, .int .i64 0, .int .i64 1, .int .i64 0, .int .i64 1], .int .i64 0]) (by simp [results, Try.results28, go_sem, List.getElem?_toArray, R0, R1, R2, R3, R4, R5]) rfl ⟨rfl, below_six o (by omega) _ _ _ _ _ _⟩
set_option maxRecDepth 100000 in
set_option maxHeartbeats 2000000 in
theorem psmask_f (A : Option Addr) (m c : Nat) (l : List Mk) (agg wd k cap now seq : Int) (w : World) (hin : MIn A m c l w) (sB : I64 seq) (hv : smvalE agg wd k cap now seq l = 0) (hm0 : 0 < m) (hlv : now - wd < (mkAt l 0).t) : Calls Try.prog 28 #[.agg #[.int .i64 agg, .int .i64 wd, .int .i64 k, .int .i64 cap, .int .i64 now, .int .i64 seq, .slice A m c]] w fun e w' => e = .returned (askV (smvalE agg wd k cap now seq l) (askLo agg now wd l) (askHi agg now wd l)) ∧ Below w.heap.size w w' := by
  obtain ⟨hG, hMV, _⟩ := of_smvalE hv
  obtain ⟨⟨a0, a1⟩, d0, d1, k0, k1, c0, c1, n0, n1⟩ := hG
  have hVL := (mvalid_iff.1 hMV).2
  have hl := hin.len
  have hne : l ≠ [] := fun e => by rw [e] at hl; simp at hl; omega
  have e1 : askLo agg now wd l = ofV agg (mkAt l 0) := by unfold askLo; rw [if_neg hne, if_pos hlv]
  have e2 : askHi agg now wd l = ofV agg (mkAt l 0) := by unfold askHi; rw [if_neg hne, if_pos hlv]
  rw [e1, e2, hv]
  have o1a := hVL.one _ (mkAt_mem (l := l) (i := 0) (by omega))
  have PX := fun w => pofm agg (mkAt l 0) w (hin.mB 0)
  have bx := ofV_bound o1a c1
  have PL := fun w => plive now wd (mkAt l 0).t w n0 n1 d0 d1 o1a.2.2.2.2.1 o1a.2.2.2.2.2.1
  clear e1 e2
  obtain ⟨x, hx⟩ : ∃ x, ofV agg (mkAt l 0) = x := ⟨_, rfl⟩
  rw [hx] at PX bx
  try rw [hx]
  obtain ⟨ad, rfl, hadb, ht0⟩ := hin.reads.mk (i := 0) hm0
  have ht0 : MkCells w ad (mkAt l 0) := ht0
  generalize mkAt l 0 = ma at ht0 PX PL hlv o1a
  obtain ⟨sq, tk, n, s, q, lo, hi⟩ := ma
  dsimp only at PX PL hlv
  rw [decide_eq_true hlv] at PL
  replace PX := Lib.hid PX
  replace PL := Lib.hid PL
  rw [show askV 0 x x = .tuple #[.agg #[.int .i64 x, .int .i64 1, .int .i64 x, .int .i64 1, .int .i64 x, .int .i64 1], .int .i64 0] by unfold askV; rw [if_pos rfl, show (x + x) / 2 = x by omega]]
  have PE := Lib.hid (fun w => pexI x w bx.1 bx.2)
  have P := fun w' (hb : Below w.heap.size w w') => pvalS (some ad) m c l agg wd k cap now seq w' (hin.below hb) sB
  rw [hv] at P
  replace P := Lib.hid P
  clear hv hin sB hx hlv o1a hMV hVL hne bx hl
  go_enter Try.func28, Try.ntmps28
  go_upto_region 6 with (first | (go_at_call 12; with_reducible refine (P.out _ (by (repeat (first | exact Below.refl _ _ | refine Below.setCell ?_ (by first | (simp; done) | (simp; omega) | omega) _ | refine Below.alloc ?_ (by first | (simp; done) | (simp; omega) | omega) _ | refine Below.drew ?_ | refine Below.trans ?_ (Below.mono (by assumption) (by first | (simp; done) | (simp; omega) | omega)))))).mono ?_; rintro e w1 ⟨rfl, hb1⟩; have hz1 := hb1.size; (try simp at hz1); have o1 : Below w.heap.size w w1 := (by (repeat (first | exact Below.refl _ _ | refine Below.setCell ?_ (by first | (simp; done) | (simp; omega) | omega) _ | refine Below.alloc ?_ (by first | (simp; done) | (simp; omega) | omega) _ | refine Below.drew ?_ | refine Below.trans ?_ (Below.mono (by assumption) (by first | (simp; done) | (simp; omega) | omega))))); have q1_0 : w.heap.size < w1.heap.size := (by omega); have r1_0 : Row w1 (w.heap.size) 24 #[.int .i64 agg, .int .i64 wd, .int .i64 k, .int .i64 cap, .int .i64 now, .int .i64 seq, .slice (some ad) m c] := row_call (by (repeat (first | assumption | (refine row_new ?_; (first | (simp; done) | omega)) | refine row_alloc ?_ _ | refine row_drew ?_ | refine row_call ?_ (by assumption)))) hb1; obtain ⟨c1_0a, c1_0b, c1_0c, c1_0d, c1_0e, c1_0f, c1_0g, f1_0a, f1_0b, f1_0c, f1_0d, f1_0e, f1_0f, f1_0g⟩ := row_seven r1_0; have q1_1 : w.heap.size + 1 < w1.heap.size := (by omega); have r1_1 : Row w1 (w.heap.size + 1) 50 #[.int .i64 0, .int .i64 0, .int .i64 0, .int .i64 0, .int .i64 0, .int .i64 0] := row_call (by (repeat (first | assumption | (refine row_new ?_; (first | (simp; done) | omega)) | refine row_alloc ?_ _ | refine row_drew ?_ | refine row_call ?_ (by assumption)))) hb1; obtain ⟨c1_1a, c1_1b, c1_1c, c1_1d, c1_1e, c1_1f, f1_1a, f1_1b, f1_1c, f1_1d, f1_1e, f1_1f⟩ := row_six r1_1))
  have R := r1_1
  have o := o1
  obtain ⟨q0, q1, q2, q3, q4, q5, q6⟩ := ht0.below o1 hadb
  dsimp only at q0 q1 q2 q3 q4 q5 q6
  have g0 : (0 : Int) < (m : Int) := by omega
  have mz : ((m : Int) == 0) = false := by simp; omega
  go_upto_region 7 with (fail)
  have Fr : Row (w1.alloc (.cells #[.int .i64 sq, .int .i64 tk, .int .i64 n, .int .i64 s, .int .i64 q, .int .i64 lo, .int .i64 hi] 43)) w1.heap.size 43 #[.int .i64 sq, .int .i64 tk, .int .i64 n, .int .i64 s, .int .i64 q, .int .i64 lo, .int .i64 hi] := row_new rfl
  replace R := row_alloc R (.cells #[.int .i64 sq, .int .i64 tk, .int .i64 n, .int .i64 s, .int .i64 q, .int .i64 lo, .int .i64 hi] 43)
  have X := row_alloc r1_0 (.cells #[.int .i64 sq, .int .i64 tk, .int .i64 n, .int .i64 s, .int .i64 q, .int .i64 lo, .int .i64 hi] 43)
  replace o := o.alloc o.size (.cells #[.int .i64 sq, .int .i64 tk, .int .i64 n, .int .i64 s, .int .i64 q, .int .i64 lo, .int .i64 hi] 43)
  generalize (w1.alloc (.cells #[.int .i64 sq, .int .i64 tk, .int .i64 n, .int .i64 s, .int .i64 q, .int .i64 lo, .int .i64 hi] 43)) = w2 at Fr R X o ⊢
  generalize w1.heap.size = fb at Fr ⊢
  clear q0 q1 q2 q3 q4 q5 q6 r1_0 r1_1 o1 ht0 c1_0a c1_0b c1_0c c1_0d c1_0e c1_0f c1_0g f1_0a f1_0b f1_0c f1_0d f1_0e f1_0f f1_0g c1_1a c1_1b c1_1c c1_1d c1_1e c1_1f f1_1a f1_1b f1_1c f1_1d f1_1e f1_1f
  obtain ⟨X0, X1, X2, X3, X4, X5, X6, Xf0, Xf1, Xf2, Xf3, Xf4, Xf5, Xf6⟩ := row_seven X
  obtain ⟨F0, F1, F2, F3, F4, F5, F6, Ff0, Ff1, Ff2, Ff3, Ff4, Ff5, Ff6⟩ := row_seven Fr
  go_upto_region 8 with (go_at_call 62; with_reducible refine (PL.out _).mono ?_; rintro e w9 ⟨rfl, h9⟩; obtain rfl := h9.symm)
  go_wp2_with fail
  refine (PX.out _).mono ?_
  rintro e w4 ⟨rfl, hb4⟩
  replace R := row_call R hb4
  replace o := o.trans (hb4.mono o.size)
  clear hb4 X X0 X1 X2 X3 X4 X5 X6 Xf0 Xf1 Xf2 Xf3 Xf4 Xf5 Xf6 Fr F0 F1 F2 F3 F4 F5 F6 Ff0 Ff1 Ff2 Ff3 Ff4 Ff5 Ff6
  go_wp2_with fail
  refine (pratio x _).mono ?_
  rintro e w5 ⟨rfl, hb5⟩
  replace R := row_call R hb5
  replace o := o.trans (hb5.mono o.size)
  clear hb5
  go_wp2_with fail
  refine (PE.out _).mono ?_
  rintro e w6 ⟨rfl, hb6⟩
  replace R := row_call R hb6
  replace o := o.trans (hb6.mono o.size)
  clear hb6
  obtain ⟨R0, R1, R2, R3, R4, R5, Rf0, Rf1, Rf2, Rf3, Rf4, Rf5⟩ := row_six R
  go_wp2
  exact bodyPost_ret (v := .tuple #[.agg #[.int .i64 x, .int .i64 1, .int .i64 x, .int .i64 1, .int .i64 x, .int .i64 1], .int .i64 0]) (by simp [results, Try.results28, go_sem, List.getElem?_toArray, R0, R1, R2, R3, R4, R5]) rfl ⟨rfl, below_six o (by omega) _ _ _ _ _ _⟩
set_option maxRecDepth 100000 in
set_option maxHeartbeats 2000000 in
theorem psmask_g (A : Option Addr) (m c : Nat) (l : List Mk) (agg wd k cap now seq : Int) (w : World) (hin : MIn A m c l w) (sB : I64 seq) (hv : smvalE agg wd k cap now seq l = 0) (hm0 : 0 < m) (hlv : ¬ now - wd < (mkAt l 0).t) (hnx : (mkAt l 1).seq = (mkAt l 0).seq + 1) : Calls Try.prog 28 #[.agg #[.int .i64 agg, .int .i64 wd, .int .i64 k, .int .i64 cap, .int .i64 now, .int .i64 seq, .slice A m c]] w fun e w' => e = .returned (askV (smvalE agg wd k cap now seq l) (askLo agg now wd l) (askHi agg now wd l)) ∧ Below w.heap.size w w' := by
  have hle := ask_le (of_smvalE hv)
  obtain ⟨hG, hMV, _⟩ := of_smvalE hv
  obtain ⟨⟨a0, a1⟩, d0, d1, k0, k1, c0, c1, n0, n1⟩ := hG
  have hVL := (mvalid_iff.1 hMV).2
  have hl := hin.len
  have hne : l ≠ [] := fun e => by rw [e] at hl; simp at hl; omega
  have hm1 : 1 < m := by
    apply Nat.lt_of_not_le; intro hc
    obtain ⟨a, rfl⟩ : ∃ a, l = [a] := List.length_eq_one_iff.1 (by omega)
    exact hlv (hVL.alone a rfl)
  have e1 : askLo agg now wd l = ofV agg (mkAt l 1) := by unfold askLo; rw [if_neg hne, if_neg hlv]
  have e2 : askHi agg now wd l = ofV agg (mkAt l 1) := by unfold askHi; rw [if_neg hne, if_neg hlv, if_pos hnx]
  rw [e1, e2] at hle
  rw [e1, e2, hv]
  have o1a := hVL.one _ (mkAt_mem (l := l) (i := 0) (by omega))
  have PX := fun w => pofm agg (mkAt l 0) w (hin.mB 0)
  have bx := ofV_bound o1a c1
  have PL := fun w => plive now wd (mkAt l 0).t w n0 n1 d0 d1 o1a.2.2.2.2.1 o1a.2.2.2.2.2.1
  have o1b := hVL.one _ (mkAt_mem (l := l) (i := 1) (by omega))
  have PY := fun w => pofm agg (mkAt l 1) w (hin.mB 1)
  have bY := ofV_bound o1b c1
  clear e1 e2
  obtain ⟨y, hy⟩ : ∃ y, ofV agg (mkAt l 1) = y := ⟨_, rfl⟩
  rw [hy] at PY bY hle
  rw [hy]
  obtain ⟨ad', e', hadb', ht1⟩ := hin.reads.mk (i := 1) hm1
  obtain ⟨x, hx⟩ : ∃ x, ofV agg (mkAt l 0) = x := ⟨_, rfl⟩
  rw [hx] at PX bx
  try rw [hx]
  obtain ⟨ad, rfl, hadb, ht0⟩ := hin.reads.mk (i := 0) hm0
  have ht0 : MkCells w ad (mkAt l 0) := ht0
  generalize mkAt l 0 = ma at ht0 PX PL hlv o1a hnx
  obtain ⟨sq, tk, n, s, q, lo, hi⟩ := ma
  dsimp only at PX PL hlv hnx
  rw [decide_eq_false hlv] at PL
  replace PX := Lib.hid PX
  replace PL := Lib.hid PL
  obtain rfl := Option.some.inj e'
  have ht1 : MkCells w (ad.add (1 * 7)) (mkAt l 1) := ht1
  generalize mkAt l 1 = mb at ht1 PY hnx o1b
  obtain ⟨osq, otk, on, os, oq, olo, ohi⟩ := mb
  dsimp only at PY hnx
  have hsq1 := o1a.1
  have hsq2 := o1a.2.1
  dsimp only at hsq1 hsq2
  have wsq : IntKind.i64.wrap (sq + 1) = sq + 1 := IntWalk.i64_in _ (by have := (mvalid_iff.1 hMV).1.2; omega)
  have tsq : (osq == sq + 1) = true := by simp; omega
  replace PY := Lib.hid PY
  rw [show askV 0 y y = .tuple #[.agg #[.int .i64 y, .int .i64 1, .int .i64 y, .int .i64 1, .int .i64 y, .int .i64 1], .int .i64 0] by unfold askV; rw [if_pos rfl, show (y + y) / 2 = y by omega]]
  have PE := Lib.hid (fun w => pexI y w bY.1 bY.2)
  have P := fun w' (hb : Below w.heap.size w w') => pvalS (some ad) m c l agg wd k cap now seq w' (hin.below hb) sB
  rw [hv] at P
  replace P := Lib.hid P
  clear hv hin sB hx hy hlv o1a o1b hMV hVL hne bx bY hl hle hnx e' hsq1 hsq2
  go_enter Try.func28, Try.ntmps28
  go_upto_region 6 with (first | (go_at_call 12; with_reducible refine (P.out _ (by (repeat (first | exact Below.refl _ _ | refine Below.setCell ?_ (by first | (simp; done) | (simp; omega) | omega) _ | refine Below.alloc ?_ (by first | (simp; done) | (simp; omega) | omega) _ | refine Below.drew ?_ | refine Below.trans ?_ (Below.mono (by assumption) (by first | (simp; done) | (simp; omega) | omega)))))).mono ?_; rintro e w1 ⟨rfl, hb1⟩; have hz1 := hb1.size; (try simp at hz1); have o1 : Below w.heap.size w w1 := (by (repeat (first | exact Below.refl _ _ | refine Below.setCell ?_ (by first | (simp; done) | (simp; omega) | omega) _ | refine Below.alloc ?_ (by first | (simp; done) | (simp; omega) | omega) _ | refine Below.drew ?_ | refine Below.trans ?_ (Below.mono (by assumption) (by first | (simp; done) | (simp; omega) | omega))))); have q1_0 : w.heap.size < w1.heap.size := (by omega); have r1_0 : Row w1 (w.heap.size) 24 #[.int .i64 agg, .int .i64 wd, .int .i64 k, .int .i64 cap, .int .i64 now, .int .i64 seq, .slice (some ad) m c] := row_call (by (repeat (first | assumption | (refine row_new ?_; (first | (simp; done) | omega)) | refine row_alloc ?_ _ | refine row_drew ?_ | refine row_call ?_ (by assumption)))) hb1; obtain ⟨c1_0a, c1_0b, c1_0c, c1_0d, c1_0e, c1_0f, c1_0g, f1_0a, f1_0b, f1_0c, f1_0d, f1_0e, f1_0f, f1_0g⟩ := row_seven r1_0; have q1_1 : w.heap.size + 1 < w1.heap.size := (by omega); have r1_1 : Row w1 (w.heap.size + 1) 50 #[.int .i64 0, .int .i64 0, .int .i64 0, .int .i64 0, .int .i64 0, .int .i64 0] := row_call (by (repeat (first | assumption | (refine row_new ?_; (first | (simp; done) | omega)) | refine row_alloc ?_ _ | refine row_drew ?_ | refine row_call ?_ (by assumption)))) hb1; obtain ⟨c1_1a, c1_1b, c1_1c, c1_1d, c1_1e, c1_1f, f1_1a, f1_1b, f1_1c, f1_1d, f1_1e, f1_1f⟩ := row_six r1_1))
  have R := r1_1
  have o := o1
  obtain ⟨q0, q1, q2, q3, q4, q5, q6⟩ := ht0.below o1 hadb
  dsimp only at q0 q1 q2 q3 q4 q5 q6
  have g0 : (0 : Int) < (m : Int) := by omega
  have mz : ((m : Int) == 0) = false := by simp; omega
  go_upto_region 7 with (fail)
  have Fr : Row (w1.alloc (.cells #[.int .i64 sq, .int .i64 tk, .int .i64 n, .int .i64 s, .int .i64 q, .int .i64 lo, .int .i64 hi] 43)) w1.heap.size 43 #[.int .i64 sq, .int .i64 tk, .int .i64 n, .int .i64 s, .int .i64 q, .int .i64 lo, .int .i64 hi] := row_new rfl
  replace R := row_alloc R (.cells #[.int .i64 sq, .int .i64 tk, .int .i64 n, .int .i64 s, .int .i64 q, .int .i64 lo, .int .i64 hi] 43)
  have X := row_alloc r1_0 (.cells #[.int .i64 sq, .int .i64 tk, .int .i64 n, .int .i64 s, .int .i64 q, .int .i64 lo, .int .i64 hi] 43)
  replace o := o.alloc o.size (.cells #[.int .i64 sq, .int .i64 tk, .int .i64 n, .int .i64 s, .int .i64 q, .int .i64 lo, .int .i64 hi] 43)
  generalize (w1.alloc (.cells #[.int .i64 sq, .int .i64 tk, .int .i64 n, .int .i64 s, .int .i64 q, .int .i64 lo, .int .i64 hi] 43)) = w2 at Fr R X o ⊢
  generalize w1.heap.size = fb at Fr ⊢
  clear q0 q1 q2 q3 q4 q5 q6 r1_0 r1_1 o1 ht0 c1_0a c1_0b c1_0c c1_0d c1_0e c1_0f c1_0g f1_0a f1_0b f1_0c f1_0d f1_0e f1_0f f1_0g c1_1a c1_1b c1_1c c1_1d c1_1e c1_1f f1_1a f1_1b f1_1c f1_1d f1_1e f1_1f
  obtain ⟨X0, X1, X2, X3, X4, X5, X6, Xf0, Xf1, Xf2, Xf3, Xf4, Xf5, Xf6⟩ := row_seven X
  obtain ⟨F0, F1, F2, F3, F4, F5, F6, Ff0, Ff1, Ff2, Ff3, Ff4, Ff5, Ff6⟩ := row_seven Fr
  go_upto_region 9 with (go_at_call 62; with_reducible refine (PL.out _).mono ?_; rintro e w9 ⟨rfl, h9⟩; obtain rfl := h9.symm)
  clear PL
  obtain ⟨s0, s1, s2, s3, s4, s5, s6⟩ := ht1.below o hadb'
  dsimp only at s0 s1 s2 s3 s4 s5 s6
  replace s0 : w2.cell? ⟨ad.block, ad.off + 7, none⟩ = some (.int .i64 osq) := s0
  replace s1 : w2.cell? ⟨ad.block, ad.off + 7 + 1, none⟩ = some (.int .i64 otk) := s1
  replace s2 : w2.cell? ⟨ad.block, ad.off + 7 + 2, none⟩ = some (.int .i64 on) := s2
  replace s3 : w2.cell? ⟨ad.block, ad.off + 7 + 3, none⟩ = some (.int .i64 os) := s3
  replace s4 : w2.cell? ⟨ad.block, ad.off + 7 + 4, none⟩ = some (.int .i64 oq) := s4
  replace s5 : w2.cell? ⟨ad.block, ad.off + 7 + 5, none⟩ = some (.int .i64 olo) := s5
  replace s6 : w2.cell? ⟨ad.block, ad.off + 7 + 6, none⟩ = some (.int .i64 ohi) := s6
  have g1 : (1 : Int) < (m : Int) := by omega
  go_upto_region 10 with (fail)
  have Sr : Row (w2.alloc (.cells #[.int .i64 osq, .int .i64 otk, .int .i64 on, .int .i64 os, .int .i64 oq, .int .i64 olo, .int .i64 ohi] 43)) w2.heap.size 43 #[.int .i64 osq, .int .i64 otk, .int .i64 on, .int .i64 os, .int .i64 oq, .int .i64 olo, .int .i64 ohi] := row_new rfl
  replace R := row_alloc R (.cells #[.int .i64 osq, .int .i64 otk, .int .i64 on, .int .i64 os, .int .i64 oq, .int .i64 olo, .int .i64 ohi] 43)
  replace X := row_alloc X (.cells #[.int .i64 osq, .int .i64 otk, .int .i64 on, .int .i64 os, .int .i64 oq, .int .i64 olo, .int .i64 ohi] 43)
  replace Fr := row_alloc Fr (.cells #[.int .i64 osq, .int .i64 otk, .int .i64 on, .int .i64 os, .int .i64 oq, .int .i64 olo, .int .i64 ohi] 43)
  replace o := o.alloc o.size (.cells #[.int .i64 osq, .int .i64 otk, .int .i64 on, .int .i64 os, .int .i64 oq, .int .i64 olo, .int .i64 ohi] 43)
  generalize (w2.alloc (.cells #[.int .i64 osq, .int .i64 otk, .int .i64 on, .int .i64 os, .int .i64 oq, .int .i64 olo, .int .i64 ohi] 43)) = w3 at Fr R X Sr o ⊢
  generalize w2.heap.size = gb at Sr ⊢
  clear s0 s1 s2 s3 s4 s5 s6 ht1 X0 X1 X2 X3 X4 X5 X6 Xf0 Xf1 Xf2 Xf3 Xf4 Xf5 Xf6 F0 F1 F2 F3 F4 F5 F6 Ff0 Ff1 Ff2 Ff3 Ff4 Ff5 Ff6
  obtain ⟨X0, X1, X2, X3, X4, X5, X6, Xf0, Xf1, Xf2, Xf3, Xf4, Xf5, Xf6⟩ := row_seven X
  obtain ⟨F0, F1, F2, F3, F4, F5, F6, Ff0, Ff1, Ff2, Ff3, Ff4, Ff5, Ff6⟩ := row_seven Fr
  obtain ⟨S0, S1, S2, S3, S4, S5, S6, Sf0, Sf1, Sf2, Sf3, Sf4, Sf5, Sf6⟩ := row_seven Sr
  go_wp2_with fail
  refine (PY.out _).mono ?_
  rintro e w4 ⟨rfl, hb4⟩
  replace R := row_call R hb4
  replace o := o.trans (hb4.mono o.size)
  clear hb4
  go_wp2_with fail
  refine (pratio y _).mono ?_
  rintro e w5 ⟨rfl, hb5⟩
  replace R := row_call R hb5
  replace o := o.trans (hb5.mono o.size)
  clear hb5
  go_wp2_with fail
  refine (PE.out _).mono ?_
  rintro e w6 ⟨rfl, hb6⟩
  replace R := row_call R hb6
  replace o := o.trans (hb6.mono o.size)
  clear hb6
  obtain ⟨R0, R1, R2, R3, R4, R5, Rf0, Rf1, Rf2, Rf3, Rf4, Rf5⟩ := row_six R
  go_wp2
  exact bodyPost_ret (v := .tuple #[.agg #[.int .i64 y, .int .i64 1, .int .i64 y, .int .i64 1, .int .i64 y, .int .i64 1], .int .i64 0]) (by simp [results, Try.results28, go_sem, List.getElem?_toArray, R0, R1, R2, R3, R4, R5]) rfl ⟨rfl, below_six o (by omega) _ _ _ _ _ _⟩
set_option maxRecDepth 100000 in
set_option maxHeartbeats 2000000 in
theorem psmask_h (A : Option Addr) (m c : Nat) (l : List Mk) (agg wd k cap now seq : Int) (w : World) (hin : MIn A m c l w) (sB : I64 seq) (hv : smvalE agg wd k cap now seq l = 0) (hm0 : 0 < m) (hlv : ¬ now - wd < (mkAt l 0).t) (hnx : ¬ (mkAt l 1).seq = (mkAt l 0).seq + 1) : Calls Try.prog 28 #[.agg #[.int .i64 agg, .int .i64 wd, .int .i64 k, .int .i64 cap, .int .i64 now, .int .i64 seq, .slice A m c]] w fun e w' => e = .returned (askV (smvalE agg wd k cap now seq l) (askLo agg now wd l) (askHi agg now wd l)) ∧ Below w.heap.size w w' := by
  have hle := ask_le (of_smvalE hv)
  obtain ⟨hG, hMV, _⟩ := of_smvalE hv
  obtain ⟨⟨a0, a1⟩, d0, d1, k0, k1, c0, c1, n0, n1⟩ := hG
  have hVL := (mvalid_iff.1 hMV).2
  have hl := hin.len
  have hne : l ≠ [] := fun e => by rw [e] at hl; simp at hl; omega
  have hm1 : 1 < m := by
    apply Nat.lt_of_not_le; intro hc
    obtain ⟨a, rfl⟩ : ∃ a, l = [a] := List.length_eq_one_iff.1 (by omega)
    exact hlv (hVL.alone a rfl)
  have e1 : askLo agg now wd l = ofV agg (mkAt l 1) := by unfold askLo; rw [if_neg hne, if_neg hlv]
  have e2 : askHi agg now wd l = ofV agg (mkAt l 0) := by unfold askHi; rw [if_neg hne, if_neg hlv, if_neg hnx]
  rw [e1, e2] at hle
  rw [e1, e2, hv]
  have o1a := hVL.one _ (mkAt_mem (l := l) (i := 0) (by omega))
  have PX := fun w => pofm agg (mkAt l 0) w (hin.mB 0)
  have bx := ofV_bound o1a c1
  have PL := fun w => plive now wd (mkAt l 0).t w n0 n1 d0 d1 o1a.2.2.2.2.1 o1a.2.2.2.2.2.1
  have o1b := hVL.one _ (mkAt_mem (l := l) (i := 1) (by omega))
  have PY := fun w => pofm agg (mkAt l 1) w (hin.mB 1)
  have bY := ofV_bound o1b c1
  clear e1 e2
  obtain ⟨y, hy⟩ : ∃ y, ofV agg (mkAt l 1) = y := ⟨_, rfl⟩
  rw [hy] at PY bY hle
  rw [hy]
  obtain ⟨ad', e', hadb', ht1⟩ := hin.reads.mk (i := 1) hm1
  obtain ⟨x, hx⟩ : ∃ x, ofV agg (mkAt l 0) = x := ⟨_, rfl⟩
  rw [hx] at PX bx
  try rw [hx]
  obtain ⟨ad, rfl, hadb, ht0⟩ := hin.reads.mk (i := 0) hm0
  have ht0 : MkCells w ad (mkAt l 0) := ht0
  generalize mkAt l 0 = ma at ht0 PX PL hlv o1a hnx
  obtain ⟨sq, tk, n, s, q, lo, hi⟩ := ma
  dsimp only at PX PL hlv hnx
  rw [decide_eq_false hlv] at PL
  replace PX := Lib.hid PX
  replace PL := Lib.hid PL
  obtain rfl := Option.some.inj e'
  have ht1 : MkCells w (ad.add (1 * 7)) (mkAt l 1) := ht1
  generalize mkAt l 1 = mb at ht1 PY hnx o1b
  obtain ⟨osq, otk, on, os, oq, olo, ohi⟩ := mb
  dsimp only at PY hnx
  have hsq1 := o1a.1
  have hsq2 := o1a.2.1
  dsimp only at hsq1 hsq2
  have wsq : IntKind.i64.wrap (sq + 1) = sq + 1 := IntWalk.i64_in _ (by have := (mvalid_iff.1 hMV).1.2; omega)
  have tsq : (osq == sq + 1) = false := by simp; omega
  replace PY := Lib.hid PY
  rw [show askV 0 y x = .tuple #[.agg #[.int .i64 y, .int .i64 1, .int .i64 ((y + x) / 2), .int .i64 1, .int .i64 x, .int .i64 1], .int .i64 0] by unfold askV; rw [if_pos rfl]]
  have PE := Lib.hid (fun w => pwhI y x w hle.1 (by rw [hx] at hle; exact hle.2.1) bx.2)
  generalize (y + x) / 2 = md at PE ⊢
  have P := fun w' (hb : Below w.heap.size w w') => pvalS (some ad) m c l agg wd k cap now seq w' (hin.below hb) sB
  rw [hv] at P
  replace P := Lib.hid P
  clear hv hin sB hx hy hlv o1a o1b hMV hVL hne bx bY hl hle hnx e' hsq1 hsq2
  go_enter Try.func28, Try.ntmps28
  go_upto_region 6 with (first | (go_at_call 12; with_reducible refine (P.out _ (by (repeat (first | exact Below.refl _ _ | refine Below.setCell ?_ (by first | (simp; done) | (simp; omega) | omega) _ | refine Below.alloc ?_ (by first | (simp; done) | (simp; omega) | omega) _ | refine Below.drew ?_ | refine Below.trans ?_ (Below.mono (by assumption) (by first | (simp; done) | (simp; omega) | omega)))))).mono ?_; rintro e w1 ⟨rfl, hb1⟩; have hz1 := hb1.size; (try simp at hz1); have o1 : Below w.heap.size w w1 := (by (repeat (first | exact Below.refl _ _ | refine Below.setCell ?_ (by first | (simp; done) | (simp; omega) | omega) _ | refine Below.alloc ?_ (by first | (simp; done) | (simp; omega) | omega) _ | refine Below.drew ?_ | refine Below.trans ?_ (Below.mono (by assumption) (by first | (simp; done) | (simp; omega) | omega))))); have q1_0 : w.heap.size < w1.heap.size := (by omega); have r1_0 : Row w1 (w.heap.size) 24 #[.int .i64 agg, .int .i64 wd, .int .i64 k, .int .i64 cap, .int .i64 now, .int .i64 seq, .slice (some ad) m c] := row_call (by (repeat (first | assumption | (refine row_new ?_; (first | (simp; done) | omega)) | refine row_alloc ?_ _ | refine row_drew ?_ | refine row_call ?_ (by assumption)))) hb1; obtain ⟨c1_0a, c1_0b, c1_0c, c1_0d, c1_0e, c1_0f, c1_0g, f1_0a, f1_0b, f1_0c, f1_0d, f1_0e, f1_0f, f1_0g⟩ := row_seven r1_0; have q1_1 : w.heap.size + 1 < w1.heap.size := (by omega); have r1_1 : Row w1 (w.heap.size + 1) 50 #[.int .i64 0, .int .i64 0, .int .i64 0, .int .i64 0, .int .i64 0, .int .i64 0] := row_call (by (repeat (first | assumption | (refine row_new ?_; (first | (simp; done) | omega)) | refine row_alloc ?_ _ | refine row_drew ?_ | refine row_call ?_ (by assumption)))) hb1; obtain ⟨c1_1a, c1_1b, c1_1c, c1_1d, c1_1e, c1_1f, f1_1a, f1_1b, f1_1c, f1_1d, f1_1e, f1_1f⟩ := row_six r1_1))
  have R := r1_1
  have o := o1
  obtain ⟨q0, q1, q2, q3, q4, q5, q6⟩ := ht0.below o1 hadb
  dsimp only at q0 q1 q2 q3 q4 q5 q6
  have g0 : (0 : Int) < (m : Int) := by omega
  have mz : ((m : Int) == 0) = false := by simp; omega
  go_upto_region 7 with (fail)
  have Fr : Row (w1.alloc (.cells #[.int .i64 sq, .int .i64 tk, .int .i64 n, .int .i64 s, .int .i64 q, .int .i64 lo, .int .i64 hi] 43)) w1.heap.size 43 #[.int .i64 sq, .int .i64 tk, .int .i64 n, .int .i64 s, .int .i64 q, .int .i64 lo, .int .i64 hi] := row_new rfl
  replace R := row_alloc R (.cells #[.int .i64 sq, .int .i64 tk, .int .i64 n, .int .i64 s, .int .i64 q, .int .i64 lo, .int .i64 hi] 43)
  have X := row_alloc r1_0 (.cells #[.int .i64 sq, .int .i64 tk, .int .i64 n, .int .i64 s, .int .i64 q, .int .i64 lo, .int .i64 hi] 43)
  replace o := o.alloc o.size (.cells #[.int .i64 sq, .int .i64 tk, .int .i64 n, .int .i64 s, .int .i64 q, .int .i64 lo, .int .i64 hi] 43)
  generalize (w1.alloc (.cells #[.int .i64 sq, .int .i64 tk, .int .i64 n, .int .i64 s, .int .i64 q, .int .i64 lo, .int .i64 hi] 43)) = w2 at Fr R X o ⊢
  generalize w1.heap.size = fb at Fr ⊢
  clear q0 q1 q2 q3 q4 q5 q6 r1_0 r1_1 o1 ht0 c1_0a c1_0b c1_0c c1_0d c1_0e c1_0f c1_0g f1_0a f1_0b f1_0c f1_0d f1_0e f1_0f f1_0g c1_1a c1_1b c1_1c c1_1d c1_1e c1_1f f1_1a f1_1b f1_1c f1_1d f1_1e f1_1f
  obtain ⟨X0, X1, X2, X3, X4, X5, X6, Xf0, Xf1, Xf2, Xf3, Xf4, Xf5, Xf6⟩ := row_seven X
  obtain ⟨F0, F1, F2, F3, F4, F5, F6, Ff0, Ff1, Ff2, Ff3, Ff4, Ff5, Ff6⟩ := row_seven Fr
  go_upto_region 9 with (go_at_call 62; with_reducible refine (PL.out _).mono ?_; rintro e w9 ⟨rfl, h9⟩; obtain rfl := h9.symm)
  clear PL
  obtain ⟨s0, s1, s2, s3, s4, s5, s6⟩ := ht1.below o hadb'
  dsimp only at s0 s1 s2 s3 s4 s5 s6
  replace s0 : w2.cell? ⟨ad.block, ad.off + 7, none⟩ = some (.int .i64 osq) := s0
  replace s1 : w2.cell? ⟨ad.block, ad.off + 7 + 1, none⟩ = some (.int .i64 otk) := s1
  replace s2 : w2.cell? ⟨ad.block, ad.off + 7 + 2, none⟩ = some (.int .i64 on) := s2
  replace s3 : w2.cell? ⟨ad.block, ad.off + 7 + 3, none⟩ = some (.int .i64 os) := s3
  replace s4 : w2.cell? ⟨ad.block, ad.off + 7 + 4, none⟩ = some (.int .i64 oq) := s4
  replace s5 : w2.cell? ⟨ad.block, ad.off + 7 + 5, none⟩ = some (.int .i64 olo) := s5
  replace s6 : w2.cell? ⟨ad.block, ad.off + 7 + 6, none⟩ = some (.int .i64 ohi) := s6
  have g1 : (1 : Int) < (m : Int) := by omega
  go_upto_region 10 with (fail)
  have Sr : Row (w2.alloc (.cells #[.int .i64 osq, .int .i64 otk, .int .i64 on, .int .i64 os, .int .i64 oq, .int .i64 olo, .int .i64 ohi] 43)) w2.heap.size 43 #[.int .i64 osq, .int .i64 otk, .int .i64 on, .int .i64 os, .int .i64 oq, .int .i64 olo, .int .i64 ohi] := row_new rfl
  replace R := row_alloc R (.cells #[.int .i64 osq, .int .i64 otk, .int .i64 on, .int .i64 os, .int .i64 oq, .int .i64 olo, .int .i64 ohi] 43)
  replace X := row_alloc X (.cells #[.int .i64 osq, .int .i64 otk, .int .i64 on, .int .i64 os, .int .i64 oq, .int .i64 olo, .int .i64 ohi] 43)
  replace Fr := row_alloc Fr (.cells #[.int .i64 osq, .int .i64 otk, .int .i64 on, .int .i64 os, .int .i64 oq, .int .i64 olo, .int .i64 ohi] 43)
  replace o := o.alloc o.size (.cells #[.int .i64 osq, .int .i64 otk, .int .i64 on, .int .i64 os, .int .i64 oq, .int .i64 olo, .int .i64 ohi] 43)
  generalize (w2.alloc (.cells #[.int .i64 osq, .int .i64 otk, .int .i64 on, .int .i64 os, .int .i64 oq, .int .i64 olo, .int .i64 ohi] 43)) = w3 at Fr R X Sr o ⊢
  generalize w2.heap.size = gb at Sr ⊢
  clear s0 s1 s2 s3 s4 s5 s6 ht1 X0 X1 X2 X3 X4 X5 X6 Xf0 Xf1 Xf2 Xf3 Xf4 Xf5 Xf6 F0 F1 F2 F3 F4 F5 F6 Ff0 Ff1 Ff2 Ff3 Ff4 Ff5 Ff6
  obtain ⟨X0, X1, X2, X3, X4, X5, X6, Xf0, Xf1, Xf2, Xf3, Xf4, Xf5, Xf6⟩ := row_seven X
  obtain ⟨F0, F1, F2, F3, F4, F5, F6, Ff0, Ff1, Ff2, Ff3, Ff4, Ff5, Ff6⟩ := row_seven Fr
  obtain ⟨S0, S1, S2, S3, S4, S5, S6, Sf0, Sf1, Sf2, Sf3, Sf4, Sf5, Sf6⟩ := row_seven Sr
  go_upto_region 12 with (fail)
  refine wp_region_free1 [0, 1, 2, 3, 4, 5, 6, 7, 8, 9, 11, 10] [11] [0, 1, 2, 3, 4, 5, 6, 7, 8, 9, 10, 12] (12, 50, #[.int .i64 0, .int .i64 0, .int .i64 0, .int .i64 0, .int .i64 0, .int .i64 0]) 7 13 (fun w' => Row w' (fb) 43 #[.int .i64 sq, .int .i64 tk, .int .i64 n, .int .i64 s, .int .i64 q, .int .i64 lo, .int .i64 hi] ∧ Row w' (gb) 43 #[.int .i64 osq, .int .i64 otk, .int .i64 on, .int .i64 os, .int .i64 oq, .int .i64 olo, .int .i64 ohi] ∧ Row w' (w.heap.size) 24 #[.int .i64 agg, .int .i64 wd, .int .i64 k, .int .i64 cap, .int .i64 now, .int .i64 seq, .slice (some ad) m c] ∧ Row w' (w.heap.size + 1) 50 #[.int .i64 0, .int .i64 0, .int .i64 0, .int .i64 0, .int .i64 0, .int .i64 0] ∧ Below w.heap.size w w') (by kernel_rfl) (by kernel_rfl) ⟨_, _, rfl, rfl, rfl, fun ρ w' => by go_simp⟩ rfl (by simp) (fun _ h => ⟨row_alloc h.1 _, row_alloc h.2.1 _, row_alloc h.2.2.1 _, row_alloc h.2.2.2.1 _, h.2.2.2.2.alloc h.2.2.2.2.size _⟩) (fun _ _ d _ _ h => by cases d <;> exact h) ?_ ?_
  · exact ⟨Fr, Sr, X, R, o.drew⟩
  (refine plan_val ?_ rfl rfl rfl (fun w' hS => ?_) ?_; rotate_left; (obtain ⟨F0, F1, F2, F3, F4, F5, F6, Ff0, Ff1, Ff2, Ff3, Ff4, Ff5, Ff6⟩ := row_seven hS.1; obtain ⟨S0, S1, S2, S3, S4, S5, S6, Sf0, Sf1, Sf2, Sf3, Sf4, Sf5, Sf6⟩ := row_seven hS.2.1; obtain ⟨X0, X1, X2, X3, X4, X5, X6, Xf0, Xf1, Xf2, Xf3, Xf4, Xf5, Xf6⟩ := row_seven hS.2.2.1; go_simp; try with_reducible rfl); simp only [Act.put, List.setIfInBounds_toArray, List.set_cons_zero, List.set_cons_succ])
  (refine plan_pure ?_ rfl rfl (fun w' => ?_) ?_; rotate_left; (go_simp; try with_reducible rfl); simp only [Act.put, List.setIfInBounds_toArray, List.set_cons_zero, List.set_cons_succ])
  (refine plan_val ?_ rfl rfl rfl (fun w' hS => ?_) ?_; rotate_left; (obtain ⟨F0, F1, F2, F3, F4, F5, F6, Ff0, Ff1, Ff2, Ff3, Ff4, Ff5, Ff6⟩ := row_seven hS.1; obtain ⟨S0, S1, S2, S3, S4, S5, S6, Sf0, Sf1, Sf2, Sf3, Sf4, Sf5, Sf6⟩ := row_seven hS.2.1; obtain ⟨X0, X1, X2, X3, X4, X5, X6, Xf0, Xf1, Xf2, Xf3, Xf4, Xf5, Xf6⟩ := row_seven hS.2.2.1; go_simp; try with_reducible rfl); simp only [Act.put, List.setIfInBounds_toArray, List.set_cons_zero, List.set_cons_succ])
  refine plan_call (.int .i64 y) 24 #[.agg #[.int .i64 osq, .int .i64 otk, .int .i64 on, .int .i64 os, .int .i64 oq, .int .i64 olo, .int .i64 ohi], .int .i64 agg] rfl rfl rfl (fun _ _ h hb => ⟨row_call h.1 hb, row_call h.2.1 hb, row_call h.2.2.1 hb, row_call h.2.2.2.1 hb, h.2.2.2.2.trans (hb.mono h.2.2.2.2.size)⟩) (fun w' hS => by obtain ⟨F0, F1, F2, F3, F4, F5, F6, Ff0, Ff1, Ff2, Ff3, Ff4, Ff5, Ff6⟩ := row_seven hS.1; obtain ⟨S0, S1, S2, S3, S4, S5, S6, Sf0, Sf1, Sf2, Sf3, Sf4, Sf5, Sf6⟩ := row_seven hS.2.1; obtain ⟨X0, X1, X2, X3, X4, X5, X6, Xf0, Xf1, Xf2, Xf3, Xf4, Xf5, Xf6⟩ := row_seven hS.2.2.1; go_simp) (fun w' hS => PY.out w') ?_
  simp only [Act.put, List.setIfInBounds_toArray, List.set_cons_zero, List.set_cons_succ]
  (refine plan_val ?_ rfl rfl rfl (fun w' hS => ?_) ?_; rotate_left; (obtain ⟨F0, F1, F2, F3, F4, F5, F6, Ff0, Ff1, Ff2, Ff3, Ff4, Ff5, Ff6⟩ := row_seven hS.1; obtain ⟨S0, S1, S2, S3, S4, S5, S6, Sf0, Sf1, Sf2, Sf3, Sf4, Sf5, Sf6⟩ := row_seven hS.2.1; obtain ⟨X0, X1, X2, X3, X4, X5, X6, Xf0, Xf1, Xf2, Xf3, Xf4, Xf5, Xf6⟩ := row_seven hS.2.2.1; go_simp; try with_reducible rfl); simp only [Act.put, List.setIfInBounds_toArray, List.set_cons_zero, List.set_cons_succ])
  (refine plan_pure ?_ rfl rfl (fun w' => ?_) ?_; rotate_left; (go_simp; try with_reducible rfl); simp only [Act.put, List.setIfInBounds_toArray, List.set_cons_zero, List.set_cons_succ])
  (refine plan_val ?_ rfl rfl rfl (fun w' hS => ?_) ?_; rotate_left; (obtain ⟨F0, F1, F2, F3, F4, F5, F6, Ff0, Ff1, Ff2, Ff3, Ff4, Ff5, Ff6⟩ := row_seven hS.1; obtain ⟨S0, S1, S2, S3, S4, S5, S6, Sf0, Sf1, Sf2, Sf3, Sf4, Sf5, Sf6⟩ := row_seven hS.2.1; obtain ⟨X0, X1, X2, X3, X4, X5, X6, Xf0, Xf1, Xf2, Xf3, Xf4, Xf5, Xf6⟩ := row_seven hS.2.2.1; go_simp; try with_reducible rfl); simp only [Act.put, List.setIfInBounds_toArray, List.set_cons_zero, List.set_cons_succ])
  refine plan_call (.int .i64 x) 24 #[.agg #[.int .i64 sq, .int .i64 tk, .int .i64 n, .int .i64 s, .int .i64 q, .int .i64 lo, .int .i64 hi], .int .i64 agg] rfl rfl rfl (fun _ _ h hb => ⟨row_call h.1 hb, row_call h.2.1 hb, row_call h.2.2.1 hb, row_call h.2.2.2.1 hb, h.2.2.2.2.trans (hb.mono h.2.2.2.2.size)⟩) (fun w' hS => by obtain ⟨F0, F1, F2, F3, F4, F5, F6, Ff0, Ff1, Ff2, Ff3, Ff4, Ff5, Ff6⟩ := row_seven hS.1; obtain ⟨S0, S1, S2, S3, S4, S5, S6, Sf0, Sf1, Sf2, Sf3, Sf4, Sf5, Sf6⟩ := row_seven hS.2.1; obtain ⟨X0, X1, X2, X3, X4, X5, X6, Xf0, Xf1, Xf2, Xf3, Xf4, Xf5, Xf6⟩ := row_seven hS.2.2.1; go_simp) (fun w' hS => PX.out w') ?_
  simp only [Act.put, List.setIfInBounds_toArray, List.set_cons_zero, List.set_cons_succ]
  refine plan_call (.tuple #[.agg #[.int .i64 y, .int .i64 1, .int .i64 md, .int .i64 1, .int .i64 x, .int .i64 1], .bool true]) 63 #[.int .i64 y, .int .i64 x] rfl rfl rfl (fun _ _ h hb => ⟨row_call h.1 hb, row_call h.2.1 hb, row_call h.2.2.1 hb, row_call h.2.2.2.1 hb, h.2.2.2.2.trans (hb.mono h.2.2.2.2.size)⟩) (fun w' hS => by obtain ⟨F0, F1, F2, F3, F4, F5, F6, Ff0, Ff1, Ff2, Ff3, Ff4, Ff5, Ff6⟩ := row_seven hS.1; obtain ⟨S0, S1, S2, S3, S4, S5, S6, Sf0, Sf1, Sf2, Sf3, Sf4, Sf5, Sf6⟩ := row_seven hS.2.1; obtain ⟨X0, X1, X2, X3, X4, X5, X6, Xf0, Xf1, Xf2, Xf3, Xf4, Xf5, Xf6⟩ := row_seven hS.2.2.1; go_simp) (fun w' hS => PE.out w') ?_
  simp only [Act.put, List.setIfInBounds_toArray, List.set_cons_zero, List.set_cons_succ]
  (refine plan_pure ?_ rfl rfl (fun w' => ?_) ?_; rotate_left; (go_simp; try with_reducible rfl); simp only [Act.put, List.setIfInBounds_toArray, List.set_cons_zero, List.set_cons_succ])
  (refine plan_pure ?_ rfl rfl (fun w' => ?_) ?_; rotate_left; (go_simp; try with_reducible rfl); simp only [Act.put, List.setIfInBounds_toArray, List.set_cons_zero, List.set_cons_succ])
  (refine plan_pure ?_ rfl rfl (fun w' => ?_) ?_; rotate_left; (go_simp; try with_reducible rfl); simp only [Act.put, List.setIfInBounds_toArray, List.set_cons_zero, List.set_cons_succ])
  refine plan_nil ?_
  intro ob w5 L hor hog
  simp only [List.drop_succ_cons, List.drop_zero]
  try simp only [Act.put, List.setIfInBounds_toArray, List.set_cons_zero, List.set_cons_succ]
  obtain ⟨Fr', Sr', X', R', o'⟩ := L
  clear Fr Sr X o F0 F1 F2 F3 F4 F5 F6 Ff0 Ff1 Ff2 Ff3 Ff4 Ff5 Ff6 S0 S1 S2 S3 S4 S5 S6 Sf0 Sf1 Sf2 Sf3 Sf4 Sf5 Sf6 X0 X1 X2 X3 X4 X5 X6 Xf0 Xf1 Xf2 Xf3 Xf4 Xf5 Xf6
  have hne : w.heap.size + 1 ≠ ob := by have := row_lt R; omega
  have hbo : w.heap.size ≤ ob := by have := row_lt R; omega
  obtain ⟨B0, B1, B2, B3, B4, B5, Bf0, Bf1, Bf2, Bf3, Bf4, Bf5⟩ := row_six hor
  go_upto_region 13 with (fail)
  have B' : Row ((((((w5.setCell ⟨ob, 0, none⟩ (.int .i64 y)).setCell ⟨ob, 1, none⟩ (.int .i64 1)).setCell ⟨ob, 2, none⟩ (.int .i64 md)).setCell ⟨ob, 3, none⟩ (.int .i64 1)).setCell ⟨ob, 4, none⟩ (.int .i64 x)).setCell ⟨ob, 5, none⟩ (.int .i64 1)) ob 50 #[.int .i64 y, .int .i64 1, .int .i64 md, .int .i64 1, .int .i64 x, .int .i64 1] := (row_set (row_set (row_set (row_set (row_set (row_set hor 0 (.int .i64 y)) 1 (.int .i64 1)) 2 (.int .i64 md)) 3 (.int .i64 1)) 4 (.int .i64 x)) 5 (.int .i64 1))
  replace R : Row ((((((w5.setCell ⟨ob, 0, none⟩ (.int .i64 y)).setCell ⟨ob, 1, none⟩ (.int .i64 1)).setCell ⟨ob, 2, none⟩ (.int .i64 md)).setCell ⟨ob, 3, none⟩ (.int .i64 1)).setCell ⟨ob, 4, none⟩ (.int .i64 x)).setCell ⟨ob, 5, none⟩ (.int .i64 1)) (w.heap.size + 1) 50 #[.int .i64 0, .int .i64 0, .int .i64 0, .int .i64 0, .int .i64 0, .int .i64 0] := (row_other (row_other (row_other (row_other (row_other (row_other R' hne (.int .i64 y)) hne (.int .i64 1)) hne (.int .i64 md)) hne (.int .i64 1)) hne (.int .i64 x)) hne (.int .i64 1))
  have o : Below w.heap.size w ((((((w5.setCell ⟨ob, 0, none⟩ (.int .i64 y)).setCell ⟨ob, 1, none⟩ (.int .i64 1)).setCell ⟨ob, 2, none⟩ (.int .i64 md)).setCell ⟨ob, 3, none⟩ (.int .i64 1)).setCell ⟨ob, 4, none⟩ (.int .i64 x)).setCell ⟨ob, 5, none⟩ (.int .i64 1)) := below_six o' hbo _ _ _ _ _ _
  generalize ((((((w5.setCell ⟨ob, 0, none⟩ (.int .i64 y)).setCell ⟨ob, 1, none⟩ (.int .i64 1)).setCell ⟨ob, 2, none⟩ (.int .i64 md)).setCell ⟨ob, 3, none⟩ (.int .i64 1)).setCell ⟨ob, 4, none⟩ (.int .i64 x)).setCell ⟨ob, 5, none⟩ (.int .i64 1)) = w6 at B' R o ⊢
  clear Fr' Sr' X' R' o' hor B0 B1 B2 B3 B4 B5 Bf0 Bf1 Bf2 Bf3 Bf4 Bf5
  obtain ⟨B0, B1, B2, B3, B4, B5, Bf0, Bf1, Bf2, Bf3, Bf4, Bf5⟩ := row_six B'
  obtain ⟨R0, R1, R2, R3, R4, R5, Rf0, Rf1, Rf2, Rf3, Rf4, Rf5⟩ := row_six R
  go_wp2
  exact bodyPost_ret (v := .tuple #[.agg #[.int .i64 y, .int .i64 1, .int .i64 md, .int .i64 1, .int .i64 x, .int .i64 1], .int .i64 0]) (by simp [results, Try.results28, go_sem, List.getElem?_toArray, R0, R1, R2, R3, R4, R5]) rfl ⟨rfl, below_six o (by omega) _ _ _ _ _ _⟩
theorem psmask (A : Option Addr) (m c : Nat) (l : List Mk) (agg wd k cap now seq : Int) (w : World) (hin : MIn A m c l w) (sB : I64 seq) : Calls Try.prog 28 #[.agg #[.int .i64 agg, .int .i64 wd, .int .i64 k, .int .i64 cap, .int .i64 now, .int .i64 seq, .slice A m c]] w fun e w' => e = .returned (askV (smvalE agg wd k cap now seq l) (askLo agg now wd l) (askHi agg now wd l)) ∧ Below w.heap.size w w' := by
  rcases smvalE_two (agg := agg) (wd := wd) (k := k) (cap := cap) (now := now) (seq := seq) (l := l) with hv | hv
  · by_cases m0 : m = 0
    · subst m0; exact psmask_z A c l agg wd k cap now seq w hin sB hv
    · by_cases hlv : now - wd < (mkAt l 0).t
      · exact psmask_f A m c l agg wd k cap now seq w hin sB hv (by omega) hlv
      · by_cases hnx : (mkAt l 1).seq = (mkAt l 0).seq + 1
        · exact psmask_g A m c l agg wd k cap now seq w hin sB hv (by omega) hlv hnx
        · exact psmask_h A m c l agg wd k cap now seq w hin sB hv (by omega) hlv hnx
  · exact psmask_a A m c l agg wd k cap now seq w hin sB hv
end Go.Proofs.Ythknkdjpfanlnaa
end
section
/- The law of Phase with one operation (u) behind which the condition S need not hold: what stands behind it hangs on no load. -/
set_option linter.unusedVariables false
set_option linter.unusedSimpArgs false
set_option linter.unusedSectionVars false
set_option linter.unnecessarySimpa false
namespace Go.Proofs.Ythknkdjpfanlnaa
open Go.RowKit
section
variable {P : Program} {ops : Array Oper} {md : Region.Mode} {S : World → Prop} {Q : Exit → Act → World → Prop} {n g u : Nat} {tail : List Oper}
/-- What is left of the operations ahead, in whatever order; then the last ones. -/
def HeadU (P : Program) (md : Region.Mode) (ops : Array Oper) (S : World → Prop) (Q : Exit → Act → World → Prop) (n g u : Nat) (tail : List Oper) : Nat → Array Bool → Act → World → Prop
  | 0, listed, a, w => Region.seqB md ops g n listed = true ∧ wpList P ops Q tail a w
  | f + 1, listed, a, w => Region.ready md ops listed ≠ [] ∧ ∀ i ∈ Region.ready md ops listed, i < n ∧ wpOp P ops Q i (fun a' w' => ((listed.setIfInBounds i true).getD u true = false → S w') ∧ HeadU P md ops S Q n g u tail f (listed.setIfInBounds i true) a' w') a w
theorem headU_any (hg : tail.length = g) (ht : ∀ j, tail[j]? = ops[n + j]?) : ∀ (f : Nat) (listed : Array Bool) (a : Act) (w : World), HeadU P md ops S Q n g u tail f listed a w → wpAny P md ops Q (f + g) listed a w
  | 0, listed, a, w, h => by
    rw [Nat.zero_add]
    subst hg
    exact wpAny_of_seq tail n listed a w ht h.1 h.2
  | f + 1, listed, a, w, h => by
    rw [show f + 1 + g = (f + g) + 1 from by omega]
    exact ⟨fun h0 => absurd h0 h.1, fun i hi => wpOp_mono (fun a' w' h' => headU_any hg ht f _ a' w' h'.2) (h.2 i hi).2⟩
theorem headU_first (ok : PhaseOK md ops n) {i : Nat} {oi : Oper} {v : Value} (hi : ops[i]? = some oi) (hin : i < n) (hui : u ≠ i) (hd : ∃ ou, ops[u]? = some ou ∧ ∃ e ∈ ou.after, Region.binds md e = true ∧ e.on = i) (hQ : ∀ c a w, Q (.panic c) (a.put oi.dst v) w → Q (.panic c) a w) :
    ∀ (f : Nat) (listed : Array Bool) (a : Act) (w : World), HeadInv md ops n listed → listed.getD u true = false →
      (∀ j oj, ops[j]? = some oj → j ≠ i → listed.getD j true = false → (∀ e ∈ oj.after, Region.binds md e = true → e.on ≠ i) → oi.apart ops oj = true) →
      i ∈ Region.ready md ops listed → YieldsIf P ops S oi v a → S w → HeadU P md ops S Q n g u tail f (listed.setIfInBounds i true) (a.put oi.dst v) w → HeadU P md ops S Q n g u tail (f + 1) listed a w := by
  have hsel := Region.noSelect_spec ok.sel
  have gi : ∀ listed : Array Bool, (listed.setIfInBounds i true).getD u true = listed.getD u true := fun listed => getD_set_ne true (Ne.symm hui)
  intro f
  induction f with
  | zero =>
    intro listed a w inv hul _ hr hy hS H
    refine ⟨fun h0 => by rw [h0] at hr; exact absurd hr (by simp), fun j hj => ?_⟩
    have hjn : j < n := Nat.lt_of_not_le fun hle => tail_waits ok.sink ok.chain ok.lt inv _ i rfl hin (mem_ready.1 hr).1 j hle hj
    by_cases hji : j = i
    · subst hji
      exact ⟨hjn, hy.wpOp hi hS ⟨fun _ => hS, H⟩⟩
    · exact absurd (seqB_ready H.1 j (ready_mono hj hji)) (by omega)
  | succ f ih =>
    intro listed a w inv hul hfree hr hy hS H
    refine ⟨fun h0 => by rw [h0] at hr; exact absurd hr (by simp), fun j hj => ?_⟩
    have hun := (mem_ready.1 hr).1
    have hjn : j < n := Nat.lt_of_not_le fun hle => tail_waits ok.sink ok.chain ok.lt inv _ i rfl hin hun j hle hj
    by_cases hji : j = i
    · subst hji
      exact ⟨hjn, hy.wpOp hi hS ⟨fun _ => hS, H⟩⟩
    · have h1 := (H.2 j (ready_mono hj hji)).2
      obtain ⟨hjun, oj, hoj, hall⟩ := mem_ready.1 hj
      have hnot : ∀ e ∈ oj.after, Region.binds md e = true → e.on ≠ i := fun e he hb heq => by
        have h1 := hall e he hb
        rw [heq, getD_both hun] at h1
        cases h1
      have hju : j ≠ u := fun e => by
        obtain ⟨ou, hou, e1, he1, hb1, hon1⟩ := hd
        subst e
        rw [hoj] at hou
        cases hou
        exact hnot e1 he1 hb1 hon1
      have gj : (listed.setIfInBounds j true).getD u true = false := by rw [getD_set_ne true hju]; exact hul
      have h2 := wpOp_putIf hoj (hfree j oj hoj hji hjun hnot) (fun cs b => hsel i oi cs b hi) (fun cs b => hsel j oj cs b hoj) hQ hy h1
      have gij : ((listed.setIfInBounds i true).setIfInBounds j true).getD u true = (listed.setIfInBounds j true).getD u true := by rw [Array.setIfInBounds_comm _ _ (Ne.symm hji), gi]
      have cont : ∀ a' w', (YieldsIf P ops S oi v a' ∧ ((((listed.setIfInBounds i true).setIfInBounds j true).getD u true = false → S w') ∧ HeadU P md ops S Q n g u tail f ((listed.setIfInBounds i true).setIfInBounds j true) (a'.put oi.dst v) w')) → (((listed.setIfInBounds j true).getD u true = false → S w') ∧ HeadU P md ops S Q n g u tail (f + 1) (listed.setIfInBounds j true) a' w') := by
        intro a' w' h3
        have hS' : (listed.setIfInBounds j true).getD u true = false → S w' := fun h => h3.2.1 (by rw [gij]; exact h)
        refine ⟨hS', ih (listed.setIfInBounds j true) a' w' (inv.set hj hjn) gj (fun k ok' hk hki hku hno => ?_) (ready_mono hr (Ne.symm hji)) h3.1 (hS' gj) ?_⟩
        · refine hfree k ok' hk hki ?_ hno
          by_cases hjk : j = k
          · subst hjk
            exact hjun
          · rw [getD_set_ne true hjk] at hku
            exact hku
        · rw [Array.setIfInBounds_comm _ _ hji]
          exact h3.2.2
      exact ⟨hjn, wpOp_mono cont h2⟩
theorem headU_pure (ok : PhaseOK md ops n) {i : Nat} {oi : Oper} {v : Value} (hi : ops[i]? = some oi) (hin : i < n) (hui : u ≠ i) (hQ : ∀ c a w, Q (.panic c) (a.put oi.dst v) w → Q (.panic c) a w) :
    ∀ (f : Nat) (listed : Array Bool) (a : Act) (w : World), HeadInv md ops n listed →
      (∀ j oj, ops[j]? = some oj → j ≠ i → listed.getD j true = false → (∀ e ∈ oj.after, Region.binds md e = true → e.on ≠ i) → oi.apart ops oj = true) →
      i ∈ Region.ready md ops listed → YieldsIf P ops (fun _ => True) oi v a → (listed.getD u true = false → S w) → HeadU P md ops S Q n g u tail f (listed.setIfInBounds i true) (a.put oi.dst v) w → HeadU P md ops S Q n g u tail (f + 1) listed a w := by
  have hsel := Region.noSelect_spec ok.sel
  have gi : ∀ listed : Array Bool, (listed.setIfInBounds i true).getD u true = listed.getD u true := fun listed => getD_set_ne true (Ne.symm hui)
  intro f
  induction f with
  | zero =>
    intro listed a w inv _ hr hy hS H
    refine ⟨fun h0 => by rw [h0] at hr; exact absurd hr (by simp), fun j hj => ?_⟩
    have hjn : j < n := Nat.lt_of_not_le fun hle => tail_waits ok.sink ok.chain ok.lt inv _ i rfl hin (mem_ready.1 hr).1 j hle hj
    by_cases hji : j = i
    · subst hji
      exact ⟨hjn, hy.wpOp hi trivial ⟨fun h => hS (by rw [← gi]; exact h), H⟩⟩
    · exact absurd (seqB_ready H.1 j (ready_mono hj hji)) (by omega)
  | succ f ih =>
    intro listed a w inv hfree hr hy hS H
    refine ⟨fun h0 => by rw [h0] at hr; exact absurd hr (by simp), fun j hj => ?_⟩
    have hun := (mem_ready.1 hr).1
    have hjn : j < n := Nat.lt_of_not_le fun hle => tail_waits ok.sink ok.chain ok.lt inv _ i rfl hin hun j hle hj
    by_cases hji : j = i
    · subst hji
      exact ⟨hjn, hy.wpOp hi trivial ⟨fun h => hS (by rw [← gi]; exact h), H⟩⟩
    · have h1 := (H.2 j (ready_mono hj hji)).2
      obtain ⟨hjun, oj, hoj, hall⟩ := mem_ready.1 hj
      have hnot : ∀ e ∈ oj.after, Region.binds md e = true → e.on ≠ i := fun e he hb heq => by
        have h1 := hall e he hb
        rw [heq, getD_both hun] at h1
        cases h1
      have h2 := wpOp_putIf hoj (hfree j oj hoj hji hjun hnot) (fun cs b => hsel i oi cs b hi) (fun cs b => hsel j oj cs b hoj) hQ hy h1
      have gij : ((listed.setIfInBounds i true).setIfInBounds j true).getD u true = (listed.setIfInBounds j true).getD u true := by rw [Array.setIfInBounds_comm _ _ (Ne.symm hji), gi]
      have cont : ∀ a' w', (YieldsIf P ops (fun _ => True) oi v a' ∧ ((((listed.setIfInBounds i true).setIfInBounds j true).getD u true = false → S w') ∧ HeadU P md ops S Q n g u tail f ((listed.setIfInBounds i true).setIfInBounds j true) (a'.put oi.dst v) w')) → (((listed.setIfInBounds j true).getD u true = false → S w') ∧ HeadU P md ops S Q n g u tail (f + 1) (listed.setIfInBounds j true) a' w') := by
        intro a' w' h3
        have hS' : (listed.setIfInBounds j true).getD u true = false → S w' := fun h => h3.2.1 (by rw [gij]; exact h)
        refine ⟨hS', ih (listed.setIfInBounds j true) a' w' (inv.set hj hjn) (fun k ok' hk hki hku hno => ?_) (ready_mono hr (Ne.symm hji)) h3.1 hS' ?_⟩
        · refine hfree k ok' hk hki ?_ hno
          by_cases hjk : j = k
          · subst hjk
            exact hjun
          · rw [getD_set_ne true hjk] at hku
            exact hku
        · rw [Array.setIfInBounds_comm _ _ hji]
          exact h3.2.2
      exact ⟨hjn, wpOp_mono cont h2⟩
/-- The same, where what is listed hangs together. -/
def HU (P : Program) (md : Region.Mode) (ops : Array Oper) (S : World → Prop) (Q : Exit → Act → World → Prop) (n g u : Nat) (tail : List Oper) (f : Nat) (listed : Array Bool) (a : Act) (w : World) : Prop :=
  HeadInv md ops n listed → HeadU P md ops S Q n g u tail f listed a w
variable {f : Nat} {listed : Array Bool} {a : Act} {w : World}
/-- An operation that u waits for, and that gives one value in every world that meets S, is taken first. -/
theorem hu_take (ok : PhaseOK md ops n) {i : Nat} {oi : Oper} (v : Value) (hi : ops[i]? = some oi) (hin : i < n) (hui : u ≠ i) {ou : Oper} (hou : ops[u]? = some ou) (hd : (ou.after.any fun e => Region.binds md e && e.on == i) = true) (hul : listed.getD u true = false) (hf : Region.free md ops listed i = true) (hr : (Region.ready md ops listed).contains i = true)
    (hQ : ∀ c a w, Q (.panic c) (a.put oi.dst v) w → Q (.panic c) a w) (hy : YieldsIf P ops S oi v a) (hS : S w) (h : HU P md ops S Q n g u tail f (listed.setIfInBounds i true) (a.put oi.dst v) w) : HU P md ops S Q n g u tail (f + 1) listed a w := fun inv =>
  have hr' : i ∈ Region.ready md ops listed := by simpa using hr
  have hd' : ∃ ou, ops[u]? = some ou ∧ ∃ e ∈ ou.after, Region.binds md e = true ∧ e.on = i := by
    obtain ⟨e, he, hb⟩ := Array.any_eq_true'.1 hd
    simp only [Bool.and_eq_true, beq_iff_eq] at hb
    exact ⟨ou, hou, e, he, hb.1, hb.2⟩
  headU_first ok hi hin hui hd' hQ f listed a w inv hul (Region.free_spec hi hf) hr' hy hS (h (inv.set hr' hin))
/-- A pure operation is taken first. -/
theorem hu_pure (ok : PhaseOK md ops n) {i : Nat} {oi : Oper} (v : Value) (hi : ops[i]? = some oi) (hin : i < n) (hui : u ≠ i) (hf : Region.free md ops listed i = true) (hr : (Region.ready md ops listed).contains i = true)
    (hQ : ∀ c a w, Q (.panic c) (a.put oi.dst v) w → Q (.panic c) a w) (hy : YieldsIf P ops (fun _ => True) oi v a) (hS : S w) (h : HU P md ops S Q n g u tail f (listed.setIfInBounds i true) (a.put oi.dst v) w) : HU P md ops S Q n g u tail (f + 1) listed a w := fun inv =>
  have hr' : i ∈ Region.ready md ops listed := by simpa using hr
  headU_pure ok hi hin hui hQ f listed a w inv (Region.free_spec hi hf) hr' hy (fun _ => hS) (h (inv.set hr' hin))
/-- One operation alone may come up. -/
theorem hu_one {i : Nat} {oi : Oper} (hi : ops[i]? = some oi) (hin : i < n) (hr : Region.ready md ops listed = [i])
    (h : ∀ K : Act → World → Prop, (∀ a' w', S w' → HU P md ops S Q n g u tail f (listed.setIfInBounds i true) a' w' → K a' w') → if Region.wanted oi (yielded ops a.tmps) = true then Oper.wp P oi a w K Q else K (a.put oi.dst undef) w) : HU P md ops S Q n g u tail (f + 1) listed a w := fun inv => by
  refine ⟨by rw [hr]; simp, fun j hj => ?_⟩
  have hj' := hj
  rw [hr] at hj
  obtain rfl : j = i := by simpa using hj
  refine ⟨hin, ?_⟩
  have := h (fun a' w' => ((listed.setIfInBounds j true).getD u true = false → S w') ∧ HeadU P md ops S Q n g u tail f (listed.setIfInBounds j true) a' w') (fun a' w' hS hh => ⟨fun _ => hS, hh (inv.set hj' hin)⟩)
  unfold wpOp
  simp only [hi]
  split at this
  · rename_i hw
    simp only [hw, if_true]
    exact .inl this
  · rename_i hw
    simp only [hw]
    exact this
/-- The operation u comes up alone: behind it nothing is asked. -/
theorem hu_last {oi : Oper} (hi : ops[u]? = some oi) (hin : u < n) (hr : Region.ready md ops listed = [u]) (hl : u < listed.size)
    (h : ∀ K : Act → World → Prop, (∀ a' w', HU P md ops S Q n g u tail f (listed.setIfInBounds u true) a' w' → K a' w') → if Region.wanted oi (yielded ops a.tmps) = true then Oper.wp P oi a w K Q else K (a.put oi.dst undef) w) : HU P md ops S Q n g u tail (f + 1) listed a w := fun inv => by
  refine ⟨by rw [hr]; simp, fun j hj => ?_⟩
  have hj' := hj
  rw [hr] at hj
  obtain rfl : j = u := by simpa using hj
  refine ⟨hin, ?_⟩
  have gu : (listed.setIfInBounds j true).getD j true = true := by simp [Array.getD]
  have := h (fun a' w' => ((listed.setIfInBounds j true).getD j true = false → S w') ∧ HeadU P md ops S Q n g j tail f (listed.setIfInBounds j true) a' w') (fun a' w' hh => ⟨fun e => (by rw [gu] at e; cases e), hh (inv.set hj' hin)⟩)
  unfold wpOp
  simp only [hi]
  split at this
  · rename_i hw
    simp only [hw, if_true]
    exact .inl this
  · rename_i hw
    simp only [hw]
    exact this
theorem hu_done (hB : Region.seqB md ops g n listed = true) (h : wpList P ops Q tail a w) : HU P md ops S Q n g u tail 0 listed a w := fun _ => ⟨hB, h⟩
/-- The statement: n operations ahead of those that wait. -/
theorem wp_region_phase_u {id : Nat} {l : List Oper} (n u : Nat) (S : World → Prop) (hm : P.follows .mixedOrders = true) (hsel : Region.noSelect l.toArray = true) (hs : Region.sinkB .any l.toArray n = true) (hc : Region.chainB .any l.toArray n = true) (hn : decide (n < l.toArray.size) = true)
    (h : PhaseOK .any l.toArray n → HU P .any l.toArray S Q n (l.drop n).length u (l.drop n) n (Array.replicate l.toArray.size false) a w.drew) : (Code.region id l.toArray true).wp P Q a w := by
  have hn := of_decide_eq_true hn
  refine wp_region_any hm ?_
  have inv0 : HeadInv .any l.toArray n (Array.replicate l.toArray.size false) :=
    ⟨by simp, fun j oj _ hl => (by rw [getD_replicate_false] at hl; cases hl), fun t _ ht => getD_in (by simpa using ht) (getD_replicate_false _ _)⟩
  have H := headU_any (P := P) (S := S) (Q := Q) (md := .any) (ops := l.toArray) (n := n) (u := u) (tail := l.drop n) rfl (fun j => by simp [List.getElem?_drop]) n _ a _ (h ⟨hsel, hs, hc, hn⟩ inv0)
  have e : n + (l.drop n).length = l.toArray.size := by
    have : n < l.length := by simpa using hn
    simp
    omega
  rw [e] at H
  exact H
end
end Go.Proofs.Ythknkdjpfanlnaa
end
section
/- Smooth histograms: the law SmoothTruth, walked. -/
set_option linter.unusedVariables false
set_option linter.unusedSimpArgs false
set_option linter.unusedSectionVars false
set_option linter.unnecessarySimpa false
namespace Go.Proofs.Ythknkdjpfanlnaa
open Go.RowKit
theorem orow_seven {w : World} {base : Nat} {e : TypeId} {size b : Nat} {v : Value} {n : Nat} {xs : List Value} (h : w.ownsRow base e size v n xs) (hne : v.ownBlock ≠ some b) (u0 u1 u2 u3 u4 u5 u6 : Value) : (((((((w.setCell ⟨b, 0, none⟩ u0).setCell ⟨b, 1, none⟩ u1).setCell ⟨b, 2, none⟩ u2).setCell ⟨b, 3, none⟩ u3).setCell ⟨b, 4, none⟩ u4).setCell ⟨b, 5, none⟩ u5).setCell ⟨b, 6, none⟩ u6).ownsRow base e size v n xs := (orow_other (p := ⟨b, 6, none⟩) (orow_other (p := ⟨b, 5, none⟩) (orow_other (p := ⟨b, 4, none⟩) (orow_other (p := ⟨b, 3, none⟩) (orow_other (p := ⟨b, 2, none⟩) (orow_other (p := ⟨b, 1, none⟩) (orow_other (p := ⟨b, 0, none⟩) h hne u0) hne u1) hne u2) hne u3) hne u4) hne u5) hne u6)
theorem MIn.grown {A : Option Addr} {m c : Nat} {l : List Mk} {w w' : World} {r : Option Nat} (h : MIn A m c l w) (hg : w.grownBy w' r) (hne : ∀ a, A = some a → r ≠ some a.block) : MIn A m c l w' :=
  h.keep0 hg.size fun hm a e => hg.block a.block (h.blk hm a e) (fun e' => hne a e e'.symm)
theorem LIn.grown {A : Option Addr} {n : Nat} {l : List Itm} {w w' : World} {r : Option Nat} (h : LIn A n l w) (hg : w.grownBy w' r) (hne : ∀ a, A = some a → r ≠ some a.block) : LIn A n l w' := by
  have h2 : Reads w' w.heap.size 2 A n (icells l) := reads_keep h fun a e hb => hg.block a.block hb (fun e' => hne a e e'.symm)
  exact h2.more hg.size
theorem orow_call {w w' : World} {base : Nat} {e : TypeId} {size : Nat} {v : Value} {n : Nat} {xs : List Value} (h : w.ownsRow base e size v n xs) (hb : Below w.heap.size w w') : w'.ownsRow base e size v n xs := orow_keep h (fun g e => hb.block g (h.lt g e).2)
/-- What the histogram of a played stream is. -/
structure Played (agg wd k cap now seq : Int) (ms : List Mk) (ad : List Itm) (q : Nat) : Prop where
  val : smValid agg wd k cap now seq ms
  hist : HistOf ms seq now wd ad
  vals : ValsOK agg ad
  ml : ms.length ≤ q
  al : ad.length ≤ q
theorem Played.tick {agg wd k cap now seq tt : Int} {ms : List Mk} {ad : List Itm} {q : Nat} (h : Played agg wd k cap now seq ms ad q) (h0 : ¬ (tt < now ∨ 16777216 < tt)) : Played agg wd k cap tt seq (dropM tt wd ms) ad q :=
  ⟨smTick_valid h.val h0, h.hist.tick (mvalid_iff.1 h.val.2.1).2 (by omega), h.vals, Nat.le_trans (dropM_len _ _ _) h.ml, h.al⟩
theorem Played.add {agg wd k cap now seq v : Int} {ms : List Mk} {ad : List Itm} {q : Nat} (h : Played agg wd k cap now seq ms ad q) (hv : leastV agg ≤ v ∧ v ≤ 4096) (hf : ¬ smFull cap seq ms) : Played agg wd k cap now (seq + 1) (prune (nearB agg k) (incl ms (seq + 1) now v)) (ad ++ [⟨now, v⟩]) (q + 1) := by
  refine ⟨smAdd_valid h.val (by omega) hf, (h.hist.incl h.val.1.2.2.2.2.2.2.2.1).prune _, fun x hx => ?_, ?_, ?_⟩
  · rcases List.mem_append.1 hx with hx | hx
    · exact h.vals x hx
    · obtain rfl : x = ⟨now, v⟩ := by simpa using hx
      exact hv
  · have := prune_len (nearB agg k) _ (incl ms (seq + 1) now v) (Nat.le_refl _)
    rw [incl_len] at this
    have := h.ml
    omega
  · have := h.al
    simp
    omega
theorem Played.more {agg wd k cap now seq : Int} {ms : List Mk} {ad : List Itm} {q : Nat} (h : Played agg wd k cap now seq ms ad q) : Played agg wd k cap now seq ms ad (q + 1) := ⟨h.val, h.hist, h.vals, Nat.le_succ_of_le h.ml, Nat.le_succ_of_le h.al⟩
theorem Played.seqB {agg wd k cap now seq : Int} {ms : List Mk} {ad : List Itm} {q : Nat} (h : Played agg wd k cap now seq ms ad q) : 0 ≤ seq ∧ seq ≤ q := by have := h.hist.seq; have := h.al; omega
theorem ask_le0 {agg wd k cap now seq : Int} {l : List Mk} (hv : smValid agg wd k cap now seq l) : 0 ≤ askLo agg now wd l ∧ askLo agg now wd l ≤ askHi agg now wd l ∧ askHi agg now wd l ≤ 1099511627776 := ask_le hv
set_option maxRecDepth 100000 in
set_option maxHeartbeats 8000000 in
theorem smoothTruth (A : Option Addr) (m c : Nat) (l : List Itm) (agg0 wd0 k0 cap0 later : Int) (w : World) (hin : RIn A m c l w) : Calls Try.prog 9 #[.slice A m c, .int .i64 agg0, .int .i64 wd0, .int .i64 k0, .int .i64 cap0, .int .i64 later] w fun e w' => e = .returned (.bool true) ∧ Below w.heap.size w w' := by
  have PI4 := fun w => pint agg0 4 (by omega) (by omega) w
  have PW := fun w => pwindow wd0 k0 cap0 w
  obtain ⟨agg, hagg⟩ : ∃ agg, 1 + agg0 % 4 = agg := ⟨_, rfl⟩
  have wagg : IntKind.i64.wrap (1 + agg0 % 4) = agg := by rw [← hagg]; exact IntWalk.i64_in _ (by omega)
  obtain ⟨wn, hwn⟩ : ∃ wn : Nat, 1 + wd0 % 25 = (wn : Int) := ⟨(1 + wd0 % 25).toNat, by omega⟩
  obtain ⟨k, hk⟩ : ∃ k, 1 + k0 % 4 = k := ⟨_, rfl⟩
  obtain ⟨cap, hcap⟩ : ∃ cap, mcap cap0 = cap := ⟨_, rfl⟩
  have hcb := mcap_bd cap0
  rw [hwn, hk, hcap] at PW
  rw [hcap] at hcb
  have ha : 1 ≤ agg ∧ agg ≤ 4 := by omega
  have hw1 : 1 ≤ wn ∧ wn ≤ 25 := by omega
  have hkk : 1 ≤ k ∧ k ≤ 4 := by omega
  generalize agg0 % 4 = r4 at PI4 wagg
  have hG : smGood agg wn k cap 0 := ⟨ha, by omega, by omega, by omega, by omega, by omega, by omega, by omega, by omega⟩
  have PN := fun w => psmnew agg wn k cap 0 w
  rw [show smNew agg wn k cap 0 = ⟨agg, wn, k, cap, 0, 0, [], 0⟩ by unfold smNew; rw [if_pos hG]] at PN
  have PT := Lib.hid (fun w' (hb : Below w.heap.size w w') => pitems13 A m c l wn 100 agg w' (hin.below hb) (by omega) (by omega) (by omega))
  have HG := Lib.hid hG
  replace PN := Lib.hid PN
  replace PW := Lib.hid PW
  replace PI4 := Lib.hid PI4
  have HB := Lib.hid (And.intro ha (And.intro hw1 (And.intro hkk hcb)))
  clear hagg hwn hk hcap hcb ha hw1 hkk hG hin
  go_enter Try.func9, Try.ntmps9
  go_upto_region 3 with (first | (go_at_call 19; with_reducible refine (PI4.out _).mono ?_; rintro e w9 ⟨rfl, h9⟩; obtain rfl := h9.symm) | (go_at_call 20; with_reducible refine (PW.out _).mono ?_; rintro e w9 ⟨rfl, h9⟩; obtain rfl := h9.symm))
  go_wp2_with fail
  refine (PN.out _).mono ?_
  intro e w1 hq
  obtain ⟨A1, m1, c1, rfl, in1, hb1, fr1⟩ := smret_at rfl hq
  clear hq PN PW PI4 wagg
  have o := hb1
  go_upto_region 4 with (fail)
  have X : Row (w1.alloc (.cells #[.int .i64 agg, .int .i64 wn, .int .i64 k, .int .i64 cap, .int .i64 0, .int .i64 0, .slice A1 m1 c1] 24)) w1.heap.size 24 #[.int .i64 agg, .int .i64 wn, .int .i64 k, .int .i64 cap, .int .i64 0, .int .i64 0, .slice A1 m1 c1] := row_new rfl
  have IN := in1.below ((Below.refl _ _).alloc (Nat.le_refl _) (.cells #[.int .i64 agg, .int .i64 wn, .int .i64 k, .int .i64 cap, .int .i64 0, .int .i64 0, .slice A1 m1 c1] 24))
  have xb0 := hb1.size
  have fr : ∀ a, A1 = some a → a.block ≠ w1.heap.size := fun a e => by
    rcases fr1 a e with h | ⟨b, h, _⟩
    · omega
    · cases h
  have frL : ∀ a, A1 = some a → a.block < w1.heap.size := fun a e => by
    rcases fr1 a e with h | ⟨b, h, _⟩
    · omega
    · cases h
  replace o := o.alloc o.size (.cells #[.int .i64 agg, .int .i64 wn, .int .i64 k, .int .i64 cap, .int .i64 0, .int .i64 0, .slice A1 m1 c1] 24)
  generalize w1.alloc (.cells #[.int .i64 agg, .int .i64 wn, .int .i64 k, .int .i64 cap, .int .i64 0, .int .i64 0, .slice A1 m1 c1] 24) = w2 at X IN o ⊢
  generalize w1.heap.size = xb at X fr frL xb0 ⊢
  clear in1 hb1 fr1
  have ILN := IN.len
  obtain rfl : m1 = 0 := by simpa using ILN.symm
  clear ILN
  have xlt := row_lt X
  replace frL : ∀ a, A1 = some a → a.block < w2.heap.size := fun a e => by have := frL a e; omega
  go_wp2_with fail
  refine (PT.out _ o).mono ?_
  intro e w3 hq
  obtain ⟨vi, its, last, rfl, own3, hlm, HM, hb3⟩ := hq
  clear PT
  replace frL : ∀ a, A1 = some a → a.block < w3.heap.size := fun a e => by have := frL a e; have := hb3.size; omega
  replace X := row_call X hb3
  replace IN := IN.below hb3
  replace o := o.trans (hb3.mono o.size)
  obtain ⟨AI, ci, rfl, rdi, hci, _, fri⟩ := orow_forms own3
  have LI : LIn AI its.length its w3 := rdi
  have fIb : ∀ a, AI = some a → a.block < w3.heap.size := fun a e => (fri a e).2
  have fL : ∀ a, AI = some a → a.block ≠ xb := fun a e => by have := (fri a e).1; omega
  obtain ⟨n, hn⟩ : ∃ n, its.length = n := ⟨_, rfl⟩
  rw [hn] at LI hlm ⊢
  have HN := Lib.hid hn
  have HMH := Lib.hid HM
  clear own3 rdi fri hci hb3 HM hn
  go_upto_region 8 with (fail)
  have VAL0 : Played agg wn k cap 0 0 [] [] 0 := ⟨⟨HG.out, mvalid_iff.2 ⟨⟨Int.le_refl _, by omega⟩, ⟨fun _ h => absurd h (by simp), List.Pairwise.nil, fun _ h => absurd h (by simp), fun _ h => by simp at h, fun h => absurd rfl h⟩⟩, fun _ h => absurd h (by simp)⟩, hist_nil _ _, fun _ h => absurd h (by simp), by simp, by simp⟩
  have xbb := row_lt X
  have fLb : ∀ a, AI = some a → a.block < w3.heap.size := fun a e => fIb a e
  obtain ⟨bb, hbb⟩ : ∃ bb, bb = w3.heap.size := ⟨_, rfl⟩
  rw [← hbb] at xbb fLb
  have bb0 : w.heap.size ≤ bb := by omega
  have bb1 : bb ≤ w3.heap.size := by omega
  have AD0 : w3.ownsRow bb 40 2 (.slice none 0 0) ([] : List Itm).length (icells []) := World.ownsRow_nil _ _ _ _
  clear fIb hbb
  go_loopw [14, 15, 48] (fun f av i wr => ∃ (q : Nat) (A2 : Option Addr) (m2 c2 : Nat) (now seq : Int) (ms : List Mk) (ad : List Itm), q ≤ n ∧ i = .int .i64 (q : Nat) ∧ f = .int .i64 0 ∧ Row wr xb 24 #[.int .i64 agg, .int .i64 wn, .int .i64 k, .int .i64 cap, .int .i64 now, .int .i64 seq, .slice A2 m2 c2] ∧ MIn A2 m2 c2 ms wr ∧ RowKit.Hid (Played agg wn k cap now seq ms ad q ∧ (0 ≤ now ∧ now ≤ 5100) ∧ ∀ j, q ≤ j → j < n → now ≤ (itmAt its j).t) ∧ (∀ a, A2 = some a → a.block ≠ xb ∧ a.block < wr.heap.size ∧ ∀ g, av.ownBlock = some g → a.block ≠ g) ∧ LIn AI n its wr ∧ bb ≤ wr.heap.size ∧ wr.ownsRow bb 40 2 av ad.length (icells ad) ∧ Below w.heap.size w wr) (fun _ _ i _ => n - (intOf i).toNat)
  case atStart => exact ⟨0, A1, 0, c1, 0, 0, [], [], by omega, rfl, rfl, X, IN, Lib.hid ⟨VAL0, by omega, fun j _ hj => (HMH.out.1 j (by rw [HN.out]; exact hj)).1⟩, fun a e => ⟨fr a e, frL a e, fun g e' => by cases e'⟩, LI, bb1, AD0, o⟩
  case round =>
    clear VAL0 X IN fr frL LI o AD0 bb1
    obtain ⟨q, A2, m2, c2, now, seq, ms, ad, hq, rfl, rfl, X, IN, HV, fr, LI, bbw, AD, o⟩ := hrel
    generalize u15 = av at fr AD ⊢
    by_cases hlt : q < n
    · obtain ⟨adI, rfl, hadb, ht0⟩ := LI.item hlt
      obtain ⟨p0, p1⟩ := ht0
      have hl := IN.len
      have hkm := HMH.out.1 q (by rw [HN.out]; exact hlt)
      have hlast := HMH.out.2.2
      have hP := HV.out.1
      have hms := hP.ml
      have hsq := hP.seqB
      have hnow := HV.out.2.2 q (Nat.le_refl _) hlt
      have hw25 := HB.out.2.1
      rw [HN.out] at hlast
      have hmono : ∀ j, q + 1 ≤ j → j < n → (itmAt its q).t ≤ (itmAt its j).t := fun j h1 h2 => (HMH.out.1 j (by rw [HN.out]; exact h2)).2.2.1 q (by omega)
      have htb : (itmAt its q).t ≤ 5100 := by
        have := hkm.2.1
        have h51 : (2 * (wn : Int) + 1) * n ≤ 51 * 100 := Int.mul_le_mul (by omega) (by omega) (by omega) (by omega)
        omega
      have ht0 := hkm.1
      have hvb := hkm.2.2.2
      generalize (itmAt its q).t = tk at p0 hnow htb hmono ht0
      generalize (itmAt its q).v = vk at p1 hvb
      have hto : ¬ (tk < now ∨ 16777216 < tk) := by omega
      have PT := hP.tick hto
      have TE := smTick_c (smvalE_yes hP.val) hto
      obtain ⟨mt, hmt⟩ : ∃ mt, dropM tk wn ms = mt := ⟨_, rfl⟩
      rw [hmt] at PT TE
      have sB : I64 seq := by unfold I64; omega
      have i2 : (q : Int) < (n : Int) := by omega
      have i4 : (0 : Int) ≤ (q : Int) := by omega
      have hms60 : ms.length ≤ 100 := by omega
      have zb := o.size
      have HPT := Lib.hid PT
      have HFIN := Lib.hid (And.intro hmono (And.intro hlt (And.intro ht0 htb)))
      have MB := few_marks PT.val
      clear hkm hlast hP hsq hnow hto hmt htb hmono hlt hms ht0 PT
      go_upto_region 10 with (fail)
      have T : Row (wr.alloc (.cells #[.int .i64 tk, .int .i64 vk] 40)) wr.heap.size 40 #[.int .i64 tk, .int .i64 vk] := row_new rfl
      have htx := row_lt X
      have frT : ∀ a, A2 = some a → a.block ≠ xb ∧ a.block < wr.heap.size ∧ ∀ g, av.ownBlock = some g → a.block ≠ g := fr
      have adT : ∀ g, av.ownBlock = some g → g < wr.heap.size := fun g e => (AD.lt g e).2
      replace X := row_alloc X (.cells #[.int .i64 tk, .int .i64 vk] 40)
      replace IN := IN.below ((Below.refl _ _).alloc (Nat.le_refl _) (.cells #[.int .i64 tk, .int .i64 vk] 40))
      replace LI := LI.below ((Below.refl _ _).alloc (Nat.le_refl _) (.cells #[.int .i64 tk, .int .i64 vk] 40))
      replace AD := AD.alloc (.cells #[.int .i64 tk, .int .i64 vk] 40)
      replace o := o.alloc o.size (.cells #[.int .i64 tk, .int .i64 vk] 40)
      have sz4 : wr.heap.size < (wr.alloc (.cells #[.int .i64 tk, .int .i64 vk] 40)).heap.size := by simp
      generalize wr.alloc (.cells #[.int .i64 tk, .int .i64 vk] 40) = w4 at T X IN LI AD o sz4 ⊢
      generalize wr.heap.size = tb at T zb htx frT adT fr sz4 bbw ⊢
      replace htx : tb ≠ xb := by omega
      have adTb : ∀ g, av.ownBlock = some g → g < tb := adT
      have PT := psmtick (A2) m2 c2 ms agg wn k cap now seq tk w4 IN sB (by omega)
      rw [TE] at PT
      replace PT := Lib.hid PT
      obtain ⟨T0, T1, Tf0, Tf1⟩ := row_two T
      obtain ⟨X0, X1, X2, X3, X4, X5, X6, Xf0, Xf1, Xf2, Xf3, Xf4, Xf5, Xf6⟩ := row_seven X
      have xlt4 := row_lt X
      clear p0 p1 hl TE IN
      go_wp2_with fail
      refine PT.out.mono ?_
      intro e w5 hq5
      obtain ⟨A5, m5, c5, rfl, IN, hb5, fr5⟩ := smret_at rfl hq5
      clear hq5 PT T0 T1 Tf0 Tf1 X0 Xf0 X1 Xf1 X2 Xf2 X3 Xf3 X4 Xf4 X5 Xf5 X6 Xf6
      have sz5 := hb5.size
      have fr6 : ∀ a, A5 = some a → a.block ≠ xb ∧ a.block ≠ tb ∧ a.block < w5.heap.size ∧ ∀ g, av.ownBlock = some g → a.block ≠ g := fun a e => by
        rcases fr5 a e with h | ⟨b, h, h'⟩
        · exact ⟨by omega, by omega, h.2, fun g e' => by have := adT g e'; omega⟩
        · rw [h']; have hf := frT b h; exact ⟨hf.1, by omega, by omega, hf.2.2⟩
      have f6x : ∀ a, A5 = some a → a.block ≠ xb := fun a e => (fr6 a e).1
      have adx : av.ownBlock ≠ some xb := orow_old AD xbb
      replace T := row_call T hb5
      replace X := row_call X hb5
      replace LI := LI.below hb5
      replace AD := orow_call AD hb5
      replace o := o.trans (hb5.mono o.size)
      clear hb5 fr5 fr xlt4 frT
      obtain ⟨X0, X1, X2, X3, X4, X5, X6, Xf0, Xf1, Xf2, Xf3, Xf4, Xf5, Xf6⟩ := row_seven X
      go_upto_region 11 with (fail)
      clear X0 Xf0 X1 Xf1 X2 Xf2 X3 Xf3 X4 Xf4 X5 Xf5 X6 Xf6
      have sz6 : ((((((((w5.setCell ⟨xb, 0, none⟩ (.int .i64 agg)).setCell ⟨xb, 1, none⟩ (.int .i64 wn)).setCell ⟨xb, 2, none⟩ (.int .i64 k)).setCell ⟨xb, 3, none⟩ (.int .i64 cap)).setCell ⟨xb, 4, none⟩ (.int .i64 tk)).setCell ⟨xb, 5, none⟩ (.int .i64 seq)).setCell ⟨xb, 6, none⟩ (.slice A5 m5 c5))).heap.size = w5.heap.size := size_seven _ _ _ _ _ _ _
      have X' := row_seven_set X (.int .i64 agg) (.int .i64 wn) (.int .i64 k) (.int .i64 cap) (.int .i64 tk) (.int .i64 seq) (.slice A5 m5 c5)
      replace T := row_seven_other (b := xb) T (htx) (.int .i64 agg) (.int .i64 wn) (.int .i64 k) (.int .i64 cap) (.int .i64 tk) (.int .i64 seq) (.slice A5 m5 c5)
      replace IN := IN.seven (b := xb) f6x (.int .i64 agg) (.int .i64 wn) (.int .i64 k) (.int .i64 cap) (.int .i64 tk) (.int .i64 seq) (.slice A5 m5 c5)
      replace LI := LI.seven (b := xb) fL (.int .i64 agg) (.int .i64 wn) (.int .i64 k) (.int .i64 cap) (.int .i64 tk) (.int .i64 seq) (.slice A5 m5 c5)
      replace AD := orow_seven (b := xb) AD (adx) (.int .i64 agg) (.int .i64 wn) (.int .i64 k) (.int .i64 cap) (.int .i64 tk) (.int .i64 seq) (.slice A5 m5 c5)
      replace o := below_seven o (b := xb) xb0 (.int .i64 agg) (.int .i64 wn) (.int .i64 k) (.int .i64 cap) (.int .i64 tk) (.int .i64 seq) (.slice A5 m5 c5)
      generalize (((((((w5.setCell ⟨xb, 0, none⟩ (.int .i64 agg)).setCell ⟨xb, 1, none⟩ (.int .i64 wn)).setCell ⟨xb, 2, none⟩ (.int .i64 k)).setCell ⟨xb, 3, none⟩ (.int .i64 cap)).setCell ⟨xb, 4, none⟩ (.int .i64 tk)).setCell ⟨xb, 5, none⟩ (.int .i64 seq)).setCell ⟨xb, 6, none⟩ (.slice A5 m5 c5)) = w6 at X' T IN LI AD sz6 o ⊢
      replace X := X'
      clear X'
      have PA := psmadd A5 m5 c5 mt agg wn k cap tk seq vk _ IN sB (by have := IN.len; have := HPT.out.ml; omega)
      have PM := Lib.hid (fun w => rsmost agg k cap w)
      rcases smAdd_cases HPT.out.val hvb with ⟨hnf, AE, VA, lenA⟩ | AE
      · rw [AE] at PA
        have PP := HPT.out.add hvb hnf
        obtain ⟨ma, hma⟩ : ∃ ma, prune (nearB agg k) (incl mt (seq + 1) tk vk) = ma := ⟨_, rfl⟩
        rw [hma] at PA PP
        have MBA := few_marks PP.val
        have HPP := Lib.hid PP
        clear AE hma VA lenA hnf PP MB
        replace PA := Lib.hid PA
        obtain ⟨T0, T1, Tf0, Tf1⟩ := row_two T
        obtain ⟨X0, X1, X2, X3, X4, X5, X6, Xf0, Xf1, Xf2, Xf3, Xf4, Xf5, Xf6⟩ := row_seven X
        have xlt4 := row_lt X
        have tlt4 := row_lt T
        have adT6 : ∀ g, av.ownBlock = some g → g < w6.heap.size := fun g e => (AD.lt g e).2
        go_wp2_with fail
        refine PA.out.mono ?_
        intro e w9 hq9
        obtain ⟨A9, m9, c9, rfl, IN9, hb9, fr9⟩ := smret_at rfl hq9
        clear hq9 PA T0 T1 Tf0 Tf1 X0 Xf0 X1 Xf1 X2 Xf2 X3 Xf3 X4 Xf4 X5 Xf5 X6 Xf6
        have sz9 := hb9.size
        have fr10 : ∀ a, A9 = some a → a.block ≠ xb ∧ a.block ≠ tb ∧ a.block < w9.heap.size ∧ ∀ g, av.ownBlock = some g → a.block ≠ g := fun a e => by
          rcases fr9 a e with h | ⟨b, h, h'⟩
          · exact ⟨by omega, by omega, h.2, fun g e' => by have := adT6 g e'; omega⟩
          · rw [h']; have hf := fr6 b h; exact ⟨hf.1, hf.2.1, by omega, hf.2.2.2⟩
        clear IN
        have IN := IN9
        clear IN9
        replace T := row_call T hb9
        replace X := row_call X hb9
        replace LI := LI.below hb9
        replace AD := orow_call AD hb9
        replace o := o.trans (hb9.mono o.size)
        clear hb9 fr9 xlt4 tlt4 adT6
        go_upto_region 14 with (fail)
        have Y : Row (w9.alloc (.cells #[.int .i64 agg, .int .i64 wn, .int .i64 k, .int .i64 cap, .int .i64 tk, .int .i64 (seq + 1), .slice A9 m9 c9] 24)) w9.heap.size 24 #[.int .i64 agg, .int .i64 wn, .int .i64 k, .int .i64 cap, .int .i64 tk, .int .i64 (seq + 1), .slice A9 m9 c9] := row_new rfl
        have hyx : xb ≠ w9.heap.size := by have := row_lt X; omega
        have hyt : tb < w9.heap.size := row_lt T
        have adY : ∀ g, av.ownBlock = some g → g < w9.heap.size := fun g e => (AD.lt g e).2
        replace X := row_alloc X (.cells #[.int .i64 agg, .int .i64 wn, .int .i64 k, .int .i64 cap, .int .i64 tk, .int .i64 (seq + 1), .slice A9 m9 c9] 24)
        replace T := row_alloc T (.cells #[.int .i64 agg, .int .i64 wn, .int .i64 k, .int .i64 cap, .int .i64 tk, .int .i64 (seq + 1), .slice A9 m9 c9] 24)
        replace AD := AD.alloc (.cells #[.int .i64 agg, .int .i64 wn, .int .i64 k, .int .i64 cap, .int .i64 tk, .int .i64 (seq + 1), .slice A9 m9 c9] 24)
        replace IN := IN.below ((Below.refl _ _).alloc (Nat.le_refl _) (.cells #[.int .i64 agg, .int .i64 wn, .int .i64 k, .int .i64 cap, .int .i64 tk, .int .i64 (seq + 1), .slice A9 m9 c9] 24))
        replace LI := LI.below ((Below.refl _ _).alloc (Nat.le_refl _) (.cells #[.int .i64 agg, .int .i64 wn, .int .i64 k, .int .i64 cap, .int .i64 tk, .int .i64 (seq + 1), .slice A9 m9 c9] 24))
        replace o := o.alloc o.size (.cells #[.int .i64 agg, .int .i64 wn, .int .i64 k, .int .i64 cap, .int .i64 tk, .int .i64 (seq + 1), .slice A9 m9 c9] 24)
        have sz10 : w9.heap.size < (w9.alloc (.cells #[.int .i64 agg, .int .i64 wn, .int .i64 k, .int .i64 cap, .int .i64 tk, .int .i64 (seq + 1), .slice A9 m9 c9] 24)).heap.size := by simp
        generalize w9.alloc (.cells #[.int .i64 agg, .int .i64 wn, .int .i64 k, .int .i64 cap, .int .i64 tk, .int .i64 (seq + 1), .slice A9 m9 c9] 24) = w10 at T X Y IN LI AD o sz10 ⊢
        generalize w9.heap.size = yb at Y hyx hyt adY sz10 sz9 fr10 ⊢
        go_upto_region 17 with (fail)
        obtain ⟨i0, hi0, iz0, iz1, iz2⟩ := info_parts info_itm
        refine wp_region_phase 5 (fun w' => Row w' yb 24 #[.int .i64 agg, .int .i64 wn, .int .i64 k, .int .i64 cap, .int .i64 tk, .int .i64 (seq + 1), .slice A9 m9 c9] ∧ Row w' tb 40 #[.int .i64 tk, .int .i64 vk]) (by kernel_rfl) (by kernel_rfl) (by kernel_rfl) (by kernel_rfl) (by kernel_rfl) (fun HOK => ?_)
        have HS := (⟨Y, T⟩ : Row w10.drew yb 24 #[.int .i64 agg, .int .i64 wn, .int .i64 k, .int .i64 cap, .int .i64 tk, .int .i64 (seq + 1), .slice A9 m9 c9] ∧ Row w10.drew tb 40 #[.int .i64 tk, .int .i64 vk])
        (refine hw_take HOK (i := 0) ?_ rfl (by decide) (by kernel_rfl) (by kernel_rfl) (by exact fun _ _ _ h => h) (Or.inl ⟨by rfl, fun w' hS => ?_⟩) HS ?_; rotate_left; (obtain ⟨Y0, Y1, Y2, Y3, Y4, Y5, Y6, Yf0, Yf1, Yf2, Yf3, Yf4, Yf5, Yf6⟩ := row_seven hS.1; obtain ⟨T0, T1, Tf0, Tf1⟩ := row_two hS.2; go_simp; try with_reducible rfl); simp only [Act.put, List.setIfInBounds_toArray, List.set_cons_zero, List.set_cons_succ])
        (refine hw_take HOK (i := 1) ?_ rfl (by decide) (by kernel_rfl) (by kernel_rfl) (by exact fun _ _ _ h => h) (Or.inl ⟨by rfl, fun w' hS => ?_⟩) HS ?_; rotate_left; (go_simp; try with_reducible rfl); simp only [Act.put, List.setIfInBounds_toArray, List.set_cons_zero, List.set_cons_succ])
        (refine hw_take HOK (i := 2) ?_ rfl (by decide) (by kernel_rfl) (by kernel_rfl) (by exact fun _ _ _ h => h) (Or.inl ⟨by rfl, fun w' hS => ?_⟩) HS ?_; rotate_left; (obtain ⟨Y0, Y1, Y2, Y3, Y4, Y5, Y6, Yf0, Yf1, Yf2, Yf3, Yf4, Yf5, Yf6⟩ := row_seven hS.1; obtain ⟨T0, T1, Tf0, Tf1⟩ := row_two hS.2; go_simp; try with_reducible rfl); simp only [Act.put, List.setIfInBounds_toArray, List.set_cons_zero, List.set_cons_succ])
        refine hw_one (i := 3) rfl (by decide) (by kernel_rfl) (fun K hK => ?_)
        go_simp
        refine hK _ _ ⟨row_drew (row_alloc Y _), row_drew (row_alloc T _)⟩ ?_
        clear hK K HS
        try simp only [Act.put, List.setIfInBounds_toArray, List.set_cons_zero, List.set_cons_succ]
        have RD : Reads (w10.alloc (.cells #[.int .i64 tk, .int .i64 vk] 40)).drew (w10.alloc (.cells #[.int .i64 tk, .int .i64 vk] 40)).heap.size 2 (some ⟨w10.heap.size, 0, none⟩) 1 [.int .i64 tk, .int .i64 vk] := by
          have hq := (own_new (w := w10) (e := 40) (size := 2) (n := 1) (cs := #[.int .i64 tk, .int .i64 vk]) rfl (by unfold maxLen; omega) (by show _ = 1 * 2; rfl)).reads
          have hs : (w10.alloc (.cells #[.int .i64 tk, .int .i64 vk] 40)).heap.size = w10.heap.size + 1 := by simp
          rw [hs]
          show Reads (w10.alloc (.cells #[.int .i64 tk, .int .i64 vk] 40)) _ _ _ _ _
          simpa using hq
        have Y1 : Row (w10.alloc (.cells #[.int .i64 tk, .int .i64 vk] 40)).drew yb 24 #[.int .i64 agg, .int .i64 wn, .int .i64 k, .int .i64 cap, .int .i64 tk, .int .i64 (seq + 1), .slice A9 m9 c9] := row_drew (row_alloc Y _)
        have T1 : Row (w10.alloc (.cells #[.int .i64 tk, .int .i64 vk] 40)).drew tb 40 #[.int .i64 tk, .int .i64 vk] := row_drew (row_alloc T _)
        have X1 : Row (w10.alloc (.cells #[.int .i64 tk, .int .i64 vk] 40)).drew xb 24 #[.int .i64 agg, .int .i64 wn, .int .i64 k, .int .i64 cap, .int .i64 tk, .int .i64 seq, .slice A5 m5 c5] := row_drew (row_alloc X _)
        have bd : Below w10.heap.size w10 (w10.alloc (.cells #[.int .i64 tk, .int .i64 vk] 40)).drew := ((Below.refl _ _).alloc (Nat.le_refl _) (.cells #[.int .i64 tk, .int .i64 vk] 40)).drew
        replace IN := IN.below bd
        replace LI := LI.below bd
        replace AD := orow_call AD bd
        replace o := o.trans (bd.mono o.size)
        have szd : (w10.alloc (.cells #[.int .i64 tk, .int .i64 vk] 40)).drew.heap.size = w10.heap.size + 1 := by simp [World.drew]
        generalize (w10.alloc (.cells #[.int .i64 tk, .int .i64 vk] 40)).drew = w11 at RD Y1 T1 X1 IN LI AD o szd ⊢
        clear X T Y bd
        have adl := HPT.out.al
        refine hw_one (i := 4) rfl (by decide) (by kernel_rfl) (fun K hK => ?_)
        refine step_append_any w11 rfl _ _ 33 rfl bb 40 i0 (.agg #[.int .i64 0, .int .i64 0]) 2 16 Try.underlying33 hi0 iz0 iz1 iz2 rfl (by decide) av ad.length (icells ad) rfl AD _ (some ⟨w10.heap.size, 0, none⟩) 1 1 [.int .i64 tk, .int .i64 vk] rfl RD (by intro u hu; simp at hu; rcases hu with rfl | rfl <;> rfl) (by unfold maxLen; omega) (by omega) (by omega) ?_
        intro v12 w12 own12 hg12 hat12
        have adx11 : av.ownBlock ≠ some xb := orow_old AD xbb
        have adl11 : ∀ g, av.ownBlock = some g → g < w11.heap.size := fun g e => (AD.lt g e).2
        have Y2 := row_grown Y1 hg12 (fun e => by have := adY _ e; omega)
        have T2 := row_grown T1 hg12 (fun e => by have h1 := (AD.lt _ e).1; have := adTb _ e; omega)
        have X2 := row_grown X1 hg12 adx11
        replace IN := IN.grown hg12 (fun a e e' => (fr10 a e).2.2.2 _ e' rfl)
        replace LI := LI.grown hg12 (fun a e e' => by have h1 := fLb a e; have h2 := (AD.lt _ e').1; omega)
        replace o := below_grown o hg12 (fun g e => by have := (AD.lt g e).1; omega) o.size
        have sz12 := hg12.size
        refine hK _ _ ⟨Y2, T2⟩ ?_
        clear hK K
        try simp only [Act.put, List.setIfInBounds_toArray, List.set_cons_zero, List.set_cons_succ]
        refine hw_done (by kernel_rfl) ?_
        try simp only [List.drop_succ_cons, List.drop_zero]
        clear HOK RD Y1 T1 X1 Y2 T2
        have X := X2
        clear X2
        have ADn : w12.ownsRow bb 40 2 v12 (ad ++ [(⟨tk, vk⟩ : Itm)]).length (icells (ad ++ [(⟨tk, vk⟩ : Itm)])) := by
          rw [icells_append, List.length_append]
          exact own12
        have frn : ∀ a, A9 = some a → a.block ≠ xb ∧ a.block < w12.heap.size ∧ ∀ g, v12.ownBlock = some g → a.block ≠ g := fun a e => by
          have hf := fr10 a e
          refine ⟨hf.1, by omega, fun g e' => ?_⟩
          rcases hat12 with h | h
          · exact hf.2.2.2 g (by rw [← h]; exact e')
          · rw [h] at e'; injection e' with e'; omega
        have adxn : v12.ownBlock ≠ some xb := orow_old ADn xbb
        clear AD own12 hg12 hat12 adx11 adl11
        have AD := ADn
        clear ADn
        have f9x : ∀ a, A9 = some a → a.block ≠ xb := fun a e => (frn a e).1
        obtain ⟨X0, X1, X2, X3, X4, X5, X6, Xf0, Xf1, Xf2, Xf3, Xf4, Xf5, Xf6⟩ := row_seven X
        go_upto_region 18 with (fail)
        clear X0 Xf0 X1 Xf1 X2 Xf2 X3 Xf3 X4 Xf4 X5 Xf5 X6 Xf6
        have sz13 : ((((((((w12.setCell ⟨xb, 0, none⟩ (.int .i64 agg)).setCell ⟨xb, 1, none⟩ (.int .i64 wn)).setCell ⟨xb, 2, none⟩ (.int .i64 k)).setCell ⟨xb, 3, none⟩ (.int .i64 cap)).setCell ⟨xb, 4, none⟩ (.int .i64 tk)).setCell ⟨xb, 5, none⟩ (.int .i64 (seq + 1))).setCell ⟨xb, 6, none⟩ (.slice A9 m9 c9))).heap.size = w12.heap.size := size_seven _ _ _ _ _ _ _
        have X' := row_seven_set X (.int .i64 agg) (.int .i64 wn) (.int .i64 k) (.int .i64 cap) (.int .i64 tk) (.int .i64 (seq + 1)) (.slice A9 m9 c9)
        replace IN := IN.seven (b := xb) f9x (.int .i64 agg) (.int .i64 wn) (.int .i64 k) (.int .i64 cap) (.int .i64 tk) (.int .i64 (seq + 1)) (.slice A9 m9 c9)
        replace LI := LI.seven (b := xb) fL (.int .i64 agg) (.int .i64 wn) (.int .i64 k) (.int .i64 cap) (.int .i64 tk) (.int .i64 (seq + 1)) (.slice A9 m9 c9)
        replace AD := orow_seven (b := xb) AD (adxn) (.int .i64 agg) (.int .i64 wn) (.int .i64 k) (.int .i64 cap) (.int .i64 tk) (.int .i64 (seq + 1)) (.slice A9 m9 c9)
        replace o := below_seven o (b := xb) xb0 (.int .i64 agg) (.int .i64 wn) (.int .i64 k) (.int .i64 cap) (.int .i64 tk) (.int .i64 (seq + 1)) (.slice A9 m9 c9)
        generalize (((((((w12.setCell ⟨xb, 0, none⟩ (.int .i64 agg)).setCell ⟨xb, 1, none⟩ (.int .i64 wn)).setCell ⟨xb, 2, none⟩ (.int .i64 k)).setCell ⟨xb, 3, none⟩ (.int .i64 cap)).setCell ⟨xb, 4, none⟩ (.int .i64 tk)).setCell ⟨xb, 5, none⟩ (.int .i64 (seq + 1))).setCell ⟨xb, 6, none⟩ (.slice A9 m9 c9)) = w13 at X' IN LI AD sz13 o ⊢
        replace X := X'
        clear X'
        obtain ⟨X0, X1, X2, X3, X4, X5, X6, Xf0, Xf1, Xf2, Xf3, Xf4, Xf5, Xf6⟩ := row_seven X
        go_upto_region 18 with (fail)
        have hmost : ¬ mostS agg k cap < (m9 : Nat) := by have := IN.len; have := MBA; omega
        go_quiet ((go_at_call 27; exact Calls.quiet_of_same (PM.out _)))
        clear X0 Xf0 X1 Xf1 X2 Xf2 X3 Xf3 X4 Xf4 X5 Xf5 X6 Xf6
        go_wp2
        go_roundw
        case rel => exact ⟨q + 1, A9, m9, c9, tk, seq + 1, ma, ad ++ [⟨tk, vk⟩], by have := HFIN.out.2.1; omega, by go_num, rfl, X, IN.below ⟨rfl, rfl, rfl, Nat.le_refl _, fun _ _ => rfl⟩, Lib.hid ⟨HPP.out, by have := HFIN.out.2.2; omega, HFIN.out.1⟩, fun a e => ⟨(frn a e).1, by have := (frn a e).2.1; show _ < w13.heap.size; omega, (frn a e).2.2⟩, LI.below ⟨rfl, rfl, rfl, Nat.le_refl _, fun _ _ => rfl⟩, (by show bb ≤ w13.heap.size; omega), orow_keep AD (fun _ _ => rfl), o.trans ⟨rfl, rfl, rfl, Nat.le_refl _, fun _ _ => rfl⟩⟩
        case measure => have := HFIN.out.2.1; simp [intOf]; omega
      · rw [AE] at PA
        unfold smZero at PA
        clear AE
        replace PA := Lib.hid PA
        obtain ⟨T0, T1, Tf0, Tf1⟩ := row_two T
        obtain ⟨X0, X1, X2, X3, X4, X5, X6, Xf0, Xf1, Xf2, Xf3, Xf4, Xf5, Xf6⟩ := row_seven X
        have xlt4 := row_lt X
        have tlt4 := row_lt T
        have adT6 : ∀ g, av.ownBlock = some g → g < w6.heap.size := fun g e => (AD.lt g e).2
        go_wp2_with fail
        refine PA.out.mono ?_
        intro e w9 hq9
        obtain ⟨A9, m9, c9, rfl, IN9, hb9, fr9⟩ := smret_at rfl hq9
        clear hq9 PA T0 T1 Tf0 Tf1 X0 Xf0 X1 Xf1 X2 Xf2 X3 Xf3 X4 Xf4 X5 Xf5 X6 Xf6
        have sz9 := hb9.size
        replace IN := IN.below hb9
        clear IN9
        replace T := row_call T hb9
        replace X := row_call X hb9
        replace LI := LI.below hb9
        replace AD := orow_call AD hb9
        replace o := o.trans (hb9.mono o.size)
        clear hb9 fr9 xlt4 tlt4 adT6
        go_upto_region 14 with (fail)
        have Y : Row (w9.alloc (.cells #[.int .i64 0, .int .i64 0, .int .i64 0, .int .i64 0, .int .i64 0, .int .i64 0, .slice A9 m9 c9] 24)) w9.heap.size 24 #[.int .i64 0, .int .i64 0, .int .i64 0, .int .i64 0, .int .i64 0, .int .i64 0, .slice A9 m9 c9] := row_new rfl
        have hyx : xb ≠ w9.heap.size := by have := row_lt X; omega
        have hyt : tb < w9.heap.size := row_lt T
        have adY : ∀ g, av.ownBlock = some g → g < w9.heap.size := fun g e => (AD.lt g e).2
        replace X := row_alloc X (.cells #[.int .i64 0, .int .i64 0, .int .i64 0, .int .i64 0, .int .i64 0, .int .i64 0, .slice A9 m9 c9] 24)
        replace T := row_alloc T (.cells #[.int .i64 0, .int .i64 0, .int .i64 0, .int .i64 0, .int .i64 0, .int .i64 0, .slice A9 m9 c9] 24)
        replace AD := AD.alloc (.cells #[.int .i64 0, .int .i64 0, .int .i64 0, .int .i64 0, .int .i64 0, .int .i64 0, .slice A9 m9 c9] 24)
        replace IN := IN.below ((Below.refl _ _).alloc (Nat.le_refl _) (.cells #[.int .i64 0, .int .i64 0, .int .i64 0, .int .i64 0, .int .i64 0, .int .i64 0, .slice A9 m9 c9] 24))
        replace LI := LI.below ((Below.refl _ _).alloc (Nat.le_refl _) (.cells #[.int .i64 0, .int .i64 0, .int .i64 0, .int .i64 0, .int .i64 0, .int .i64 0, .slice A9 m9 c9] 24))
        replace o := o.alloc o.size (.cells #[.int .i64 0, .int .i64 0, .int .i64 0, .int .i64 0, .int .i64 0, .int .i64 0, .slice A9 m9 c9] 24)
        have sz10 : w9.heap.size < (w9.alloc (.cells #[.int .i64 0, .int .i64 0, .int .i64 0, .int .i64 0, .int .i64 0, .int .i64 0, .slice A9 m9 c9] 24)).heap.size := by simp
        generalize w9.alloc (.cells #[.int .i64 0, .int .i64 0, .int .i64 0, .int .i64 0, .int .i64 0, .int .i64 0, .slice A9 m9 c9] 24) = w10 at T X Y IN LI AD o sz10 ⊢
        generalize w9.heap.size = yb at Y hyx hyt adY sz10 sz9 ⊢
        clear Y
        obtain ⟨X0, X1, X2, X3, X4, X5, X6, Xf0, Xf1, Xf2, Xf3, Xf4, Xf5, Xf6⟩ := row_seven X
        go_upto_region 18 with (fail)
        have hmost : ¬ mostS agg k cap < (m5 : Nat) := by have := IN.len; have := MB; omega
        go_quiet ((go_at_call 27; exact Calls.quiet_of_same (PM.out _)))
        clear X0 Xf0 X1 Xf1 X2 Xf2 X3 Xf3 X4 Xf4 X5 Xf5 X6 Xf6
        go_wp2
        go_roundw
        case rel => exact ⟨q + 1, A5, m5, c5, tk, seq, mt, ad, by have := HFIN.out.2.1; omega, by go_num, rfl, X, IN.below ⟨rfl, rfl, rfl, Nat.le_refl _, fun _ _ => rfl⟩, Lib.hid ⟨HPT.out.more, by have := HFIN.out.2.2; omega, HFIN.out.1⟩, fun a e => ⟨(fr6 a e).1, by have := (fr6 a e).2.2.1; show _ < w10.heap.size; omega, (fr6 a e).2.2.2⟩, LI.below ⟨rfl, rfl, rfl, Nat.le_refl _, fun _ _ => rfl⟩, (by show bb ≤ w10.heap.size; omega), orow_keep AD (fun _ _ => rfl), o.trans ⟨rfl, rfl, rfl, Nat.le_refl _, fun _ _ => rfl⟩⟩
        case measure => have := HFIN.out.2.1; simp [intOf]; omega
    · have i2 : ¬ (q : Int) < (n : Int) := by omega
      have hP := HV.out.1
      have hnb := HV.out.2.1
      have hw25 := HB.out.2.1
      have hsq := hP.seqB
      have h0 := Int.emod_nonneg later (show 2 * (wn : Int) + 2 ≠ 0 by omega)
      have h1 := Int.emod_lt_of_pos later (show 0 < 2 * (wn : Int) + 2 by omega)
      have PMd := fun w => pmod later (2 * (wn : Int) + 2) (by omega) (by omega) w
      generalize later % (2 * (wn : Int) + 2) = md at h0 h1 PMd
      replace PMd := Lib.hid PMd
      have ww1 : IntKind.i64.wrap (2 * (wn : Int)) = 2 * (wn : Int) := IntWalk.i64_in _ (by omega)
      have ww2 : IntKind.i64.wrap (2 * (wn : Int) + 2) = 2 * (wn : Int) + 2 := IntWalk.i64_in _ (by omega)
      obtain ⟨tt, htt⟩ : ∃ tt, now + md = tt := ⟨_, rfl⟩
      have ww3 : IntKind.i64.wrap (now + md) = tt := by rw [htt]; rw [← htt]; exact IntWalk.i64_in _ (by omega)
      have hto : ¬ (tt < now ∨ 16777216 < tt) := by omega
      have PP := hP.tick hto
      have TE := smTick_c (smvalE_yes hP.val) hto
      obtain ⟨mt, hmt⟩ : ∃ mt, dropM tt wn ms = mt := ⟨_, rfl⟩
      rw [hmt] at PP TE
      have sB : I64 seq := by unfold I64; omega
      have m100 : ms.length ≤ 100 := by have := hP.ml; omega
      have a100 : ad.length ≤ 100 := by have := hP.al; omega
      have HPP := Lib.hid PP
      have t0 : 0 ≤ tt ∧ tt ≤ 16777216 := by omega
      have PT := fun w' (hb : Below wr.heap.size wr w') => psmtick A2 m2 c2 ms agg wn k cap now seq tt w' (IN.below hb) sB (by have := IN.len; omega)
      rw [TE] at PT
      replace PT := Lib.hid PT
      clear TE hmt hP hnb hsq PP htt hto m100 h0 h1
      go_upto_region 21 with (fail)
      refine wp_region_phase_u 14 13 (fun w' => Row w' xb 24 #[.int .i64 agg, .int .i64 wn, .int .i64 k, .int .i64 cap, .int .i64 now, .int .i64 seq, .slice A2 m2 c2]) (by kernel_rfl) (by kernel_rfl) (by kernel_rfl) (by kernel_rfl) (by kernel_rfl) (fun HOK => ?_)
      have HS := (X : Row wr.drew xb 24 #[.int .i64 agg, .int .i64 wn, .int .i64 k, .int .i64 cap, .int .i64 now, .int .i64 seq, .slice A2 m2 c2])
      (refine hu_take HOK (i := 0) ?_ rfl (by decide) (by decide) rfl (by kernel_rfl) (by kernel_rfl) (by kernel_rfl) (by kernel_rfl) (by exact fun _ _ _ h => h) (Or.inl ⟨by rfl, fun w' hS => ?_⟩) HS ?_; rotate_left; (obtain ⟨X0, X1, X2, X3, X4, X5, X6, Xf0, Xf1, Xf2, Xf3, Xf4, Xf5, Xf6⟩ := row_seven hS; go_simp; try with_reducible rfl); simp only [Act.put, List.setIfInBounds_toArray, List.set_cons_zero, List.set_cons_succ])
      (refine hu_take HOK (i := 1) ?_ rfl (by decide) (by decide) rfl (by kernel_rfl) (by kernel_rfl) (by kernel_rfl) (by kernel_rfl) (by exact fun _ _ _ h => h) (Or.inl ⟨by rfl, fun w' hS => ?_⟩) HS ?_; rotate_left; (go_simp; try with_reducible rfl); simp only [Act.put, List.setIfInBounds_toArray, List.set_cons_zero, List.set_cons_succ])
      (refine hu_take HOK (i := 2) ?_ rfl (by decide) (by decide) rfl (by kernel_rfl) (by kernel_rfl) (by kernel_rfl) (by kernel_rfl) (by exact fun _ _ _ h => h) (Or.inl ⟨by rfl, fun w' hS => ?_⟩) HS ?_; rotate_left; (obtain ⟨X0, X1, X2, X3, X4, X5, X6, Xf0, Xf1, Xf2, Xf3, Xf4, Xf5, Xf6⟩ := row_seven hS; go_simp; try with_reducible rfl); simp only [Act.put, List.setIfInBounds_toArray, List.set_cons_zero, List.set_cons_succ])
      (refine hu_take HOK (i := 3) ?_ rfl (by decide) (by decide) rfl (by kernel_rfl) (by kernel_rfl) (by kernel_rfl) (by kernel_rfl) (by exact fun _ _ _ h => h) (Or.inl ⟨by rfl, fun w' hS => ?_⟩) HS ?_; rotate_left; (go_simp; try with_reducible rfl); simp only [Act.put, List.setIfInBounds_toArray, List.set_cons_zero, List.set_cons_succ])
      (refine hu_take HOK (i := 4) ?_ rfl (by decide) (by decide) rfl (by kernel_rfl) (by kernel_rfl) (by kernel_rfl) (by kernel_rfl) (by exact fun _ _ _ h => h) (Or.inl ⟨by rfl, fun w' hS => ?_⟩) HS ?_; rotate_left; (go_simp; try with_reducible rfl); simp only [Act.put, List.setIfInBounds_toArray, List.set_cons_zero, List.set_cons_succ])
      (refine hu_take HOK (i := 5) ?_ rfl (by decide) (by decide) rfl (by kernel_rfl) (by kernel_rfl) (by kernel_rfl) (by kernel_rfl) (by exact fun _ _ _ h => h) (Or.inl ⟨by rfl, fun w' hS => ?_⟩) HS ?_; rotate_left; (go_simp; try with_reducible rfl); simp only [Act.put, List.setIfInBounds_toArray, List.set_cons_zero, List.set_cons_succ])
      (refine hu_take HOK (i := 6) ?_ rfl (by decide) (by decide) rfl (by kernel_rfl) (by kernel_rfl) (by kernel_rfl) (by kernel_rfl) (by exact fun _ _ _ h => h) (Or.inl ⟨by rfl, fun w' hS => ?_⟩) HS ?_; rotate_left; (go_simp; try with_reducible rfl); simp only [Act.put, List.setIfInBounds_toArray, List.set_cons_zero, List.set_cons_succ])
      refine hu_one (i := 7) rfl (by decide) (by kernel_rfl) (fun K hK => ?_)
      go_simp
      refine (PMd.out _).mono ?_
      rintro e w20 ⟨rfl, h20⟩
      obtain rfl := h20.symm
      refine hK _ _ (show Row wr.drew xb 24 #[.int .i64 agg, .int .i64 wn, .int .i64 k, .int .i64 cap, .int .i64 now, .int .i64 seq, .slice A2 m2 c2] from X) ?_
      clear hK K
      try simp only [Act.put, List.setIfInBounds_toArray, List.set_cons_zero, List.set_cons_succ]
      have HS2 : Row wr.drew xb 24 #[.int .i64 agg, .int .i64 wn, .int .i64 k, .int .i64 cap, .int .i64 now, .int .i64 seq, .slice A2 m2 c2] := X
      (refine hu_take HOK (i := 8) ?_ rfl (by decide) (by decide) rfl (by kernel_rfl) (by kernel_rfl) (by kernel_rfl) (by kernel_rfl) (by exact fun _ _ _ h => h) (Or.inl ⟨by rfl, fun w' hS => ?_⟩) HS2 ?_; rotate_left; (go_simp; try with_reducible rfl); simp only [Act.put, List.setIfInBounds_toArray, List.set_cons_zero, List.set_cons_succ])
      refine hu_one (i := 9) rfl (by decide) (by kernel_rfl) (fun K hK => ?_)
      go_simp
      refine (PT.out _ ((Below.refl _ _).drew)).mono ?_
      intro e w21 hq21
      obtain ⟨A5, m5, c5, rfl, IN5, hb5, fr5⟩ := smret_at rfl hq21
      have hb5' : Below wr.heap.size wr w21 := ((Below.refl _ _).drew).trans (hb5.mono (Nat.le_refl _))
      have xlt5 := row_lt X
      have adt : ∀ g, av.ownBlock = some g → g < wr.heap.size := fun g e => (AD.lt g e).2
      have f5x : ∀ a, A5 = some a → a.block ≠ xb := fun a e => by
        rcases fr5 a e with h | ⟨b, h, h'⟩
        · have : wr.drew.heap.size = wr.heap.size := rfl
          omega
        · rw [h']; exact (fr b h).1
      replace X := row_call X hb5'
      replace AD := orow_call AD hb5'
      replace o := o.trans (hb5'.mono o.size)
      clear hq21 hb5 hb5' fr5 PT PMd IN LI fr adt xlt5
      have IN := IN5
      clear IN5
      refine hK _ _ X ?_
      clear hK K HS HS2
      try simp only [Act.put, List.setIfInBounds_toArray, List.set_cons_zero, List.set_cons_succ]
      have HS3 : Row w21 xb 24 #[.int .i64 agg, .int .i64 wn, .int .i64 k, .int .i64 cap, .int .i64 now, .int .i64 seq, .slice A2 m2 c2] := X
      (refine hu_take HOK (i := 10) ?_ rfl (by decide) (by decide) rfl (by kernel_rfl) (by kernel_rfl) (by kernel_rfl) (by kernel_rfl) (by exact fun _ _ _ h => h) (Or.inl ⟨by rfl, fun w' hS => ?_⟩) HS3 ?_; rotate_left; (go_simp; try with_reducible rfl); simp only [Act.put, List.setIfInBounds_toArray, List.set_cons_zero, List.set_cons_succ])
      (refine hu_take HOK (i := 11) ?_ rfl (by decide) (by decide) rfl (by kernel_rfl) (by kernel_rfl) (by kernel_rfl) (by kernel_rfl) (by exact fun _ _ _ h => h) (Or.inl ⟨by rfl, fun w' hS => ?_⟩) HS3 ?_; rotate_left; (go_simp; try with_reducible rfl); simp only [Act.put, List.setIfInBounds_toArray, List.set_cons_zero, List.set_cons_succ])
      (refine hu_pure HOK (i := 12) ?_ rfl (by decide) (by decide) (by kernel_rfl) (by kernel_rfl) (by exact fun _ _ _ h => h) (Or.inl ⟨by rfl, fun w' hS => ?_⟩) HS3 ?_; rotate_left; (go_simp; try with_reducible rfl); simp only [Act.put, List.setIfInBounds_toArray, List.set_cons_zero, List.set_cons_succ])
      have adx : av.ownBlock ≠ some xb := orow_old AD xbb
      obtain ⟨X0, X1, X2, X3, X4, X5, X6, Xf0, Xf1, Xf2, Xf3, Xf4, Xf5, Xf6⟩ := row_seven X
      refine hu_last rfl (by decide) (by kernel_rfl) (by decide) (fun K hK => ?_)
      go_simp
      refine hK _ _ ?_
      clear hK K
      refine hu_done (by kernel_rfl) ?_
      try simp only [List.drop_succ_cons, List.drop_zero]
      clear HOK HS3
      clear X0 Xf0 X1 Xf1 X2 Xf2 X3 Xf3 X4 Xf4 X5 Xf5 X6 Xf6
      have X' := row_seven_set X (.int .i64 agg) (.int .i64 wn) (.int .i64 k) (.int .i64 cap) (.int .i64 tt) (.int .i64 seq) (.slice A5 m5 c5)
      replace IN := IN.seven (b := xb) f5x (.int .i64 agg) (.int .i64 wn) (.int .i64 k) (.int .i64 cap) (.int .i64 tt) (.int .i64 seq) (.slice A5 m5 c5)
      replace AD := orow_seven (b := xb) AD (adx) (.int .i64 agg) (.int .i64 wn) (.int .i64 k) (.int .i64 cap) (.int .i64 tt) (.int .i64 seq) (.slice A5 m5 c5)
      replace o := below_seven o (b := xb) xb0 (.int .i64 agg) (.int .i64 wn) (.int .i64 k) (.int .i64 cap) (.int .i64 tt) (.int .i64 seq) (.slice A5 m5 c5)
      generalize (((((((w21.setCell ⟨xb, 0, none⟩ (.int .i64 agg)).setCell ⟨xb, 1, none⟩ (.int .i64 wn)).setCell ⟨xb, 2, none⟩ (.int .i64 k)).setCell ⟨xb, 3, none⟩ (.int .i64 cap)).setCell ⟨xb, 4, none⟩ (.int .i64 tt)).setCell ⟨xb, 5, none⟩ (.int .i64 seq)).setCell ⟨xb, 6, none⟩ (.slice A5 m5 c5)) = w22 at X' IN AD o ⊢
      replace X := X'
      clear X'
      obtain ⟨AA, cA, rfl, rdA, _, _, _⟩ := orow_forms AD
      have hok := HPP.out.vals
      have leA := leastV_ge agg
      have PLv := pliveI AA ad.length cA ad tt wn _ rdA (by omega) t0.1 (by omega) (by omega) (by omega)
      replace PLv := Lib.hid PLv
      obtain ⟨X0, X1, X2, X3, X4, X5, X6, Xf0, Xf1, Xf2, Xf3, Xf4, Xf5, Xf6⟩ := row_seven X
      go_wp2_with fail
      refine PLv.out.mono ?_
      rintro e w23 ⟨vl, rfl, ownL, hb23⟩
      replace X := row_call X hb23
      replace IN := IN.below hb23
      replace o := o.trans (hb23.mono o.size)
      clear hb23 PLv rdA AD X0 Xf0 X1 Xf1 X2 Xf2 X3 Xf3 X4 Xf4 X5 Xf5 X6 Xf6
      obtain ⟨AL, cL, rfl, rdL, _, _, _⟩ := orow_forms ownL
      clear ownL
      have lvl := liveI_le (now := tt) (wd := (wn : Int)) ad
      have lvv : ∀ x ∈ liveI tt wn ad, -4096 ≤ x.v ∧ x.v ≤ 4096 := fun x hx => by
        have := hok x (List.mem_filter.1 hx).1
        omega
      have PTr := Lib.hid (rtruth AL _ cL (liveI tt wn ad) agg _ rdL (by omega) lvv HB.out.1)
      clear rdL lvv
      go_wp2_with fail
      refine PTr.out.mono ?_
      rintro e w24 ⟨nv, rfl, hag, hb24⟩
      replace X := row_call X hb24
      replace IN := IN.below hb24
      replace o := o.trans (hb24.mono o.size)
      clear hb24 PTr lvl
      have TRU := ask_true HPP.out.val HPP.out.hist hok hag
      have LE0 := ask_le0 HPP.out.val
      have PAs := fun w' (hb : Below w24.heap.size w24 w') => psmask A5 m5 c5 mt agg wn k cap tt seq w' (IN.below hb) sB
      rw [smvalE_yes HPP.out.val] at PAs
      generalize askLo agg tt wn mt = lo0 at PAs TRU LE0
      generalize askHi agg tt wn mt = hi0 at PAs TRU LE0
      obtain ⟨lo, rfl⟩ : ∃ lo : Nat, lo0 = (lo : Int) := ⟨lo0.toNat, by omega⟩
      obtain ⟨hi, rfl⟩ : ∃ hi : Nat, hi0 = (hi : Int) := ⟨hi0.toNat, by omega⟩
      obtain ⟨nn, rfl⟩ : ∃ nn : Nat, nv = (nn : Int) := ⟨nv.toNat, by omega⟩
      obtain ⟨kn, hkn⟩ : ∃ kn : Nat, k = (kn : Int) := ⟨k.toNat, by have := HB.out.2.2.1; omega⟩
      have hk14 := HB.out.2.2.1
      rw [show askV 0 (lo : Int) (hi : Int) = .tuple #[.agg #[.int .i64 (lo : Nat), .int .i64 1, .int .i64 ((lo + hi) / 2 : Nat), .int .i64 1, .int .i64 (hi : Nat), .int .i64 1], .int .i64 0] by unfold askV; rw [if_pos rfl, show ((lo : Int) + (hi : Int)) / 2 = (((lo + hi) / 2 : Nat) : Int) by omega]] at PAs
      have BO : BndOK lo 1 ((lo + hi) / 2) 1 hi 1 := ⟨ratOK_one (by omega), ratOK_one (by omega), ratOK_one (by omega), by omega, by omega⟩
      have RV : RatOK nn 1 := ratOK_one (by omega)
      have PHo := Lib.hid (show ∀ w, Calls Try.prog 34 #[.agg #[.int .i64 (lo : Nat), .int .i64 1, .int .i64 ((lo + hi) / 2 : Nat), .int .i64 1, .int .i64 (hi : Nat), .int .i64 1], .agg #[.int .i64 (nn : Nat), .int .i64 1]] w fun e w' => e = .returned (.bool true) ∧ Below w.heap.size w w' from fun w => pholds BO RV (by omega) (by omega) w)
      have TK : kn * (hi - lo) ≤ nn := by
        have h := TRU.2.2
        rw [hkn] at h
        have e : (((kn * (hi - lo) : Nat)) : Int) = (kn : Int) * ((hi : Int) - (lo : Int)) := by rw [Int.natCast_mul, Int.ofNat_sub (by omega)]
        omega
      have PWi := Lib.hid (show ∀ w, Calls Try.prog 35 #[.agg #[.int .i64 (lo : Nat), .int .i64 1, .int .i64 ((lo + hi) / 2 : Nat), .int .i64 1, .int .i64 (hi : Nat), .int .i64 1], .int .i64 (kn : Nat), .agg #[.int .i64 (nn : Nat), .int .i64 1]] w fun e w' => e = .returned (.bool true) ∧ Below w.heap.size w w' from fun w => pwithin BO RV (by omega) (by omega) (by simpa using TK) w)
      replace PAs := Lib.hid PAs
      clear TRU LE0 hag hok BO RV TK IN
      subst hkn
      generalize (lo + hi) / 2 = mq at PAs PHo PWi
      go_wp2_with fail
      refine (rratio (nn : Int) _).mono ?_
      rintro e w25 ⟨rfl, hb25⟩
      have bA := hb25
      replace X := row_call X hb25
      replace o := o.trans (hb25.mono o.size)
      clear hb25
      go_upto_region 25 with (fail)
      have Nr : Row (w25.alloc (.cells #[.int .i64 (nn : Nat), .int .i64 1] 48)) w25.heap.size 48 #[.int .i64 (nn : Nat), .int .i64 1] := row_new rfl
      replace X := row_alloc X (.cells #[.int .i64 (nn : Nat), .int .i64 1] 48)
      replace o := o.alloc o.size (.cells #[.int .i64 (nn : Nat), .int .i64 1] 48)
      replace bA := bA.alloc bA.size (.cells #[.int .i64 (nn : Nat), .int .i64 1] 48)
      generalize w25.alloc (.cells #[.int .i64 (nn : Nat), .int .i64 1] 48) = w26 at X Nr o bA ⊢
      generalize w25.heap.size = nb at Nr ⊢
      obtain ⟨X0, X1, X2, X3, X4, X5, X6, Xf0, Xf1, Xf2, Xf3, Xf4, Xf5, Xf6⟩ := row_seven X
      go_wp2_with fail
      refine (PAs.out _ bA).mono ?_
      rintro e w27 ⟨rfl, hb27⟩
      replace Nr := row_call Nr hb27
      replace o := o.trans (hb27.mono o.size)
      clear hb27 PAs bA X X0 Xf0 X1 Xf1 X2 Xf2 X3 Xf3 X4 Xf4 X5 Xf5 X6 Xf6
      go_upto_region 26 with (fail)
      have Br : Row (w27.alloc (.cells #[.int .i64 (lo : Nat), .int .i64 1, .int .i64 (mq : Nat), .int .i64 1, .int .i64 (hi : Nat), .int .i64 1] 50)) w27.heap.size 50 #[.int .i64 (lo : Nat), .int .i64 1, .int .i64 (mq : Nat), .int .i64 1, .int .i64 (hi : Nat), .int .i64 1] := row_new rfl
      replace Nr := row_alloc Nr (.cells #[.int .i64 (lo : Nat), .int .i64 1, .int .i64 (mq : Nat), .int .i64 1, .int .i64 (hi : Nat), .int .i64 1] 50)
      replace o := o.alloc o.size (.cells #[.int .i64 (lo : Nat), .int .i64 1, .int .i64 (mq : Nat), .int .i64 1, .int .i64 (hi : Nat), .int .i64 1] 50)
      generalize w27.alloc (.cells #[.int .i64 (lo : Nat), .int .i64 1, .int .i64 (mq : Nat), .int .i64 1, .int .i64 (hi : Nat), .int .i64 1] 50) = w28 at Nr Br o ⊢
      generalize w27.heap.size = bq at Br ⊢
      obtain ⟨N0, N1, Nf0, Nf1⟩ := row_two Nr
      obtain ⟨B0, B1, B2, B3, B4, B5, Bf0, Bf1, Bf2, Bf3, Bf4, Bf5⟩ := row_six Br
      go_wp2_with fail
      refine (PHo.out _).mono ?_
      rintro e w29 ⟨rfl, hb⟩
      replace Nr := row_call Nr hb
      replace Br := row_call Br hb
      replace o := o.trans (hb.mono o.size)
      clear hb N0 N1 Nf0 Nf1 B0 B1 B2 B3 B4 B5 Bf0 Bf1 Bf2 Bf3 Bf4 Bf5
      obtain ⟨N0, N1, Nf0, Nf1⟩ := row_two Nr
      obtain ⟨B0, B1, B2, B3, B4, B5, Bf0, Bf1, Bf2, Bf3, Bf4, Bf5⟩ := row_six Br
      go_wp2_with fail
      refine (PWi.out _).mono ?_
      rintro e w30 ⟨rfl, hb⟩
      replace Nr := row_call Nr hb
      replace Br := row_call Br hb
      replace o := o.trans (hb.mono o.size)
      clear hb N0 N1 Nf0 Nf1 B0 B1 B2 B3 B4 B5 Bf0 Bf1 Bf2 Bf3 Bf4 Bf5
      obtain ⟨N0, N1, Nf0, Nf1⟩ := row_two Nr
      obtain ⟨B0, B1, B2, B3, B4, B5, Bf0, Bf1, Bf2, Bf3, Bf4, Bf5⟩ := row_six Br
      go_wp2_with fail
      refine (awake13 _).mono ?_
      rintro e w31 ⟨rfl, hb⟩
      replace Nr := row_call Nr hb
      replace Br := row_call Br hb
      replace o := o.trans (hb.mono o.size)
      clear hb N0 N1 Nf0 Nf1 B0 B1 B2 B3 B4 B5 Bf0 Bf1 Bf2 Bf3 Bf4 Bf5
      go_wp2
      go_ret
      exact ⟨rfl, o⟩
end Go.Proofs.Ythknkdjpfanlnaa
end
section
/- A parameter that is a slice of items opened to what it reads (open_slice_fields is the guide's, extra-structs.md, copied as that page bids). -/
set_option linter.unusedVariables false
set_option linter.unusedSimpArgs false
set_option linter.unusedSectionVars false
set_option linter.unnecessarySimpa false
namespace Go.Proofs.Ythknkdjpfanlnaa
open Go.ChangeShapes Go.WideShapes Go.Deep Go.RowKit
section
variable {H : Type} {enc : TypeId × Value → H} {P : Program} {w : World} {base : Nat} {spare : Nat → Bool} {held : Bool}
theorem open_slice_fields {t e : TypeId} {fs : Array Field} {fuel : Nat} {cs : List Value} {x : DataW H × List MemPlace} (ht : P.underlying t = some (.slice e)) (he : P.underlying e = some (.struct fs))
    (hone : oneCellFields P fs = true) (hC : P.cellsOf e = fs.size) (h : DataW.trod enc P w base spare held fuel t cs = some x) :
    (cs = [.slice none 0 0] ∧ x = (.nil, [])) ∨
    ∃ (a : Addr) (len cap m : Nat) (D : Nat → DataW H) (Pl : Nat → List MemPlace), cs = [.slice (some a) len cap] ∧ base ≤ a.block ∧ len ≤ cap ∧ cap ≤ maxLen ∧ m = (if spare a.block then cap else len) ∧
      x = (.slice ((List.range len).map D) ((List.range (m - len)).map fun j => D (len + j)), MemPlace.row a (m * fs.size) ++ (List.range m).flatMap Pl) ∧
      ∀ i, i < m → ∃ (ys : List (DataW H × List MemPlace)) (n : Nat), D i = .agg (ys.map (·.1)) ∧ Pl i = ys.flatMap (·.2) ∧ ys.length = fs.size ∧
        ∀ (j : Nat) (f : Field), fs[j]? = some f → ∃ (v : Value) (y : DataW H × List MemPlace), w.cell? (a.add (i * fs.size + j)) = some v ∧ ys[j]? = some y ∧ DataW.trod enc P w base spare held n f.type [v] = some y := by
  rcases open_slice ht h with h0 | ⟨a, len, cap, m, n, D, Pl, hcs, hb, hl, hm, hmm, hx, hi⟩
  · exact .inl h0
  · refine .inr ⟨a, len, cap, m, D, Pl, hcs, hb, hl, hm, hmm, by rw [hC] at hx; exact hx, fun i him => ?_⟩
    obtain ⟨cs', hc, ht'⟩ := hi i him
    rw [hC] at hc
    obtain ⟨ys, n', hn', hy, hlen, hyl, hf⟩ := DataW.trod_struct he ht'
    obtain ⟨_, hcl, hat⟩ := World.cells?_some hc
    simp only [Prod.mk.injEq] at hy
    refine ⟨ys, n', hy.1, hy.2, hyl, fun j f hj => ?_⟩
    obtain ⟨ho, hk⟩ := hone_of hone j f hj
    have hjl : j < fs.size := (Array.getElem?_eq_some_iff.1 hj).1
    have hcell := hat j hjl
    have hv : cs'[j]? = some (cs'[j]'(by omega)) := List.getElem?_eq_getElem (by omega)
    have h1 := hf j f hj
    rw [ho, hk] at h1
    have hone' : (cs'.drop j).take 1 = [cs'[j]'(by omega)] := by
      rw [List.drop_eq_getElem_cons (by omega)]
      rfl
    rw [hone'] at h1
    have hys : ys[j]? = some (ys[j]'(by omega)) := List.getElem?_eq_getElem (by omega)
    refine ⟨_, _, ?_, hys, h1.trans hys⟩
    rw [← Go.Deep.add_add, hcell, hv]
end

theorem cellsItm : Try.prog.cellsOf 40 = 2 := by kernel_rfl
theorem i64_wf {x : Int} (h : (Lit.int .i64 x).wf = true) : -9223372036854775808 ≤ x ∧ x ≤ 9223372036854775807 := by
  simp [Lit.wf, IntKind.min, IntKind.max, IntKind.signed, IntKind.bits] at h
  exact ⟨by omega, by omega⟩
section
variable {H : Type} {enc : TypeId × Value → H} {W : World}
theorem list_of {P : Nat → Itm → Prop} : ∀ n, (∀ i, i < n → ∃ x, P i x) → ∃ l : List Itm, l.length = n ∧ ∀ i, i < n → P i (itmAt l i)
  | 0, _ => ⟨[], rfl, fun i h => absurd h (by omega)⟩
  | n + 1, h => by
    obtain ⟨l, h1, h2⟩ := list_of n (fun i hi => h i (by omega))
    obtain ⟨x, hx⟩ := h n (by omega)
    refine ⟨l ++ [x], by simp [h1], fun i hi => ?_⟩
    by_cases c : i < n
    · rw [itm_left (by omega)]
      exact h2 i c
    · obtain rfl : i = l.length := by omega
      rw [itm_last, h1]
      exact hx
set_option maxRecDepth 100000 in
theorem rin_open {r : Reach} {b0 : Nat} {v : Value} {d : DataW H} {p : List MemPlace} (hv : Value.okWide Try.prog W r b0 33 v) (h : DataW.Trod enc Try.prog W 0 (fun _ => true) true 33 v d p) :
    ∃ A m c l, v = .slice A m c ∧ RIn A m c l W := by
  obtain ⟨a, len, cap, rfl⟩ := okWide_slice Try.underlying33 hv
  obtain ⟨fuel, hf⟩ := h
  rcases open_slice_fields Try.underlying33 Try.underlying40 (by kernel_rfl) cellsItm hf with ⟨h1, _⟩ | ⟨a', len', cap', m, D, Pl, h1, _, hl, hc, hm0, _, hi⟩
  · simp [Value.cells] at h1
    obtain ⟨rfl, rfl, rfl⟩ := h1
    exact ⟨none, 0, 0, [], rfl, by simpa [icells] using Reads.none_, by simp [itmAt], by simp [itmAt], Nat.le_refl _, Nat.zero_le _⟩
  · simp [Value.cells] at h1
    obtain ⟨rfl, rfl, rfl⟩ := h1
    have hm : len ≤ m := by
      rw [hm0, if_pos rfl]
      exact hl
    have hh : ∀ i, i < len → ∃ x : Itm, (W.cell? (a'.add (i * 2)) = some (.int .i64 x.t) ∧ W.cell? (a'.add (i * 2 + 1)) = some (.int .i64 x.v)) ∧ (-9223372036854775808 ≤ x.t ∧ x.t ≤ 9223372036854775807) ∧ (-9223372036854775808 ≤ x.v ∧ x.v ≤ 9223372036854775807) := by
      intro i hi'
      obtain ⟨ys, n, _, _, _, hf⟩ := hi i (by omega)
      obtain ⟨v0, y0, c0, _, t0⟩ := hf 0 _ rfl
      obtain ⟨v1, y1, c1, _, t1⟩ := hf 1 _ rfl
      obtain ⟨x0, e0, _, w0⟩ := DataW.trod_int Try.underlying2 t0
      obtain ⟨x1, e1, _, w1⟩ := DataW.trod_int Try.underlying2 t1
      simp at e0 e1
      subst e0 e1
      exact ⟨⟨x0, x1⟩, ⟨c0, c1⟩, i64_wf w0, i64_wf w1⟩
    obtain ⟨l, hl1, hl2⟩ := list_of len hh
    have hb : ∀ i, (-9223372036854775808 ≤ (itmAt l i).t ∧ (itmAt l i).t ≤ 9223372036854775807) ∧ (-9223372036854775808 ≤ (itmAt l i).v ∧ (itmAt l i).v ≤ 9223372036854775807) := by
      intro i
      by_cases c : i < len
      · exact (hl2 i c).2
      · have : itmAt l i = ⟨0, 0⟩ := by unfold itmAt; rw [List.getD_eq_getElem?_getD, List.getElem?_eq_none (by omega)]; rfl
        rw [this]
        exact ⟨⟨by decide, by decide⟩, by decide, by decide⟩
    refine ⟨some a', len, cap, l, rfl, ⟨by rw [icells_len, hl1], fun h0 => ⟨a', rfl, ?_, fun j u hu => ?_⟩⟩, fun i => (hb i).1, fun i => (hb i).2, hl, hc⟩
    · have := World.block_lt_of_cell? W _ (hl2 0 h0).1.1
      rw [block_of_add] at this
      exact this
    · have hj : j < len * 2 := by
        have := (List.getElem?_eq_some_iff.1 hu).1
        rw [icells_len, hl1] at this
        exact this
      have hat := icells_at l (j / 2) (by omega)
      have hcl := (hl2 (j / 2) (by omega)).1
      rcases Nat.mod_two_eq_zero_or_one j with hp | hp
      · have e : j / 2 * 2 = j := by omega
        rw [e] at hat hcl
        rw [hu] at hat
        rw [hcl.1, hat.1]
      · have e : j / 2 * 2 + 1 = j := by omega
        rw [e] at hat hcl
        rw [hu] at hat
        rw [hcl.2, hat.2]
end
end Go.Proofs.Ythknkdjpfanlnaa
end
section
/- The law SmoothTruth of the given program: for every input the call returns true, and each argument reads behind the call as it read before. No conditions. -/
set_option linter.unusedVariables false
set_option linter.unusedSimpArgs false
set_option linter.unusedSectionVars false
set_option linter.unnecessarySimpa false
namespace Go.Proofs.Ythknkdjpfanlnaa.lSmoothTruth
open Go.ChangeShapes Go.WideShapes Go.ChangeAt Go.RowKit Go.Joins Go.WideMaps Go.WideElems Go.Deep

theorem own : ownKnob Try.prog.godebug = none := by kernel_rfl
theorem laid_out : laidOutB Try.prog = true := by kernel_rfl
theorem readable : (Try.f9.params.toList.all fun t => Try.prog.readableRec t && decide (t < Try.prog.types.size)) = true := by kernel_rfl
set_option maxRecDepth 100000 in
theorem lifted (os : Os) (started : os.Started) (H : Type) (enc : TypeId × Value → H) :
    ReturnsInHanded {} Try.checked os 9 .any (Rows.smoothTruthSpec.pre6 enc Try.prog Try.f9 Rows.smoothTruthRow.domain false) (Rows.smoothTruthSpec.post enc Try.prog Try.f9 false true false false) := by
  refine returnsInHanded_of_change (C := Try.checked) own started (by kernel_rfl) Try.func9
    (ChangeSpec.witness6 (enc := enc) (C := Try.checked) false ⟨#[], #[.slice none 0 0, .int .i64 0, .int .i64 0, .int .i64 0, .int .i64 0, .int .i64 0], []⟩ 8 (by kernel_rfl) (by kernel_rfl) (by kernel_rfl) (by kernel_rfl)) ?_
  intro W base args ds gs before hval0 hW hcnd _
  have hval : ∀ (j : Nat) t v, Try.f9.params[j]? = some t → args[j]? = some v → Value.okWide Try.prog W .any base t v := hval0
  have hW' := hW
  obtain ⟨p, q, hA0, hV, rfl, hfz, hnd⟩ := hW
  have hA : DataW.TrodAll enc Try.prog W 0 (fun _ => true) true Try.f9.params.toList args.toList ds p := hA0
  have hAA := hA
  rw [Try.params9] at hA hval
  obtain ⟨v0, vs0, d0, ds0, p0, q0, hargs, rfl, rfl, h0, k0_⟩ := trodAll_cons hA
  obtain ⟨v1, vs1, d1, ds1, p1, q1, rfl, rfl, rfl, h1, k1_⟩ := trodAll_cons k0_
  obtain ⟨v2, vs2, d2, ds2, p2, q2, rfl, rfl, rfl, h2, k2_⟩ := trodAll_cons k1_
  obtain ⟨v3, vs3, d3, ds3, p3, q3, rfl, rfl, rfl, h3, k3_⟩ := trodAll_cons k2_
  obtain ⟨v4, vs4, d4, ds4, p4, q4, rfl, rfl, rfl, h4, k4_⟩ := trodAll_cons k3_
  obtain ⟨v5, vs5, d5, ds5, p5, q5, rfl, rfl, rfl, h5, k5_⟩ := trodAll_cons k4_
  obtain ⟨rfl, rfl, rfl⟩ := trodAll_nil k5_
  obtain rfl : args = #[v0, v1, v2, v3, v4, v5] := Array.ext' hargs
  obtain ⟨rfl, rfl⟩ := trodVars_none hV
  obtain ⟨A0, m0, c0, l0, rfl, rin0⟩ := rin_open (hval 0 33 v0 rfl rfl) h0
  obtain ⟨x1, rfl, rfl, rfl, wx1⟩ := open_int Try.underlying3 (hval 1 3 v1 rfl rfl) h1
  obtain ⟨x2, rfl, rfl, rfl, wx2⟩ := open_int Try.underlying2 (hval 2 2 v2 rfl rfl) h2
  obtain ⟨x3, rfl, rfl, rfl, wx3⟩ := open_int Try.underlying3 (hval 3 3 v3 rfl rfl) h3
  obtain ⟨x4, rfl, rfl, rfl, wx4⟩ := open_int Try.underlying3 (hval 4 3 v4 rfl rfl) h4
  obtain ⟨x5, rfl, rfl, rfl, wx5⟩ := open_int Try.underlying2 (hval 5 2 v5 rfl rfl) h5
  clear hA0 hval0
  refine (smoothTruth A0 m0 c0 l0 x1 x2 x3 x4 x5 W rin0).mono fun e W' ⟨he, hb⟩ => ?_
  subst he
  refine ⟨_, rfl, post_of_below (pa := _) (pv := []) hW' (fun _ _ _ => trodAll_mk1 (shut_bool Try.underlying4 _)) (fun sp hsp => ?_) (fun _ _ => rfl) rfl hb (ok_one (by kernel_rfl) rfl (okWide_bool_mk Try.underlying4 _))⟩
  exact trodAll_stays laid_out hb (fun t ht => by have := List.all_eq_true.1 readable t ht; simpa using this) hAA (fun x hx => hW'.lt x (List.mem_append_left _ hx)) (fun x hx => hsp x (List.mem_append_left _ hx))

theorem holds : Rows.SmoothTruthSaid :=
  OpenClaim.holds_of_wide 9 Try.f9 rfl rfl rfl rfl rfl rfl rfl ⟨rfl, rfl, rfl, rfl, rfl⟩ rfl rfl rfl rfl rfl (by kernel_rfl) Try.func9 (by kernel_rfl)
    (of_decide_eq_true (by kernel_rfl)) (by unfold Func.isWrapper; first | (rw [if_pos (by decide +kernel)]; kernel_rfl) | (rw [if_neg (by decide +kernel)]; exact ⟨rfl, rfl⟩))
    (fun os started H enc _ => lifted os started H enc)
#print axioms holds
end Go.Proofs.Ythknkdjpfanlnaa.lSmoothTruth
end
