/- The laws of shifts and of odd parts, walked. -/
import Derived.Test.YtoemccfpinonhaaDoorTz
namespace Go.Proofs.YtoemccfpinonhaaDoor
open Go.RowKit Go.Shelf
set_option maxHeartbeats 4000000 in
theorem wideShifts_true (a : Nat) (n : Int) (x r : Nat) (l z : Int)
    (PL : RowKit.Hid (∀ w, Calls Tryd.prog 5 #[W a, .int .i64 n] w fun e w' => e = .returned (.tuple #[W x, .bool true]) ∧ Below w.heap.size w w')) (RL : RowKit.Hid (∀ w, Calls Tryd.prog 6 #[W a, .int .i64 n] w fun e w' => e = .returned (.tuple #[W x, .bool true]) ∧ Below w.heap.size w w'))
    (PR : RowKit.Hid (∀ w, Calls Tryd.prog 7 #[W a, .int .i64 n] w fun e w' => e = .returned (W r) ∧ Below w.heap.size w w')) (RR : RowKit.Hid (∀ w, Calls Tryd.prog 8 #[W a, .int .i64 n] w fun e w' => e = .returned (W r) ∧ Below w.heap.size w w'))
    (PB : RowKit.Hid (∀ w, Calls Tryd.prog 9 #[W a] w fun e w' => e = .returned (.int .i64 l) ∧ Below w.heap.size w w')) (RB : RowKit.Hid (∀ w, Calls Tryd.prog 10 #[W a] w fun e w' => e = .returned (.int .i64 l) ∧ Below w.heap.size w w'))
    (PZ : RowKit.Hid (∀ w, TabAt w → 0 < w.heap.size → Calls Tryd.prog 11 #[W a] w fun e w' => e = .returned (.int .i64 z) ∧ Below w.heap.size w w')) (RZ : RowKit.Hid (∀ w, Calls Tryd.prog 12 #[W a] w fun e w' => e = .returned (.int .i64 z) ∧ Below w.heap.size w w')) (w : World) (hT : TabAt w) (h0 : 0 < w.heap.size) :
    Calls Tryd.prog 3 #[W a, .int .i64 n] w fun e w' => e = .returned (.bool true) ∧ Below w.heap.size w w' := by
  go_enter Tryd.func3, Tryd.ntmps3
  go_upto_region 3 with (first | (go_at_call 5; refine (PL.out _).mono ?_; rintro e w1 ⟨rfl, hb1⟩; have hz1 := hb1.size; (try simp at hz1); have q1_0 : w.heap.size < w1.heap.size := (by omega); have r1_0 : Row w1 (w.heap.size) 24 (Wc a) := row_call (by (repeat (first | assumption | (refine row_new ?_; (first | (simp; done) | omega)) | refine row_alloc ?_ _ | refine row_drew ?_ | refine row_call ?_ (by assumption)))) hb1; obtain ⟨c1_0a, c1_0b, f1_0a, f1_0b⟩ := row_two r1_0) | (go_at_call 6; refine (RL.out _).mono ?_; rintro e w2 ⟨rfl, hb2⟩; have hz2 := hb2.size; (try simp at hz2); have q2_0 : w.heap.size < w2.heap.size := (by omega); have r2_0 : Row w2 (w.heap.size) 24 (Wc a) := row_call (by (repeat (first | assumption | (refine row_new ?_; (first | (simp; done) | omega)) | refine row_alloc ?_ _ | refine row_drew ?_ | refine row_call ?_ (by assumption)))) hb2; obtain ⟨c2_0a, c2_0b, f2_0a, f2_0b⟩ := row_two r2_0; have q2_1 : w1.heap.size < w2.heap.size := (by omega); have r2_1 : Row w2 (w1.heap.size) 24 (Wc x) := row_call (by (repeat (first | assumption | (refine row_new ?_; (first | (simp; done) | omega)) | refine row_alloc ?_ _ | refine row_drew ?_ | refine row_call ?_ (by assumption)))) hb2; obtain ⟨c2_1a, c2_1b, f2_1a, f2_1b⟩ := row_two r2_1))
  have L : Row (w2.alloc (.cells (Wc x) 24)) (w.heap.size) 24 (Wc a) ∧ Row (w2.alloc (.cells (Wc x) 24)) (w1.heap.size) 24 (Wc x) ∧ Row (w2.alloc (.cells (Wc x) 24)) (w2.heap.size) 24 (Wc x) ∧ Below w.heap.size w (w2.alloc (.cells (Wc x) 24)) := by
    refine ⟨?_, ?_, ?_, ?_⟩
    · (repeat (first | assumption | (refine row_new ?_; (first | (simp; done) | omega)) | refine row_alloc ?_ _ | refine row_drew ?_ | refine row_call ?_ (by assumption)))
    · (repeat (first | assumption | (refine row_new ?_; (first | (simp; done) | omega)) | refine row_alloc ?_ _ | refine row_drew ?_ | refine row_call ?_ (by assumption)))
    · (repeat (first | assumption | (refine row_new ?_; (first | (simp; done) | omega)) | refine row_alloc ?_ _ | refine row_drew ?_ | refine row_call ?_ (by assumption)))
    · (repeat (first | exact Below.refl _ _ | refine Below.setCell ?_ (by first | (simp; done) | (simp; omega) | omega) _ | refine Below.alloc ?_ (by first | (simp; done) | (simp; omega) | omega) _ | refine Below.drew ?_ | refine Below.trans ?_ (Below.mono (by assumption) (by first | (simp; done) | (simp; omega) | omega))))
  generalize (w2.alloc (.cells (Wc x) 24)) = w3 at L ⊢
  refine wp_region_free0 [0, 1, 2, 3, 4, 5, 6, 7, 8, 9, 10, 11, 12, 13, 14, 15, 16, 17, 18, 19, 20, 21, 22, 23, 24, 25, 26, 27, 28, 29, 30, 31, 32, 33] [] [0, 1, 2, 3, 4, 5, 6, 7, 8, 9, 10, 11, 12, 13, 14, 15, 16, 17, 18, 19, 20, 21, 22, 23, 24, 25, 26, 27, 28, 29, 30, 31, 32, 33] 34 (fun w' => Row w' (w.heap.size) 24 (Wc a) ∧ Row w' (w1.heap.size) 24 (Wc x) ∧ Row w' (w2.heap.size) 24 (Wc x) ∧ Below w.heap.size w w') (by kernel_rfl) (by kernel_rfl) (fun _ _ d _ _ h => by cases d <;> exact h) ?_ ?_
  · exact ⟨L.1, L.2.1, L.2.2.1, L.2.2.2.drew⟩
  (refine plan_val ?_ rfl rfl rfl (fun w' hS => ?_) ?_; rotate_left; (obtain ⟨A00, A01, A02, A03⟩ := row_two hS.1; obtain ⟨A10, A11, A12, A13⟩ := row_two hS.2.1; obtain ⟨A20, A21, A22, A23⟩ := row_two hS.2.2.1; go_simp; try with_reducible rfl); simp only [Act.put, List.setIfInBounds_toArray, List.set_cons_zero, List.set_cons_succ])
  (refine plan_val ?_ rfl rfl rfl (fun w' hS => ?_) ?_; rotate_left; (obtain ⟨A00, A01, A02, A03⟩ := row_two hS.1; obtain ⟨A10, A11, A12, A13⟩ := row_two hS.2.1; obtain ⟨A20, A21, A22, A23⟩ := row_two hS.2.2.1; go_simp; try with_reducible rfl); simp only [Act.put, List.setIfInBounds_toArray, List.set_cons_zero, List.set_cons_succ])
  (refine plan_pure ?_ rfl rfl (fun w' => ?_) ?_; rotate_left; (go_simp; try with_reducible rfl); simp only [Act.put, List.setIfInBounds_toArray, List.set_cons_zero, List.set_cons_succ])
  (refine plan_pure ?_ rfl rfl (fun w' => ?_) ?_; rotate_left; (go_simp; try with_reducible rfl); simp only [Act.put, List.setIfInBounds_toArray, List.set_cons_zero, List.set_cons_succ])
  (refine plan_pure ?_ rfl rfl (fun w' => ?_) ?_; rotate_left; (go_simp; try with_reducible rfl); simp only [Act.put, List.setIfInBounds_toArray, List.set_cons_zero, List.set_cons_succ])
  (refine plan_pure ?_ rfl rfl (fun w' => ?_) ?_; rotate_left; (go_simp; try with_reducible rfl); simp only [Act.put, List.setIfInBounds_toArray, List.set_cons_zero, List.set_cons_succ])
  (refine plan_pure ?_ rfl rfl (fun w' => ?_) ?_; rotate_left; (go_simp; try with_reducible rfl); simp only [Act.put, List.setIfInBounds_toArray, List.set_cons_zero, List.set_cons_succ])
  (refine plan_pure ?_ rfl rfl (fun w' => ?_) ?_; rotate_left; (go_simp; try with_reducible rfl); simp only [Act.put, List.setIfInBounds_toArray, List.set_cons_zero, List.set_cons_succ])
  (refine plan_pure ?_ rfl rfl (fun w' => ?_) ?_; rotate_left; (go_simp; try with_reducible rfl); simp only [Act.put, List.setIfInBounds_toArray, List.set_cons_zero, List.set_cons_succ])
  (refine plan_val ?_ rfl rfl rfl (fun w' hS => ?_) ?_; rotate_left; (obtain ⟨A00, A01, A02, A03⟩ := row_two hS.1; obtain ⟨A10, A11, A12, A13⟩ := row_two hS.2.1; obtain ⟨A20, A21, A22, A23⟩ := row_two hS.2.2.1; go_simp; try with_reducible rfl); simp only [Act.put, List.setIfInBounds_toArray, List.set_cons_zero, List.set_cons_succ])
  (refine plan_pure ?_ rfl rfl (fun w' => ?_) ?_; rotate_left; (go_simp; try with_reducible rfl); simp only [Act.put, List.setIfInBounds_toArray, List.set_cons_zero, List.set_cons_succ])
  refine plan_call (W r) 7 #[W a, .int .i64 n] rfl rfl rfl (fun _ _ h hb => ⟨row_call h.1 hb, row_call h.2.1 hb, row_call h.2.2.1 hb, h.2.2.2.trans (hb.mono h.2.2.2.size)⟩) (fun w' hS => by obtain ⟨A00, A01, A02, A03⟩ := row_two hS.1; obtain ⟨A10, A11, A12, A13⟩ := row_two hS.2.1; obtain ⟨A20, A21, A22, A23⟩ := row_two hS.2.2.1; go_simp) (fun w' hS => PR.out w') ?_
  simp only [Act.put, List.setIfInBounds_toArray, List.set_cons_zero, List.set_cons_succ]
  (refine plan_val ?_ rfl rfl rfl (fun w' hS => ?_) ?_; rotate_left; (obtain ⟨A00, A01, A02, A03⟩ := row_two hS.1; obtain ⟨A10, A11, A12, A13⟩ := row_two hS.2.1; obtain ⟨A20, A21, A22, A23⟩ := row_two hS.2.2.1; go_simp; try with_reducible rfl); simp only [Act.put, List.setIfInBounds_toArray, List.set_cons_zero, List.set_cons_succ])
  (refine plan_pure ?_ rfl rfl (fun w' => ?_) ?_; rotate_left; (go_simp; try with_reducible rfl); simp only [Act.put, List.setIfInBounds_toArray, List.set_cons_zero, List.set_cons_succ])
  refine plan_call (W r) 8 #[W a, .int .i64 n] rfl rfl rfl (fun _ _ h hb => ⟨row_call h.1 hb, row_call h.2.1 hb, row_call h.2.2.1 hb, h.2.2.2.trans (hb.mono h.2.2.2.size)⟩) (fun w' hS => by obtain ⟨A00, A01, A02, A03⟩ := row_two hS.1; obtain ⟨A10, A11, A12, A13⟩ := row_two hS.2.1; obtain ⟨A20, A21, A22, A23⟩ := row_two hS.2.2.1; go_simp) (fun w' hS => RR.out w') ?_
  simp only [Act.put, List.setIfInBounds_toArray, List.set_cons_zero, List.set_cons_succ]
  (refine plan_pure ?_ rfl rfl (fun w' => ?_) ?_; rotate_left; (go_simp; try with_reducible rfl); simp only [Act.put, List.setIfInBounds_toArray, List.set_cons_zero, List.set_cons_succ])
  (refine plan_pure ?_ rfl rfl (fun w' => ?_) ?_; rotate_left; (go_simp; try with_reducible rfl); simp only [Act.put, List.setIfInBounds_toArray, List.set_cons_zero, List.set_cons_succ])
  (refine plan_pure ?_ rfl rfl (fun w' => ?_) ?_; rotate_left; (go_simp; try with_reducible rfl); simp only [Act.put, List.setIfInBounds_toArray, List.set_cons_zero, List.set_cons_succ])
  (refine plan_val ?_ rfl rfl rfl (fun w' hS => ?_) ?_; rotate_left; (obtain ⟨A00, A01, A02, A03⟩ := row_two hS.1; obtain ⟨A10, A11, A12, A13⟩ := row_two hS.2.1; obtain ⟨A20, A21, A22, A23⟩ := row_two hS.2.2.1; go_simp; try with_reducible rfl); simp only [Act.put, List.setIfInBounds_toArray, List.set_cons_zero, List.set_cons_succ])
  refine plan_call (.int .i64 l) 9 #[W a] rfl rfl rfl (fun _ _ h hb => ⟨row_call h.1 hb, row_call h.2.1 hb, row_call h.2.2.1 hb, h.2.2.2.trans (hb.mono h.2.2.2.size)⟩) (fun w' hS => by obtain ⟨A00, A01, A02, A03⟩ := row_two hS.1; obtain ⟨A10, A11, A12, A13⟩ := row_two hS.2.1; obtain ⟨A20, A21, A22, A23⟩ := row_two hS.2.2.1; go_simp) (fun w' hS => PB.out w') ?_
  simp only [Act.put, List.setIfInBounds_toArray, List.set_cons_zero, List.set_cons_succ]
  (refine plan_val ?_ rfl rfl rfl (fun w' hS => ?_) ?_; rotate_left; (obtain ⟨A00, A01, A02, A03⟩ := row_two hS.1; obtain ⟨A10, A11, A12, A13⟩ := row_two hS.2.1; obtain ⟨A20, A21, A22, A23⟩ := row_two hS.2.2.1; go_simp; try with_reducible rfl); simp only [Act.put, List.setIfInBounds_toArray, List.set_cons_zero, List.set_cons_succ])
  refine plan_call (.int .i64 l) 10 #[W a] rfl rfl rfl (fun _ _ h hb => ⟨row_call h.1 hb, row_call h.2.1 hb, row_call h.2.2.1 hb, h.2.2.2.trans (hb.mono h.2.2.2.size)⟩) (fun w' hS => by obtain ⟨A00, A01, A02, A03⟩ := row_two hS.1; obtain ⟨A10, A11, A12, A13⟩ := row_two hS.2.1; obtain ⟨A20, A21, A22, A23⟩ := row_two hS.2.2.1; go_simp) (fun w' hS => RB.out w') ?_
  simp only [Act.put, List.setIfInBounds_toArray, List.set_cons_zero, List.set_cons_succ]
  (refine plan_pure ?_ rfl rfl (fun w' => ?_) ?_; rotate_left; (go_simp; try with_reducible rfl); simp only [Act.put, List.setIfInBounds_toArray, List.set_cons_zero, List.set_cons_succ])
  (refine plan_pure ?_ rfl rfl (fun w' => ?_) ?_; rotate_left; (go_simp; try with_reducible rfl); simp only [Act.put, List.setIfInBounds_toArray, List.set_cons_zero, List.set_cons_succ])
  (refine plan_pure ?_ rfl rfl (fun w' => ?_) ?_; rotate_left; (go_simp; try with_reducible rfl); simp only [Act.put, List.setIfInBounds_toArray, List.set_cons_zero, List.set_cons_succ])
  (refine plan_val ?_ rfl rfl rfl (fun w' hS => ?_) ?_; rotate_left; (obtain ⟨A00, A01, A02, A03⟩ := row_two hS.1; obtain ⟨A10, A11, A12, A13⟩ := row_two hS.2.1; obtain ⟨A20, A21, A22, A23⟩ := row_two hS.2.2.1; go_simp; try with_reducible rfl); simp only [Act.put, List.setIfInBounds_toArray, List.set_cons_zero, List.set_cons_succ])
  refine plan_call (.int .i64 z) 11 #[W a] rfl rfl rfl (fun _ _ h hb => ⟨row_call h.1 hb, row_call h.2.1 hb, row_call h.2.2.1 hb, h.2.2.2.trans (hb.mono h.2.2.2.size)⟩) (fun w' hS => by obtain ⟨A00, A01, A02, A03⟩ := row_two hS.1; obtain ⟨A10, A11, A12, A13⟩ := row_two hS.2.1; obtain ⟨A20, A21, A22, A23⟩ := row_two hS.2.2.1; go_simp) (fun w' hS => PZ.out w' (hT.below hS.2.2.2 h0) (Nat.lt_of_lt_of_le h0 hS.2.2.2.size)) ?_
  simp only [Act.put, List.setIfInBounds_toArray, List.set_cons_zero, List.set_cons_succ]
  (refine plan_val ?_ rfl rfl rfl (fun w' hS => ?_) ?_; rotate_left; (obtain ⟨A00, A01, A02, A03⟩ := row_two hS.1; obtain ⟨A10, A11, A12, A13⟩ := row_two hS.2.1; obtain ⟨A20, A21, A22, A23⟩ := row_two hS.2.2.1; go_simp; try with_reducible rfl); simp only [Act.put, List.setIfInBounds_toArray, List.set_cons_zero, List.set_cons_succ])
  refine plan_call (.int .i64 z) 12 #[W a] rfl rfl rfl (fun _ _ h hb => ⟨row_call h.1 hb, row_call h.2.1 hb, row_call h.2.2.1 hb, h.2.2.2.trans (hb.mono h.2.2.2.size)⟩) (fun w' hS => by obtain ⟨A00, A01, A02, A03⟩ := row_two hS.1; obtain ⟨A10, A11, A12, A13⟩ := row_two hS.2.1; obtain ⟨A20, A21, A22, A23⟩ := row_two hS.2.2.1; go_simp) (fun w' hS => RZ.out w') ?_
  simp only [Act.put, List.setIfInBounds_toArray, List.set_cons_zero, List.set_cons_succ]
  (refine plan_pure ?_ rfl rfl (fun w' => ?_) ?_; rotate_left; (go_simp; try with_reducible rfl); simp only [Act.put, List.setIfInBounds_toArray, List.set_cons_zero, List.set_cons_succ])
  (refine plan_pure ?_ rfl rfl (fun w' => ?_) ?_; rotate_left; (go_simp; try with_reducible rfl); simp only [Act.put, List.setIfInBounds_toArray, List.set_cons_zero, List.set_cons_succ])
  (refine plan_pure ?_ rfl rfl (fun w' => ?_) ?_; rotate_left; (go_simp; try with_reducible rfl); simp only [Act.put, List.setIfInBounds_toArray, List.set_cons_zero, List.set_cons_succ])
  refine plan_call (.bool true) 13 #[] rfl rfl rfl (fun _ _ h hb => ⟨row_call h.1 hb, row_call h.2.1 hb, row_call h.2.2.1 hb, h.2.2.2.trans (hb.mono h.2.2.2.size)⟩) (fun w' hS => by obtain ⟨A00, A01, A02, A03⟩ := row_two hS.1; obtain ⟨A10, A11, A12, A13⟩ := row_two hS.2.1; obtain ⟨A20, A21, A22, A23⟩ := row_two hS.2.2.1; go_simp) (fun w' hS => awake_true w') ?_
  simp only [Act.put, List.setIfInBounds_toArray, List.set_cons_zero, List.set_cons_succ]
  (refine plan_pure ?_ rfl rfl (fun w' => ?_) ?_; rotate_left; (go_simp; try with_reducible rfl); simp only [Act.put, List.setIfInBounds_toArray, List.set_cons_zero, List.set_cons_succ])
  refine plan_nil ?_
  intro w4 L4
  simp only [List.drop_succ_cons, List.drop_zero]
  try simp only [Act.put, List.setIfInBounds_toArray, List.set_cons_zero, List.set_cons_succ]
  obtain ⟨A00, A01, A02, A03⟩ := row_two L4.1; obtain ⟨A10, A11, A12, A13⟩ := row_two L4.2.1; obtain ⟨A20, A21, A22, A23⟩ := row_two L4.2.2.1
  have o3 := L4.2.2.2
  clear L
  go_wp2
  go_ret
  exact ⟨rfl, o3⟩
set_option maxHeartbeats 4000000 in
theorem wideShifts_false (a : Nat) (n : Int) (x r : Nat) (l z : Int)
    (PL : RowKit.Hid (∀ w, Calls Tryd.prog 5 #[W a, .int .i64 n] w fun e w' => e = .returned (.tuple #[W x, .bool false]) ∧ Below w.heap.size w w')) (RL : RowKit.Hid (∀ w, Calls Tryd.prog 6 #[W a, .int .i64 n] w fun e w' => e = .returned (.tuple #[W x, .bool false]) ∧ Below w.heap.size w w'))
    (PR : RowKit.Hid (∀ w, Calls Tryd.prog 7 #[W a, .int .i64 n] w fun e w' => e = .returned (W r) ∧ Below w.heap.size w w')) (RR : RowKit.Hid (∀ w, Calls Tryd.prog 8 #[W a, .int .i64 n] w fun e w' => e = .returned (W r) ∧ Below w.heap.size w w'))
    (PB : RowKit.Hid (∀ w, Calls Tryd.prog 9 #[W a] w fun e w' => e = .returned (.int .i64 l) ∧ Below w.heap.size w w')) (RB : RowKit.Hid (∀ w, Calls Tryd.prog 10 #[W a] w fun e w' => e = .returned (.int .i64 l) ∧ Below w.heap.size w w'))
    (PZ : RowKit.Hid (∀ w, TabAt w → 0 < w.heap.size → Calls Tryd.prog 11 #[W a] w fun e w' => e = .returned (.int .i64 z) ∧ Below w.heap.size w w')) (RZ : RowKit.Hid (∀ w, Calls Tryd.prog 12 #[W a] w fun e w' => e = .returned (.int .i64 z) ∧ Below w.heap.size w w')) (w : World) (hT : TabAt w) (h0 : 0 < w.heap.size) :
    Calls Tryd.prog 3 #[W a, .int .i64 n] w fun e w' => e = .returned (.bool true) ∧ Below w.heap.size w w' := by
  go_enter Tryd.func3, Tryd.ntmps3
  go_upto_region 3 with (first | (go_at_call 5; refine (PL.out _).mono ?_; rintro e w1 ⟨rfl, hb1⟩; have hz1 := hb1.size; (try simp at hz1); have q1_0 : w.heap.size < w1.heap.size := (by omega); have r1_0 : Row w1 (w.heap.size) 24 (Wc a) := row_call (by (repeat (first | assumption | (refine row_new ?_; (first | (simp; done) | omega)) | refine row_alloc ?_ _ | refine row_drew ?_ | refine row_call ?_ (by assumption)))) hb1; obtain ⟨c1_0a, c1_0b, f1_0a, f1_0b⟩ := row_two r1_0) | (go_at_call 6; refine (RL.out _).mono ?_; rintro e w2 ⟨rfl, hb2⟩; have hz2 := hb2.size; (try simp at hz2); have q2_0 : w.heap.size < w2.heap.size := (by omega); have r2_0 : Row w2 (w.heap.size) 24 (Wc a) := row_call (by (repeat (first | assumption | (refine row_new ?_; (first | (simp; done) | omega)) | refine row_alloc ?_ _ | refine row_drew ?_ | refine row_call ?_ (by assumption)))) hb2; obtain ⟨c2_0a, c2_0b, f2_0a, f2_0b⟩ := row_two r2_0; have q2_1 : w1.heap.size < w2.heap.size := (by omega); have r2_1 : Row w2 (w1.heap.size) 24 (Wc x) := row_call (by (repeat (first | assumption | (refine row_new ?_; (first | (simp; done) | omega)) | refine row_alloc ?_ _ | refine row_drew ?_ | refine row_call ?_ (by assumption)))) hb2; obtain ⟨c2_1a, c2_1b, f2_1a, f2_1b⟩ := row_two r2_1))
  have L : Row (w2.alloc (.cells (Wc x) 24)) (w.heap.size) 24 (Wc a) ∧ Row (w2.alloc (.cells (Wc x) 24)) (w1.heap.size) 24 (Wc x) ∧ Row (w2.alloc (.cells (Wc x) 24)) (w2.heap.size) 24 (Wc x) ∧ Below w.heap.size w (w2.alloc (.cells (Wc x) 24)) := by
    refine ⟨?_, ?_, ?_, ?_⟩
    · (repeat (first | assumption | (refine row_new ?_; (first | (simp; done) | omega)) | refine row_alloc ?_ _ | refine row_drew ?_ | refine row_call ?_ (by assumption)))
    · (repeat (first | assumption | (refine row_new ?_; (first | (simp; done) | omega)) | refine row_alloc ?_ _ | refine row_drew ?_ | refine row_call ?_ (by assumption)))
    · (repeat (first | assumption | (refine row_new ?_; (first | (simp; done) | omega)) | refine row_alloc ?_ _ | refine row_drew ?_ | refine row_call ?_ (by assumption)))
    · (repeat (first | exact Below.refl _ _ | refine Below.setCell ?_ (by first | (simp; done) | (simp; omega) | omega) _ | refine Below.alloc ?_ (by first | (simp; done) | (simp; omega) | omega) _ | refine Below.drew ?_ | refine Below.trans ?_ (Below.mono (by assumption) (by first | (simp; done) | (simp; omega) | omega))))
  generalize (w2.alloc (.cells (Wc x) 24)) = w3 at L ⊢
  refine wp_region_free0 [0, 1, 2, 3, 4, 5, 6, 7, 8, 9, 10, 11, 12, 13, 14, 15, 16, 17, 18, 19, 20, 21, 22, 23, 24, 25, 26, 27, 28, 29, 30, 31, 32, 33] [] [0, 1, 2, 3, 4, 5, 6, 7, 8, 9, 10, 11, 12, 13, 14, 15, 16, 17, 18, 19, 20, 21, 22, 23, 24, 25, 26, 27, 28, 29, 30, 31, 32, 33] 34 (fun w' => Row w' (w.heap.size) 24 (Wc a) ∧ Row w' (w1.heap.size) 24 (Wc x) ∧ Row w' (w2.heap.size) 24 (Wc x) ∧ Below w.heap.size w w') (by kernel_rfl) (by kernel_rfl) (fun _ _ d _ _ h => by cases d <;> exact h) ?_ ?_
  · exact ⟨L.1, L.2.1, L.2.2.1, L.2.2.2.drew⟩
  (refine plan_val ?_ rfl rfl rfl (fun w' hS => ?_) ?_; rotate_left; (obtain ⟨A00, A01, A02, A03⟩ := row_two hS.1; obtain ⟨A10, A11, A12, A13⟩ := row_two hS.2.1; obtain ⟨A20, A21, A22, A23⟩ := row_two hS.2.2.1; go_simp; try with_reducible rfl); simp only [Act.put, List.setIfInBounds_toArray, List.set_cons_zero, List.set_cons_succ])
  (refine plan_val ?_ rfl rfl rfl (fun w' hS => ?_) ?_; rotate_left; (obtain ⟨A00, A01, A02, A03⟩ := row_two hS.1; obtain ⟨A10, A11, A12, A13⟩ := row_two hS.2.1; obtain ⟨A20, A21, A22, A23⟩ := row_two hS.2.2.1; go_simp; try with_reducible rfl); simp only [Act.put, List.setIfInBounds_toArray, List.set_cons_zero, List.set_cons_succ])
  (refine plan_pure ?_ rfl rfl (fun w' => ?_) ?_; rotate_left; (go_simp; try with_reducible rfl); simp only [Act.put, List.setIfInBounds_toArray, List.set_cons_zero, List.set_cons_succ])
  (refine plan_pure ?_ rfl rfl (fun w' => ?_) ?_; rotate_left; (go_simp; try with_reducible rfl); simp only [Act.put, List.setIfInBounds_toArray, List.set_cons_zero, List.set_cons_succ])
  (refine plan_pure ?_ rfl rfl (fun w' => ?_) ?_; rotate_left; (go_simp; try with_reducible rfl); simp only [Act.put, List.setIfInBounds_toArray, List.set_cons_zero, List.set_cons_succ])
  (refine plan_pure ?_ rfl rfl (fun w' => ?_) ?_; rotate_left; (go_simp; try with_reducible rfl); simp only [Act.put, List.setIfInBounds_toArray, List.set_cons_zero, List.set_cons_succ])
  (refine plan_pure ?_ rfl rfl (fun w' => ?_) ?_; rotate_left; (go_simp; try with_reducible rfl); simp only [Act.put, List.setIfInBounds_toArray, List.set_cons_zero, List.set_cons_succ])
  (refine plan_pure ?_ rfl rfl (fun w' => ?_) ?_; rotate_left; (go_simp; try with_reducible rfl); simp only [Act.put, List.setIfInBounds_toArray, List.set_cons_zero, List.set_cons_succ])
  (refine plan_pure ?_ rfl rfl (fun w' => ?_) ?_; rotate_left; (go_simp; try with_reducible rfl); simp only [Act.put, List.setIfInBounds_toArray, List.set_cons_zero, List.set_cons_succ])
  (refine plan_val ?_ rfl rfl rfl (fun w' hS => ?_) ?_; rotate_left; (obtain ⟨A00, A01, A02, A03⟩ := row_two hS.1; obtain ⟨A10, A11, A12, A13⟩ := row_two hS.2.1; obtain ⟨A20, A21, A22, A23⟩ := row_two hS.2.2.1; go_simp; try with_reducible rfl); simp only [Act.put, List.setIfInBounds_toArray, List.set_cons_zero, List.set_cons_succ])
  (refine plan_pure ?_ rfl rfl (fun w' => ?_) ?_; rotate_left; (go_simp; try with_reducible rfl); simp only [Act.put, List.setIfInBounds_toArray, List.set_cons_zero, List.set_cons_succ])
  refine plan_call (W r) 7 #[W a, .int .i64 n] rfl rfl rfl (fun _ _ h hb => ⟨row_call h.1 hb, row_call h.2.1 hb, row_call h.2.2.1 hb, h.2.2.2.trans (hb.mono h.2.2.2.size)⟩) (fun w' hS => by obtain ⟨A00, A01, A02, A03⟩ := row_two hS.1; obtain ⟨A10, A11, A12, A13⟩ := row_two hS.2.1; obtain ⟨A20, A21, A22, A23⟩ := row_two hS.2.2.1; go_simp) (fun w' hS => PR.out w') ?_
  simp only [Act.put, List.setIfInBounds_toArray, List.set_cons_zero, List.set_cons_succ]
  (refine plan_val ?_ rfl rfl rfl (fun w' hS => ?_) ?_; rotate_left; (obtain ⟨A00, A01, A02, A03⟩ := row_two hS.1; obtain ⟨A10, A11, A12, A13⟩ := row_two hS.2.1; obtain ⟨A20, A21, A22, A23⟩ := row_two hS.2.2.1; go_simp; try with_reducible rfl); simp only [Act.put, List.setIfInBounds_toArray, List.set_cons_zero, List.set_cons_succ])
  (refine plan_pure ?_ rfl rfl (fun w' => ?_) ?_; rotate_left; (go_simp; try with_reducible rfl); simp only [Act.put, List.setIfInBounds_toArray, List.set_cons_zero, List.set_cons_succ])
  refine plan_call (W r) 8 #[W a, .int .i64 n] rfl rfl rfl (fun _ _ h hb => ⟨row_call h.1 hb, row_call h.2.1 hb, row_call h.2.2.1 hb, h.2.2.2.trans (hb.mono h.2.2.2.size)⟩) (fun w' hS => by obtain ⟨A00, A01, A02, A03⟩ := row_two hS.1; obtain ⟨A10, A11, A12, A13⟩ := row_two hS.2.1; obtain ⟨A20, A21, A22, A23⟩ := row_two hS.2.2.1; go_simp) (fun w' hS => RR.out w') ?_
  simp only [Act.put, List.setIfInBounds_toArray, List.set_cons_zero, List.set_cons_succ]
  (refine plan_pure ?_ rfl rfl (fun w' => ?_) ?_; rotate_left; (go_simp; try with_reducible rfl); simp only [Act.put, List.setIfInBounds_toArray, List.set_cons_zero, List.set_cons_succ])
  (refine plan_pure ?_ rfl rfl (fun w' => ?_) ?_; rotate_left; (go_simp; try with_reducible rfl); simp only [Act.put, List.setIfInBounds_toArray, List.set_cons_zero, List.set_cons_succ])
  (refine plan_pure ?_ rfl rfl (fun w' => ?_) ?_; rotate_left; (go_simp; try with_reducible rfl); simp only [Act.put, List.setIfInBounds_toArray, List.set_cons_zero, List.set_cons_succ])
  (refine plan_val ?_ rfl rfl rfl (fun w' hS => ?_) ?_; rotate_left; (obtain ⟨A00, A01, A02, A03⟩ := row_two hS.1; obtain ⟨A10, A11, A12, A13⟩ := row_two hS.2.1; obtain ⟨A20, A21, A22, A23⟩ := row_two hS.2.2.1; go_simp; try with_reducible rfl); simp only [Act.put, List.setIfInBounds_toArray, List.set_cons_zero, List.set_cons_succ])
  refine plan_call (.int .i64 l) 9 #[W a] rfl rfl rfl (fun _ _ h hb => ⟨row_call h.1 hb, row_call h.2.1 hb, row_call h.2.2.1 hb, h.2.2.2.trans (hb.mono h.2.2.2.size)⟩) (fun w' hS => by obtain ⟨A00, A01, A02, A03⟩ := row_two hS.1; obtain ⟨A10, A11, A12, A13⟩ := row_two hS.2.1; obtain ⟨A20, A21, A22, A23⟩ := row_two hS.2.2.1; go_simp) (fun w' hS => PB.out w') ?_
  simp only [Act.put, List.setIfInBounds_toArray, List.set_cons_zero, List.set_cons_succ]
  (refine plan_val ?_ rfl rfl rfl (fun w' hS => ?_) ?_; rotate_left; (obtain ⟨A00, A01, A02, A03⟩ := row_two hS.1; obtain ⟨A10, A11, A12, A13⟩ := row_two hS.2.1; obtain ⟨A20, A21, A22, A23⟩ := row_two hS.2.2.1; go_simp; try with_reducible rfl); simp only [Act.put, List.setIfInBounds_toArray, List.set_cons_zero, List.set_cons_succ])
  refine plan_call (.int .i64 l) 10 #[W a] rfl rfl rfl (fun _ _ h hb => ⟨row_call h.1 hb, row_call h.2.1 hb, row_call h.2.2.1 hb, h.2.2.2.trans (hb.mono h.2.2.2.size)⟩) (fun w' hS => by obtain ⟨A00, A01, A02, A03⟩ := row_two hS.1; obtain ⟨A10, A11, A12, A13⟩ := row_two hS.2.1; obtain ⟨A20, A21, A22, A23⟩ := row_two hS.2.2.1; go_simp) (fun w' hS => RB.out w') ?_
  simp only [Act.put, List.setIfInBounds_toArray, List.set_cons_zero, List.set_cons_succ]
  (refine plan_pure ?_ rfl rfl (fun w' => ?_) ?_; rotate_left; (go_simp; try with_reducible rfl); simp only [Act.put, List.setIfInBounds_toArray, List.set_cons_zero, List.set_cons_succ])
  (refine plan_pure ?_ rfl rfl (fun w' => ?_) ?_; rotate_left; (go_simp; try with_reducible rfl); simp only [Act.put, List.setIfInBounds_toArray, List.set_cons_zero, List.set_cons_succ])
  (refine plan_pure ?_ rfl rfl (fun w' => ?_) ?_; rotate_left; (go_simp; try with_reducible rfl); simp only [Act.put, List.setIfInBounds_toArray, List.set_cons_zero, List.set_cons_succ])
  (refine plan_val ?_ rfl rfl rfl (fun w' hS => ?_) ?_; rotate_left; (obtain ⟨A00, A01, A02, A03⟩ := row_two hS.1; obtain ⟨A10, A11, A12, A13⟩ := row_two hS.2.1; obtain ⟨A20, A21, A22, A23⟩ := row_two hS.2.2.1; go_simp; try with_reducible rfl); simp only [Act.put, List.setIfInBounds_toArray, List.set_cons_zero, List.set_cons_succ])
  refine plan_call (.int .i64 z) 11 #[W a] rfl rfl rfl (fun _ _ h hb => ⟨row_call h.1 hb, row_call h.2.1 hb, row_call h.2.2.1 hb, h.2.2.2.trans (hb.mono h.2.2.2.size)⟩) (fun w' hS => by obtain ⟨A00, A01, A02, A03⟩ := row_two hS.1; obtain ⟨A10, A11, A12, A13⟩ := row_two hS.2.1; obtain ⟨A20, A21, A22, A23⟩ := row_two hS.2.2.1; go_simp) (fun w' hS => PZ.out w' (hT.below hS.2.2.2 h0) (Nat.lt_of_lt_of_le h0 hS.2.2.2.size)) ?_
  simp only [Act.put, List.setIfInBounds_toArray, List.set_cons_zero, List.set_cons_succ]
  (refine plan_val ?_ rfl rfl rfl (fun w' hS => ?_) ?_; rotate_left; (obtain ⟨A00, A01, A02, A03⟩ := row_two hS.1; obtain ⟨A10, A11, A12, A13⟩ := row_two hS.2.1; obtain ⟨A20, A21, A22, A23⟩ := row_two hS.2.2.1; go_simp; try with_reducible rfl); simp only [Act.put, List.setIfInBounds_toArray, List.set_cons_zero, List.set_cons_succ])
  refine plan_call (.int .i64 z) 12 #[W a] rfl rfl rfl (fun _ _ h hb => ⟨row_call h.1 hb, row_call h.2.1 hb, row_call h.2.2.1 hb, h.2.2.2.trans (hb.mono h.2.2.2.size)⟩) (fun w' hS => by obtain ⟨A00, A01, A02, A03⟩ := row_two hS.1; obtain ⟨A10, A11, A12, A13⟩ := row_two hS.2.1; obtain ⟨A20, A21, A22, A23⟩ := row_two hS.2.2.1; go_simp) (fun w' hS => RZ.out w') ?_
  simp only [Act.put, List.setIfInBounds_toArray, List.set_cons_zero, List.set_cons_succ]
  (refine plan_pure ?_ rfl rfl (fun w' => ?_) ?_; rotate_left; (go_simp; try with_reducible rfl); simp only [Act.put, List.setIfInBounds_toArray, List.set_cons_zero, List.set_cons_succ])
  (refine plan_pure ?_ rfl rfl (fun w' => ?_) ?_; rotate_left; (go_simp; try with_reducible rfl); simp only [Act.put, List.setIfInBounds_toArray, List.set_cons_zero, List.set_cons_succ])
  (refine plan_pure ?_ rfl rfl (fun w' => ?_) ?_; rotate_left; (go_simp; try with_reducible rfl); simp only [Act.put, List.setIfInBounds_toArray, List.set_cons_zero, List.set_cons_succ])
  refine plan_call (.bool true) 13 #[] rfl rfl rfl (fun _ _ h hb => ⟨row_call h.1 hb, row_call h.2.1 hb, row_call h.2.2.1 hb, h.2.2.2.trans (hb.mono h.2.2.2.size)⟩) (fun w' hS => by obtain ⟨A00, A01, A02, A03⟩ := row_two hS.1; obtain ⟨A10, A11, A12, A13⟩ := row_two hS.2.1; obtain ⟨A20, A21, A22, A23⟩ := row_two hS.2.2.1; go_simp) (fun w' hS => awake_true w') ?_
  simp only [Act.put, List.setIfInBounds_toArray, List.set_cons_zero, List.set_cons_succ]
  (refine plan_pure ?_ rfl rfl (fun w' => ?_) ?_; rotate_left; (go_simp; try with_reducible rfl); simp only [Act.put, List.setIfInBounds_toArray, List.set_cons_zero, List.set_cons_succ])
  refine plan_nil ?_
  intro w4 L4
  simp only [List.drop_succ_cons, List.drop_zero]
  try simp only [Act.put, List.setIfInBounds_toArray, List.set_cons_zero, List.set_cons_succ]
  obtain ⟨A00, A01, A02, A03⟩ := row_two L4.1; obtain ⟨A10, A11, A12, A13⟩ := row_two L4.2.1; obtain ⟨A20, A21, A22, A23⟩ := row_two L4.2.2.1
  have o3 := L4.2.2.2
  clear L
  go_wp2
  go_ret
  exact ⟨rfl, o3⟩
theorem wideShifts_in (a : Nat) (n : Int) (x r : Nat) (b : Bool) (l z : Int)
    (PL : RowKit.Hid (∀ w, Calls Tryd.prog 5 #[W a, .int .i64 n] w fun e w' => e = .returned (.tuple #[W x, .bool b]) ∧ Below w.heap.size w w')) (RL : RowKit.Hid (∀ w, Calls Tryd.prog 6 #[W a, .int .i64 n] w fun e w' => e = .returned (.tuple #[W x, .bool b]) ∧ Below w.heap.size w w'))
    (PR : RowKit.Hid (∀ w, Calls Tryd.prog 7 #[W a, .int .i64 n] w fun e w' => e = .returned (W r) ∧ Below w.heap.size w w')) (RR : RowKit.Hid (∀ w, Calls Tryd.prog 8 #[W a, .int .i64 n] w fun e w' => e = .returned (W r) ∧ Below w.heap.size w w'))
    (PB : RowKit.Hid (∀ w, Calls Tryd.prog 9 #[W a] w fun e w' => e = .returned (.int .i64 l) ∧ Below w.heap.size w w')) (RB : RowKit.Hid (∀ w, Calls Tryd.prog 10 #[W a] w fun e w' => e = .returned (.int .i64 l) ∧ Below w.heap.size w w'))
    (PZ : RowKit.Hid (∀ w, TabAt w → 0 < w.heap.size → Calls Tryd.prog 11 #[W a] w fun e w' => e = .returned (.int .i64 z) ∧ Below w.heap.size w w')) (RZ : RowKit.Hid (∀ w, Calls Tryd.prog 12 #[W a] w fun e w' => e = .returned (.int .i64 z) ∧ Below w.heap.size w w')) (w : World) (hT : TabAt w) (h0 : 0 < w.heap.size) :
    Calls Tryd.prog 3 #[W a, .int .i64 n] w fun e w' => e = .returned (.bool true) ∧ Below w.heap.size w w' := by
  cases b
  · exact wideShifts_false a n x r l z PL RL PR RR PB RB PZ RZ w hT h0
  · exact wideShifts_true a n x r l z PL RL PR RR PB RB PZ RZ w hT h0
theorem wideShifts (a : Nat) (ha : a < big) (n : Int) (hn : -9223372036854775808 ≤ n ∧ n ≤ 9223372036854775807) (w : World) (hT : TabAt w) (h0 : 0 < w.heap.size) :
    Calls Tryd.prog 3 #[W a, .int .i64 n] w fun e w' => e = .returned (.bool true) ∧ Below w.heap.size w w' :=
  wideShifts_in a n _ _ _ _ _ (Lib.hid fun w => pleft a n ha hn w) (Lib.hid fun w => rleft a n ha hn w) (Lib.hid fun w => pright a n ha w) (Lib.hid fun w => rright a n ha w)
    (Lib.hid fun w => pbits a ha w) (Lib.hid fun w => rbits a ha w) (Lib.hid fun w h k => pzeros a ha w h k) (Lib.hid fun w => rzeros a ha w) w hT h0
end Go.Proofs.YtoemccfpinonhaaDoor
