/- The laws of the order of wide numbers, walked. -/
import Derived.Test.YtoemccfpinonhaaFormat
import Derived.Test.YtoemccfpinonhaaBase
namespace Go.Proofs.Ytoemccfpinonhaa
open Go.RowKit Go.Shelf
theorem dec64 : decStr 18446744073709551616 = { data := #[49, 56, 52, 52, 54, 55, 52, 52, 48, 55, 51, 55, 48, 57, 53, 53, 49, 54, 49, 54] } := by decide +kernel
theorem hi64 : hi 18446744073709551616 = 1 := by decide
theorem lo64 : lo 18446744073709551616 = 0 := by decide
theorem awake_true (w : World) : Calls Try.prog 15 #[] w fun e w' => e = .returned (.bool true) ∧ Below w.heap.size w w' := by
  have C := pformat 18446744073709551616 (by decide)
  rw [dec64] at C
  unfold W at C
  rw [hi64, lo64] at C
  have HC := Lib.hid C
  clear C
  go_enter Try.func15, Try.ntmps15
  go_wp2_with (go_at_call 32; refine (HC.out _).mono ?_; rintro e w1 ⟨rfl, hb1⟩)
  go_ret
  exact ⟨rfl, hb1⟩
theorem cmp_back (a b : Nat) : cmp b a = -cmp a b := by unfold cmp; repeat (first | omega | split)
set_option maxHeartbeats 1000000 in
theorem wideCompares (a : Nat) (ha : a < big) (b : Nat) (hb : b < big) (w : World) :
    Calls Try.prog 4 #[W a, W b] w fun e w' => e = .returned (.bool true) ∧ Below w.heap.size w w' := by
  have E := Lib.hid (cmp_back a b)
  go_enter Try.func4, Try.ntmps4
  go_upto_region 1 with (fail)
  have L : Row ((w.alloc (.cells (Wc a) 24)).alloc (.cells (Wc b) 24)) (w.heap.size) 24 (Wc a) ∧ Row ((w.alloc (.cells (Wc a) 24)).alloc (.cells (Wc b) 24)) (w.heap.size + 1) 24 (Wc b) ∧ Below w.heap.size w ((w.alloc (.cells (Wc a) 24)).alloc (.cells (Wc b) 24)) := by
    refine ⟨?_, ?_, ?_⟩
    · (repeat (first | assumption | (refine row_new ?_; (first | (simp; done) | omega)) | refine row_alloc ?_ _ | refine row_drew ?_ | refine row_call ?_ (by assumption)))
    · (repeat (first | assumption | (refine row_new ?_; (first | (simp; done) | omega)) | refine row_alloc ?_ _ | refine row_drew ?_ | refine row_call ?_ (by assumption)))
    · (repeat (first | exact Below.refl _ _ | refine Below.setCell ?_ (by first | (simp; done) | (simp; omega) | omega) _ | refine Below.alloc ?_ (by first | (simp; done) | (simp; omega) | omega) _ | refine Below.drew ?_ | refine Below.trans ?_ (Below.mono (by assumption) (by first | (simp; done) | (simp; omega) | omega))))
  refine wp_region_free0 [0, 1, 2, 3, 4, 5, 6, 7, 8, 9, 10, 11, 12] [] [0, 1, 2, 3, 4, 5, 6, 7, 8, 9, 10, 11, 12] 13 (fun w' => Row w' (w.heap.size) 24 (Wc a) ∧ Row w' (w.heap.size + 1) 24 (Wc b) ∧ Below w.heap.size w w') (by kernel_rfl) (by kernel_rfl) (fun _ _ d _ _ h => by cases d <;> exact h) ?_ ?_
  · exact ⟨L.1, L.2.1, L.2.2.drew⟩
  (refine plan_val ?_ rfl rfl rfl (fun w' hS => ?_) ?_; rotate_left; (obtain ⟨A00, A01, A02, A03⟩ := row_two hS.1; obtain ⟨A10, A11, A12, A13⟩ := row_two hS.2.1; go_simp; try with_reducible rfl); simp only [Act.put, List.setIfInBounds_toArray, List.set_cons_zero, List.set_cons_succ])
  (refine plan_val ?_ rfl rfl rfl (fun w' hS => ?_) ?_; rotate_left; (obtain ⟨A00, A01, A02, A03⟩ := row_two hS.1; obtain ⟨A10, A11, A12, A13⟩ := row_two hS.2.1; go_simp; try with_reducible rfl); simp only [Act.put, List.setIfInBounds_toArray, List.set_cons_zero, List.set_cons_succ])
  refine plan_call (.int .i64 (cmp a b)) 16 #[W a, W b] rfl rfl rfl (fun _ _ h hb => ⟨row_call h.1 hb, row_call h.2.1 hb, h.2.2.trans (hb.mono h.2.2.size)⟩) (fun w' hS => by obtain ⟨A00, A01, A02, A03⟩ := row_two hS.1; obtain ⟨A10, A11, A12, A13⟩ := row_two hS.2.1; go_simp) (fun w' hS => pcmp_any a b w') ?_
  simp only [Act.put, List.setIfInBounds_toArray, List.set_cons_zero, List.set_cons_succ]
  (refine plan_val ?_ rfl rfl rfl (fun w' hS => ?_) ?_; rotate_left; (obtain ⟨A00, A01, A02, A03⟩ := row_two hS.1; obtain ⟨A10, A11, A12, A13⟩ := row_two hS.2.1; go_simp; try with_reducible rfl); simp only [Act.put, List.setIfInBounds_toArray, List.set_cons_zero, List.set_cons_succ])
  (refine plan_val ?_ rfl rfl rfl (fun w' hS => ?_) ?_; rotate_left; (obtain ⟨A00, A01, A02, A03⟩ := row_two hS.1; obtain ⟨A10, A11, A12, A13⟩ := row_two hS.2.1; go_simp; try with_reducible rfl); simp only [Act.put, List.setIfInBounds_toArray, List.set_cons_zero, List.set_cons_succ])
  refine plan_call (.int .i64 (cmp a b)) 17 #[W a, W b] rfl rfl rfl (fun _ _ h hb => ⟨row_call h.1 hb, row_call h.2.1 hb, h.2.2.trans (hb.mono h.2.2.size)⟩) (fun w' hS => by obtain ⟨A00, A01, A02, A03⟩ := row_two hS.1; obtain ⟨A10, A11, A12, A13⟩ := row_two hS.2.1; go_simp) (fun w' hS => rcmp_any a b w') ?_
  simp only [Act.put, List.setIfInBounds_toArray, List.set_cons_zero, List.set_cons_succ]
  (refine plan_pure ?_ rfl rfl (fun w' => ?_) ?_; rotate_left; (go_simp; try with_reducible rfl); simp only [Act.put, List.setIfInBounds_toArray, List.set_cons_zero, List.set_cons_succ])
  (refine plan_pure ?_ rfl rfl (fun w' => ?_) ?_; rotate_left; (go_simp; try with_reducible rfl); simp only [Act.put, List.setIfInBounds_toArray, List.set_cons_zero, List.set_cons_succ])
  (refine plan_val ?_ rfl rfl rfl (fun w' hS => ?_) ?_; rotate_left; (obtain ⟨A00, A01, A02, A03⟩ := row_two hS.1; obtain ⟨A10, A11, A12, A13⟩ := row_two hS.2.1; go_simp; try with_reducible rfl); simp only [Act.put, List.setIfInBounds_toArray, List.set_cons_zero, List.set_cons_succ])
  (refine plan_val ?_ rfl rfl rfl (fun w' hS => ?_) ?_; rotate_left; (obtain ⟨A00, A01, A02, A03⟩ := row_two hS.1; obtain ⟨A10, A11, A12, A13⟩ := row_two hS.2.1; go_simp; try with_reducible rfl); simp only [Act.put, List.setIfInBounds_toArray, List.set_cons_zero, List.set_cons_succ])
  refine plan_call (.int .i64 (cmp b a)) 16 #[W b, W a] rfl rfl rfl (fun _ _ h hb => ⟨row_call h.1 hb, row_call h.2.1 hb, h.2.2.trans (hb.mono h.2.2.size)⟩) (fun w' hS => by obtain ⟨A00, A01, A02, A03⟩ := row_two hS.1; obtain ⟨A10, A11, A12, A13⟩ := row_two hS.2.1; go_simp) (fun w' hS => pcmp_any b a w') ?_
  simp only [Act.put, List.setIfInBounds_toArray, List.set_cons_zero, List.set_cons_succ]
  (refine plan_val ?_ rfl rfl rfl (fun w' hS => ?_) ?_; rotate_left; (obtain ⟨A00, A01, A02, A03⟩ := row_two hS.1; obtain ⟨A10, A11, A12, A13⟩ := row_two hS.2.1; go_simp; try with_reducible rfl); simp only [Act.put, List.setIfInBounds_toArray, List.set_cons_zero, List.set_cons_succ])
  (refine plan_val ?_ rfl rfl rfl (fun w' hS => ?_) ?_; rotate_left; (obtain ⟨A00, A01, A02, A03⟩ := row_two hS.1; obtain ⟨A10, A11, A12, A13⟩ := row_two hS.2.1; go_simp; try with_reducible rfl); simp only [Act.put, List.setIfInBounds_toArray, List.set_cons_zero, List.set_cons_succ])
  refine plan_nil ?_
  intro w3 L3
  simp only [List.drop_succ_cons, List.drop_zero]
  try simp only [Act.put, List.setIfInBounds_toArray, List.set_cons_zero, List.set_cons_succ]
  obtain ⟨A00, A01, A02, A03⟩ := row_two L3.1; obtain ⟨A10, A11, A12, A13⟩ := row_two L3.2.1
  have o3 := L3.2.2
  have z3 := o3.size
  have E1 := E.out
  have m0 : -1 ≤ cmp a b := by unfold cmp; repeat (first | omega | split)
  have m1 : cmp a b ≤ 1 := by unfold cmp; repeat (first | omega | split)
  clear L
  go_wp2_with (first | (go_at_call 17; refine (rcmp_any a b _).mono ?_; rintro e w4 ⟨rfl, hb4⟩; have z4 := hb4.size) | (go_at_call 15; refine (awake_true _).mono ?_; rintro e w5 ⟨rfl, hb5⟩))
  go_ret
  refine ⟨rfl, ?_⟩
  (repeat (first | exact Below.refl _ _ | refine Below.setCell ?_ (by first | (simp; done) | (simp; omega) | omega) _ | refine Below.alloc ?_ (by first | (simp; done) | (simp; omega) | omega) _ | refine Below.drew ?_ | refine Below.trans ?_ (Below.mono (by assumption) (by first | (simp; done) | (simp; omega) | omega))))
end Go.Proofs.Ytoemccfpinonhaa
