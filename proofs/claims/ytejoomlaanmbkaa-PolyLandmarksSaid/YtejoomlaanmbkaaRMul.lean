/- The product of two wide numbers, walked: the reference. -/
import Derived.Test.YtejoomlaanmbkaaWalkC
import Derived.Test.YtejoomlaanmbkaaMathMul
import Derived.Test.YtejoomlaanmbkaaDivS
import Derived.Test.YtejoomlaanmbkaaFree
import Derived.Lib.Hide
import Derived.Deep.Cut
namespace Go.Proofs.Ytejoomlaanmbkaa
open Go.RowKit Go.Shelf
theorem rprod_ll (x y : Nat) (w : World) : Calls Try.prog 54 #[.int .u64 (lo x), .int .u64 (lo y)] w fun e w' => e = .returned (W (mlow x y)) ∧ Below w.heap.size w w' := by
  have h := rproduct (lo x) (lo y) (lo_word x) (lo_word y) w
  rw [lo_toNat, lo_toNat] at h
  exact h
theorem rprod_lh (x y : Nat) (hy : y < big) (w : World) : Calls Try.prog 54 #[.int .u64 (lo x), .int .u64 (hi y)] w fun e w' => e = .returned (W (mhigh x y)) ∧ Below w.heap.size w w' := by
  have h := rproduct (lo x) (hi y) (lo_word x) (hi_word hy) w
  rw [lo_toNat, hi_toNat] at h
  exact h
theorem rprod_hl (x y : Nat) (hx : x < big) (w : World) : Calls Try.prog 54 #[.int .u64 (hi x), .int .u64 (lo y)] w fun e w' => e = .returned (W (mhigh y x)) ∧ Below w.heap.size w w' := by
  have h := rproduct (hi x) (lo y) (hi_word hx) (lo_word y) w
  rw [lo_toNat, hi_toNat, Nat.mul_comm] at h
  exact h
/-- The last sum of a product. -/
theorem radd_high (x y : Nat) (hx : hi x = 0) (hy : y < big) (hh : hi (mhigh x y) = 0) (w : World) :
    Calls Try.prog 48 #[W (mlow x y), .agg #[.int .u64 (lo (mhigh x y)), .int .u64 0]] w fun e w' => e = .returned (.tuple #[W (mulV x y), .bool (mulB x y)]) ∧ Below w.heap.size w w' := by
  obtain ⟨e1, e2⟩ := high_shift hh
  have hs := mul_split (y := y) hx
  have hl := high_lt hh
  rw [← e1, ← e2]
  by_cases h : x * y < big
  · obtain ⟨v, b⟩ := mulV_yes h
    rw [v, b, hs]
    exact radd_fits _ _ (mlow_lt x y) hl (by rw [← hs]; exact h) w
  · obtain ⟨v, b⟩ := mulV_no h
    rw [v, b]
    exact radd_over _ _ (mlow_lt x y) hl (by rw [← hs]; exact h) w
set_option maxHeartbeats 4000000 in
theorem rmul (a b : Nat) (ha : a < big) (hb : b < big) (w : World) :
    Calls Try.prog 42 #[W a, W b] w fun e w' => e = .returned (.tuple #[W (mulV a b), .bool (mulB a b)]) ∧ Below w.heap.size w w' := by
  by_cases hxa : hi a = 0
  · have HX := Lib.hid hxa
    have t1 : (hi a != 0) = false := by simp [hxa]
    clear hxa
    go_enter Try.func42, Try.ntmps42
    go_upto_region 3 with (fail)
    have L : Row (((w.alloc (.cells (Wc a) 35)).alloc (.cells (Wc b) 35)).alloc (.cells #[.int .u64 0, .int .u64 0] 35)) (w.heap.size) 35 (Wc a) ∧ Row (((w.alloc (.cells (Wc a) 35)).alloc (.cells (Wc b) 35)).alloc (.cells #[.int .u64 0, .int .u64 0] 35)) (w.heap.size + 1) 35 (Wc b) ∧ Row (((w.alloc (.cells (Wc a) 35)).alloc (.cells (Wc b) 35)).alloc (.cells #[.int .u64 0, .int .u64 0] 35)) (w.heap.size + 1 + 1) 35 #[.int .u64 0, .int .u64 0] ∧ Below w.heap.size w (((w.alloc (.cells (Wc a) 35)).alloc (.cells (Wc b) 35)).alloc (.cells #[.int .u64 0, .int .u64 0] 35)) := by
      refine ⟨?_, ?_, ?_, ?_⟩
      · (repeat (first | assumption | (refine row_new ?_; (first | (simp; done) | omega)) | refine row_alloc ?_ _ | refine row_drew ?_ | refine row_call ?_ (by assumption)))
      · (repeat (first | assumption | (refine row_new ?_; (first | (simp; done) | omega)) | refine row_alloc ?_ _ | refine row_drew ?_ | refine row_call ?_ (by assumption)))
      · (repeat (first | assumption | (refine row_new ?_; (first | (simp; done) | omega)) | refine row_alloc ?_ _ | refine row_drew ?_ | refine row_call ?_ (by assumption)))
      · (repeat (first | exact Below.refl _ _ | refine Below.setCell ?_ (by first | (simp; done) | (simp; omega) | omega) _ | refine Below.alloc ?_ (by first | (simp; done) | (simp; omega) | omega) _ | refine Below.drew ?_ | refine Below.trans ?_ (Below.mono (by assumption) (by first | (simp; done) | (simp; omega) | omega))))
    generalize (((w.alloc (.cells (Wc a) 35)).alloc (.cells (Wc b) 35)).alloc (.cells #[.int .u64 0, .int .u64 0] 35)) = w2 at L ⊢
    have hw2 := row_lt L.2.2.1
    refine wp_region_free2 [0, 1, 2, 3, 4, 5, 6, 7, 8, 9] [] [0, 1, 2, 3, 4, 5, 6, 7, 8, 9, 10, 11] (10, 35, #[.int .u64 0, .int .u64 0]) (11, 35, #[.int .u64 0, .int .u64 0]) 6 7 12 (fun w' => Row w' (w.heap.size) 35 (Wc a) ∧ Row w' (w.heap.size + 1) 35 (Wc b) ∧ Row w' (w.heap.size + 1 + 1) 35 #[.int .u64 0, .int .u64 0] ∧ Below w.heap.size w w') (by kernel_rfl) (by kernel_rfl) ⟨_, _, rfl, rfl, rfl, fun ρ w' => by go_simp⟩ ⟨_, _, rfl, rfl, rfl, fun ρ w' => by go_simp⟩ rfl rfl (by simp) (by simp) (fun _ h => ⟨row_alloc h.1 _, row_alloc h.2.1 _, row_alloc h.2.2.1 _, h.2.2.2.alloc h.2.2.2.size _⟩) (fun _ h => ⟨row_alloc h.1 _, row_alloc h.2.1 _, row_alloc h.2.2.1 _, h.2.2.2.alloc h.2.2.2.size _⟩) (fun _ _ d _ _ h => by cases d <;> exact h) ?_ ?_
    · exact ⟨L.1, L.2.1, L.2.2.1, L.2.2.2.drew⟩
    (refine plan_pure ?_ rfl rfl (fun w' => ?_) ?_; rotate_left; (go_simp; try with_reducible rfl); simp only [Act.put, List.setIfInBounds_toArray, List.set_cons_zero, List.set_cons_succ])
    (refine plan_val ?_ rfl rfl rfl (fun w' hS => ?_) ?_; rotate_left; (obtain ⟨A00, A01, A02, A03⟩ := row_two hS.1; obtain ⟨A10, A11, A12, A13⟩ := row_two hS.2.1; obtain ⟨A20, A21, A22, A23⟩ := row_two hS.2.2.1; go_simp; try with_reducible rfl); simp only [Act.put, List.setIfInBounds_toArray, List.set_cons_zero, List.set_cons_succ])
    (refine plan_pure ?_ rfl rfl (fun w' => ?_) ?_; rotate_left; (go_simp; try with_reducible rfl); simp only [Act.put, List.setIfInBounds_toArray, List.set_cons_zero, List.set_cons_succ])
    (refine plan_val ?_ rfl rfl rfl (fun w' hS => ?_) ?_; rotate_left; (obtain ⟨A00, A01, A02, A03⟩ := row_two hS.1; obtain ⟨A10, A11, A12, A13⟩ := row_two hS.2.1; obtain ⟨A20, A21, A22, A23⟩ := row_two hS.2.2.1; go_simp; try with_reducible rfl); simp only [Act.put, List.setIfInBounds_toArray, List.set_cons_zero, List.set_cons_succ])
    refine plan_call (W (mhigh b a)) 54 #[.int .u64 (hi a), .int .u64 (lo b)] rfl rfl rfl (fun _ _ h hb => ⟨row_call h.1 hb, row_call h.2.1 hb, row_call h.2.2.1 hb, h.2.2.2.trans (hb.mono h.2.2.2.size)⟩) (fun w' hS => by obtain ⟨A00, A01, A02, A03⟩ := row_two hS.1; obtain ⟨A10, A11, A12, A13⟩ := row_two hS.2.1; obtain ⟨A20, A21, A22, A23⟩ := row_two hS.2.2.1; go_simp) (fun w' hS => rprod_hl a b ha w') ?_
    simp only [Act.put, List.setIfInBounds_toArray, List.set_cons_zero, List.set_cons_succ]
    (refine plan_pure ?_ rfl rfl (fun w' => ?_) ?_; rotate_left; (go_simp; try with_reducible rfl); simp only [Act.put, List.setIfInBounds_toArray, List.set_cons_zero, List.set_cons_succ])
    (refine plan_val ?_ rfl rfl rfl (fun w' hS => ?_) ?_; rotate_left; (obtain ⟨A00, A01, A02, A03⟩ := row_two hS.1; obtain ⟨A10, A11, A12, A13⟩ := row_two hS.2.1; obtain ⟨A20, A21, A22, A23⟩ := row_two hS.2.2.1; go_simp; try with_reducible rfl); simp only [Act.put, List.setIfInBounds_toArray, List.set_cons_zero, List.set_cons_succ])
    (refine plan_pure ?_ rfl rfl (fun w' => ?_) ?_; rotate_left; (go_simp; try with_reducible rfl); simp only [Act.put, List.setIfInBounds_toArray, List.set_cons_zero, List.set_cons_succ])
    (refine plan_val ?_ rfl rfl rfl (fun w' hS => ?_) ?_; rotate_left; (obtain ⟨A00, A01, A02, A03⟩ := row_two hS.1; obtain ⟨A10, A11, A12, A13⟩ := row_two hS.2.1; obtain ⟨A20, A21, A22, A23⟩ := row_two hS.2.2.1; go_simp; try with_reducible rfl); simp only [Act.put, List.setIfInBounds_toArray, List.set_cons_zero, List.set_cons_succ])
    refine plan_call (W (mhigh a b)) 54 #[.int .u64 (lo a), .int .u64 (hi b)] rfl rfl rfl (fun _ _ h hb => ⟨row_call h.1 hb, row_call h.2.1 hb, row_call h.2.2.1 hb, h.2.2.2.trans (hb.mono h.2.2.2.size)⟩) (fun w' hS => by obtain ⟨A00, A01, A02, A03⟩ := row_two hS.1; obtain ⟨A10, A11, A12, A13⟩ := row_two hS.2.1; obtain ⟨A20, A21, A22, A23⟩ := row_two hS.2.2.1; go_simp) (fun w' hS => rprod_lh a b hb w') ?_
    simp only [Act.put, List.setIfInBounds_toArray, List.set_cons_zero, List.set_cons_succ]
    refine plan_nil ?_
    intro g k w3 L3 Rg Rk hgk hg hk
    simp only [List.drop_succ_cons, List.drop_zero]
    try simp only [Act.put, List.setIfInBounds_toArray, List.set_cons_zero, List.set_cons_succ]
    obtain ⟨G0, G1, G2, G3⟩ := row_two Rg
    obtain ⟨K0, K1, K2, K3⟩ := row_two Rk
    go_upto_region 4 with (fail)
    have M : Row ((((w3.setCell ⟨g, 0, none⟩ (.int .u64 (hi (mhigh b a)))).setCell ⟨g, 1, none⟩ (.int .u64 (lo (mhigh b a)))).setCell ⟨k, 0, none⟩ (.int .u64 (hi (mhigh a b)))).setCell ⟨k, 1, none⟩ (.int .u64 (lo (mhigh a b)))) (w.heap.size) 35 (Wc a) ∧ Row ((((w3.setCell ⟨g, 0, none⟩ (.int .u64 (hi (mhigh b a)))).setCell ⟨g, 1, none⟩ (.int .u64 (lo (mhigh b a)))).setCell ⟨k, 0, none⟩ (.int .u64 (hi (mhigh a b)))).setCell ⟨k, 1, none⟩ (.int .u64 (lo (mhigh a b)))) (w.heap.size + 1) 35 (Wc b) ∧ Row ((((w3.setCell ⟨g, 0, none⟩ (.int .u64 (hi (mhigh b a)))).setCell ⟨g, 1, none⟩ (.int .u64 (lo (mhigh b a)))).setCell ⟨k, 0, none⟩ (.int .u64 (hi (mhigh a b)))).setCell ⟨k, 1, none⟩ (.int .u64 (lo (mhigh a b)))) (w.heap.size + 1 + 1) 35 #[.int .u64 0, .int .u64 0] ∧ Row ((((w3.setCell ⟨g, 0, none⟩ (.int .u64 (hi (mhigh b a)))).setCell ⟨g, 1, none⟩ (.int .u64 (lo (mhigh b a)))).setCell ⟨k, 0, none⟩ (.int .u64 (hi (mhigh a b)))).setCell ⟨k, 1, none⟩ (.int .u64 (lo (mhigh a b)))) (g) 35 (Wc (mhigh b a)) ∧ Row ((((w3.setCell ⟨g, 0, none⟩ (.int .u64 (hi (mhigh b a)))).setCell ⟨g, 1, none⟩ (.int .u64 (lo (mhigh b a)))).setCell ⟨k, 0, none⟩ (.int .u64 (hi (mhigh a b)))).setCell ⟨k, 1, none⟩ (.int .u64 (lo (mhigh a b)))) (k) 35 (Wc (mhigh a b)) ∧ Below w.heap.size w ((((w3.setCell ⟨g, 0, none⟩ (.int .u64 (hi (mhigh b a)))).setCell ⟨g, 1, none⟩ (.int .u64 (lo (mhigh b a)))).setCell ⟨k, 0, none⟩ (.int .u64 (hi (mhigh a b)))).setCell ⟨k, 1, none⟩ (.int .u64 (lo (mhigh a b)))) :=
      ⟨row_two_other (row_two_other L3.1 (by omega)) (by omega), row_two_other (row_two_other L3.2.1 (by omega)) (by omega), row_two_other (row_two_other L3.2.2.1 (by omega)) (by omega), row_two_other (row_two_set Rg) hgk, row_two_set (row_two_other Rk (Ne.symm hgk)),
        (((L3.2.2.2.setCell (p := ⟨g, 0, none⟩) (show w.heap.size ≤ g by omega) _).setCell (p := ⟨g, 1, none⟩) (show w.heap.size ≤ g by omega) _).setCell (p := ⟨k, 0, none⟩) (show w.heap.size ≤ k by omega) _).setCell (p := ⟨k, 1, none⟩) (show w.heap.size ≤ k by omega) _⟩
    generalize (((w3.setCell ⟨g, 0, none⟩ (.int .u64 (hi (mhigh b a)))).setCell ⟨g, 1, none⟩ (.int .u64 (lo (mhigh b a)))).setCell ⟨k, 0, none⟩ (.int .u64 (hi (mhigh a b)))).setCell ⟨k, 1, none⟩ (.int .u64 (lo (mhigh a b))) = w5 at M ⊢
    clear L L3 Rg Rk G0 G1 G2 G3 K0 K1 K2 K3
    have zz := HX.out
    have ZH : hi (mhigh b a) = 0 := by rw [mhigh_zero zz]; exact hi_0
    have ZL : lo (mhigh b a) = 0 := by rw [mhigh_zero zz]; exact lo_0
    clear zz
    obtain ⟨bl0, bl1⟩ := lo_word (mhigh a b)
    have WR := wrap_word (lo_word (mhigh a b))
    obtain ⟨M00, M01, M02, M03⟩ := row_two M.1; obtain ⟨M10, M11, M12, M13⟩ := row_two M.2.1; obtain ⟨M20, M21, M22, M23⟩ := row_two M.2.2.1; obtain ⟨M30, M31, M32, M33⟩ := row_two M.2.2.2.1; obtain ⟨M40, M41, M42, M43⟩ := row_two M.2.2.2.2.1
    have z5 := M.2.2.2.2.2.size
    have B5 := M.2.2.2.2.2
    by_cases hh : hi (mhigh a b) = 0
    · have HA := Lib.hid (fun w' => radd_high a b HX.out hb hh w')
      have tst : (hi (mhigh a b) != 0) = false := by simp [hh]
      clear hh
      go_upto_region 6 with (fail)
      clear M00 M01 M02 M03 M10 M11 M12 M13 M20 M21 M22 M23 M30 M31 M32 M33 M40 M41 M42 M43
      refine wp_region_free0 [0, 1, 2, 3, 4, 5, 6, 7, 8, 9, 10, 11, 12, 13] [] [0, 1, 2, 3, 4, 5, 6, 7, 8, 9, 10, 11, 12, 13] 14 (fun w' => Row w' (w.heap.size) 35 (Wc a) ∧ Row w' (w.heap.size + 1) 35 (Wc b) ∧ Row w' (w.heap.size + 1 + 1) 35 #[.int .u64 0, .int .u64 0] ∧ Row w' (g) 35 (Wc (mhigh b a)) ∧ Row w' (k) 35 (Wc (mhigh a b)) ∧ Below w.heap.size w w') (by kernel_rfl) (by kernel_rfl) (fun _ _ d _ _ h => by cases d <;> exact h) ?_ ?_
      · exact ⟨M.1, M.2.1, M.2.2.1, M.2.2.2.1, M.2.2.2.2.1, M.2.2.2.2.2.drew⟩
      (refine plan_pure ?_ rfl rfl (fun w' => ?_) ?_; rotate_left; (go_simp; try with_reducible rfl); simp only [Act.put, List.setIfInBounds_toArray, List.set_cons_zero, List.set_cons_succ])
      (refine plan_val ?_ rfl rfl rfl (fun w' hS => ?_) ?_; rotate_left; (obtain ⟨A00, A01, A02, A03⟩ := row_two hS.1; obtain ⟨A10, A11, A12, A13⟩ := row_two hS.2.1; obtain ⟨A20, A21, A22, A23⟩ := row_two hS.2.2.1; obtain ⟨A30, A31, A32, A33⟩ := row_two hS.2.2.2.1; obtain ⟨A40, A41, A42, A43⟩ := row_two hS.2.2.2.2.1; go_simp; try with_reducible rfl); simp only [Act.put, List.setIfInBounds_toArray, List.set_cons_zero, List.set_cons_succ])
      (refine plan_pure ?_ rfl rfl (fun w' => ?_) ?_; rotate_left; (go_simp; try with_reducible rfl); simp only [Act.put, List.setIfInBounds_toArray, List.set_cons_zero, List.set_cons_succ])
      (refine plan_val ?_ rfl rfl rfl (fun w' hS => ?_) ?_; rotate_left; (obtain ⟨A00, A01, A02, A03⟩ := row_two hS.1; obtain ⟨A10, A11, A12, A13⟩ := row_two hS.2.1; obtain ⟨A20, A21, A22, A23⟩ := row_two hS.2.2.1; obtain ⟨A30, A31, A32, A33⟩ := row_two hS.2.2.2.1; obtain ⟨A40, A41, A42, A43⟩ := row_two hS.2.2.2.2.1; go_simp; try with_reducible rfl); simp only [Act.put, List.setIfInBounds_toArray, List.set_cons_zero, List.set_cons_succ])
      refine plan_call (W (mlow a b)) 54 #[.int .u64 (lo a), .int .u64 (lo b)] rfl rfl rfl (fun _ _ h hb => ⟨row_call h.1 hb, row_call h.2.1 hb, row_call h.2.2.1 hb, row_call h.2.2.2.1 hb, row_call h.2.2.2.2.1 hb, h.2.2.2.2.2.trans (hb.mono h.2.2.2.2.2.size)⟩) (fun w' hS => by obtain ⟨A00, A01, A02, A03⟩ := row_two hS.1; obtain ⟨A10, A11, A12, A13⟩ := row_two hS.2.1; obtain ⟨A20, A21, A22, A23⟩ := row_two hS.2.2.1; obtain ⟨A30, A31, A32, A33⟩ := row_two hS.2.2.2.1; obtain ⟨A40, A41, A42, A43⟩ := row_two hS.2.2.2.2.1; go_simp) (fun w' hS => rprod_ll a b w') ?_
      simp only [Act.put, List.setIfInBounds_toArray, List.set_cons_zero, List.set_cons_succ]
      (refine plan_pure ?_ rfl rfl (fun w' => ?_) ?_; rotate_left; (go_simp; try with_reducible rfl); simp only [Act.put, List.setIfInBounds_toArray, List.set_cons_zero, List.set_cons_succ])
      (refine plan_val ?_ rfl rfl rfl (fun w' hS => ?_) ?_; rotate_left; (obtain ⟨A00, A01, A02, A03⟩ := row_two hS.1; obtain ⟨A10, A11, A12, A13⟩ := row_two hS.2.1; obtain ⟨A20, A21, A22, A23⟩ := row_two hS.2.2.1; obtain ⟨A30, A31, A32, A33⟩ := row_two hS.2.2.2.1; obtain ⟨A40, A41, A42, A43⟩ := row_two hS.2.2.2.2.1; go_simp; try with_reducible rfl); simp only [Act.put, List.setIfInBounds_toArray, List.set_cons_zero, List.set_cons_succ])
      (refine plan_pure ?_ rfl rfl (fun w' => ?_) ?_; rotate_left; (go_simp; try with_reducible rfl); simp only [Act.put, List.setIfInBounds_toArray, List.set_cons_zero, List.set_cons_succ])
      (refine plan_val ?_ rfl rfl rfl (fun w' hS => ?_) ?_; rotate_left; (obtain ⟨A00, A01, A02, A03⟩ := row_two hS.1; obtain ⟨A10, A11, A12, A13⟩ := row_two hS.2.1; obtain ⟨A20, A21, A22, A23⟩ := row_two hS.2.2.1; obtain ⟨A30, A31, A32, A33⟩ := row_two hS.2.2.2.1; obtain ⟨A40, A41, A42, A43⟩ := row_two hS.2.2.2.2.1; go_simp; try with_reducible rfl); simp only [Act.put, List.setIfInBounds_toArray, List.set_cons_zero, List.set_cons_succ])
      (refine plan_pure ?_ rfl rfl (fun w' => ?_) ?_; rotate_left; (go_simp; try with_reducible rfl); simp only [Act.put, List.setIfInBounds_toArray, List.set_cons_zero, List.set_cons_succ])
      (refine plan_pure ?_ rfl rfl (fun w' => ?_) ?_; rotate_left; (go_simp; try with_reducible rfl); simp only [Act.put, List.setIfInBounds_toArray, List.set_cons_zero, List.set_cons_succ])
      refine plan_call (.tuple #[W (mulV a b), .bool (mulB a b)]) 48 #[W (mlow a b), .agg #[.int .u64 (lo (mhigh a b)), .int .u64 0]] rfl rfl rfl (fun _ _ h hb => ⟨row_call h.1 hb, row_call h.2.1 hb, row_call h.2.2.1 hb, row_call h.2.2.2.1 hb, row_call h.2.2.2.2.1 hb, h.2.2.2.2.2.trans (hb.mono h.2.2.2.2.2.size)⟩) (fun w' hS => by obtain ⟨A00, A01, A02, A03⟩ := row_two hS.1; obtain ⟨A10, A11, A12, A13⟩ := row_two hS.2.1; obtain ⟨A20, A21, A22, A23⟩ := row_two hS.2.2.1; obtain ⟨A30, A31, A32, A33⟩ := row_two hS.2.2.2.1; obtain ⟨A40, A41, A42, A43⟩ := row_two hS.2.2.2.2.1; go_simp) (fun w' hS => HA.out w') ?_
      simp only [Act.put, List.setIfInBounds_toArray, List.set_cons_zero, List.set_cons_succ]
      (refine plan_pure ?_ rfl rfl (fun w' => ?_) ?_; rotate_left; (go_simp; try with_reducible rfl); simp only [Act.put, List.setIfInBounds_toArray, List.set_cons_zero, List.set_cons_succ])
      (refine plan_pure ?_ rfl rfl (fun w' => ?_) ?_; rotate_left; (go_simp; try with_reducible rfl); simp only [Act.put, List.setIfInBounds_toArray, List.set_cons_zero, List.set_cons_succ])
      refine plan_nil ?_
      intro w6 L6
      simp only [List.drop_succ_cons, List.drop_zero]
      try simp only [Act.put, List.setIfInBounds_toArray, List.set_cons_zero, List.set_cons_succ]
      obtain ⟨N00, N01, N02, N03⟩ := row_two L6.1; obtain ⟨N10, N11, N12, N13⟩ := row_two L6.2.1; obtain ⟨N20, N21, N22, N23⟩ := row_two L6.2.2.1; obtain ⟨N30, N31, N32, N33⟩ := row_two L6.2.2.2.1; obtain ⟨N40, N41, N42, N43⟩ := row_two L6.2.2.2.2.1
      have B6 := L6.2.2.2.2.2
      clear M B5
      go_wp2
      simp [bodyPost, results, Try.results42, go_sem, N20, N21]
      (repeat (first | exact Below.refl _ _ | refine Below.setCell ?_ (by first | (simp; done) | (simp; omega) | omega) _ | refine Below.alloc ?_ (by first | (simp; done) | (simp; omega) | omega) _ | refine Below.drew ?_ | refine Below.trans ?_ (Below.mono (by assumption) (by first | (simp; done) | (simp; omega) | omega))))
    · obtain ⟨v1, v2⟩ := mulV_no (mul_high HX.out hh)
      have HV := Lib.hid (And.intro v1 v2)
      have tst : (hi (mhigh a b) != 0) = true := by simp [hh]
      clear v1 v2 hh
      go_wp2
      simp [bodyPost, results, Try.results42, go_sem, M20, M21, HV.out.1, HV.out.2]
      first | (refine ⟨⟨rfl, rfl⟩, ?_⟩; (repeat (first | exact Below.refl _ _ | refine Below.setCell ?_ (by first | (simp; done) | (simp; omega) | omega) _ | refine Below.alloc ?_ (by first | (simp; done) | (simp; omega) | omega) _ | refine Below.drew ?_ | refine Below.trans ?_ (Below.mono (by assumption) (by first | (simp; done) | (simp; omega) | omega))))) | (repeat (first | exact Below.refl _ _ | refine Below.setCell ?_ (by first | (simp; done) | (simp; omega) | omega) _ | refine Below.alloc ?_ (by first | (simp; done) | (simp; omega) | omega) _ | refine Below.drew ?_ | refine Below.trans ?_ (Below.mono (by assumption) (by first | (simp; done) | (simp; omega) | omega))))
  · by_cases hxb : hi b = 0
    · have HX := Lib.hid hxb
      have t1 : (hi a != 0) = true := by simp [hxa]
      have t2 : (hi b != 0) = false := by simp [hxb]
      clear hxa hxb
      obtain ⟨c1, c2⟩ := mul_comm' a b
      rw [c1, c2]
      clear c1 c2
      go_enter Try.func42, Try.ntmps42
      go_upto_region 3 with (fail)
      have L : Row (((w.alloc (.cells (Wc a) 35)).alloc (.cells (Wc b) 35)).alloc (.cells #[.int .u64 0, .int .u64 0] 35)) (w.heap.size) 35 (Wc a) ∧ Row (((w.alloc (.cells (Wc a) 35)).alloc (.cells (Wc b) 35)).alloc (.cells #[.int .u64 0, .int .u64 0] 35)) (w.heap.size + 1) 35 (Wc b) ∧ Row (((w.alloc (.cells (Wc a) 35)).alloc (.cells (Wc b) 35)).alloc (.cells #[.int .u64 0, .int .u64 0] 35)) (w.heap.size + 1 + 1) 35 #[.int .u64 0, .int .u64 0] ∧ Below w.heap.size w (((w.alloc (.cells (Wc a) 35)).alloc (.cells (Wc b) 35)).alloc (.cells #[.int .u64 0, .int .u64 0] 35)) := by
        refine ⟨?_, ?_, ?_, ?_⟩
        · (repeat (first | assumption | (refine row_new ?_; (first | (simp; done) | omega)) | refine row_alloc ?_ _ | refine row_drew ?_ | refine row_call ?_ (by assumption)))
        · (repeat (first | assumption | (refine row_new ?_; (first | (simp; done) | omega)) | refine row_alloc ?_ _ | refine row_drew ?_ | refine row_call ?_ (by assumption)))
        · (repeat (first | assumption | (refine row_new ?_; (first | (simp; done) | omega)) | refine row_alloc ?_ _ | refine row_drew ?_ | refine row_call ?_ (by assumption)))
        · (repeat (first | exact Below.refl _ _ | refine Below.setCell ?_ (by first | (simp; done) | (simp; omega) | omega) _ | refine Below.alloc ?_ (by first | (simp; done) | (simp; omega) | omega) _ | refine Below.drew ?_ | refine Below.trans ?_ (Below.mono (by assumption) (by first | (simp; done) | (simp; omega) | omega))))
      generalize (((w.alloc (.cells (Wc a) 35)).alloc (.cells (Wc b) 35)).alloc (.cells #[.int .u64 0, .int .u64 0] 35)) = w2 at L ⊢
      have hw2 := row_lt L.2.2.1
      refine wp_region_free2 [0, 1, 2, 3, 4, 5, 6, 7, 8, 9] [] [0, 1, 2, 3, 4, 5, 6, 7, 8, 9, 10, 11] (10, 35, #[.int .u64 0, .int .u64 0]) (11, 35, #[.int .u64 0, .int .u64 0]) 6 7 12 (fun w' => Row w' (w.heap.size) 35 (Wc a) ∧ Row w' (w.heap.size + 1) 35 (Wc b) ∧ Row w' (w.heap.size + 1 + 1) 35 #[.int .u64 0, .int .u64 0] ∧ Below w.heap.size w w') (by kernel_rfl) (by kernel_rfl) ⟨_, _, rfl, rfl, rfl, fun ρ w' => by go_simp⟩ ⟨_, _, rfl, rfl, rfl, fun ρ w' => by go_simp⟩ rfl rfl (by simp) (by simp) (fun _ h => ⟨row_alloc h.1 _, row_alloc h.2.1 _, row_alloc h.2.2.1 _, h.2.2.2.alloc h.2.2.2.size _⟩) (fun _ h => ⟨row_alloc h.1 _, row_alloc h.2.1 _, row_alloc h.2.2.1 _, h.2.2.2.alloc h.2.2.2.size _⟩) (fun _ _ d _ _ h => by cases d <;> exact h) ?_ ?_
      · exact ⟨L.1, L.2.1, L.2.2.1, L.2.2.2.drew⟩
      (refine plan_pure ?_ rfl rfl (fun w' => ?_) ?_; rotate_left; (go_simp; try with_reducible rfl); simp only [Act.put, List.setIfInBounds_toArray, List.set_cons_zero, List.set_cons_succ])
      (refine plan_val ?_ rfl rfl rfl (fun w' hS => ?_) ?_; rotate_left; (obtain ⟨A00, A01, A02, A03⟩ := row_two hS.1; obtain ⟨A10, A11, A12, A13⟩ := row_two hS.2.1; obtain ⟨A20, A21, A22, A23⟩ := row_two hS.2.2.1; go_simp; try with_reducible rfl); simp only [Act.put, List.setIfInBounds_toArray, List.set_cons_zero, List.set_cons_succ])
      (refine plan_pure ?_ rfl rfl (fun w' => ?_) ?_; rotate_left; (go_simp; try with_reducible rfl); simp only [Act.put, List.setIfInBounds_toArray, List.set_cons_zero, List.set_cons_succ])
      (refine plan_val ?_ rfl rfl rfl (fun w' hS => ?_) ?_; rotate_left; (obtain ⟨A00, A01, A02, A03⟩ := row_two hS.1; obtain ⟨A10, A11, A12, A13⟩ := row_two hS.2.1; obtain ⟨A20, A21, A22, A23⟩ := row_two hS.2.2.1; go_simp; try with_reducible rfl); simp only [Act.put, List.setIfInBounds_toArray, List.set_cons_zero, List.set_cons_succ])
      refine plan_call (W (mhigh b a)) 54 #[.int .u64 (hi a), .int .u64 (lo b)] rfl rfl rfl (fun _ _ h hb => ⟨row_call h.1 hb, row_call h.2.1 hb, row_call h.2.2.1 hb, h.2.2.2.trans (hb.mono h.2.2.2.size)⟩) (fun w' hS => by obtain ⟨A00, A01, A02, A03⟩ := row_two hS.1; obtain ⟨A10, A11, A12, A13⟩ := row_two hS.2.1; obtain ⟨A20, A21, A22, A23⟩ := row_two hS.2.2.1; go_simp) (fun w' hS => rprod_hl a b ha w') ?_
      simp only [Act.put, List.setIfInBounds_toArray, List.set_cons_zero, List.set_cons_succ]
      (refine plan_pure ?_ rfl rfl (fun w' => ?_) ?_; rotate_left; (go_simp; try with_reducible rfl); simp only [Act.put, List.setIfInBounds_toArray, List.set_cons_zero, List.set_cons_succ])
      (refine plan_val ?_ rfl rfl rfl (fun w' hS => ?_) ?_; rotate_left; (obtain ⟨A00, A01, A02, A03⟩ := row_two hS.1; obtain ⟨A10, A11, A12, A13⟩ := row_two hS.2.1; obtain ⟨A20, A21, A22, A23⟩ := row_two hS.2.2.1; go_simp; try with_reducible rfl); simp only [Act.put, List.setIfInBounds_toArray, List.set_cons_zero, List.set_cons_succ])
      (refine plan_pure ?_ rfl rfl (fun w' => ?_) ?_; rotate_left; (go_simp; try with_reducible rfl); simp only [Act.put, List.setIfInBounds_toArray, List.set_cons_zero, List.set_cons_succ])
      (refine plan_val ?_ rfl rfl rfl (fun w' hS => ?_) ?_; rotate_left; (obtain ⟨A00, A01, A02, A03⟩ := row_two hS.1; obtain ⟨A10, A11, A12, A13⟩ := row_two hS.2.1; obtain ⟨A20, A21, A22, A23⟩ := row_two hS.2.2.1; go_simp; try with_reducible rfl); simp only [Act.put, List.setIfInBounds_toArray, List.set_cons_zero, List.set_cons_succ])
      refine plan_call (W (mhigh a b)) 54 #[.int .u64 (lo a), .int .u64 (hi b)] rfl rfl rfl (fun _ _ h hb => ⟨row_call h.1 hb, row_call h.2.1 hb, row_call h.2.2.1 hb, h.2.2.2.trans (hb.mono h.2.2.2.size)⟩) (fun w' hS => by obtain ⟨A00, A01, A02, A03⟩ := row_two hS.1; obtain ⟨A10, A11, A12, A13⟩ := row_two hS.2.1; obtain ⟨A20, A21, A22, A23⟩ := row_two hS.2.2.1; go_simp) (fun w' hS => rprod_lh a b hb w') ?_
      simp only [Act.put, List.setIfInBounds_toArray, List.set_cons_zero, List.set_cons_succ]
      refine plan_nil ?_
      intro g k w3 L3 Rg Rk hgk hg hk
      simp only [List.drop_succ_cons, List.drop_zero]
      try simp only [Act.put, List.setIfInBounds_toArray, List.set_cons_zero, List.set_cons_succ]
      obtain ⟨G0, G1, G2, G3⟩ := row_two Rg
      obtain ⟨K0, K1, K2, K3⟩ := row_two Rk
      go_upto_region 4 with (fail)
      have M : Row ((((w3.setCell ⟨g, 0, none⟩ (.int .u64 (hi (mhigh b a)))).setCell ⟨g, 1, none⟩ (.int .u64 (lo (mhigh b a)))).setCell ⟨k, 0, none⟩ (.int .u64 (hi (mhigh a b)))).setCell ⟨k, 1, none⟩ (.int .u64 (lo (mhigh a b)))) (w.heap.size) 35 (Wc a) ∧ Row ((((w3.setCell ⟨g, 0, none⟩ (.int .u64 (hi (mhigh b a)))).setCell ⟨g, 1, none⟩ (.int .u64 (lo (mhigh b a)))).setCell ⟨k, 0, none⟩ (.int .u64 (hi (mhigh a b)))).setCell ⟨k, 1, none⟩ (.int .u64 (lo (mhigh a b)))) (w.heap.size + 1) 35 (Wc b) ∧ Row ((((w3.setCell ⟨g, 0, none⟩ (.int .u64 (hi (mhigh b a)))).setCell ⟨g, 1, none⟩ (.int .u64 (lo (mhigh b a)))).setCell ⟨k, 0, none⟩ (.int .u64 (hi (mhigh a b)))).setCell ⟨k, 1, none⟩ (.int .u64 (lo (mhigh a b)))) (w.heap.size + 1 + 1) 35 #[.int .u64 0, .int .u64 0] ∧ Row ((((w3.setCell ⟨g, 0, none⟩ (.int .u64 (hi (mhigh b a)))).setCell ⟨g, 1, none⟩ (.int .u64 (lo (mhigh b a)))).setCell ⟨k, 0, none⟩ (.int .u64 (hi (mhigh a b)))).setCell ⟨k, 1, none⟩ (.int .u64 (lo (mhigh a b)))) (g) 35 (Wc (mhigh b a)) ∧ Row ((((w3.setCell ⟨g, 0, none⟩ (.int .u64 (hi (mhigh b a)))).setCell ⟨g, 1, none⟩ (.int .u64 (lo (mhigh b a)))).setCell ⟨k, 0, none⟩ (.int .u64 (hi (mhigh a b)))).setCell ⟨k, 1, none⟩ (.int .u64 (lo (mhigh a b)))) (k) 35 (Wc (mhigh a b)) ∧ Below w.heap.size w ((((w3.setCell ⟨g, 0, none⟩ (.int .u64 (hi (mhigh b a)))).setCell ⟨g, 1, none⟩ (.int .u64 (lo (mhigh b a)))).setCell ⟨k, 0, none⟩ (.int .u64 (hi (mhigh a b)))).setCell ⟨k, 1, none⟩ (.int .u64 (lo (mhigh a b)))) :=
        ⟨row_two_other (row_two_other L3.1 (by omega)) (by omega), row_two_other (row_two_other L3.2.1 (by omega)) (by omega), row_two_other (row_two_other L3.2.2.1 (by omega)) (by omega), row_two_other (row_two_set Rg) hgk, row_two_set (row_two_other Rk (Ne.symm hgk)),
          (((L3.2.2.2.setCell (p := ⟨g, 0, none⟩) (show w.heap.size ≤ g by omega) _).setCell (p := ⟨g, 1, none⟩) (show w.heap.size ≤ g by omega) _).setCell (p := ⟨k, 0, none⟩) (show w.heap.size ≤ k by omega) _).setCell (p := ⟨k, 1, none⟩) (show w.heap.size ≤ k by omega) _⟩
      generalize (((w3.setCell ⟨g, 0, none⟩ (.int .u64 (hi (mhigh b a)))).setCell ⟨g, 1, none⟩ (.int .u64 (lo (mhigh b a)))).setCell ⟨k, 0, none⟩ (.int .u64 (hi (mhigh a b)))).setCell ⟨k, 1, none⟩ (.int .u64 (lo (mhigh a b))) = w5 at M ⊢
      clear L L3 Rg Rk G0 G1 G2 G3 K0 K1 K2 K3
      have zz := HX.out
      have ZH : hi (mhigh a b) = 0 := by rw [mhigh_zero zz]; exact hi_0
      have ZL : lo (mhigh a b) = 0 := by rw [mhigh_zero zz]; exact lo_0
      clear zz
      obtain ⟨bl0, bl1⟩ := lo_word (mhigh b a)
      have WR := wrap_word (lo_word (mhigh b a))
      obtain ⟨M00, M01, M02, M03⟩ := row_two M.1; obtain ⟨M10, M11, M12, M13⟩ := row_two M.2.1; obtain ⟨M20, M21, M22, M23⟩ := row_two M.2.2.1; obtain ⟨M30, M31, M32, M33⟩ := row_two M.2.2.2.1; obtain ⟨M40, M41, M42, M43⟩ := row_two M.2.2.2.2.1
      have z5 := M.2.2.2.2.2.size
      have B5 := M.2.2.2.2.2
      by_cases hh : hi (mhigh b a) = 0
      · have HA := Lib.hid (fun w' => radd_high b a HX.out ha hh w')
        have tst : (hi (mhigh b a) != 0) = false := by simp [hh]
        clear hh
        go_upto_region 6 with (fail)
        clear M00 M01 M02 M03 M10 M11 M12 M13 M20 M21 M22 M23 M30 M31 M32 M33 M40 M41 M42 M43
        refine wp_region_free0 [0, 1, 2, 3, 4, 5, 6, 7, 8, 9, 10, 11, 12, 13] [] [0, 1, 2, 3, 4, 5, 6, 7, 8, 9, 10, 11, 12, 13] 14 (fun w' => Row w' (w.heap.size) 35 (Wc a) ∧ Row w' (w.heap.size + 1) 35 (Wc b) ∧ Row w' (w.heap.size + 1 + 1) 35 #[.int .u64 0, .int .u64 0] ∧ Row w' (g) 35 (Wc (mhigh b a)) ∧ Row w' (k) 35 (Wc (mhigh a b)) ∧ Below w.heap.size w w') (by kernel_rfl) (by kernel_rfl) (fun _ _ d _ _ h => by cases d <;> exact h) ?_ ?_
        · exact ⟨M.1, M.2.1, M.2.2.1, M.2.2.2.1, M.2.2.2.2.1, M.2.2.2.2.2.drew⟩
        (refine plan_pure ?_ rfl rfl (fun w' => ?_) ?_; rotate_left; (go_simp; try with_reducible rfl); simp only [Act.put, List.setIfInBounds_toArray, List.set_cons_zero, List.set_cons_succ])
        (refine plan_val ?_ rfl rfl rfl (fun w' hS => ?_) ?_; rotate_left; (obtain ⟨A00, A01, A02, A03⟩ := row_two hS.1; obtain ⟨A10, A11, A12, A13⟩ := row_two hS.2.1; obtain ⟨A20, A21, A22, A23⟩ := row_two hS.2.2.1; obtain ⟨A30, A31, A32, A33⟩ := row_two hS.2.2.2.1; obtain ⟨A40, A41, A42, A43⟩ := row_two hS.2.2.2.2.1; go_simp; try with_reducible rfl); simp only [Act.put, List.setIfInBounds_toArray, List.set_cons_zero, List.set_cons_succ])
        (refine plan_pure ?_ rfl rfl (fun w' => ?_) ?_; rotate_left; (go_simp; try with_reducible rfl); simp only [Act.put, List.setIfInBounds_toArray, List.set_cons_zero, List.set_cons_succ])
        (refine plan_val ?_ rfl rfl rfl (fun w' hS => ?_) ?_; rotate_left; (obtain ⟨A00, A01, A02, A03⟩ := row_two hS.1; obtain ⟨A10, A11, A12, A13⟩ := row_two hS.2.1; obtain ⟨A20, A21, A22, A23⟩ := row_two hS.2.2.1; obtain ⟨A30, A31, A32, A33⟩ := row_two hS.2.2.2.1; obtain ⟨A40, A41, A42, A43⟩ := row_two hS.2.2.2.2.1; go_simp; try with_reducible rfl); simp only [Act.put, List.setIfInBounds_toArray, List.set_cons_zero, List.set_cons_succ])
        refine plan_call (W (mlow b a)) 54 #[.int .u64 (lo a), .int .u64 (lo b)] rfl rfl rfl (fun _ _ h hb => ⟨row_call h.1 hb, row_call h.2.1 hb, row_call h.2.2.1 hb, row_call h.2.2.2.1 hb, row_call h.2.2.2.2.1 hb, h.2.2.2.2.2.trans (hb.mono h.2.2.2.2.2.size)⟩) (fun w' hS => by obtain ⟨A00, A01, A02, A03⟩ := row_two hS.1; obtain ⟨A10, A11, A12, A13⟩ := row_two hS.2.1; obtain ⟨A20, A21, A22, A23⟩ := row_two hS.2.2.1; obtain ⟨A30, A31, A32, A33⟩ := row_two hS.2.2.2.1; obtain ⟨A40, A41, A42, A43⟩ := row_two hS.2.2.2.2.1; go_simp) (fun w' hS => (by rw [mlow_comm]; exact rprod_ll a b w')) ?_
        simp only [Act.put, List.setIfInBounds_toArray, List.set_cons_zero, List.set_cons_succ]
        (refine plan_pure ?_ rfl rfl (fun w' => ?_) ?_; rotate_left; (go_simp; try with_reducible rfl); simp only [Act.put, List.setIfInBounds_toArray, List.set_cons_zero, List.set_cons_succ])
        (refine plan_val ?_ rfl rfl rfl (fun w' hS => ?_) ?_; rotate_left; (obtain ⟨A00, A01, A02, A03⟩ := row_two hS.1; obtain ⟨A10, A11, A12, A13⟩ := row_two hS.2.1; obtain ⟨A20, A21, A22, A23⟩ := row_two hS.2.2.1; obtain ⟨A30, A31, A32, A33⟩ := row_two hS.2.2.2.1; obtain ⟨A40, A41, A42, A43⟩ := row_two hS.2.2.2.2.1; go_simp; try with_reducible rfl); simp only [Act.put, List.setIfInBounds_toArray, List.set_cons_zero, List.set_cons_succ])
        (refine plan_pure ?_ rfl rfl (fun w' => ?_) ?_; rotate_left; (go_simp; try with_reducible rfl); simp only [Act.put, List.setIfInBounds_toArray, List.set_cons_zero, List.set_cons_succ])
        (refine plan_val ?_ rfl rfl rfl (fun w' hS => ?_) ?_; rotate_left; (obtain ⟨A00, A01, A02, A03⟩ := row_two hS.1; obtain ⟨A10, A11, A12, A13⟩ := row_two hS.2.1; obtain ⟨A20, A21, A22, A23⟩ := row_two hS.2.2.1; obtain ⟨A30, A31, A32, A33⟩ := row_two hS.2.2.2.1; obtain ⟨A40, A41, A42, A43⟩ := row_two hS.2.2.2.2.1; go_simp; try with_reducible rfl); simp only [Act.put, List.setIfInBounds_toArray, List.set_cons_zero, List.set_cons_succ])
        (refine plan_pure ?_ rfl rfl (fun w' => ?_) ?_; rotate_left; (go_simp; try with_reducible rfl); simp only [Act.put, List.setIfInBounds_toArray, List.set_cons_zero, List.set_cons_succ])
        (refine plan_pure ?_ rfl rfl (fun w' => ?_) ?_; rotate_left; (go_simp; try with_reducible rfl); simp only [Act.put, List.setIfInBounds_toArray, List.set_cons_zero, List.set_cons_succ])
        refine plan_call (.tuple #[W (mulV b a), .bool (mulB b a)]) 48 #[W (mlow b a), .agg #[.int .u64 (lo (mhigh b a)), .int .u64 0]] rfl rfl rfl (fun _ _ h hb => ⟨row_call h.1 hb, row_call h.2.1 hb, row_call h.2.2.1 hb, row_call h.2.2.2.1 hb, row_call h.2.2.2.2.1 hb, h.2.2.2.2.2.trans (hb.mono h.2.2.2.2.2.size)⟩) (fun w' hS => by obtain ⟨A00, A01, A02, A03⟩ := row_two hS.1; obtain ⟨A10, A11, A12, A13⟩ := row_two hS.2.1; obtain ⟨A20, A21, A22, A23⟩ := row_two hS.2.2.1; obtain ⟨A30, A31, A32, A33⟩ := row_two hS.2.2.2.1; obtain ⟨A40, A41, A42, A43⟩ := row_two hS.2.2.2.2.1; go_simp) (fun w' hS => HA.out w') ?_
        simp only [Act.put, List.setIfInBounds_toArray, List.set_cons_zero, List.set_cons_succ]
        (refine plan_pure ?_ rfl rfl (fun w' => ?_) ?_; rotate_left; (go_simp; try with_reducible rfl); simp only [Act.put, List.setIfInBounds_toArray, List.set_cons_zero, List.set_cons_succ])
        (refine plan_pure ?_ rfl rfl (fun w' => ?_) ?_; rotate_left; (go_simp; try with_reducible rfl); simp only [Act.put, List.setIfInBounds_toArray, List.set_cons_zero, List.set_cons_succ])
        refine plan_nil ?_
        intro w6 L6
        simp only [List.drop_succ_cons, List.drop_zero]
        try simp only [Act.put, List.setIfInBounds_toArray, List.set_cons_zero, List.set_cons_succ]
        obtain ⟨N00, N01, N02, N03⟩ := row_two L6.1; obtain ⟨N10, N11, N12, N13⟩ := row_two L6.2.1; obtain ⟨N20, N21, N22, N23⟩ := row_two L6.2.2.1; obtain ⟨N30, N31, N32, N33⟩ := row_two L6.2.2.2.1; obtain ⟨N40, N41, N42, N43⟩ := row_two L6.2.2.2.2.1
        have B6 := L6.2.2.2.2.2
        clear M B5
        go_wp2
        simp [bodyPost, results, Try.results42, go_sem, N20, N21]
        (repeat (first | exact Below.refl _ _ | refine Below.setCell ?_ (by first | (simp; done) | (simp; omega) | omega) _ | refine Below.alloc ?_ (by first | (simp; done) | (simp; omega) | omega) _ | refine Below.drew ?_ | refine Below.trans ?_ (Below.mono (by assumption) (by first | (simp; done) | (simp; omega) | omega))))
      · obtain ⟨v1, v2⟩ := mulV_no (mul_high HX.out hh)
        have HV := Lib.hid (And.intro v1 v2)
        have tst : (hi (mhigh b a) != 0) = true := by simp [hh]
        clear v1 v2 hh
        go_wp2
        simp [bodyPost, results, Try.results42, go_sem, M20, M21, HV.out.1, HV.out.2]
        first | (refine ⟨⟨rfl, rfl⟩, ?_⟩; (repeat (first | exact Below.refl _ _ | refine Below.setCell ?_ (by first | (simp; done) | (simp; omega) | omega) _ | refine Below.alloc ?_ (by first | (simp; done) | (simp; omega) | omega) _ | refine Below.drew ?_ | refine Below.trans ?_ (Below.mono (by assumption) (by first | (simp; done) | (simp; omega) | omega))))) | (repeat (first | exact Below.refl _ _ | refine Below.setCell ?_ (by first | (simp; done) | (simp; omega) | omega) _ | refine Below.alloc ?_ (by first | (simp; done) | (simp; omega) | omega) _ | refine Below.drew ?_ | refine Below.trans ?_ (Below.mono (by assumption) (by first | (simp; done) | (simp; omega) | omega))))
    · obtain ⟨v1, v2⟩ := mulV_no (mul_both hxa hxb)
      rw [v1, v2]
      have t1 : (hi a != 0) = true := by simp [hxa]
      have t2 : (hi b != 0) = true := by simp [hxb]
      clear v1 v2 hxa hxb
      go_enter Try.func42, Try.ntmps42
      go_wp2
      simp [bodyPost, results, Try.results42, go_sem]
      refine ⟨⟨rfl, rfl⟩, ?_⟩
      (repeat (first | exact Below.refl _ _ | refine Below.setCell ?_ (by first | (simp; done) | (simp; omega) | omega) _ | refine Below.alloc ?_ (by first | (simp; done) | (simp; omega) | omega) _ | refine Below.drew ?_ | refine Below.trans ?_ (Below.mono (by assumption) (by first | (simp; done) | (simp; omega) | omega))))
end Go.Proofs.Ytejoomlaanmbkaa
