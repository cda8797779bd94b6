/- What the law SpreadStates needs, joined of its texts by a program (slim.py); part 2. -/
import Derived.Test.YtaiepjcnncajcaaZSpreadStates1
section
/- The product of two wide numbers, walked: the program. -/
set_option linter.unusedVariables false
set_option linter.unusedSimpArgs false
set_option linter.unusedSectionVars false
set_option linter.unnecessarySimpa false
namespace Go.Proofs.Ytaiepjcnncajcaa
open Go.RowKit Go.Shelf
theorem pprod_ll (x y : Nat) (w : World) : Calls Try.prog 50 #[.int .u64 (lo x), .int .u64 (lo y)] w fun e w' => e = .returned (W (mlow x y)) ∧ Below w.heap.size w w' := by
  have h := pproduct (lo x) (lo y) (lo_word x) (lo_word y) w
  rw [lo_toNat, lo_toNat] at h
  exact h
theorem pprod_lh (x y : Nat) (hy : y < big) (w : World) : Calls Try.prog 50 #[.int .u64 (lo x), .int .u64 (hi y)] w fun e w' => e = .returned (W (mhigh x y)) ∧ Below w.heap.size w w' := by
  have h := pproduct (lo x) (hi y) (lo_word x) (hi_word hy) w
  rw [lo_toNat, hi_toNat] at h
  exact h
/-- The last sum of a product. -/
theorem padd_high (x y : Nat) (hx : hi x = 0) (hy : y < big) (hh : hi (mhigh x y) = 0) (w : World) :
    Calls Try.prog 90 #[W (mlow x y), .agg #[.int .u64 (lo (mhigh x y)), .int .u64 0]] w fun e w' => e = .returned (.tuple #[W (mulV x y), .bool (mulB x y)]) ∧ Below w.heap.size w w' := by
  obtain ⟨e1, e2⟩ := high_shift hh
  have hs := mul_split (y := y) hx
  have hl := high_lt hh
  rw [← e1, ← e2]
  by_cases h : x * y < big
  · obtain ⟨v, b⟩ := mulV_yes h
    rw [v, b, hs]
    exact padd_fits _ _ (mlow_lt x y) hl (by rw [← hs]; exact h) w
  · obtain ⟨v, b⟩ := mulV_no h
    rw [v, b]
    exact padd_over _ _ (mlow_lt x y) hl (by rw [← hs]; exact h) w
set_option maxHeartbeats 4000000 in
theorem pmul (a b : Nat) (ha : a < big) (hb : b < big) (w : World) :
    Calls Try.prog 49 #[W a, W b] w fun e w' => e = .returned (.tuple #[W (mulV a b), .bool (mulB a b)]) ∧ Below w.heap.size w w' := by
  by_cases hxa : hi a = 0
  · have t1 : (hi a != 0) = false := by simp [hxa]
    have HX := Lib.hid hxa
    clear hxa
    go_enter Try.func49, Try.ntmps49
    go_upto_region 5 with (fail)
    have hxa := HX.out
    have L : Row (((w.alloc (.cells (Wc a) 72)).alloc (.cells (Wc b) 72)).alloc (.cells #[.int .u64 0, .int .u64 0] 72)) (w.heap.size) 72 (Wc a) ∧ Row (((w.alloc (.cells (Wc a) 72)).alloc (.cells (Wc b) 72)).alloc (.cells #[.int .u64 0, .int .u64 0] 72)) (w.heap.size + 1) 72 (Wc b) ∧ Row (((w.alloc (.cells (Wc a) 72)).alloc (.cells (Wc b) 72)).alloc (.cells #[.int .u64 0, .int .u64 0] 72)) (w.heap.size + 1 + 1) 72 #[.int .u64 0, .int .u64 0] ∧ Below w.heap.size w (((w.alloc (.cells (Wc a) 72)).alloc (.cells (Wc b) 72)).alloc (.cells #[.int .u64 0, .int .u64 0] 72)) := by
      refine ⟨?_, ?_, ?_, ?_⟩
      · (repeat (first | assumption | (refine row_new ?_; (first | (simp; done) | omega)) | refine row_alloc ?_ _ | refine row_drew ?_ | refine row_call ?_ (by assumption)))
      · (repeat (first | assumption | (refine row_new ?_; (first | (simp; done) | omega)) | refine row_alloc ?_ _ | refine row_drew ?_ | refine row_call ?_ (by assumption)))
      · (repeat (first | assumption | (refine row_new ?_; (first | (simp; done) | omega)) | refine row_alloc ?_ _ | refine row_drew ?_ | refine row_call ?_ (by assumption)))
      · (repeat (first | exact Below.refl _ _ | refine Below.setCell ?_ (by first | (simp; done) | (simp; omega) | omega) _ | refine Below.alloc ?_ (by first | (simp; done) | (simp; omega) | omega) _ | refine Below.drew ?_ | refine Below.trans ?_ (Below.mono (by assumption) (by first | (simp; done) | (simp; omega) | omega))))
    generalize (((w.alloc (.cells (Wc a) 72)).alloc (.cells (Wc b) 72)).alloc (.cells #[.int .u64 0, .int .u64 0] 72)) = w2 at L ⊢
    have hw2 := row_lt L.2.2.1
    have HX := Lib.hid hxa
    refine wp_region_free2 [0, 1, 2, 3, 4, 5, 6, 7, 8, 9] [] [0, 1, 2, 3, 4, 5, 6, 7, 8, 9, 10, 11] (10, 72, #[.int .u64 0, .int .u64 0]) (11, 72, #[.int .u64 0, .int .u64 0]) 6 7 12 (fun w' => Row w' (w.heap.size) 72 (Wc a) ∧ Row w' (w.heap.size + 1) 72 (Wc b) ∧ Row w' (w.heap.size + 1 + 1) 72 #[.int .u64 0, .int .u64 0] ∧ Below w.heap.size w w') (by kernel_rfl) (by kernel_rfl) ⟨_, _, rfl, rfl, rfl, fun ρ w' => by go_simp⟩ ⟨_, _, rfl, rfl, rfl, fun ρ w' => by go_simp⟩ rfl rfl (by simp) (by simp) (fun _ h => ⟨row_alloc h.1 _, row_alloc h.2.1 _, row_alloc h.2.2.1 _, h.2.2.2.alloc h.2.2.2.size _⟩) (fun _ h => ⟨row_alloc h.1 _, row_alloc h.2.1 _, row_alloc h.2.2.1 _, h.2.2.2.alloc h.2.2.2.size _⟩) (fun _ _ d _ _ h => by cases d <;> exact h) ?_ ?_
    · exact ⟨L.1, L.2.1, L.2.2.1, L.2.2.2.drew⟩
    (refine plan_pure ?_ rfl rfl (fun w' => ?_) ?_; rotate_left; (go_simp; try with_reducible rfl); simp only [Act.put, List.setIfInBounds_toArray, List.set_cons_zero, List.set_cons_succ])
    (refine plan_val ?_ rfl rfl rfl (fun w' hS => ?_) ?_; rotate_left; (obtain ⟨A00, A01, A02, A03⟩ := row_two hS.1; obtain ⟨A10, A11, A12, A13⟩ := row_two hS.2.1; obtain ⟨A20, A21, A22, A23⟩ := row_two hS.2.2.1; go_simp; try with_reducible rfl); simp only [Act.put, List.setIfInBounds_toArray, List.set_cons_zero, List.set_cons_succ])
    (refine plan_pure ?_ rfl rfl (fun w' => ?_) ?_; rotate_left; (go_simp; try with_reducible rfl); simp only [Act.put, List.setIfInBounds_toArray, List.set_cons_zero, List.set_cons_succ])
    (refine plan_val ?_ rfl rfl rfl (fun w' hS => ?_) ?_; rotate_left; (obtain ⟨A00, A01, A02, A03⟩ := row_two hS.1; obtain ⟨A10, A11, A12, A13⟩ := row_two hS.2.1; obtain ⟨A20, A21, A22, A23⟩ := row_two hS.2.2.1; go_simp; try with_reducible rfl); simp only [Act.put, List.setIfInBounds_toArray, List.set_cons_zero, List.set_cons_succ])
    refine plan_call (W (mlow a b)) 50 #[.int .u64 (lo a), .int .u64 (lo b)] rfl rfl rfl (fun _ _ h hb => ⟨row_call h.1 hb, row_call h.2.1 hb, row_call h.2.2.1 hb, h.2.2.2.trans (hb.mono h.2.2.2.size)⟩) (fun w' hS => by obtain ⟨A00, A01, A02, A03⟩ := row_two hS.1; obtain ⟨A10, A11, A12, A13⟩ := row_two hS.2.1; obtain ⟨A20, A21, A22, A23⟩ := row_two hS.2.2.1; go_simp) (fun w' hS => pprod_ll a b w') ?_
    simp only [Act.put, List.setIfInBounds_toArray, List.set_cons_zero, List.set_cons_succ]
    (refine plan_pure ?_ rfl rfl (fun w' => ?_) ?_; rotate_left; (go_simp; try with_reducible rfl); simp only [Act.put, List.setIfInBounds_toArray, List.set_cons_zero, List.set_cons_succ])
    (refine plan_val ?_ rfl rfl rfl (fun w' hS => ?_) ?_; rotate_left; (obtain ⟨A00, A01, A02, A03⟩ := row_two hS.1; obtain ⟨A10, A11, A12, A13⟩ := row_two hS.2.1; obtain ⟨A20, A21, A22, A23⟩ := row_two hS.2.2.1; go_simp; try with_reducible rfl); simp only [Act.put, List.setIfInBounds_toArray, List.set_cons_zero, List.set_cons_succ])
    (refine plan_pure ?_ rfl rfl (fun w' => ?_) ?_; rotate_left; (go_simp; try with_reducible rfl); simp only [Act.put, List.setIfInBounds_toArray, List.set_cons_zero, List.set_cons_succ])
    (refine plan_val ?_ rfl rfl rfl (fun w' hS => ?_) ?_; rotate_left; (obtain ⟨A00, A01, A02, A03⟩ := row_two hS.1; obtain ⟨A10, A11, A12, A13⟩ := row_two hS.2.1; obtain ⟨A20, A21, A22, A23⟩ := row_two hS.2.2.1; go_simp; try with_reducible rfl); simp only [Act.put, List.setIfInBounds_toArray, List.set_cons_zero, List.set_cons_succ])
    refine plan_call (W (mhigh a b)) 50 #[.int .u64 (lo a), .int .u64 (hi b)] rfl rfl rfl (fun _ _ h hb => ⟨row_call h.1 hb, row_call h.2.1 hb, row_call h.2.2.1 hb, h.2.2.2.trans (hb.mono h.2.2.2.size)⟩) (fun w' hS => by obtain ⟨A00, A01, A02, A03⟩ := row_two hS.1; obtain ⟨A10, A11, A12, A13⟩ := row_two hS.2.1; obtain ⟨A20, A21, A22, A23⟩ := row_two hS.2.2.1; go_simp) (fun w' hS => pprod_lh a b hb w') ?_
    simp only [Act.put, List.setIfInBounds_toArray, List.set_cons_zero, List.set_cons_succ]
    refine plan_nil ?_
    intro g k w3 L3 Rg Rk hgk hg hk
    simp only [List.drop_succ_cons, List.drop_zero]
    try simp only [Act.put, List.setIfInBounds_toArray, List.set_cons_zero, List.set_cons_succ]
    obtain ⟨G0, G1, G2, G3⟩ := row_two Rg
    obtain ⟨K0, K1, K2, K3⟩ := row_two Rk
    go_upto_region 6 with (fail)
    have Rg5 := row_two_other (u := .int .u64 (hi (mhigh a b))) (v := .int .u64 (lo (mhigh a b))) (row_two_set (u := .int .u64 (hi (mlow a b))) (v := .int .u64 (lo (mlow a b))) Rg) hgk
    have Rk5 := row_two_set (u := .int .u64 (hi (mhigh a b))) (v := .int .u64 (lo (mhigh a b))) (row_two_other (u := .int .u64 (hi (mlow a b))) (v := .int .u64 (lo (mlow a b))) Rk (Ne.symm hgk))
    have R45 := row_two_other (c := k) (u := .int .u64 (hi (mhigh a b))) (v := .int .u64 (lo (mhigh a b))) (row_two_other (c := g) (u := .int .u64 (hi (mlow a b))) (v := .int .u64 (lo (mlow a b))) L3.2.2.1 (by omega)) (by omega)
    have B5 := (((L3.2.2.2.setCell (p := ⟨g, 0, none⟩) (show w.heap.size ≤ g by omega) (.int .u64 (hi (mlow a b)))).setCell (p := ⟨g, 1, none⟩) (show w.heap.size ≤ g by omega) (.int .u64 (lo (mlow a b)))).setCell (p := ⟨k, 0, none⟩) (show w.heap.size ≤ k by omega) (.int .u64 (hi (mhigh a b)))).setCell (p := ⟨k, 1, none⟩) (show w.heap.size ≤ k by omega) (.int .u64 (lo (mhigh a b)))
    generalize (((w3.setCell ⟨g, 0, none⟩ (.int .u64 (hi (mlow a b)))).setCell ⟨g, 1, none⟩ (.int .u64 (lo (mlow a b)))).setCell ⟨k, 0, none⟩ (.int .u64 (hi (mhigh a b)))).setCell ⟨k, 1, none⟩ (.int .u64 (lo (mhigh a b))) = w5 at Rg5 Rk5 R45 B5 ⊢
    clear L L3 Rg Rk G0 G1 G2 G3 K0 K1 K2 K3
    obtain ⟨G0, G1, G2, G3⟩ := row_two Rg5
    obtain ⟨K0, K1, K2, K3⟩ := row_two Rk5
    obtain ⟨Z0, Z1, Z2, Z3⟩ := row_two R45
    have z5 := B5.size
    by_cases hh : hi (mhigh a b) = 0
    · have HA := Lib.hid (fun w' => padd_high a b hxa hb hh w')
      have tst : (hi (mhigh a b) != 0) = false := by simp [hh]
      clear hh
      go_wp2_with (go_at_call 90; refine (HA.out _).mono ?_; rintro e w6 ⟨rfl, hb6⟩; have j4 := row_call R45 hb6; obtain ⟨Y0, Y1, Y2, Y3⟩ := row_two j4; have z6 := hb6.size)
      simp [bodyPost, results, Try.results49, go_sem, Y0, Y1]
      (repeat (first | exact Below.refl _ _ | refine Below.setCell ?_ (by first | (simp; done) | (simp; omega) | omega) _ | refine Below.alloc ?_ (by first | (simp; done) | (simp; omega) | omega) _ | refine Below.drew ?_ | refine Below.trans ?_ (Below.mono (by assumption) (by first | (simp; done) | (simp; omega) | omega))))
    · obtain ⟨v1, v2⟩ := mulV_no (mul_high hxa hh)
      have HV := Lib.hid (And.intro v1 v2)
      have tst : (hi (mhigh a b) != 0) = true := by simp [hh]
      clear v1 v2 hh
      go_wp2
      simp [bodyPost, results, Try.results49, go_sem, Z0, Z1, HV.out.1, HV.out.2]
      first | (refine ⟨⟨rfl, rfl⟩, ?_⟩; (repeat (first | exact Below.refl _ _ | refine Below.setCell ?_ (by first | (simp; done) | (simp; omega) | omega) _ | refine Below.alloc ?_ (by first | (simp; done) | (simp; omega) | omega) _ | refine Below.drew ?_ | refine Below.trans ?_ (Below.mono (by assumption) (by first | (simp; done) | (simp; omega) | omega))))) | (repeat (first | exact Below.refl _ _ | refine Below.setCell ?_ (by first | (simp; done) | (simp; omega) | omega) _ | refine Below.alloc ?_ (by first | (simp; done) | (simp; omega) | omega) _ | refine Below.drew ?_ | refine Below.trans ?_ (Below.mono (by assumption) (by first | (simp; done) | (simp; omega) | omega))))
  · by_cases hxb : hi b = 0
    · have t1 : (hi a != 0) = true := by simp [hxa]
      have t2 : (hi b != 0) = false := by simp [hxb]
      have HX := Lib.hid hxb
      clear hxb hxa
      obtain ⟨c1, c2⟩ := mul_comm' a b
      rw [c1, c2]
      clear c1 c2
      go_enter Try.func49, Try.ntmps49
      go_upto_region 5 with (fail)
      have hxb := HX.out
      have L : Row (((w.alloc (.cells (Wc b) 72)).alloc (.cells (Wc a) 72)).alloc (.cells #[.int .u64 0, .int .u64 0] 72)) (w.heap.size) 72 (Wc b) ∧ Row (((w.alloc (.cells (Wc b) 72)).alloc (.cells (Wc a) 72)).alloc (.cells #[.int .u64 0, .int .u64 0] 72)) (w.heap.size + 1) 72 (Wc a) ∧ Row (((w.alloc (.cells (Wc b) 72)).alloc (.cells (Wc a) 72)).alloc (.cells #[.int .u64 0, .int .u64 0] 72)) (w.heap.size + 1 + 1) 72 #[.int .u64 0, .int .u64 0] ∧ Below w.heap.size w (((w.alloc (.cells (Wc b) 72)).alloc (.cells (Wc a) 72)).alloc (.cells #[.int .u64 0, .int .u64 0] 72)) := by
        refine ⟨?_, ?_, ?_, ?_⟩
        · (repeat (first | assumption | (refine row_new ?_; (first | (simp; done) | omega)) | refine row_alloc ?_ _ | refine row_drew ?_ | refine row_call ?_ (by assumption)))
        · (repeat (first | assumption | (refine row_new ?_; (first | (simp; done) | omega)) | refine row_alloc ?_ _ | refine row_drew ?_ | refine row_call ?_ (by assumption)))
        · (repeat (first | assumption | (refine row_new ?_; (first | (simp; done) | omega)) | refine row_alloc ?_ _ | refine row_drew ?_ | refine row_call ?_ (by assumption)))
        · (repeat (first | exact Below.refl _ _ | refine Below.setCell ?_ (by first | (simp; done) | (simp; omega) | omega) _ | refine Below.alloc ?_ (by first | (simp; done) | (simp; omega) | omega) _ | refine Below.drew ?_ | refine Below.trans ?_ (Below.mono (by assumption) (by first | (simp; done) | (simp; omega) | omega))))
      generalize (((w.alloc (.cells (Wc b) 72)).alloc (.cells (Wc a) 72)).alloc (.cells #[.int .u64 0, .int .u64 0] 72)) = w2 at L ⊢
      have hw2 := row_lt L.2.2.1
      have HX := Lib.hid hxb
      refine wp_region_free2 [0, 1, 2, 3, 4, 5, 6, 7, 8, 9] [] [0, 1, 2, 3, 4, 5, 6, 7, 8, 9, 10, 11] (10, 72, #[.int .u64 0, .int .u64 0]) (11, 72, #[.int .u64 0, .int .u64 0]) 6 7 12 (fun w' => Row w' (w.heap.size) 72 (Wc b) ∧ Row w' (w.heap.size + 1) 72 (Wc a) ∧ Row w' (w.heap.size + 1 + 1) 72 #[.int .u64 0, .int .u64 0] ∧ Below w.heap.size w w') (by kernel_rfl) (by kernel_rfl) ⟨_, _, rfl, rfl, rfl, fun ρ w' => by go_simp⟩ ⟨_, _, rfl, rfl, rfl, fun ρ w' => by go_simp⟩ rfl rfl (by simp) (by simp) (fun _ h => ⟨row_alloc h.1 _, row_alloc h.2.1 _, row_alloc h.2.2.1 _, h.2.2.2.alloc h.2.2.2.size _⟩) (fun _ h => ⟨row_alloc h.1 _, row_alloc h.2.1 _, row_alloc h.2.2.1 _, h.2.2.2.alloc h.2.2.2.size _⟩) (fun _ _ d _ _ h => by cases d <;> exact h) ?_ ?_
      · exact ⟨L.1, L.2.1, L.2.2.1, L.2.2.2.drew⟩
      (refine plan_pure ?_ rfl rfl (fun w' => ?_) ?_; rotate_left; (go_simp; try with_reducible rfl); simp only [Act.put, List.setIfInBounds_toArray, List.set_cons_zero, List.set_cons_succ])
      (refine plan_val ?_ rfl rfl rfl (fun w' hS => ?_) ?_; rotate_left; (obtain ⟨A00, A01, A02, A03⟩ := row_two hS.1; obtain ⟨A10, A11, A12, A13⟩ := row_two hS.2.1; obtain ⟨A20, A21, A22, A23⟩ := row_two hS.2.2.1; go_simp; try with_reducible rfl); simp only [Act.put, List.setIfInBounds_toArray, List.set_cons_zero, List.set_cons_succ])
      (refine plan_pure ?_ rfl rfl (fun w' => ?_) ?_; rotate_left; (go_simp; try with_reducible rfl); simp only [Act.put, List.setIfInBounds_toArray, List.set_cons_zero, List.set_cons_succ])
      (refine plan_val ?_ rfl rfl rfl (fun w' hS => ?_) ?_; rotate_left; (obtain ⟨A00, A01, A02, A03⟩ := row_two hS.1; obtain ⟨A10, A11, A12, A13⟩ := row_two hS.2.1; obtain ⟨A20, A21, A22, A23⟩ := row_two hS.2.2.1; go_simp; try with_reducible rfl); simp only [Act.put, List.setIfInBounds_toArray, List.set_cons_zero, List.set_cons_succ])
      refine plan_call (W (mlow b a)) 50 #[.int .u64 (lo b), .int .u64 (lo a)] rfl rfl rfl (fun _ _ h hb => ⟨row_call h.1 hb, row_call h.2.1 hb, row_call h.2.2.1 hb, h.2.2.2.trans (hb.mono h.2.2.2.size)⟩) (fun w' hS => by obtain ⟨A00, A01, A02, A03⟩ := row_two hS.1; obtain ⟨A10, A11, A12, A13⟩ := row_two hS.2.1; obtain ⟨A20, A21, A22, A23⟩ := row_two hS.2.2.1; go_simp) (fun w' hS => pprod_ll b a w') ?_
      simp only [Act.put, List.setIfInBounds_toArray, List.set_cons_zero, List.set_cons_succ]
      (refine plan_pure ?_ rfl rfl (fun w' => ?_) ?_; rotate_left; (go_simp; try with_reducible rfl); simp only [Act.put, List.setIfInBounds_toArray, List.set_cons_zero, List.set_cons_succ])
      (refine plan_val ?_ rfl rfl rfl (fun w' hS => ?_) ?_; rotate_left; (obtain ⟨A00, A01, A02, A03⟩ := row_two hS.1; obtain ⟨A10, A11, A12, A13⟩ := row_two hS.2.1; obtain ⟨A20, A21, A22, A23⟩ := row_two hS.2.2.1; go_simp; try with_reducible rfl); simp only [Act.put, List.setIfInBounds_toArray, List.set_cons_zero, List.set_cons_succ])
      (refine plan_pure ?_ rfl rfl (fun w' => ?_) ?_; rotate_left; (go_simp; try with_reducible rfl); simp only [Act.put, List.setIfInBounds_toArray, List.set_cons_zero, List.set_cons_succ])
      (refine plan_val ?_ rfl rfl rfl (fun w' hS => ?_) ?_; rotate_left; (obtain ⟨A00, A01, A02, A03⟩ := row_two hS.1; obtain ⟨A10, A11, A12, A13⟩ := row_two hS.2.1; obtain ⟨A20, A21, A22, A23⟩ := row_two hS.2.2.1; go_simp; try with_reducible rfl); simp only [Act.put, List.setIfInBounds_toArray, List.set_cons_zero, List.set_cons_succ])
      refine plan_call (W (mhigh b a)) 50 #[.int .u64 (lo b), .int .u64 (hi a)] rfl rfl rfl (fun _ _ h hb => ⟨row_call h.1 hb, row_call h.2.1 hb, row_call h.2.2.1 hb, h.2.2.2.trans (hb.mono h.2.2.2.size)⟩) (fun w' hS => by obtain ⟨A00, A01, A02, A03⟩ := row_two hS.1; obtain ⟨A10, A11, A12, A13⟩ := row_two hS.2.1; obtain ⟨A20, A21, A22, A23⟩ := row_two hS.2.2.1; go_simp) (fun w' hS => pprod_lh b a ha w') ?_
      simp only [Act.put, List.setIfInBounds_toArray, List.set_cons_zero, List.set_cons_succ]
      refine plan_nil ?_
      intro g k w3 L3 Rg Rk hgk hg hk
      simp only [List.drop_succ_cons, List.drop_zero]
      try simp only [Act.put, List.setIfInBounds_toArray, List.set_cons_zero, List.set_cons_succ]
      obtain ⟨G0, G1, G2, G3⟩ := row_two Rg
      obtain ⟨K0, K1, K2, K3⟩ := row_two Rk
      go_upto_region 6 with (fail)
      have Rg5 := row_two_other (u := .int .u64 (hi (mhigh b a))) (v := .int .u64 (lo (mhigh b a))) (row_two_set (u := .int .u64 (hi (mlow b a))) (v := .int .u64 (lo (mlow b a))) Rg) hgk
      have Rk5 := row_two_set (u := .int .u64 (hi (mhigh b a))) (v := .int .u64 (lo (mhigh b a))) (row_two_other (u := .int .u64 (hi (mlow b a))) (v := .int .u64 (lo (mlow b a))) Rk (Ne.symm hgk))
      have R45 := row_two_other (c := k) (u := .int .u64 (hi (mhigh b a))) (v := .int .u64 (lo (mhigh b a))) (row_two_other (c := g) (u := .int .u64 (hi (mlow b a))) (v := .int .u64 (lo (mlow b a))) L3.2.2.1 (by omega)) (by omega)
      have B5 := (((L3.2.2.2.setCell (p := ⟨g, 0, none⟩) (show w.heap.size ≤ g by omega) (.int .u64 (hi (mlow b a)))).setCell (p := ⟨g, 1, none⟩) (show w.heap.size ≤ g by omega) (.int .u64 (lo (mlow b a)))).setCell (p := ⟨k, 0, none⟩) (show w.heap.size ≤ k by omega) (.int .u64 (hi (mhigh b a)))).setCell (p := ⟨k, 1, none⟩) (show w.heap.size ≤ k by omega) (.int .u64 (lo (mhigh b a)))
      generalize (((w3.setCell ⟨g, 0, none⟩ (.int .u64 (hi (mlow b a)))).setCell ⟨g, 1, none⟩ (.int .u64 (lo (mlow b a)))).setCell ⟨k, 0, none⟩ (.int .u64 (hi (mhigh b a)))).setCell ⟨k, 1, none⟩ (.int .u64 (lo (mhigh b a))) = w5 at Rg5 Rk5 R45 B5 ⊢
      clear L L3 Rg Rk G0 G1 G2 G3 K0 K1 K2 K3
      obtain ⟨G0, G1, G2, G3⟩ := row_two Rg5
      obtain ⟨K0, K1, K2, K3⟩ := row_two Rk5
      obtain ⟨Z0, Z1, Z2, Z3⟩ := row_two R45
      have z5 := B5.size
      by_cases hh : hi (mhigh b a) = 0
      · have HA := Lib.hid (fun w' => padd_high b a hxb ha hh w')
        have tst : (hi (mhigh b a) != 0) = false := by simp [hh]
        clear hh
        go_wp2_with (go_at_call 90; refine (HA.out _).mono ?_; rintro e w6 ⟨rfl, hb6⟩; have j4 := row_call R45 hb6; obtain ⟨Y0, Y1, Y2, Y3⟩ := row_two j4; have z6 := hb6.size)
        simp [bodyPost, results, Try.results49, go_sem, Y0, Y1]
        (repeat (first | exact Below.refl _ _ | refine Below.setCell ?_ (by first | (simp; done) | (simp; omega) | omega) _ | refine Below.alloc ?_ (by first | (simp; done) | (simp; omega) | omega) _ | refine Below.drew ?_ | refine Below.trans ?_ (Below.mono (by assumption) (by first | (simp; done) | (simp; omega) | omega))))
      · obtain ⟨v1, v2⟩ := mulV_no (mul_high hxb hh)
        have HV := Lib.hid (And.intro v1 v2)
        have tst : (hi (mhigh b a) != 0) = true := by simp [hh]
        clear v1 v2 hh
        go_wp2
        simp [bodyPost, results, Try.results49, go_sem, Z0, Z1, HV.out.1, HV.out.2]
        first | (refine ⟨⟨rfl, rfl⟩, ?_⟩; (repeat (first | exact Below.refl _ _ | refine Below.setCell ?_ (by first | (simp; done) | (simp; omega) | omega) _ | refine Below.alloc ?_ (by first | (simp; done) | (simp; omega) | omega) _ | refine Below.drew ?_ | refine Below.trans ?_ (Below.mono (by assumption) (by first | (simp; done) | (simp; omega) | omega))))) | (repeat (first | exact Below.refl _ _ | refine Below.setCell ?_ (by first | (simp; done) | (simp; omega) | omega) _ | refine Below.alloc ?_ (by first | (simp; done) | (simp; omega) | omega) _ | refine Below.drew ?_ | refine Below.trans ?_ (Below.mono (by assumption) (by first | (simp; done) | (simp; omega) | omega))))
    · obtain ⟨v1, v2⟩ := mulV_no (mul_both hxa hxb)
      rw [v1, v2]
      have t1 : (hi a != 0) = true := by simp [hxa]
      have t2 : (hi b != 0) = true := by simp [hxb]
      clear v1 v2 hxa hxb
      go_enter Try.func49, Try.ntmps49
      go_wp2
      simp [bodyPost, results, Try.results49, go_sem]
      refine ⟨⟨rfl, rfl⟩, ?_⟩
      (repeat (first | exact Below.refl _ _ | refine Below.setCell ?_ (by first | (simp; done) | (simp; omega) | omega) _ | refine Below.alloc ?_ (by first | (simp; done) | (simp; omega) | omega) _ | refine Below.drew ?_ | refine Below.trans ?_ (Below.mono (by assumption) (by first | (simp; done) | (simp; omega) | omega))))
end Go.Proofs.Ytaiepjcnncajcaa
end
section
/- Spreads of marks: when one is close to another, walked. -/
set_option linter.unusedVariables false
set_option linter.unusedSimpArgs false
set_option linter.unusedSectionVars false
set_option linter.unnecessarySimpa false
namespace Go.Proofs.Ytaiepjcnncajcaa
open Go.RowKit Go.Shelf
def closeP (na sa qa nb sb qb k : Int) : Prop :=
  rightP na sa qa ∧ rightP nb sb qb ∧ (1 ≤ k ∧ k ≤ 64) ∧ (6 * k - 1) * na ≤ 6 * k * nb ∧ topN na sa qa * nb.toNat * (6 * k - 1).toNat ≤ topN nb sb qb * na.toNat * (6 * k).toNat
instance (na sa qa nb sb qb k : Int) : Decidable (closeP na sa qa nb sb qb k) := by unfold closeP; infer_instance
theorem pofI (x : Int) (h : Word x) (w : World) : Calls Try.prog 51 #[.int .u64 x] w fun e w' => e = .returned (W x.toNat) ∧ Below w.heap.size w w' := by
  have := pof x.toNat (by unfold Word at h; omega) w
  rw [Int.toNat_of_nonneg h.1] at this
  exact this
theorem mul_smallN {a b A B : Nat} (ha : a ≤ A) (hb : b ≤ B) (h : A * B < big) : mulV a b = a * b ∧ mulB a b = true := by
  have : a * b < big := Nat.lt_of_le_of_lt (Nat.mul_le_mul ha hb) h
  unfold mulV mulB
  rw [if_pos this]
  exact ⟨rfl, decide_eq_true this⟩
theorem cmp_dec (a b : Nat) : decide (0 ≤ cmp a b) = decide (b ≤ a) := by
  rcases Nat.lt_trichotomy a b with h | h | h
  · have : ¬ b ≤ a := by omega
    simp [cmp_lt h, this]
  · subst h
    simp [cmp_eq]
  · have : b ≤ a := by omega
    simp [cmp_gt h, this]
theorem pclose_a (sqa tka na sa qa lwa hga sqb tkb nb sb qb lwb hgb k : Int) (w : World) (ha : ¬ rightP na sa qa) : Calls Try.prog 17 #[.agg #[.int .i64 sqa, .int .i64 tka, .int .i64 na, .int .i64 sa, .int .i64 qa, .int .i64 lwa, .int .i64 hga], .agg #[.int .i64 sqb, .int .i64 tkb, .int .i64 nb, .int .i64 sb, .int .i64 qb, .int .i64 lwb, .int .i64 hgb], .int .i64 k] w fun e w' => e = .returned (.bool false) ∧ Below w.heap.size w w' := by
  have PRa := fun w => pright sqa tka na sa qa lwa hga w
  rw [decide_eq_false ha] at PRa
  have PRa := Lib.hid PRa
  clear ha
  go_enter Try.func17, Try.ntmps17
  go_wp2_with (first | (go_at_call 44; with_reducible refine (PRa.out _).mono ?_; rintro e w1 ⟨rfl, hb1⟩; have hz1 := hb1.size; (try simp at hz1); have o1 : Below w.heap.size w w1 := (by (repeat (first | exact Below.refl _ _ | refine Below.setCell ?_ (by first | (simp; done) | (simp; omega) | omega) _ | refine Below.alloc ?_ (by first | (simp; done) | (simp; omega) | omega) _ | refine Below.drew ?_ | refine Below.trans ?_ (Below.mono (by assumption) (by first | (simp; done) | (simp; omega) | omega))))); have q1_0 : w.heap.size < w1.heap.size := (by omega); have r1_0 : Row w1 (w.heap.size) 33 #[.int .i64 sqa, .int .i64 tka, .int .i64 na, .int .i64 sa, .int .i64 qa, .int .i64 lwa, .int .i64 hga] := row_call (by (repeat (first | assumption | (refine row_new ?_; (first | (simp; done) | omega)) | refine row_alloc ?_ _ | refine row_drew ?_ | refine row_call ?_ (by assumption)))) hb1; obtain ⟨c1_0a, c1_0b, c1_0c, c1_0d, c1_0e, c1_0f, c1_0g, f1_0a, f1_0b, f1_0c, f1_0d, f1_0e, f1_0f, f1_0g⟩ := row_seven r1_0; have q1_1 : w.heap.size + 1 < w1.heap.size := (by omega); have r1_1 : Row w1 (w.heap.size + 1) 33 #[.int .i64 sqb, .int .i64 tkb, .int .i64 nb, .int .i64 sb, .int .i64 qb, .int .i64 lwb, .int .i64 hgb] := row_call (by (repeat (first | assumption | (refine row_new ?_; (first | (simp; done) | omega)) | refine row_alloc ?_ _ | refine row_drew ?_ | refine row_call ?_ (by assumption)))) hb1; obtain ⟨c1_1a, c1_1b, c1_1c, c1_1d, c1_1e, c1_1f, c1_1g, f1_1a, f1_1b, f1_1c, f1_1d, f1_1e, f1_1f, f1_1g⟩ := row_seven r1_1))
  go_ret
  exact ⟨rfl, by (repeat (first | exact Below.refl _ _ | refine Below.setCell ?_ (by first | (simp; done) | (simp; omega) | omega) _ | refine Below.alloc ?_ (by first | (simp; done) | (simp; omega) | omega) _ | refine Below.drew ?_ | refine Below.trans ?_ (Below.mono (by assumption) (by first | (simp; done) | (simp; omega) | omega))))⟩
theorem pclose_b (sqa tka na sa qa lwa hga sqb tkb nb sb qb lwb hgb k : Int) (w : World) (ha : rightP na sa qa) (hb : ¬ rightP nb sb qb) : Calls Try.prog 17 #[.agg #[.int .i64 sqa, .int .i64 tka, .int .i64 na, .int .i64 sa, .int .i64 qa, .int .i64 lwa, .int .i64 hga], .agg #[.int .i64 sqb, .int .i64 tkb, .int .i64 nb, .int .i64 sb, .int .i64 qb, .int .i64 lwb, .int .i64 hgb], .int .i64 k] w fun e w' => e = .returned (.bool false) ∧ Below w.heap.size w w' := by
  have PRa := fun w => pright sqa tka na sa qa lwa hga w
  rw [decide_eq_true ha] at PRa
  have PRa := Lib.hid PRa
  have PRb := fun w => pright sqb tkb nb sb qb lwb hgb w
  rw [decide_eq_false hb] at PRb
  have PRb := Lib.hid PRb
  clear ha hb
  go_enter Try.func17, Try.ntmps17
  go_wp2_with (first | (go_at_call 44; with_reducible refine (PRa.out _).mono ?_; rintro e w1 ⟨rfl, hb1⟩; have hz1 := hb1.size; (try simp at hz1); have o1 : Below w.heap.size w w1 := (by (repeat (first | exact Below.refl _ _ | refine Below.setCell ?_ (by first | (simp; done) | (simp; omega) | omega) _ | refine Below.alloc ?_ (by first | (simp; done) | (simp; omega) | omega) _ | refine Below.drew ?_ | refine Below.trans ?_ (Below.mono (by assumption) (by first | (simp; done) | (simp; omega) | omega))))); have q1_0 : w.heap.size < w1.heap.size := (by omega); have r1_0 : Row w1 (w.heap.size) 33 #[.int .i64 sqa, .int .i64 tka, .int .i64 na, .int .i64 sa, .int .i64 qa, .int .i64 lwa, .int .i64 hga] := row_call (by (repeat (first | assumption | (refine row_new ?_; (first | (simp; done) | omega)) | refine row_alloc ?_ _ | refine row_drew ?_ | refine row_call ?_ (by assumption)))) hb1; obtain ⟨c1_0a, c1_0b, c1_0c, c1_0d, c1_0e, c1_0f, c1_0g, f1_0a, f1_0b, f1_0c, f1_0d, f1_0e, f1_0f, f1_0g⟩ := row_seven r1_0; have q1_1 : w.heap.size + 1 < w1.heap.size := (by omega); have r1_1 : Row w1 (w.heap.size + 1) 33 #[.int .i64 sqb, .int .i64 tkb, .int .i64 nb, .int .i64 sb, .int .i64 qb, .int .i64 lwb, .int .i64 hgb] := row_call (by (repeat (first | assumption | (refine row_new ?_; (first | (simp; done) | omega)) | refine row_alloc ?_ _ | refine row_drew ?_ | refine row_call ?_ (by assumption)))) hb1; obtain ⟨c1_1a, c1_1b, c1_1c, c1_1d, c1_1e, c1_1f, c1_1g, f1_1a, f1_1b, f1_1c, f1_1d, f1_1e, f1_1f, f1_1g⟩ := row_seven r1_1) | (go_at_call 44; with_reducible refine (PRb.out _).mono ?_; rintro e w2 ⟨rfl, hb2⟩; have hz2 := hb2.size; (try simp at hz2); have o2 : Below w.heap.size w w2 := (by (repeat (first | exact Below.refl _ _ | refine Below.setCell ?_ (by first | (simp; done) | (simp; omega) | omega) _ | refine Below.alloc ?_ (by first | (simp; done) | (simp; omega) | omega) _ | refine Below.drew ?_ | refine Below.trans ?_ (Below.mono (by assumption) (by first | (simp; done) | (simp; omega) | omega))))); have q2_0 : w.heap.size < w2.heap.size := (by omega); have r2_0 : Row w2 (w.heap.size) 33 #[.int .i64 sqa, .int .i64 tka, .int .i64 na, .int .i64 sa, .int .i64 qa, .int .i64 lwa, .int .i64 hga] := row_call (by (repeat (first | assumption | (refine row_new ?_; (first | (simp; done) | omega)) | refine row_alloc ?_ _ | refine row_drew ?_ | refine row_call ?_ (by assumption)))) hb2; obtain ⟨c2_0a, c2_0b, c2_0c, c2_0d, c2_0e, c2_0f, c2_0g, f2_0a, f2_0b, f2_0c, f2_0d, f2_0e, f2_0f, f2_0g⟩ := row_seven r2_0; have q2_1 : w.heap.size + 1 < w2.heap.size := (by omega); have r2_1 : Row w2 (w.heap.size + 1) 33 #[.int .i64 sqb, .int .i64 tkb, .int .i64 nb, .int .i64 sb, .int .i64 qb, .int .i64 lwb, .int .i64 hgb] := row_call (by (repeat (first | assumption | (refine row_new ?_; (first | (simp; done) | omega)) | refine row_alloc ?_ _ | refine row_drew ?_ | refine row_call ?_ (by assumption)))) hb2; obtain ⟨c2_1a, c2_1b, c2_1c, c2_1d, c2_1e, c2_1f, c2_1g, f2_1a, f2_1b, f2_1c, f2_1d, f2_1e, f2_1f, f2_1g⟩ := row_seven r2_1))
  go_ret
  exact ⟨rfl, by (repeat (first | exact Below.refl _ _ | refine Below.setCell ?_ (by first | (simp; done) | (simp; omega) | omega) _ | refine Below.alloc ?_ (by first | (simp; done) | (simp; omega) | omega) _ | refine Below.drew ?_ | refine Below.trans ?_ (Below.mono (by assumption) (by first | (simp; done) | (simp; omega) | omega))))⟩
theorem pclose_k0 (sqa tka na sa qa lwa hga sqb tkb nb sb qb lwb hgb k : Int) (w : World) (ha : rightP na sa qa) (hb : rightP nb sb qb) (hk : k < 1) : Calls Try.prog 17 #[.agg #[.int .i64 sqa, .int .i64 tka, .int .i64 na, .int .i64 sa, .int .i64 qa, .int .i64 lwa, .int .i64 hga], .agg #[.int .i64 sqb, .int .i64 tkb, .int .i64 nb, .int .i64 sb, .int .i64 qb, .int .i64 lwb, .int .i64 hgb], .int .i64 k] w fun e w' => e = .returned (.bool false) ∧ Below w.heap.size w w' := by
  have PRa := fun w => pright sqa tka na sa qa lwa hga w
  rw [decide_eq_true ha] at PRa
  have PRa := Lib.hid PRa
  have PRb := fun w => pright sqb tkb nb sb qb lwb hgb w
  rw [decide_eq_true hb] at PRb
  have PRb := Lib.hid PRb
  clear ha hb
  go_enter Try.func17, Try.ntmps17
  go_wp2_with (first | (go_at_call 44; with_reducible refine (PRa.out _).mono ?_; rintro e w1 ⟨rfl, hb1⟩; have hz1 := hb1.size; (try simp at hz1); have o1 : Below w.heap.size w w1 := (by (repeat (first | exact Below.refl _ _ | refine Below.setCell ?_ (by first | (simp; done) | (simp; omega) | omega) _ | refine Below.alloc ?_ (by first | (simp; done) | (simp; omega) | omega) _ | refine Below.drew ?_ | refine Below.trans ?_ (Below.mono (by assumption) (by first | (simp; done) | (simp; omega) | omega))))); have q1_0 : w.heap.size < w1.heap.size := (by omega); have r1_0 : Row w1 (w.heap.size) 33 #[.int .i64 sqa, .int .i64 tka, .int .i64 na, .int .i64 sa, .int .i64 qa, .int .i64 lwa, .int .i64 hga] := row_call (by (repeat (first | assumption | (refine row_new ?_; (first | (simp; done) | omega)) | refine row_alloc ?_ _ | refine row_drew ?_ | refine row_call ?_ (by assumption)))) hb1; obtain ⟨c1_0a, c1_0b, c1_0c, c1_0d, c1_0e, c1_0f, c1_0g, f1_0a, f1_0b, f1_0c, f1_0d, f1_0e, f1_0f, f1_0g⟩ := row_seven r1_0; have q1_1 : w.heap.size + 1 < w1.heap.size := (by omega); have r1_1 : Row w1 (w.heap.size + 1) 33 #[.int .i64 sqb, .int .i64 tkb, .int .i64 nb, .int .i64 sb, .int .i64 qb, .int .i64 lwb, .int .i64 hgb] := row_call (by (repeat (first | assumption | (refine row_new ?_; (first | (simp; done) | omega)) | refine row_alloc ?_ _ | refine row_drew ?_ | refine row_call ?_ (by assumption)))) hb1; obtain ⟨c1_1a, c1_1b, c1_1c, c1_1d, c1_1e, c1_1f, c1_1g, f1_1a, f1_1b, f1_1c, f1_1d, f1_1e, f1_1f, f1_1g⟩ := row_seven r1_1) | (go_at_call 44; with_reducible refine (PRb.out _).mono ?_; rintro e w2 ⟨rfl, hb2⟩; have hz2 := hb2.size; (try simp at hz2); have o2 : Below w.heap.size w w2 := (by (repeat (first | exact Below.refl _ _ | refine Below.setCell ?_ (by first | (simp; done) | (simp; omega) | omega) _ | refine Below.alloc ?_ (by first | (simp; done) | (simp; omega) | omega) _ | refine Below.drew ?_ | refine Below.trans ?_ (Below.mono (by assumption) (by first | (simp; done) | (simp; omega) | omega))))); have q2_0 : w.heap.size < w2.heap.size := (by omega); have r2_0 : Row w2 (w.heap.size) 33 #[.int .i64 sqa, .int .i64 tka, .int .i64 na, .int .i64 sa, .int .i64 qa, .int .i64 lwa, .int .i64 hga] := row_call (by (repeat (first | assumption | (refine row_new ?_; (first | (simp; done) | omega)) | refine row_alloc ?_ _ | refine row_drew ?_ | refine row_call ?_ (by assumption)))) hb2; obtain ⟨c2_0a, c2_0b, c2_0c, c2_0d, c2_0e, c2_0f, c2_0g, f2_0a, f2_0b, f2_0c, f2_0d, f2_0e, f2_0f, f2_0g⟩ := row_seven r2_0; have q2_1 : w.heap.size + 1 < w2.heap.size := (by omega); have r2_1 : Row w2 (w.heap.size + 1) 33 #[.int .i64 sqb, .int .i64 tkb, .int .i64 nb, .int .i64 sb, .int .i64 qb, .int .i64 lwb, .int .i64 hgb] := row_call (by (repeat (first | assumption | (refine row_new ?_; (first | (simp; done) | omega)) | refine row_alloc ?_ _ | refine row_drew ?_ | refine row_call ?_ (by assumption)))) hb2; obtain ⟨c2_1a, c2_1b, c2_1c, c2_1d, c2_1e, c2_1f, c2_1g, f2_1a, f2_1b, f2_1c, f2_1d, f2_1e, f2_1f, f2_1g⟩ := row_seven r2_1))
  go_ret
  exact ⟨rfl, by (repeat (first | exact Below.refl _ _ | refine Below.setCell ?_ (by first | (simp; done) | (simp; omega) | omega) _ | refine Below.alloc ?_ (by first | (simp; done) | (simp; omega) | omega) _ | refine Below.drew ?_ | refine Below.trans ?_ (Below.mono (by assumption) (by first | (simp; done) | (simp; omega) | omega))))⟩
theorem pclose_k1 (sqa tka na sa qa lwa hga sqb tkb nb sb qb lwb hgb k : Int) (w : World) (ha : rightP na sa qa) (hb : rightP nb sb qb) (hk0 : 1 ≤ k) (hk : 64 < k) : Calls Try.prog 17 #[.agg #[.int .i64 sqa, .int .i64 tka, .int .i64 na, .int .i64 sa, .int .i64 qa, .int .i64 lwa, .int .i64 hga], .agg #[.int .i64 sqb, .int .i64 tkb, .int .i64 nb, .int .i64 sb, .int .i64 qb, .int .i64 lwb, .int .i64 hgb], .int .i64 k] w fun e w' => e = .returned (.bool false) ∧ Below w.heap.size w w' := by
  have PRa := fun w => pright sqa tka na sa qa lwa hga w
  rw [decide_eq_true ha] at PRa
  have PRa := Lib.hid PRa
  have PRb := fun w => pright sqb tkb nb sb qb lwb hgb w
  rw [decide_eq_true hb] at PRb
  have PRb := Lib.hid PRb
  clear ha hb
  go_enter Try.func17, Try.ntmps17
  go_wp2_with (first | (go_at_call 44; with_reducible refine (PRa.out _).mono ?_; rintro e w1 ⟨rfl, hb1⟩; have hz1 := hb1.size; (try simp at hz1); have o1 : Below w.heap.size w w1 := (by (repeat (first | exact Below.refl _ _ | refine Below.setCell ?_ (by first | (simp; done) | (simp; omega) | omega) _ | refine Below.alloc ?_ (by first | (simp; done) | (simp; omega) | omega) _ | refine Below.drew ?_ | refine Below.trans ?_ (Below.mono (by assumption) (by first | (simp; done) | (simp; omega) | omega))))); have q1_0 : w.heap.size < w1.heap.size := (by omega); have r1_0 : Row w1 (w.heap.size) 33 #[.int .i64 sqa, .int .i64 tka, .int .i64 na, .int .i64 sa, .int .i64 qa, .int .i64 lwa, .int .i64 hga] := row_call (by (repeat (first | assumption | (refine row_new ?_; (first | (simp; done) | omega)) | refine row_alloc ?_ _ | refine row_drew ?_ | refine row_call ?_ (by assumption)))) hb1; obtain ⟨c1_0a, c1_0b, c1_0c, c1_0d, c1_0e, c1_0f, c1_0g, f1_0a, f1_0b, f1_0c, f1_0d, f1_0e, f1_0f, f1_0g⟩ := row_seven r1_0; have q1_1 : w.heap.size + 1 < w1.heap.size := (by omega); have r1_1 : Row w1 (w.heap.size + 1) 33 #[.int .i64 sqb, .int .i64 tkb, .int .i64 nb, .int .i64 sb, .int .i64 qb, .int .i64 lwb, .int .i64 hgb] := row_call (by (repeat (first | assumption | (refine row_new ?_; (first | (simp; done) | omega)) | refine row_alloc ?_ _ | refine row_drew ?_ | refine row_call ?_ (by assumption)))) hb1; obtain ⟨c1_1a, c1_1b, c1_1c, c1_1d, c1_1e, c1_1f, c1_1g, f1_1a, f1_1b, f1_1c, f1_1d, f1_1e, f1_1f, f1_1g⟩ := row_seven r1_1) | (go_at_call 44; with_reducible refine (PRb.out _).mono ?_; rintro e w2 ⟨rfl, hb2⟩; have hz2 := hb2.size; (try simp at hz2); have o2 : Below w.heap.size w w2 := (by (repeat (first | exact Below.refl _ _ | refine Below.setCell ?_ (by first | (simp; done) | (simp; omega) | omega) _ | refine Below.alloc ?_ (by first | (simp; done) | (simp; omega) | omega) _ | refine Below.drew ?_ | refine Below.trans ?_ (Below.mono (by assumption) (by first | (simp; done) | (simp; omega) | omega))))); have q2_0 : w.heap.size < w2.heap.size := (by omega); have r2_0 : Row w2 (w.heap.size) 33 #[.int .i64 sqa, .int .i64 tka, .int .i64 na, .int .i64 sa, .int .i64 qa, .int .i64 lwa, .int .i64 hga] := row_call (by (repeat (first | assumption | (refine row_new ?_; (first | (simp; done) | omega)) | refine row_alloc ?_ _ | refine row_drew ?_ | refine row_call ?_ (by assumption)))) hb2; obtain ⟨c2_0a, c2_0b, c2_0c, c2_0d, c2_0e, c2_0f, c2_0g, f2_0a, f2_0b, f2_0c, f2_0d, f2_0e, f2_0f, f2_0g⟩ := row_seven r2_0; have q2_1 : w.heap.size + 1 < w2.heap.size := (by omega); have r2_1 : Row w2 (w.heap.size + 1) 33 #[.int .i64 sqb, .int .i64 tkb, .int .i64 nb, .int .i64 sb, .int .i64 qb, .int .i64 lwb, .int .i64 hgb] := row_call (by (repeat (first | assumption | (refine row_new ?_; (first | (simp; done) | omega)) | refine row_alloc ?_ _ | refine row_drew ?_ | refine row_call ?_ (by assumption)))) hb2; obtain ⟨c2_1a, c2_1b, c2_1c, c2_1d, c2_1e, c2_1f, c2_1g, f2_1a, f2_1b, f2_1c, f2_1d, f2_1e, f2_1f, f2_1g⟩ := row_seven r2_1))
  go_ret
  exact ⟨rfl, by (repeat (first | exact Below.refl _ _ | refine Below.setCell ?_ (by first | (simp; done) | (simp; omega) | omega) _ | refine Below.alloc ?_ (by first | (simp; done) | (simp; omega) | omega) _ | refine Below.drew ?_ | refine Below.trans ?_ (Below.mono (by assumption) (by first | (simp; done) | (simp; omega) | omega))))⟩
theorem pclose_k (sqa tka na sa qa lwa hga sqb tkb nb sb qb lwb hgb k : Int) (w : World) (ha : rightP na sa qa) (hb : rightP nb sb qb) (hk : ¬ (1 ≤ k ∧ k ≤ 64)) : Calls Try.prog 17 #[.agg #[.int .i64 sqa, .int .i64 tka, .int .i64 na, .int .i64 sa, .int .i64 qa, .int .i64 lwa, .int .i64 hga], .agg #[.int .i64 sqb, .int .i64 tkb, .int .i64 nb, .int .i64 sb, .int .i64 qb, .int .i64 lwb, .int .i64 hgb], .int .i64 k] w fun e w' => e = .returned (.bool false) ∧ Below w.heap.size w w' := by
  by_cases h0 : k < 1
  · exact pclose_k0 sqa tka na sa qa lwa hga sqb tkb nb sb qb lwb hgb k w ha hb h0
  · exact pclose_k1 sqa tka na sa qa lwa hga sqb tkb nb sb qb lwb hgb k w ha hb (by omega) (by omega)
theorem pclose_n (sqa tka na sa qa lwa hga sqb tkb nb sb qb lwb hgb k : Int) (w : World) (ha : rightP na sa qa) (hb : rightP nb sb qb) (hk : 1 ≤ k ∧ k ≤ 64) (h : 6 * k * nb < (6 * k - 1) * na) : Calls Try.prog 17 #[.agg #[.int .i64 sqa, .int .i64 tka, .int .i64 na, .int .i64 sa, .int .i64 qa, .int .i64 lwa, .int .i64 hga], .agg #[.int .i64 sqb, .int .i64 tkb, .int .i64 nb, .int .i64 sb, .int .i64 qb, .int .i64 lwb, .int .i64 hgb], .int .i64 k] w fun e w' => e = .returned (.bool false) ∧ Below w.heap.size w w' := by
  have PRa := fun w => pright sqa tka na sa qa lwa hga w
  rw [decide_eq_true ha] at PRa
  have PRa := Lib.hid PRa
  have PRb := fun w => pright sqb tkb nb sb qb lwb hgb w
  rw [decide_eq_true hb] at PRb
  have PRb := Lib.hid PRb
  have w0 : ¬ k < 1 := by omega
  have w1 : ¬ 64 < k := by omega
  have bk := hk
  obtain ⟨k0, k1⟩ := bk
  have na0 := ha.1
  have na1 := ha.2.1
  have nb0 := hb.1
  have nb1 := hb.2.1
  have m1 : 0 ≤ 6 * k * nb ∧ 6 * k * nb ≤ 25165824 := ⟨Int.mul_nonneg (by omega) (by omega), Int.mul_le_mul (show 6 * k ≤ 384 by omega) nb1 (by omega) (by decide)⟩
  have m2 : 0 ≤ (6 * k - 1) * na ∧ (6 * k - 1) * na ≤ 25165824 := ⟨Int.mul_nonneg (by omega) (by omega), Int.mul_le_mul (show 6 * k - 1 ≤ 384 by omega) na1 (by omega) (by decide)⟩
  have m3 : 0 ≤ 6 * k * na ∧ 6 * k * na ≤ 25165824 := ⟨Int.mul_nonneg (by omega) (by omega), Int.mul_le_mul (show 6 * k ≤ 384 by omega) na1 (by omega) (by decide)⟩
  have m4 : 0 ≤ (6 * k - 1) * nb ∧ (6 * k - 1) * nb ≤ 25165824 := ⟨Int.mul_nonneg (by omega) (by omega), Int.mul_le_mul (show 6 * k - 1 ≤ 384 by omega) nb1 (by omega) (by decide)⟩
  have w6 : IntKind.i64.wrap (6 * k) = 6 * k := IntWalk.i64_in _ (by omega)
  have w61 : IntKind.i64.wrap (6 * k - 1) = 6 * k - 1 := IntWalk.i64_in _ (by omega)
  have wm1 : IntKind.i64.wrap (6 * k * nb) = 6 * k * nb := IntWalk.i64_in _ (by omega)
  have wm2 : IntKind.i64.wrap ((6 * k - 1) * na) = (6 * k - 1) * na := IntWalk.i64_in _ (by omega)
  have wm3 : IntKind.i64.wrap (6 * k * na) = 6 * k * na := IntWalk.i64_in _ (by omega)
  have wm4 : IntKind.i64.wrap ((6 * k - 1) * nb) = (6 * k - 1) * nb := IntWalk.i64_in _ (by omega)
  clear ha hb hk
  go_enter Try.func17, Try.ntmps17
  go_wp2_with (first | (go_at_call 44; with_reducible refine (PRa.out _).mono ?_; rintro e w1 ⟨rfl, hb1⟩; have hz1 := hb1.size; (try simp at hz1); have o1 : Below w.heap.size w w1 := (by (repeat (first | exact Below.refl _ _ | refine Below.setCell ?_ (by first | (simp; done) | (simp; omega) | omega) _ | refine Below.alloc ?_ (by first | (simp; done) | (simp; omega) | omega) _ | refine Below.drew ?_ | refine Below.trans ?_ (Below.mono (by assumption) (by first | (simp; done) | (simp; omega) | omega))))); have q1_0 : w.heap.size < w1.heap.size := (by omega); have r1_0 : Row w1 (w.heap.size) 33 #[.int .i64 sqa, .int .i64 tka, .int .i64 na, .int .i64 sa, .int .i64 qa, .int .i64 lwa, .int .i64 hga] := row_call (by (repeat (first | assumption | (refine row_new ?_; (first | (simp; done) | omega)) | refine row_alloc ?_ _ | refine row_drew ?_ | refine row_call ?_ (by assumption)))) hb1; obtain ⟨c1_0a, c1_0b, c1_0c, c1_0d, c1_0e, c1_0f, c1_0g, f1_0a, f1_0b, f1_0c, f1_0d, f1_0e, f1_0f, f1_0g⟩ := row_seven r1_0; have q1_1 : w.heap.size + 1 < w1.heap.size := (by omega); have r1_1 : Row w1 (w.heap.size + 1) 33 #[.int .i64 sqb, .int .i64 tkb, .int .i64 nb, .int .i64 sb, .int .i64 qb, .int .i64 lwb, .int .i64 hgb] := row_call (by (repeat (first | assumption | (refine row_new ?_; (first | (simp; done) | omega)) | refine row_alloc ?_ _ | refine row_drew ?_ | refine row_call ?_ (by assumption)))) hb1; obtain ⟨c1_1a, c1_1b, c1_1c, c1_1d, c1_1e, c1_1f, c1_1g, f1_1a, f1_1b, f1_1c, f1_1d, f1_1e, f1_1f, f1_1g⟩ := row_seven r1_1) | (go_at_call 44; with_reducible refine (PRb.out _).mono ?_; rintro e w2 ⟨rfl, hb2⟩; have hz2 := hb2.size; (try simp at hz2); have o2 : Below w.heap.size w w2 := (by (repeat (first | exact Below.refl _ _ | refine Below.setCell ?_ (by first | (simp; done) | (simp; omega) | omega) _ | refine Below.alloc ?_ (by first | (simp; done) | (simp; omega) | omega) _ | refine Below.drew ?_ | refine Below.trans ?_ (Below.mono (by assumption) (by first | (simp; done) | (simp; omega) | omega))))); have q2_0 : w.heap.size < w2.heap.size := (by omega); have r2_0 : Row w2 (w.heap.size) 33 #[.int .i64 sqa, .int .i64 tka, .int .i64 na, .int .i64 sa, .int .i64 qa, .int .i64 lwa, .int .i64 hga] := row_call (by (repeat (first | assumption | (refine row_new ?_; (first | (simp; done) | omega)) | refine row_alloc ?_ _ | refine row_drew ?_ | refine row_call ?_ (by assumption)))) hb2; obtain ⟨c2_0a, c2_0b, c2_0c, c2_0d, c2_0e, c2_0f, c2_0g, f2_0a, f2_0b, f2_0c, f2_0d, f2_0e, f2_0f, f2_0g⟩ := row_seven r2_0; have q2_1 : w.heap.size + 1 < w2.heap.size := (by omega); have r2_1 : Row w2 (w.heap.size + 1) 33 #[.int .i64 sqb, .int .i64 tkb, .int .i64 nb, .int .i64 sb, .int .i64 qb, .int .i64 lwb, .int .i64 hgb] := row_call (by (repeat (first | assumption | (refine row_new ?_; (first | (simp; done) | omega)) | refine row_alloc ?_ _ | refine row_drew ?_ | refine row_call ?_ (by assumption)))) hb2; obtain ⟨c2_1a, c2_1b, c2_1c, c2_1d, c2_1e, c2_1f, c2_1g, f2_1a, f2_1b, f2_1c, f2_1d, f2_1e, f2_1f, f2_1g⟩ := row_seven r2_1))
  go_ret
  exact ⟨rfl, by (repeat (first | exact Below.refl _ _ | refine Below.setCell ?_ (by first | (simp; done) | (simp; omega) | omega) _ | refine Below.alloc ?_ (by first | (simp; done) | (simp; omega) | omega) _ | refine Below.drew ?_ | refine Below.trans ?_ (Below.mono (by assumption) (by first | (simp; done) | (simp; omega) | omega))))⟩
set_option maxHeartbeats 4000000 in
theorem pclose_ok (sqa tka na sa qa lwa hga sqb tkb nb sb qb lwb hgb k : Int) (w : World) (ha : rightP na sa qa) (hb : rightP nb sb qb) (hk : 1 ≤ k ∧ k ≤ 64) (h : (6 * k - 1) * na ≤ 6 * k * nb) :
    Calls Try.prog 17 #[.agg #[.int .i64 sqa, .int .i64 tka, .int .i64 na, .int .i64 sa, .int .i64 qa, .int .i64 lwa, .int .i64 hga], .agg #[.int .i64 sqb, .int .i64 tkb, .int .i64 nb, .int .i64 sb, .int .i64 qb, .int .i64 lwb, .int .i64 hgb], .int .i64 k] w fun e w' => e = .returned (.bool (decide (topN na sa qa * nb.toNat * (6 * k - 1).toNat ≤ topN nb sb qb * na.toNat * (6 * k).toNat))) ∧ Below w.heap.size w w' := by
  have PRa := fun w => pright sqa tka na sa qa lwa hga w
  rw [decide_eq_true ha] at PRa
  have PRa := Lib.hid PRa
  have PRb := fun w => pright sqb tkb nb sb qb lwb hgb w
  rw [decide_eq_true hb] at PRb
  have PRb := Lib.hid PRb
  have w0 : ¬ k < 1 := by omega
  have w1 : ¬ 64 < k := by omega
  have bk := hk
  obtain ⟨k0, k1⟩ := bk
  have na0 := ha.1
  have na1 := ha.2.1
  have nb0 := hb.1
  have nb1 := hb.2.1
  have m1 : 0 ≤ 6 * k * nb ∧ 6 * k * nb ≤ 25165824 := ⟨Int.mul_nonneg (by omega) (by omega), Int.mul_le_mul (show 6 * k ≤ 384 by omega) nb1 (by omega) (by decide)⟩
  have m2 : 0 ≤ (6 * k - 1) * na ∧ (6 * k - 1) * na ≤ 25165824 := ⟨Int.mul_nonneg (by omega) (by omega), Int.mul_le_mul (show 6 * k - 1 ≤ 384 by omega) na1 (by omega) (by decide)⟩
  have m3 : 0 ≤ 6 * k * na ∧ 6 * k * na ≤ 25165824 := ⟨Int.mul_nonneg (by omega) (by omega), Int.mul_le_mul (show 6 * k ≤ 384 by omega) na1 (by omega) (by decide)⟩
  have m4 : 0 ≤ (6 * k - 1) * nb ∧ (6 * k - 1) * nb ≤ 25165824 := ⟨Int.mul_nonneg (by omega) (by omega), Int.mul_le_mul (show 6 * k - 1 ≤ 384 by omega) nb1 (by omega) (by decide)⟩
  have w6 : IntKind.i64.wrap (6 * k) = 6 * k := IntWalk.i64_in _ (by omega)
  have w61 : IntKind.i64.wrap (6 * k - 1) = 6 * k - 1 := IntWalk.i64_in _ (by omega)
  have wm1 : IntKind.i64.wrap (6 * k * nb) = 6 * k * nb := IntWalk.i64_in _ (by omega)
  have wm2 : IntKind.i64.wrap ((6 * k - 1) * na) = (6 * k - 1) * na := IntWalk.i64_in _ (by omega)
  have wm3 : IntKind.i64.wrap (6 * k * na) = 6 * k * na := IntWalk.i64_in _ (by omega)
  have wm4 : IntKind.i64.wrap ((6 * k - 1) * nb) = (6 * k - 1) * nb := IntWalk.i64_in _ (by omega)
  have h' : ¬ 6 * k * nb < (6 * k - 1) * na := Int.not_lt.2 h
  have ta := right_top ha
  have tb := right_top hb
  have tA : topN na sa qa ≤ 72057594037927936 := by unfold topN; omega
  have tB : topN nb sb qb ≤ 72057594037927936 := by unfold topN; omega
  have PTa := fun w => ptop sqa tka na sa qa lwa hga w ha
  have PTb := fun w => ptop sqb tkb nb sb qb lwb hgb w hb
  have PPx := fun w => pproduct (topN nb sb qb : Int) na (by unfold Word; omega) (by unfold Word; omega) w
  have PPy := fun w => pproduct (topN na sa qa : Int) nb (by unfold Word; omega) (by unfold Word; omega) w
  rw [Int.toNat_natCast] at PPx PPy
  have p1 : topN nb sb qb * na.toNat ≤ 4722366482869645213696 := Nat.mul_le_mul tB (show na.toNat ≤ 65536 by omega)
  have p2 : topN na sa qa * nb.toNat ≤ 4722366482869645213696 := Nat.mul_le_mul tA (show nb.toNat ≤ 65536 by omega)
  have ux : IntKind.u64.wrap (topN nb sb qb : Int) = (topN nb sb qb : Int) := IntWalk.u64_in _ (by omega)
  have uy : IntKind.u64.wrap (topN na sa qa : Int) = (topN na sa qa : Int) := IntWalk.u64_in _ (by omega)
  generalize topN nb sb qb * na.toNat = px at PPx p1 ⊢
  generalize topN na sa qa * nb.toNat = py at PPy p2 ⊢
  generalize (topN nb sb qb : Int) = tpb at PTb PPx ux
  generalize (topN na sa qa : Int) = tpa at PTa PPy uy
  have un : IntKind.u64.wrap na = na := IntWalk.u64_in _ (by omega)
  have unb : IntKind.u64.wrap nb = nb := IntWalk.u64_in _ (by omega)
  have um : IntKind.u64.wrap (6 * k) = 6 * k := IntWalk.u64_in _ (by omega)
  have ul : IntKind.u64.wrap (6 * k - 1) = 6 * k - 1 := IntWalk.u64_in _ (by omega)
  have Oxx := fun w => pofI (6 * k) (by unfold Word; omega) w
  have Oyy := fun w => pofI (6 * k - 1) (by unfold Word; omega) w
  have q1 : (6 * k).toNat ≤ 384 := by omega
  have q2 : (6 * k - 1).toNat ≤ 384 := by omega
  generalize (6 * k).toNat = mx at Oxx q1 ⊢
  generalize (6 * k - 1).toNat = my at Oyy q2 ⊢
  have Mxx := fun w => pmul px mx (Nat.lt_of_le_of_lt p1 (by decide)) (Nat.lt_of_le_of_lt q1 (by decide)) w
  have Myy := fun w => pmul py my (Nat.lt_of_le_of_lt p2 (by decide)) (Nat.lt_of_le_of_lt q2 (by decide)) w
  have s1 := mul_smallN p1 q1 (by decide)
  have s2 := mul_smallN p2 q2 (by decide)
  rw [s1.1, s1.2] at Mxx
  rw [s2.1, s2.2] at Myy
  have CM := fun w => pcmp_any (px * mx) (py * my) w
  have CD := cmp_dec (px * mx) (py * my)
  generalize px * mx = xx at Mxx CM CD ⊢
  generalize py * my = yy at Myy CM CD ⊢
  rw [← CD]
  generalize cmp xx yy = cv at CM ⊢
  have PTa := Lib.hid PTa
  have PTb := Lib.hid PTb
  have PPx := Lib.hid PPx
  have PPy := Lib.hid PPy
  have Oxx := Lib.hid Oxx
  have Oyy := Lib.hid Oyy
  have Mxx := Lib.hid Mxx
  have Myy := Lib.hid Myy
  have CM := Lib.hid CM
  clear ha hb hk ta tb tA tB h p1 p2 q1 q2 s1 s2 CD m1 m2 m3 m4
  go_enter Try.func17, Try.ntmps17
  go_upto_region 6 with (first | (go_at_call 44; with_reducible refine (PRa.out _).mono ?_; rintro e w1 ⟨rfl, hb1⟩; have hz1 := hb1.size; (try simp at hz1); have o1 : Below w.heap.size w w1 := (by (repeat (first | exact Below.refl _ _ | refine Below.setCell ?_ (by first | (simp; done) | (simp; omega) | omega) _ | refine Below.alloc ?_ (by first | (simp; done) | (simp; omega) | omega) _ | refine Below.drew ?_ | refine Below.trans ?_ (Below.mono (by assumption) (by first | (simp; done) | (simp; omega) | omega))))); have q1_0 : w.heap.size < w1.heap.size := (by omega); have r1_0 : Row w1 (w.heap.size) 33 #[.int .i64 sqa, .int .i64 tka, .int .i64 na, .int .i64 sa, .int .i64 qa, .int .i64 lwa, .int .i64 hga] := row_call (by (repeat (first | assumption | (refine row_new ?_; (first | (simp; done) | omega)) | refine row_alloc ?_ _ | refine row_drew ?_ | refine row_call ?_ (by assumption)))) hb1; obtain ⟨c1_0a, c1_0b, c1_0c, c1_0d, c1_0e, c1_0f, c1_0g, f1_0a, f1_0b, f1_0c, f1_0d, f1_0e, f1_0f, f1_0g⟩ := row_seven r1_0; have q1_1 : w.heap.size + 1 < w1.heap.size := (by omega); have r1_1 : Row w1 (w.heap.size + 1) 33 #[.int .i64 sqb, .int .i64 tkb, .int .i64 nb, .int .i64 sb, .int .i64 qb, .int .i64 lwb, .int .i64 hgb] := row_call (by (repeat (first | assumption | (refine row_new ?_; (first | (simp; done) | omega)) | refine row_alloc ?_ _ | refine row_drew ?_ | refine row_call ?_ (by assumption)))) hb1; obtain ⟨c1_1a, c1_1b, c1_1c, c1_1d, c1_1e, c1_1f, c1_1g, f1_1a, f1_1b, f1_1c, f1_1d, f1_1e, f1_1f, f1_1g⟩ := row_seven r1_1) | (go_at_call 44; with_reducible refine (PRb.out _).mono ?_; rintro e w2 ⟨rfl, hb2⟩; have hz2 := hb2.size; (try simp at hz2); have o2 : Below w.heap.size w w2 := (by (repeat (first | exact Below.refl _ _ | refine Below.setCell ?_ (by first | (simp; done) | (simp; omega) | omega) _ | refine Below.alloc ?_ (by first | (simp; done) | (simp; omega) | omega) _ | refine Below.drew ?_ | refine Below.trans ?_ (Below.mono (by assumption) (by first | (simp; done) | (simp; omega) | omega))))); have q2_0 : w.heap.size < w2.heap.size := (by omega); have r2_0 : Row w2 (w.heap.size) 33 #[.int .i64 sqa, .int .i64 tka, .int .i64 na, .int .i64 sa, .int .i64 qa, .int .i64 lwa, .int .i64 hga] := row_call (by (repeat (first | assumption | (refine row_new ?_; (first | (simp; done) | omega)) | refine row_alloc ?_ _ | refine row_drew ?_ | refine row_call ?_ (by assumption)))) hb2; obtain ⟨c2_0a, c2_0b, c2_0c, c2_0d, c2_0e, c2_0f, c2_0g, f2_0a, f2_0b, f2_0c, f2_0d, f2_0e, f2_0f, f2_0g⟩ := row_seven r2_0; have q2_1 : w.heap.size + 1 < w2.heap.size := (by omega); have r2_1 : Row w2 (w.heap.size + 1) 33 #[.int .i64 sqb, .int .i64 tkb, .int .i64 nb, .int .i64 sb, .int .i64 qb, .int .i64 lwb, .int .i64 hgb] := row_call (by (repeat (first | assumption | (refine row_new ?_; (first | (simp; done) | omega)) | refine row_alloc ?_ _ | refine row_drew ?_ | refine row_call ?_ (by assumption)))) hb2; obtain ⟨c2_1a, c2_1b, c2_1c, c2_1d, c2_1e, c2_1f, c2_1g, f2_1a, f2_1b, f2_1c, f2_1d, f2_1e, f2_1f, f2_1g⟩ := row_seven r2_1))
  have L : Row w2 (w.heap.size) 33 #[.int .i64 sqa, .int .i64 tka, .int .i64 na, .int .i64 sa, .int .i64 qa, .int .i64 lwa, .int .i64 hga] ∧ Row w2 (w.heap.size + 1) 33 #[.int .i64 sqb, .int .i64 tkb, .int .i64 nb, .int .i64 sb, .int .i64 qb, .int .i64 lwb, .int .i64 hgb] ∧ Below w.heap.size w w2 := ⟨r2_0, r2_1, o2⟩
  refine wp_region_free1 [0, 1, 2, 3, 4, 5, 6, 7, 8, 9, 10, 11, 13, 12] [13] [0, 1, 2, 3, 4, 5, 6, 7, 8, 9, 10, 11, 12, 14] (14, 72, #[.int .u64 0, .int .u64 0]) 9 15 (fun w' => Row w' (w.heap.size) 33 #[.int .i64 sqa, .int .i64 tka, .int .i64 na, .int .i64 sa, .int .i64 qa, .int .i64 lwa, .int .i64 hga] ∧ Row w' (w.heap.size + 1) 33 #[.int .i64 sqb, .int .i64 tkb, .int .i64 nb, .int .i64 sb, .int .i64 qb, .int .i64 lwb, .int .i64 hgb] ∧ Below w.heap.size w w') (by kernel_rfl) (by kernel_rfl) ⟨_, _, rfl, rfl, rfl, fun ρ w' => by go_simp⟩ rfl (by simp) (fun _ h => ⟨row_alloc h.1 _, row_alloc h.2.1 _, h.2.2.alloc h.2.2.size _⟩) (fun _ _ d _ _ h => by cases d <;> exact h) ?_ ?_
  · exact ⟨L.1, L.2.1, L.2.2.drew⟩
  (refine plan_val ?_ rfl rfl rfl (fun w' hS => ?_) ?_; rotate_left; (obtain ⟨X0, X1, X2, X3, X4, X5, X6, _⟩ := row_seven hS.1; obtain ⟨Y0, Y1, Y2, Y3, Y4, Y5, Y6, _⟩ := row_seven hS.2.1; go_simp; try with_reducible rfl); simp only [Act.put, List.setIfInBounds_toArray, List.set_cons_zero, List.set_cons_succ])
  refine plan_call (.int .i64 tpb) 46 #[.agg #[.int .i64 sqb, .int .i64 tkb, .int .i64 nb, .int .i64 sb, .int .i64 qb, .int .i64 lwb, .int .i64 hgb]] rfl rfl rfl (fun _ _ h hb => ⟨row_call h.1 hb, row_call h.2.1 hb, h.2.2.trans (hb.mono h.2.2.size)⟩) (fun w' hS => by obtain ⟨X0, X1, X2, X3, X4, X5, X6, _⟩ := row_seven hS.1; obtain ⟨Y0, Y1, Y2, Y3, Y4, Y5, Y6, _⟩ := row_seven hS.2.1; go_simp) (fun w' hS => PTb.out w') ?_
  simp only [Act.put, List.setIfInBounds_toArray, List.set_cons_zero, List.set_cons_succ]
  (refine plan_pure ?_ rfl rfl (fun w' => ?_) ?_; rotate_left; (go_simp; try with_reducible rfl); simp only [Act.put, List.setIfInBounds_toArray, List.set_cons_zero, List.set_cons_succ])
  (refine plan_pure ?_ rfl rfl (fun w' => ?_) ?_; rotate_left; (go_simp; try with_reducible rfl); simp only [Act.put, List.setIfInBounds_toArray, List.set_cons_zero, List.set_cons_succ])
  (refine plan_val ?_ rfl rfl rfl (fun w' hS => ?_) ?_; rotate_left; (obtain ⟨X0, X1, X2, X3, X4, X5, X6, _⟩ := row_seven hS.1; obtain ⟨Y0, Y1, Y2, Y3, Y4, Y5, Y6, _⟩ := row_seven hS.2.1; go_simp; try with_reducible rfl); simp only [Act.put, List.setIfInBounds_toArray, List.set_cons_zero, List.set_cons_succ])
  (refine plan_pure ?_ rfl rfl (fun w' => ?_) ?_; rotate_left; (go_simp; try with_reducible rfl); simp only [Act.put, List.setIfInBounds_toArray, List.set_cons_zero, List.set_cons_succ])
  refine plan_call (W px) 50 #[.int .u64 tpb, .int .u64 na] rfl rfl rfl (fun _ _ h hb => ⟨row_call h.1 hb, row_call h.2.1 hb, h.2.2.trans (hb.mono h.2.2.size)⟩) (fun w' hS => by obtain ⟨X0, X1, X2, X3, X4, X5, X6, _⟩ := row_seven hS.1; obtain ⟨Y0, Y1, Y2, Y3, Y4, Y5, Y6, _⟩ := row_seven hS.2.1; go_simp) (fun w' hS => PPx.out w') ?_
  simp only [Act.put, List.setIfInBounds_toArray, List.set_cons_zero, List.set_cons_succ]
  (refine plan_pure ?_ rfl rfl (fun w' => ?_) ?_; rotate_left; (go_simp; try with_reducible rfl); simp only [Act.put, List.setIfInBounds_toArray, List.set_cons_zero, List.set_cons_succ])
  (refine plan_pure ?_ rfl rfl (fun w' => ?_) ?_; rotate_left; (go_simp; try with_reducible rfl); simp only [Act.put, List.setIfInBounds_toArray, List.set_cons_zero, List.set_cons_succ])
  refine plan_call (W mx) 51 #[.int .u64 (6 * k)] rfl rfl rfl (fun _ _ h hb => ⟨row_call h.1 hb, row_call h.2.1 hb, h.2.2.trans (hb.mono h.2.2.size)⟩) (fun w' hS => by obtain ⟨X0, X1, X2, X3, X4, X5, X6, _⟩ := row_seven hS.1; obtain ⟨Y0, Y1, Y2, Y3, Y4, Y5, Y6, _⟩ := row_seven hS.2.1; go_simp) (fun w' hS => Oxx.out w') ?_
  simp only [Act.put, List.setIfInBounds_toArray, List.set_cons_zero, List.set_cons_succ]
  refine plan_call (.tuple #[W xx, .bool true]) 49 #[W px, W mx] rfl rfl rfl (fun _ _ h hb => ⟨row_call h.1 hb, row_call h.2.1 hb, h.2.2.trans (hb.mono h.2.2.size)⟩) (fun w' hS => by obtain ⟨X0, X1, X2, X3, X4, X5, X6, _⟩ := row_seven hS.1; obtain ⟨Y0, Y1, Y2, Y3, Y4, Y5, Y6, _⟩ := row_seven hS.2.1; go_simp) (fun w' hS => Mxx.out w') ?_
  simp only [Act.put, List.setIfInBounds_toArray, List.set_cons_zero, List.set_cons_succ]
  (refine plan_pure ?_ rfl rfl (fun w' => ?_) ?_; rotate_left; (go_simp; try with_reducible rfl); simp only [Act.put, List.setIfInBounds_toArray, List.set_cons_zero, List.set_cons_succ])
  (refine plan_pure ?_ rfl rfl (fun w' => ?_) ?_; rotate_left; (go_simp; try with_reducible rfl); simp only [Act.put, List.setIfInBounds_toArray, List.set_cons_zero, List.set_cons_succ])
  (refine plan_pure ?_ rfl rfl (fun w' => ?_) ?_; rotate_left; (go_simp; try with_reducible rfl); simp only [Act.put, List.setIfInBounds_toArray, List.set_cons_zero, List.set_cons_succ])
  refine plan_nil ?_
  intro g1 w3 L3 hg1r hg1g
  simp only [List.drop_succ_cons, List.drop_zero]
  try simp only [Act.put, List.setIfInBounds_toArray, List.set_cons_zero, List.set_cons_succ]
  obtain ⟨x1, x2, x3⟩ := L3
  clear L
  obtain ⟨G0, G1, G2, G3⟩ := row_two hg1r
  go_upto_region 7 with (fail)
  have x1 := row_two_other (c := g1) (u := .int .u64 (hi xx)) (v := .int .u64 (lo xx)) x1 (by omega)
  have x2 := row_two_other (c := g1) (u := .int .u64 (hi xx)) (v := .int .u64 (lo xx)) x2 (by omega)
  have G := row_two_set (u := .int .u64 (hi xx)) (v := .int .u64 (lo xx)) hg1r
  have x3 := (x3.setCell (p := ⟨g1, 0, none⟩) (by simp; omega) (.int .u64 (hi xx))).setCell (p := ⟨g1, 1, none⟩) (by simp; omega) (.int .u64 (lo xx))
  generalize ((w3.setCell ⟨g1, 0, none⟩ (.int .u64 (hi xx))).setCell ⟨g1, 1, none⟩ (.int .u64 (lo xx))) = w4 at x1 x2 G x3 ⊢
  clear G0 G1 G2 G3 hg1r
  have gl4 := row_lt G
  have zs4 := x3.size
  have L5 : Row w4 (w.heap.size) 33 #[.int .i64 sqa, .int .i64 tka, .int .i64 na, .int .i64 sa, .int .i64 qa, .int .i64 lwa, .int .i64 hga] ∧ Row w4 (w.heap.size + 1) 33 #[.int .i64 sqb, .int .i64 tkb, .int .i64 nb, .int .i64 sb, .int .i64 qb, .int .i64 lwb, .int .i64 hgb] ∧ Row w4 g1 72 #[.int .u64 (hi xx), .int .u64 (lo xx)] ∧ Below w.heap.size w w4 := ⟨x1, x2, G, x3⟩
  refine wp_region_free1 [0, 1, 2, 3, 4, 5, 6, 7, 8, 9, 10, 11, 13, 12] [13] [0, 1, 2, 3, 4, 5, 6, 7, 8, 9, 10, 11, 12, 14] (14, 72, #[.int .u64 0, .int .u64 0]) 11 15 (fun w' => Row w' (w.heap.size) 33 #[.int .i64 sqa, .int .i64 tka, .int .i64 na, .int .i64 sa, .int .i64 qa, .int .i64 lwa, .int .i64 hga] ∧ Row w' (w.heap.size + 1) 33 #[.int .i64 sqb, .int .i64 tkb, .int .i64 nb, .int .i64 sb, .int .i64 qb, .int .i64 lwb, .int .i64 hgb] ∧ Row w' g1 72 #[.int .u64 (hi xx), .int .u64 (lo xx)] ∧ Below w.heap.size w w') (by kernel_rfl) (by kernel_rfl) ⟨_, _, rfl, rfl, rfl, fun ρ w' => by go_simp⟩ rfl (by simp) (fun _ h => ⟨row_alloc h.1 _, row_alloc h.2.1 _, row_alloc h.2.2.1 _, h.2.2.2.alloc h.2.2.2.size _⟩) (fun _ _ d _ _ h => by cases d <;> exact h) ?_ ?_
  · exact ⟨L5.1, L5.2.1, L5.2.2.1, L5.2.2.2.drew⟩
  (refine plan_val ?_ rfl rfl rfl (fun w' hS => ?_) ?_; rotate_left; (obtain ⟨X0, X1, X2, X3, X4, X5, X6, _⟩ := row_seven hS.1; obtain ⟨Y0, Y1, Y2, Y3, Y4, Y5, Y6, _⟩ := row_seven hS.2.1; go_simp; try with_reducible rfl); simp only [Act.put, List.setIfInBounds_toArray, List.set_cons_zero, List.set_cons_succ])
  refine plan_call (.int .i64 tpa) 46 #[.agg #[.int .i64 sqa, .int .i64 tka, .int .i64 na, .int .i64 sa, .int .i64 qa, .int .i64 lwa, .int .i64 hga]] rfl rfl rfl (fun _ _ h hb => ⟨row_call h.1 hb, row_call h.2.1 hb, row_call h.2.2.1 hb, h.2.2.2.trans (hb.mono h.2.2.2.size)⟩) (fun w' hS => by obtain ⟨X0, X1, X2, X3, X4, X5, X6, _⟩ := row_seven hS.1; obtain ⟨Y0, Y1, Y2, Y3, Y4, Y5, Y6, _⟩ := row_seven hS.2.1; go_simp) (fun w' hS => PTa.out w') ?_
  simp only [Act.put, List.setIfInBounds_toArray, List.set_cons_zero, List.set_cons_succ]
  (refine plan_pure ?_ rfl rfl (fun w' => ?_) ?_; rotate_left; (go_simp; try with_reducible rfl); simp only [Act.put, List.setIfInBounds_toArray, List.set_cons_zero, List.set_cons_succ])
  (refine plan_pure ?_ rfl rfl (fun w' => ?_) ?_; rotate_left; (go_simp; try with_reducible rfl); simp only [Act.put, List.setIfInBounds_toArray, List.set_cons_zero, List.set_cons_succ])
  (refine plan_val ?_ rfl rfl rfl (fun w' hS => ?_) ?_; rotate_left; (obtain ⟨X0, X1, X2, X3, X4, X5, X6, _⟩ := row_seven hS.1; obtain ⟨Y0, Y1, Y2, Y3, Y4, Y5, Y6, _⟩ := row_seven hS.2.1; go_simp; try with_reducible rfl); simp only [Act.put, List.setIfInBounds_toArray, List.set_cons_zero, List.set_cons_succ])
  (refine plan_pure ?_ rfl rfl (fun w' => ?_) ?_; rotate_left; (go_simp; try with_reducible rfl); simp only [Act.put, List.setIfInBounds_toArray, List.set_cons_zero, List.set_cons_succ])
  refine plan_call (W py) 50 #[.int .u64 tpa, .int .u64 nb] rfl rfl rfl (fun _ _ h hb => ⟨row_call h.1 hb, row_call h.2.1 hb, row_call h.2.2.1 hb, h.2.2.2.trans (hb.mono h.2.2.2.size)⟩) (fun w' hS => by obtain ⟨X0, X1, X2, X3, X4, X5, X6, _⟩ := row_seven hS.1; obtain ⟨Y0, Y1, Y2, Y3, Y4, Y5, Y6, _⟩ := row_seven hS.2.1; go_simp) (fun w' hS => PPy.out w') ?_
  simp only [Act.put, List.setIfInBounds_toArray, List.set_cons_zero, List.set_cons_succ]
  (refine plan_pure ?_ rfl rfl (fun w' => ?_) ?_; rotate_left; (go_simp; try with_reducible rfl); simp only [Act.put, List.setIfInBounds_toArray, List.set_cons_zero, List.set_cons_succ])
  (refine plan_pure ?_ rfl rfl (fun w' => ?_) ?_; rotate_left; (go_simp; try with_reducible rfl); simp only [Act.put, List.setIfInBounds_toArray, List.set_cons_zero, List.set_cons_succ])
  refine plan_call (W my) 51 #[.int .u64 (6 * k - 1)] rfl rfl rfl (fun _ _ h hb => ⟨row_call h.1 hb, row_call h.2.1 hb, row_call h.2.2.1 hb, h.2.2.2.trans (hb.mono h.2.2.2.size)⟩) (fun w' hS => by obtain ⟨X0, X1, X2, X3, X4, X5, X6, _⟩ := row_seven hS.1; obtain ⟨Y0, Y1, Y2, Y3, Y4, Y5, Y6, _⟩ := row_seven hS.2.1; go_simp) (fun w' hS => Oyy.out w') ?_
  simp only [Act.put, List.setIfInBounds_toArray, List.set_cons_zero, List.set_cons_succ]
  refine plan_call (.tuple #[W yy, .bool true]) 49 #[W py, W my] rfl rfl rfl (fun _ _ h hb => ⟨row_call h.1 hb, row_call h.2.1 hb, row_call h.2.2.1 hb, h.2.2.2.trans (hb.mono h.2.2.2.size)⟩) (fun w' hS => by obtain ⟨X0, X1, X2, X3, X4, X5, X6, _⟩ := row_seven hS.1; obtain ⟨Y0, Y1, Y2, Y3, Y4, Y5, Y6, _⟩ := row_seven hS.2.1; go_simp) (fun w' hS => Myy.out w') ?_
  simp only [Act.put, List.setIfInBounds_toArray, List.set_cons_zero, List.set_cons_succ]
  (refine plan_pure ?_ rfl rfl (fun w' => ?_) ?_; rotate_left; (go_simp; try with_reducible rfl); simp only [Act.put, List.setIfInBounds_toArray, List.set_cons_zero, List.set_cons_succ])
  (refine plan_pure ?_ rfl rfl (fun w' => ?_) ?_; rotate_left; (go_simp; try with_reducible rfl); simp only [Act.put, List.setIfInBounds_toArray, List.set_cons_zero, List.set_cons_succ])
  (refine plan_pure ?_ rfl rfl (fun w' => ?_) ?_; rotate_left; (go_simp; try with_reducible rfl); simp only [Act.put, List.setIfInBounds_toArray, List.set_cons_zero, List.set_cons_succ])
  refine plan_nil ?_
  intro g2 w5 L6 hg2r hg2g
  simp only [List.drop_succ_cons, List.drop_zero]
  try simp only [Act.put, List.setIfInBounds_toArray, List.set_cons_zero, List.set_cons_succ]
  obtain ⟨x1, x2, G, x3⟩ := L6
  clear L5
  obtain ⟨G0, G1, G2, G3⟩ := row_two hg2r
  go_upto_region 8 with (fail)
  have ng : g1 ≠ g2 := by omega
  have G := row_two_other (c := g2) (u := .int .u64 (hi yy)) (v := .int .u64 (lo yy)) G ng
  have G' := row_two_set (u := .int .u64 (hi yy)) (v := .int .u64 (lo yy)) hg2r
  have x3 := (x3.setCell (p := ⟨g2, 0, none⟩) (by simp; omega) (.int .u64 (hi yy))).setCell (p := ⟨g2, 1, none⟩) (by simp; omega) (.int .u64 (lo yy))
  generalize ((w5.setCell ⟨g2, 0, none⟩ (.int .u64 (hi yy))).setCell ⟨g2, 1, none⟩ (.int .u64 (lo yy))) = w6 at G G' x3 ⊢
  clear G0 G1 G2 G3 hg2r x1 x2
  obtain ⟨G0, G1, G2, G3⟩ := row_two G
  obtain ⟨H0, H1, H2, H3⟩ := row_two G'
  go_wp2_with (go_at_call 52; refine (CM.out _).mono ?_; rintro e w7 ⟨rfl, hb7⟩)
  go_ret
  exact ⟨rfl, x3.trans (hb7.mono x3.size)⟩
theorem pclose (sqa tka na sa qa lwa hga sqb tkb nb sb qb lwb hgb k : Int) (w : World) : Calls Try.prog 17 #[.agg #[.int .i64 sqa, .int .i64 tka, .int .i64 na, .int .i64 sa, .int .i64 qa, .int .i64 lwa, .int .i64 hga], .agg #[.int .i64 sqb, .int .i64 tkb, .int .i64 nb, .int .i64 sb, .int .i64 qb, .int .i64 lwb, .int .i64 hgb], .int .i64 k] w fun e w' => e = .returned (.bool (decide (closeP na sa qa nb sb qb k))) ∧ Below w.heap.size w w' := by
  by_cases ha : rightP na sa qa
  · by_cases hb : rightP nb sb qb
    · by_cases hk : 1 ≤ k ∧ k ≤ 64
      · by_cases h : (6 * k - 1) * na ≤ 6 * k * nb
        · rw [show decide (closeP na sa qa nb sb qb k) = decide (topN na sa qa * nb.toNat * (6 * k - 1).toNat ≤ topN nb sb qb * na.toNat * (6 * k).toNat) from decide_eq_decide.2 ⟨fun a => a.2.2.2.2, fun hh => ⟨ha, hb, hk, h, hh⟩⟩]
          exact pclose_ok sqa tka na sa qa lwa hga sqb tkb nb sb qb lwb hgb k w ha hb hk h
        · rw [decide_eq_false (fun a => h a.2.2.2.1)]
          exact pclose_n sqa tka na sa qa lwa hga sqb tkb nb sb qb lwb hgb k w ha hb hk (Int.not_le.1 h)
      · rw [decide_eq_false (fun a => hk a.2.2.1)]
        exact pclose_k sqa tka na sa qa lwa hga sqb tkb nb sb qb lwb hgb k w ha hb hk
    · rw [decide_eq_false (fun a => hb a.2.1)]
      exact pclose_b sqa tka na sa qa lwa hga sqb tkb nb sb qb lwb hgb k w ha hb
  · rw [decide_eq_false (fun a => ha a.1)]
    exact pclose_a sqa tka na sa qa lwa hga sqb tkb nb sb qb lwb hgb k w ha
theorem rclose_a (sqa tka na sa qa lwa hga sqb tkb nb sb qb lwb hgb k : Int) (w : World) (ha : ¬ rightP na sa qa) : Calls Try.prog 18 #[.agg #[.int .i64 sqa, .int .i64 tka, .int .i64 na, .int .i64 sa, .int .i64 qa, .int .i64 lwa, .int .i64 hga], .agg #[.int .i64 sqb, .int .i64 tkb, .int .i64 nb, .int .i64 sb, .int .i64 qb, .int .i64 lwb, .int .i64 hgb], .int .i64 k] w fun e w' => e = .returned (.bool false) ∧ Below w.heap.size w w' := by
  have PRa := fun w => rright sqa tka na sa qa lwa hga w
  rw [decide_eq_false ha] at PRa
  have PRa := Lib.hid PRa
  clear ha
  go_enter Try.func18, Try.ntmps18
  go_wp2_with (first | (go_at_call 47; with_reducible refine (PRa.out _).mono ?_; rintro e w1 ⟨rfl, hb1⟩; have hz1 := hb1.size; (try simp at hz1); have o1 : Below w.heap.size w w1 := (by (repeat (first | exact Below.refl _ _ | refine Below.setCell ?_ (by first | (simp; done) | (simp; omega) | omega) _ | refine Below.alloc ?_ (by first | (simp; done) | (simp; omega) | omega) _ | refine Below.drew ?_ | refine Below.trans ?_ (Below.mono (by assumption) (by first | (simp; done) | (simp; omega) | omega))))); have q1_0 : w.heap.size < w1.heap.size := (by omega); have r1_0 : Row w1 (w.heap.size) 33 #[.int .i64 sqa, .int .i64 tka, .int .i64 na, .int .i64 sa, .int .i64 qa, .int .i64 lwa, .int .i64 hga] := row_call (by (repeat (first | assumption | (refine row_new ?_; (first | (simp; done) | omega)) | refine row_alloc ?_ _ | refine row_drew ?_ | refine row_call ?_ (by assumption)))) hb1; obtain ⟨c1_0a, c1_0b, c1_0c, c1_0d, c1_0e, c1_0f, c1_0g, f1_0a, f1_0b, f1_0c, f1_0d, f1_0e, f1_0f, f1_0g⟩ := row_seven r1_0; have q1_1 : w.heap.size + 1 < w1.heap.size := (by omega); have r1_1 : Row w1 (w.heap.size + 1) 33 #[.int .i64 sqb, .int .i64 tkb, .int .i64 nb, .int .i64 sb, .int .i64 qb, .int .i64 lwb, .int .i64 hgb] := row_call (by (repeat (first | assumption | (refine row_new ?_; (first | (simp; done) | omega)) | refine row_alloc ?_ _ | refine row_drew ?_ | refine row_call ?_ (by assumption)))) hb1; obtain ⟨c1_1a, c1_1b, c1_1c, c1_1d, c1_1e, c1_1f, c1_1g, f1_1a, f1_1b, f1_1c, f1_1d, f1_1e, f1_1f, f1_1g⟩ := row_seven r1_1))
  go_ret
  exact ⟨rfl, by (repeat (first | exact Below.refl _ _ | refine Below.setCell ?_ (by first | (simp; done) | (simp; omega) | omega) _ | refine Below.alloc ?_ (by first | (simp; done) | (simp; omega) | omega) _ | refine Below.drew ?_ | refine Below.trans ?_ (Below.mono (by assumption) (by first | (simp; done) | (simp; omega) | omega))))⟩
theorem rclose_b (sqa tka na sa qa lwa hga sqb tkb nb sb qb lwb hgb k : Int) (w : World) (ha : rightP na sa qa) (hb : ¬ rightP nb sb qb) : Calls Try.prog 18 #[.agg #[.int .i64 sqa, .int .i64 tka, .int .i64 na, .int .i64 sa, .int .i64 qa, .int .i64 lwa, .int .i64 hga], .agg #[.int .i64 sqb, .int .i64 tkb, .int .i64 nb, .int .i64 sb, .int .i64 qb, .int .i64 lwb, .int .i64 hgb], .int .i64 k] w fun e w' => e = .returned (.bool false) ∧ Below w.heap.size w w' := by
  have PRa := fun w => rright sqa tka na sa qa lwa hga w
  rw [decide_eq_true ha] at PRa
  have PRa := Lib.hid PRa
  have PRb := fun w => rright sqb tkb nb sb qb lwb hgb w
  rw [decide_eq_false hb] at PRb
  have PRb := Lib.hid PRb
  clear ha hb
  go_enter Try.func18, Try.ntmps18
  go_wp2_with (first | (go_at_call 47; with_reducible refine (PRa.out _).mono ?_; rintro e w1 ⟨rfl, hb1⟩; have hz1 := hb1.size; (try simp at hz1); have o1 : Below w.heap.size w w1 := (by (repeat (first | exact Below.refl _ _ | refine Below.setCell ?_ (by first | (simp; done) | (simp; omega) | omega) _ | refine Below.alloc ?_ (by first | (simp; done) | (simp; omega) | omega) _ | refine Below.drew ?_ | refine Below.trans ?_ (Below.mono (by assumption) (by first | (simp; done) | (simp; omega) | omega))))); have q1_0 : w.heap.size < w1.heap.size := (by omega); have r1_0 : Row w1 (w.heap.size) 33 #[.int .i64 sqa, .int .i64 tka, .int .i64 na, .int .i64 sa, .int .i64 qa, .int .i64 lwa, .int .i64 hga] := row_call (by (repeat (first | assumption | (refine row_new ?_; (first | (simp; done) | omega)) | refine row_alloc ?_ _ | refine row_drew ?_ | refine row_call ?_ (by assumption)))) hb1; obtain ⟨c1_0a, c1_0b, c1_0c, c1_0d, c1_0e, c1_0f, c1_0g, f1_0a, f1_0b, f1_0c, f1_0d, f1_0e, f1_0f, f1_0g⟩ := row_seven r1_0; have q1_1 : w.heap.size + 1 < w1.heap.size := (by omega); have r1_1 : Row w1 (w.heap.size + 1) 33 #[.int .i64 sqb, .int .i64 tkb, .int .i64 nb, .int .i64 sb, .int .i64 qb, .int .i64 lwb, .int .i64 hgb] := row_call (by (repeat (first | assumption | (refine row_new ?_; (first | (simp; done) | omega)) | refine row_alloc ?_ _ | refine row_drew ?_ | refine row_call ?_ (by assumption)))) hb1; obtain ⟨c1_1a, c1_1b, c1_1c, c1_1d, c1_1e, c1_1f, c1_1g, f1_1a, f1_1b, f1_1c, f1_1d, f1_1e, f1_1f, f1_1g⟩ := row_seven r1_1) | (go_at_call 47; with_reducible refine (PRb.out _).mono ?_; rintro e w2 ⟨rfl, hb2⟩; have hz2 := hb2.size; (try simp at hz2); have o2 : Below w.heap.size w w2 := (by (repeat (first | exact Below.refl _ _ | refine Below.setCell ?_ (by first | (simp; done) | (simp; omega) | omega) _ | refine Below.alloc ?_ (by first | (simp; done) | (simp; omega) | omega) _ | refine Below.drew ?_ | refine Below.trans ?_ (Below.mono (by assumption) (by first | (simp; done) | (simp; omega) | omega))))); have q2_0 : w.heap.size < w2.heap.size := (by omega); have r2_0 : Row w2 (w.heap.size) 33 #[.int .i64 sqa, .int .i64 tka, .int .i64 na, .int .i64 sa, .int .i64 qa, .int .i64 lwa, .int .i64 hga] := row_call (by (repeat (first | assumption | (refine row_new ?_; (first | (simp; done) | omega)) | refine row_alloc ?_ _ | refine row_drew ?_ | refine row_call ?_ (by assumption)))) hb2; obtain ⟨c2_0a, c2_0b, c2_0c, c2_0d, c2_0e, c2_0f, c2_0g, f2_0a, f2_0b, f2_0c, f2_0d, f2_0e, f2_0f, f2_0g⟩ := row_seven r2_0; have q2_1 : w.heap.size + 1 < w2.heap.size := (by omega); have r2_1 : Row w2 (w.heap.size + 1) 33 #[.int .i64 sqb, .int .i64 tkb, .int .i64 nb, .int .i64 sb, .int .i64 qb, .int .i64 lwb, .int .i64 hgb] := row_call (by (repeat (first | assumption | (refine row_new ?_; (first | (simp; done) | omega)) | refine row_alloc ?_ _ | refine row_drew ?_ | refine row_call ?_ (by assumption)))) hb2; obtain ⟨c2_1a, c2_1b, c2_1c, c2_1d, c2_1e, c2_1f, c2_1g, f2_1a, f2_1b, f2_1c, f2_1d, f2_1e, f2_1f, f2_1g⟩ := row_seven r2_1))
  go_ret
  exact ⟨rfl, by (repeat (first | exact Below.refl _ _ | refine Below.setCell ?_ (by first | (simp; done) | (simp; omega) | omega) _ | refine Below.alloc ?_ (by first | (simp; done) | (simp; omega) | omega) _ | refine Below.drew ?_ | refine Below.trans ?_ (Below.mono (by assumption) (by first | (simp; done) | (simp; omega) | omega))))⟩
theorem rclose_k (sqa tka na sa qa lwa hga sqb tkb nb sb qb lwb hgb k : Int) (w : World) (ha : rightP na sa qa) (hb : rightP nb sb qb) (hk : ¬ (1 ≤ k ∧ k ≤ 64)) : Calls Try.prog 18 #[.agg #[.int .i64 sqa, .int .i64 tka, .int .i64 na, .int .i64 sa, .int .i64 qa, .int .i64 lwa, .int .i64 hga], .agg #[.int .i64 sqb, .int .i64 tkb, .int .i64 nb, .int .i64 sb, .int .i64 qb, .int .i64 lwb, .int .i64 hgb], .int .i64 k] w fun e w' => e = .returned (.bool false) ∧ Below w.heap.size w w' := by
  have PRa := fun w => rright sqa tka na sa qa lwa hga w
  rw [decide_eq_true ha] at PRa
  have PRa := Lib.hid PRa
  have PRb := fun w => rright sqb tkb nb sb qb lwb hgb w
  rw [decide_eq_true hb] at PRb
  have PRb := Lib.hid PRb
  have PK := fun w => rmayk k w
  rw [decide_eq_false hk] at PK
  have PK := Lib.hid PK
  clear ha hb hk
  go_enter Try.func18, Try.ntmps18
  go_wp2_with (first | (go_at_call 47; with_reducible refine (PRa.out _).mono ?_; rintro e w1 ⟨rfl, hb1⟩; have hz1 := hb1.size; (try simp at hz1); have o1 : Below w.heap.size w w1 := (by (repeat (first | exact Below.refl _ _ | refine Below.setCell ?_ (by first | (simp; done) | (simp; omega) | omega) _ | refine Below.alloc ?_ (by first | (simp; done) | (simp; omega) | omega) _ | refine Below.drew ?_ | refine Below.trans ?_ (Below.mono (by assumption) (by first | (simp; done) | (simp; omega) | omega))))); have q1_0 : w.heap.size < w1.heap.size := (by omega); have r1_0 : Row w1 (w.heap.size) 33 #[.int .i64 sqa, .int .i64 tka, .int .i64 na, .int .i64 sa, .int .i64 qa, .int .i64 lwa, .int .i64 hga] := row_call (by (repeat (first | assumption | (refine row_new ?_; (first | (simp; done) | omega)) | refine row_alloc ?_ _ | refine row_drew ?_ | refine row_call ?_ (by assumption)))) hb1; obtain ⟨c1_0a, c1_0b, c1_0c, c1_0d, c1_0e, c1_0f, c1_0g, f1_0a, f1_0b, f1_0c, f1_0d, f1_0e, f1_0f, f1_0g⟩ := row_seven r1_0; have q1_1 : w.heap.size + 1 < w1.heap.size := (by omega); have r1_1 : Row w1 (w.heap.size + 1) 33 #[.int .i64 sqb, .int .i64 tkb, .int .i64 nb, .int .i64 sb, .int .i64 qb, .int .i64 lwb, .int .i64 hgb] := row_call (by (repeat (first | assumption | (refine row_new ?_; (first | (simp; done) | omega)) | refine row_alloc ?_ _ | refine row_drew ?_ | refine row_call ?_ (by assumption)))) hb1; obtain ⟨c1_1a, c1_1b, c1_1c, c1_1d, c1_1e, c1_1f, c1_1g, f1_1a, f1_1b, f1_1c, f1_1d, f1_1e, f1_1f, f1_1g⟩ := row_seven r1_1) | (go_at_call 47; with_reducible refine (PRb.out _).mono ?_; rintro e w2 ⟨rfl, hb2⟩; have hz2 := hb2.size; (try simp at hz2); have o2 : Below w.heap.size w w2 := (by (repeat (first | exact Below.refl _ _ | refine Below.setCell ?_ (by first | (simp; done) | (simp; omega) | omega) _ | refine Below.alloc ?_ (by first | (simp; done) | (simp; omega) | omega) _ | refine Below.drew ?_ | refine Below.trans ?_ (Below.mono (by assumption) (by first | (simp; done) | (simp; omega) | omega))))); have q2_0 : w.heap.size < w2.heap.size := (by omega); have r2_0 : Row w2 (w.heap.size) 33 #[.int .i64 sqa, .int .i64 tka, .int .i64 na, .int .i64 sa, .int .i64 qa, .int .i64 lwa, .int .i64 hga] := row_call (by (repeat (first | assumption | (refine row_new ?_; (first | (simp; done) | omega)) | refine row_alloc ?_ _ | refine row_drew ?_ | refine row_call ?_ (by assumption)))) hb2; obtain ⟨c2_0a, c2_0b, c2_0c, c2_0d, c2_0e, c2_0f, c2_0g, f2_0a, f2_0b, f2_0c, f2_0d, f2_0e, f2_0f, f2_0g⟩ := row_seven r2_0; have q2_1 : w.heap.size + 1 < w2.heap.size := (by omega); have r2_1 : Row w2 (w.heap.size + 1) 33 #[.int .i64 sqb, .int .i64 tkb, .int .i64 nb, .int .i64 sb, .int .i64 qb, .int .i64 lwb, .int .i64 hgb] := row_call (by (repeat (first | assumption | (refine row_new ?_; (first | (simp; done) | omega)) | refine row_alloc ?_ _ | refine row_drew ?_ | refine row_call ?_ (by assumption)))) hb2; obtain ⟨c2_1a, c2_1b, c2_1c, c2_1d, c2_1e, c2_1f, c2_1g, f2_1a, f2_1b, f2_1c, f2_1d, f2_1e, f2_1f, f2_1g⟩ := row_seven r2_1) | (go_at_call 40; with_reducible refine (PK.out _).mono ?_; rintro e w9 ⟨rfl, h9⟩; obtain rfl := h9.symm))
  go_ret
  exact ⟨rfl, by (repeat (first | exact Below.refl _ _ | refine Below.setCell ?_ (by first | (simp; done) | (simp; omega) | omega) _ | refine Below.alloc ?_ (by first | (simp; done) | (simp; omega) | omega) _ | refine Below.drew ?_ | refine Below.trans ?_ (Below.mono (by assumption) (by first | (simp; done) | (simp; omega) | omega))))⟩
theorem rclose_n (sqa tka na sa qa lwa hga sqb tkb nb sb qb lwb hgb k : Int) (w : World) (ha : rightP na sa qa) (hb : rightP nb sb qb) (hk : 1 ≤ k ∧ k ≤ 64) (h : 6 * k * nb < (6 * k - 1) * na) : Calls Try.prog 18 #[.agg #[.int .i64 sqa, .int .i64 tka, .int .i64 na, .int .i64 sa, .int .i64 qa, .int .i64 lwa, .int .i64 hga], .agg #[.int .i64 sqb, .int .i64 tkb, .int .i64 nb, .int .i64 sb, .int .i64 qb, .int .i64 lwb, .int .i64 hgb], .int .i64 k] w fun e w' => e = .returned (.bool false) ∧ Below w.heap.size w w' := by
  have PRa := fun w => rright sqa tka na sa qa lwa hga w
  rw [decide_eq_true ha] at PRa
  have PRa := Lib.hid PRa
  have PRb := fun w => rright sqb tkb nb sb qb lwb hgb w
  rw [decide_eq_true hb] at PRb
  have PRb := Lib.hid PRb
  have PK := fun w => rmayk k w
  rw [decide_eq_true hk] at PK
  have PK := Lib.hid PK
  have bk := hk
  obtain ⟨k0, k1⟩ := bk
  have na0 := ha.1
  have na1 := ha.2.1
  have nb0 := hb.1
  have nb1 := hb.2.1
  have m1 : 0 ≤ 6 * k * nb ∧ 6 * k * nb ≤ 25165824 := ⟨Int.mul_nonneg (by omega) (by omega), Int.mul_le_mul (show 6 * k ≤ 384 by omega) nb1 (by omega) (by decide)⟩
  have m2 : 0 ≤ (6 * k - 1) * na ∧ (6 * k - 1) * na ≤ 25165824 := ⟨Int.mul_nonneg (by omega) (by omega), Int.mul_le_mul (show 6 * k - 1 ≤ 384 by omega) na1 (by omega) (by decide)⟩
  have m3 : 0 ≤ 6 * k * na ∧ 6 * k * na ≤ 25165824 := ⟨Int.mul_nonneg (by omega) (by omega), Int.mul_le_mul (show 6 * k ≤ 384 by omega) na1 (by omega) (by decide)⟩
  have m4 : 0 ≤ (6 * k - 1) * nb ∧ (6 * k - 1) * nb ≤ 25165824 := ⟨Int.mul_nonneg (by omega) (by omega), Int.mul_le_mul (show 6 * k - 1 ≤ 384 by omega) nb1 (by omega) (by decide)⟩
  have w6 : IntKind.i64.wrap (6 * k) = 6 * k := IntWalk.i64_in _ (by omega)
  have w61 : IntKind.i64.wrap (6 * k - 1) = 6 * k - 1 := IntWalk.i64_in _ (by omega)
  have wm1 : IntKind.i64.wrap (6 * k * nb) = 6 * k * nb := IntWalk.i64_in _ (by omega)
  have wm2 : IntKind.i64.wrap ((6 * k - 1) * na) = (6 * k - 1) * na := IntWalk.i64_in _ (by omega)
  have wm3 : IntKind.i64.wrap (6 * k * na) = 6 * k * na := IntWalk.i64_in _ (by omega)
  have wm4 : IntKind.i64.wrap ((6 * k - 1) * nb) = (6 * k - 1) * nb := IntWalk.i64_in _ (by omega)
  clear ha hb hk
  go_enter Try.func18, Try.ntmps18
  go_wp2_with (first | (go_at_call 47; with_reducible refine (PRa.out _).mono ?_; rintro e w1 ⟨rfl, hb1⟩; have hz1 := hb1.size; (try simp at hz1); have o1 : Below w.heap.size w w1 := (by (repeat (first | exact Below.refl _ _ | refine Below.setCell ?_ (by first | (simp; done) | (simp; omega) | omega) _ | refine Below.alloc ?_ (by first | (simp; done) | (simp; omega) | omega) _ | refine Below.drew ?_ | refine Below.trans ?_ (Below.mono (by assumption) (by first | (simp; done) | (simp; omega) | omega))))); have q1_0 : w.heap.size < w1.heap.size := (by omega); have r1_0 : Row w1 (w.heap.size) 33 #[.int .i64 sqa, .int .i64 tka, .int .i64 na, .int .i64 sa, .int .i64 qa, .int .i64 lwa, .int .i64 hga] := row_call (by (repeat (first | assumption | (refine row_new ?_; (first | (simp; done) | omega)) | refine row_alloc ?_ _ | refine row_drew ?_ | refine row_call ?_ (by assumption)))) hb1; obtain ⟨c1_0a, c1_0b, c1_0c, c1_0d, c1_0e, c1_0f, c1_0g, f1_0a, f1_0b, f1_0c, f1_0d, f1_0e, f1_0f, f1_0g⟩ := row_seven r1_0; have q1_1 : w.heap.size + 1 < w1.heap.size := (by omega); have r1_1 : Row w1 (w.heap.size + 1) 33 #[.int .i64 sqb, .int .i64 tkb, .int .i64 nb, .int .i64 sb, .int .i64 qb, .int .i64 lwb, .int .i64 hgb] := row_call (by (repeat (first | assumption | (refine row_new ?_; (first | (simp; done) | omega)) | refine row_alloc ?_ _ | refine row_drew ?_ | refine row_call ?_ (by assumption)))) hb1; obtain ⟨c1_1a, c1_1b, c1_1c, c1_1d, c1_1e, c1_1f, c1_1g, f1_1a, f1_1b, f1_1c, f1_1d, f1_1e, f1_1f, f1_1g⟩ := row_seven r1_1) | (go_at_call 47; with_reducible refine (PRb.out _).mono ?_; rintro e w2 ⟨rfl, hb2⟩; have hz2 := hb2.size; (try simp at hz2); have o2 : Below w.heap.size w w2 := (by (repeat (first | exact Below.refl _ _ | refine Below.setCell ?_ (by first | (simp; done) | (simp; omega) | omega) _ | refine Below.alloc ?_ (by first | (simp; done) | (simp; omega) | omega) _ | refine Below.drew ?_ | refine Below.trans ?_ (Below.mono (by assumption) (by first | (simp; done) | (simp; omega) | omega))))); have q2_0 : w.heap.size < w2.heap.size := (by omega); have r2_0 : Row w2 (w.heap.size) 33 #[.int .i64 sqa, .int .i64 tka, .int .i64 na, .int .i64 sa, .int .i64 qa, .int .i64 lwa, .int .i64 hga] := row_call (by (repeat (first | assumption | (refine row_new ?_; (first | (simp; done) | omega)) | refine row_alloc ?_ _ | refine row_drew ?_ | refine row_call ?_ (by assumption)))) hb2; obtain ⟨c2_0a, c2_0b, c2_0c, c2_0d, c2_0e, c2_0f, c2_0g, f2_0a, f2_0b, f2_0c, f2_0d, f2_0e, f2_0f, f2_0g⟩ := row_seven r2_0; have q2_1 : w.heap.size + 1 < w2.heap.size := (by omega); have r2_1 : Row w2 (w.heap.size + 1) 33 #[.int .i64 sqb, .int .i64 tkb, .int .i64 nb, .int .i64 sb, .int .i64 qb, .int .i64 lwb, .int .i64 hgb] := row_call (by (repeat (first | assumption | (refine row_new ?_; (first | (simp; done) | omega)) | refine row_alloc ?_ _ | refine row_drew ?_ | refine row_call ?_ (by assumption)))) hb2; obtain ⟨c2_1a, c2_1b, c2_1c, c2_1d, c2_1e, c2_1f, c2_1g, f2_1a, f2_1b, f2_1c, f2_1d, f2_1e, f2_1f, f2_1g⟩ := row_seven r2_1) | (go_at_call 40; with_reducible refine (PK.out _).mono ?_; rintro e w9 ⟨rfl, h9⟩; obtain rfl := h9.symm))
  go_ret
  exact ⟨rfl, by (repeat (first | exact Below.refl _ _ | refine Below.setCell ?_ (by first | (simp; done) | (simp; omega) | omega) _ | refine Below.alloc ?_ (by first | (simp; done) | (simp; omega) | omega) _ | refine Below.drew ?_ | refine Below.trans ?_ (Below.mono (by assumption) (by first | (simp; done) | (simp; omega) | omega))))⟩
set_option maxHeartbeats 4000000 in
theorem rclose_ok (sqa tka na sa qa lwa hga sqb tkb nb sb qb lwb hgb k : Int) (w : World) (ha : rightP na sa qa) (hb : rightP nb sb qb) (hk : 1 ≤ k ∧ k ≤ 64) (h : (6 * k - 1) * na ≤ 6 * k * nb) :
    Calls Try.prog 18 #[.agg #[.int .i64 sqa, .int .i64 tka, .int .i64 na, .int .i64 sa, .int .i64 qa, .int .i64 lwa, .int .i64 hga], .agg #[.int .i64 sqb, .int .i64 tkb, .int .i64 nb, .int .i64 sb, .int .i64 qb, .int .i64 lwb, .int .i64 hgb], .int .i64 k] w fun e w' => e = .returned (.bool (decide (topN na sa qa * nb.toNat * (6 * k - 1).toNat ≤ topN nb sb qb * na.toNat * (6 * k).toNat))) ∧ Below w.heap.size w w' := by
  have PRa := fun w => rright sqa tka na sa qa lwa hga w
  rw [decide_eq_true ha] at PRa
  have PRa := Lib.hid PRa
  have PRb := fun w => rright sqb tkb nb sb qb lwb hgb w
  rw [decide_eq_true hb] at PRb
  have PRb := Lib.hid PRb
  have PK := fun w => rmayk k w
  rw [decide_eq_true hk] at PK
  have PK := Lib.hid PK
  have bk := hk
  obtain ⟨k0, k1⟩ := bk
  have na0 := ha.1
  have na1 := ha.2.1
  have nb0 := hb.1
  have nb1 := hb.2.1
  have m1 : 0 ≤ 6 * k * nb ∧ 6 * k * nb ≤ 25165824 := ⟨Int.mul_nonneg (by omega) (by omega), Int.mul_le_mul (show 6 * k ≤ 384 by omega) nb1 (by omega) (by decide)⟩
  have m2 : 0 ≤ (6 * k - 1) * na ∧ (6 * k - 1) * na ≤ 25165824 := ⟨Int.mul_nonneg (by omega) (by omega), Int.mul_le_mul (show 6 * k - 1 ≤ 384 by omega) na1 (by omega) (by decide)⟩
  have m3 : 0 ≤ 6 * k * na ∧ 6 * k * na ≤ 25165824 := ⟨Int.mul_nonneg (by omega) (by omega), Int.mul_le_mul (show 6 * k ≤ 384 by omega) na1 (by omega) (by decide)⟩
  have m4 : 0 ≤ (6 * k - 1) * nb ∧ (6 * k - 1) * nb ≤ 25165824 := ⟨Int.mul_nonneg (by omega) (by omega), Int.mul_le_mul (show 6 * k - 1 ≤ 384 by omega) nb1 (by omega) (by decide)⟩
  have w6 : IntKind.i64.wrap (6 * k) = 6 * k := IntWalk.i64_in _ (by omega)
  have w61 : IntKind.i64.wrap (6 * k - 1) = 6 * k - 1 := IntWalk.i64_in _ (by omega)
  have wm1 : IntKind.i64.wrap (6 * k * nb) = 6 * k * nb := IntWalk.i64_in _ (by omega)
  have wm2 : IntKind.i64.wrap ((6 * k - 1) * na) = (6 * k - 1) * na := IntWalk.i64_in _ (by omega)
  have wm3 : IntKind.i64.wrap (6 * k * na) = 6 * k * na := IntWalk.i64_in _ (by omega)
  have wm4 : IntKind.i64.wrap ((6 * k - 1) * nb) = (6 * k - 1) * nb := IntWalk.i64_in _ (by omega)
  have h' : ¬ 6 * k * nb < (6 * k - 1) * na := Int.not_lt.2 h
  have ta := right_top ha
  have tb := right_top hb
  have tA : topN na sa qa ≤ 72057594037927936 := by unfold topN; omega
  have tB : topN nb sb qb ≤ 72057594037927936 := by unfold topN; omega
  have wsa : IntKind.i64.wrap (sa * sa) = sa * sa := IntWalk.i64_in _ (by omega)
  have wqa : IntKind.i64.wrap (na * qa) = na * qa := IntWalk.i64_in _ (by omega)
  have wda : IntKind.i64.wrap (na * qa - sa * sa) = (topN na sa qa : Int) := by rw [IntWalk.i64_in _ (by omega)]; unfold topN; omega
  have wsb : IntKind.i64.wrap (sb * sb) = sb * sb := IntWalk.i64_in _ (by omega)
  have wqb : IntKind.i64.wrap (nb * qb) = nb * qb := IntWalk.i64_in _ (by omega)
  have wdb : IntKind.i64.wrap (nb * qb - sb * sb) = (topN nb sb qb : Int) := by rw [IntWalk.i64_in _ (by omega)]; unfold topN; omega
  have PPx := fun w => rproduct (topN nb sb qb : Int) (6 * k * na) (by unfold Word; omega) (by unfold Word; omega) w
  have PPy := fun w => rproduct (topN na sa qa : Int) ((6 * k - 1) * nb) (by unfold Word; omega) (by unfold Word; omega) w
  have ex : (topN nb sb qb : Int).toNat * (6 * k * na).toNat = topN nb sb qb * na.toNat * (6 * k).toNat := by
    rw [Int.toNat_natCast, Int.toNat_mul (by omega) (by omega), Nat.mul_comm (6 * k).toNat, Nat.mul_assoc]
  have ey : (topN na sa qa : Int).toNat * ((6 * k - 1) * nb).toNat = topN na sa qa * nb.toNat * (6 * k - 1).toNat := by
    rw [Int.toNat_natCast, Int.toNat_mul (by omega) (by omega), Nat.mul_comm (6 * k - 1).toNat, Nat.mul_assoc]
  rw [ex] at PPx
  rw [ey] at PPy
  have ux : IntKind.u64.wrap (topN nb sb qb : Int) = (topN nb sb qb : Int) := IntWalk.u64_in _ (by omega)
  have uy : IntKind.u64.wrap (topN na sa qa : Int) = (topN na sa qa : Int) := IntWalk.u64_in _ (by omega)
  have um3 : IntKind.u64.wrap (6 * k * na) = 6 * k * na := IntWalk.u64_in _ (by omega)
  have um4 : IntKind.u64.wrap ((6 * k - 1) * nb) = (6 * k - 1) * nb := IntWalk.u64_in _ (by omega)
  have CM := fun w => rcmp_any (topN nb sb qb * na.toNat * (6 * k).toNat) (topN na sa qa * nb.toNat * (6 * k - 1).toNat) w
  have CD := cmp_dec (topN nb sb qb * na.toNat * (6 * k).toNat) (topN na sa qa * nb.toNat * (6 * k - 1).toNat)
  generalize topN nb sb qb * na.toNat * (6 * k).toNat = xx at PPx CM CD ⊢
  generalize topN na sa qa * nb.toNat * (6 * k - 1).toNat = yy at PPy CM CD ⊢
  generalize (topN nb sb qb : Int) = tpb at PPx ux wdb
  generalize (topN na sa qa : Int) = tpa at PPy uy wda
  rw [← CD]
  generalize cmp xx yy = cv at CM ⊢
  have PPx := Lib.hid PPx
  have PPy := Lib.hid PPy
  have CM := Lib.hid CM
  clear ha hb hk ta tb tA tB h CD m1 m2 m3 m4 ex ey
  go_enter Try.func18, Try.ntmps18
  go_upto_region 3 with (first | (go_at_call 47; with_reducible refine (PRa.out _).mono ?_; rintro e w1 ⟨rfl, hb1⟩; have hz1 := hb1.size; (try simp at hz1); have o1 : Below w.heap.size w w1 := (by (repeat (first | exact Below.refl _ _ | refine Below.setCell ?_ (by first | (simp; done) | (simp; omega) | omega) _ | refine Below.alloc ?_ (by first | (simp; done) | (simp; omega) | omega) _ | refine Below.drew ?_ | refine Below.trans ?_ (Below.mono (by assumption) (by first | (simp; done) | (simp; omega) | omega))))); have q1_0 : w.heap.size < w1.heap.size := (by omega); have r1_0 : Row w1 (w.heap.size) 33 #[.int .i64 sqa, .int .i64 tka, .int .i64 na, .int .i64 sa, .int .i64 qa, .int .i64 lwa, .int .i64 hga] := row_call (by (repeat (first | assumption | (refine row_new ?_; (first | (simp; done) | omega)) | refine row_alloc ?_ _ | refine row_drew ?_ | refine row_call ?_ (by assumption)))) hb1; obtain ⟨c1_0a, c1_0b, c1_0c, c1_0d, c1_0e, c1_0f, c1_0g, f1_0a, f1_0b, f1_0c, f1_0d, f1_0e, f1_0f, f1_0g⟩ := row_seven r1_0; have q1_1 : w.heap.size + 1 < w1.heap.size := (by omega); have r1_1 : Row w1 (w.heap.size + 1) 33 #[.int .i64 sqb, .int .i64 tkb, .int .i64 nb, .int .i64 sb, .int .i64 qb, .int .i64 lwb, .int .i64 hgb] := row_call (by (repeat (first | assumption | (refine row_new ?_; (first | (simp; done) | omega)) | refine row_alloc ?_ _ | refine row_drew ?_ | refine row_call ?_ (by assumption)))) hb1; obtain ⟨c1_1a, c1_1b, c1_1c, c1_1d, c1_1e, c1_1f, c1_1g, f1_1a, f1_1b, f1_1c, f1_1d, f1_1e, f1_1f, f1_1g⟩ := row_seven r1_1) | (go_at_call 47; with_reducible refine (PRb.out _).mono ?_; rintro e w2 ⟨rfl, hb2⟩; have hz2 := hb2.size; (try simp at hz2); have o2 : Below w.heap.size w w2 := (by (repeat (first | exact Below.refl _ _ | refine Below.setCell ?_ (by first | (simp; done) | (simp; omega) | omega) _ | refine Below.alloc ?_ (by first | (simp; done) | (simp; omega) | omega) _ | refine Below.drew ?_ | refine Below.trans ?_ (Below.mono (by assumption) (by first | (simp; done) | (simp; omega) | omega))))); have q2_0 : w.heap.size < w2.heap.size := (by omega); have r2_0 : Row w2 (w.heap.size) 33 #[.int .i64 sqa, .int .i64 tka, .int .i64 na, .int .i64 sa, .int .i64 qa, .int .i64 lwa, .int .i64 hga] := row_call (by (repeat (first | assumption | (refine row_new ?_; (first | (simp; done) | omega)) | refine row_alloc ?_ _ | refine row_drew ?_ | refine row_call ?_ (by assumption)))) hb2; obtain ⟨c2_0a, c2_0b, c2_0c, c2_0d, c2_0e, c2_0f, c2_0g, f2_0a, f2_0b, f2_0c, f2_0d, f2_0e, f2_0f, f2_0g⟩ := row_seven r2_0; have q2_1 : w.heap.size + 1 < w2.heap.size := (by omega); have r2_1 : Row w2 (w.heap.size + 1) 33 #[.int .i64 sqb, .int .i64 tkb, .int .i64 nb, .int .i64 sb, .int .i64 qb, .int .i64 lwb, .int .i64 hgb] := row_call (by (repeat (first | assumption | (refine row_new ?_; (first | (simp; done) | omega)) | refine row_alloc ?_ _ | refine row_drew ?_ | refine row_call ?_ (by assumption)))) hb2; obtain ⟨c2_1a, c2_1b, c2_1c, c2_1d, c2_1e, c2_1f, c2_1g, f2_1a, f2_1b, f2_1c, f2_1d, f2_1e, f2_1f, f2_1g⟩ := row_seven r2_1) | (go_at_call 40; with_reducible refine (PK.out _).mono ?_; rintro e w9 ⟨rfl, h9⟩; obtain rfl := h9.symm))
  clear c1_0a c1_0b c1_0c c1_0d c1_0e c1_0f c1_0g c1_1a c1_1b c1_1c c1_1d c1_1e c1_1f c1_1g
  go_cut [7, 8] (fun x y wx => x = .int .u64 tpb ∧ y = .int .u64 tpa ∧ Row wx (w.heap.size) 33 #[.int .i64 sqa, .int .i64 tka, .int .i64 na, .int .i64 sa, .int .i64 qa, .int .i64 lwa, .int .i64 hga] ∧ Row wx (w.heap.size + 1) 33 #[.int .i64 sqb, .int .i64 tkb, .int .i64 nb, .int .i64 sb, .int .i64 qb, .int .i64 lwb, .int .i64 hgb] ∧ Below w.heap.size w wx)
  case first =>
    go_region_held3 (fun w' => w'.cell? ⟨w.heap.size, 2, none⟩ = some (.int .i64 na) ∧ w'.cell? ⟨w.heap.size, 3, none⟩ = some (.int .i64 sa) ∧ w'.cell? ⟨w.heap.size, 4, none⟩ = some (.int .i64 qa) ∧ w'.cell? ⟨w.heap.size + 1, 2, none⟩ = some (.int .i64 nb) ∧ w'.cell? ⟨w.heap.size + 1, 3, none⟩ = some (.int .i64 sb) ∧ w'.cell? ⟨w.heap.size + 1, 4, none⟩ = some (.int .i64 qb)) (go_keep) (fail)
    all_goals
      go_wp2_with fail
      go_meet
      exact ⟨rfl, rfl, row_drew r2_0, row_drew r2_1, o2.drew⟩
  case rest =>
    obtain ⟨rfl, rfl, r1, r2, o3⟩ := hcut
    have L : Row wc (w.heap.size) 33 #[.int .i64 sqa, .int .i64 tka, .int .i64 na, .int .i64 sa, .int .i64 qa, .int .i64 lwa, .int .i64 hga] ∧ Row wc (w.heap.size + 1) 33 #[.int .i64 sqb, .int .i64 tkb, .int .i64 nb, .int .i64 sb, .int .i64 qb, .int .i64 lwb, .int .i64 hgb] ∧ Below w.heap.size w wc := ⟨r1, r2, o3⟩
    go_upto_region 4 with (fail)
    refine wp_region_free0 [0, 1, 2, 3, 4, 5, 6, 7, 8, 9, 10, 11, 12, 13, 14, 15, 16, 17, 18] [] [0, 1, 2, 3, 4, 5, 6, 7, 8, 9, 10, 11, 12, 13, 14, 15, 16, 17, 18] 19 (fun w' => Row w' (w.heap.size) 33 #[.int .i64 sqa, .int .i64 tka, .int .i64 na, .int .i64 sa, .int .i64 qa, .int .i64 lwa, .int .i64 hga] ∧ Row w' (w.heap.size + 1) 33 #[.int .i64 sqb, .int .i64 tkb, .int .i64 nb, .int .i64 sb, .int .i64 qb, .int .i64 lwb, .int .i64 hgb] ∧ Below w.heap.size w w') (by kernel_rfl) (by kernel_rfl) (fun _ _ d _ _ h => by cases d <;> exact h) ?_ ?_
    · exact ⟨L.1, L.2.1, L.2.2.drew⟩
    (refine plan_pure ?_ rfl rfl (fun w' => ?_) ?_; rotate_left; (go_simp; try with_reducible rfl); simp only [Act.put, List.setIfInBounds_toArray, List.set_cons_zero, List.set_cons_succ])
    (refine plan_pure ?_ rfl rfl (fun w' => ?_) ?_; rotate_left; (go_simp; try with_reducible rfl); simp only [Act.put, List.setIfInBounds_toArray, List.set_cons_zero, List.set_cons_succ])
    (refine plan_pure ?_ rfl rfl (fun w' => ?_) ?_; rotate_left; (go_simp; try with_reducible rfl); simp only [Act.put, List.setIfInBounds_toArray, List.set_cons_zero, List.set_cons_succ])
    (refine plan_pure ?_ rfl rfl (fun w' => ?_) ?_; rotate_left; (go_simp; try with_reducible rfl); simp only [Act.put, List.setIfInBounds_toArray, List.set_cons_zero, List.set_cons_succ])
    (refine plan_val ?_ rfl rfl rfl (fun w' hS => ?_) ?_; rotate_left; (obtain ⟨X0, X1, X2, X3, X4, X5, X6, _⟩ := row_seven hS.1; obtain ⟨Y0, Y1, Y2, Y3, Y4, Y5, Y6, _⟩ := row_seven hS.2.1; go_simp; try with_reducible rfl); simp only [Act.put, List.setIfInBounds_toArray, List.set_cons_zero, List.set_cons_succ])
    (refine plan_pure ?_ rfl rfl (fun w' => ?_) ?_; rotate_left; (go_simp; try with_reducible rfl); simp only [Act.put, List.setIfInBounds_toArray, List.set_cons_zero, List.set_cons_succ])
    (refine plan_pure ?_ rfl rfl (fun w' => ?_) ?_; rotate_left; (go_simp; try with_reducible rfl); simp only [Act.put, List.setIfInBounds_toArray, List.set_cons_zero, List.set_cons_succ])
    refine plan_call (W xx) 54 #[.int .u64 tpb, .int .u64 (6 * k * na)] rfl rfl rfl (fun _ _ h hb => ⟨row_call h.1 hb, row_call h.2.1 hb, h.2.2.trans (hb.mono h.2.2.size)⟩) (fun w' hS => by obtain ⟨X0, X1, X2, X3, X4, X5, X6, _⟩ := row_seven hS.1; obtain ⟨Y0, Y1, Y2, Y3, Y4, Y5, Y6, _⟩ := row_seven hS.2.1; go_simp) (fun w' hS => PPx.out w') ?_
    simp only [Act.put, List.setIfInBounds_toArray, List.set_cons_zero, List.set_cons_succ]
    (refine plan_pure ?_ rfl rfl (fun w' => ?_) ?_; rotate_left; (go_simp; try with_reducible rfl); simp only [Act.put, List.setIfInBounds_toArray, List.set_cons_zero, List.set_cons_succ])
    (refine plan_pure ?_ rfl rfl (fun w' => ?_) ?_; rotate_left; (go_simp; try with_reducible rfl); simp only [Act.put, List.setIfInBounds_toArray, List.set_cons_zero, List.set_cons_succ])
    (refine plan_pure ?_ rfl rfl (fun w' => ?_) ?_; rotate_left; (go_simp; try with_reducible rfl); simp only [Act.put, List.setIfInBounds_toArray, List.set_cons_zero, List.set_cons_succ])
    (refine plan_pure ?_ rfl rfl (fun w' => ?_) ?_; rotate_left; (go_simp; try with_reducible rfl); simp only [Act.put, List.setIfInBounds_toArray, List.set_cons_zero, List.set_cons_succ])
    (refine plan_pure ?_ rfl rfl (fun w' => ?_) ?_; rotate_left; (go_simp; try with_reducible rfl); simp only [Act.put, List.setIfInBounds_toArray, List.set_cons_zero, List.set_cons_succ])
    (refine plan_val ?_ rfl rfl rfl (fun w' hS => ?_) ?_; rotate_left; (obtain ⟨X0, X1, X2, X3, X4, X5, X6, _⟩ := row_seven hS.1; obtain ⟨Y0, Y1, Y2, Y3, Y4, Y5, Y6, _⟩ := row_seven hS.2.1; go_simp; try with_reducible rfl); simp only [Act.put, List.setIfInBounds_toArray, List.set_cons_zero, List.set_cons_succ])
    (refine plan_pure ?_ rfl rfl (fun w' => ?_) ?_; rotate_left; (go_simp; try with_reducible rfl); simp only [Act.put, List.setIfInBounds_toArray, List.set_cons_zero, List.set_cons_succ])
    (refine plan_pure ?_ rfl rfl (fun w' => ?_) ?_; rotate_left; (go_simp; try with_reducible rfl); simp only [Act.put, List.setIfInBounds_toArray, List.set_cons_zero, List.set_cons_succ])
    refine plan_call (W yy) 54 #[.int .u64 tpa, .int .u64 ((6 * k - 1) * nb)] rfl rfl rfl (fun _ _ h hb => ⟨row_call h.1 hb, row_call h.2.1 hb, h.2.2.trans (hb.mono h.2.2.size)⟩) (fun w' hS => by obtain ⟨X0, X1, X2, X3, X4, X5, X6, _⟩ := row_seven hS.1; obtain ⟨Y0, Y1, Y2, Y3, Y4, Y5, Y6, _⟩ := row_seven hS.2.1; go_simp) (fun w' hS => PPy.out w') ?_
    simp only [Act.put, List.setIfInBounds_toArray, List.set_cons_zero, List.set_cons_succ]
    refine plan_call (.int .i64 cv) 53 #[W xx, W yy] rfl rfl rfl (fun _ _ h hb => ⟨row_call h.1 hb, row_call h.2.1 hb, h.2.2.trans (hb.mono h.2.2.size)⟩) (fun w' hS => by obtain ⟨X0, X1, X2, X3, X4, X5, X6, _⟩ := row_seven hS.1; obtain ⟨Y0, Y1, Y2, Y3, Y4, Y5, Y6, _⟩ := row_seven hS.2.1; go_simp) (fun w' hS => CM.out w') ?_
    simp only [Act.put, List.setIfInBounds_toArray, List.set_cons_zero, List.set_cons_succ]
    (refine plan_pure ?_ rfl rfl (fun w' => ?_) ?_; rotate_left; (go_simp; try with_reducible rfl); simp only [Act.put, List.setIfInBounds_toArray, List.set_cons_zero, List.set_cons_succ])
    refine plan_nil ?_
    intro w4 L4
    simp only [List.drop_succ_cons, List.drop_zero]
    try simp only [Act.put, List.setIfInBounds_toArray, List.set_cons_zero, List.set_cons_succ]
    have o4 := L4.2.2
    clear L L4
    go_wp2
    go_ret
    exact ⟨rfl, o4⟩
theorem rclose (sqa tka na sa qa lwa hga sqb tkb nb sb qb lwb hgb k : Int) (w : World) : Calls Try.prog 18 #[.agg #[.int .i64 sqa, .int .i64 tka, .int .i64 na, .int .i64 sa, .int .i64 qa, .int .i64 lwa, .int .i64 hga], .agg #[.int .i64 sqb, .int .i64 tkb, .int .i64 nb, .int .i64 sb, .int .i64 qb, .int .i64 lwb, .int .i64 hgb], .int .i64 k] w fun e w' => e = .returned (.bool (decide (closeP na sa qa nb sb qb k))) ∧ Below w.heap.size w w' := by
  by_cases ha : rightP na sa qa
  · by_cases hb : rightP nb sb qb
    · by_cases hk : 1 ≤ k ∧ k ≤ 64
      · by_cases h : (6 * k - 1) * na ≤ 6 * k * nb
        · rw [show decide (closeP na sa qa nb sb qb k) = decide (topN na sa qa * nb.toNat * (6 * k - 1).toNat ≤ topN nb sb qb * na.toNat * (6 * k).toNat) from decide_eq_decide.2 ⟨fun a => a.2.2.2.2, fun hh => ⟨ha, hb, hk, h, hh⟩⟩]
          exact rclose_ok sqa tka na sa qa lwa hga sqb tkb nb sb qb lwb hgb k w ha hb hk h
        · rw [decide_eq_false (fun a => h a.2.2.2.1)]
          exact rclose_n sqa tka na sa qa lwa hga sqb tkb nb sb qb lwb hgb k w ha hb hk (Int.not_le.1 h)
      · rw [decide_eq_false (fun a => hk a.2.2.1)]
        exact rclose_k sqa tka na sa qa lwa hga sqb tkb nb sb qb lwb hgb k w ha hb hk
    · rw [decide_eq_false (fun a => hb a.2.1)]
      exact rclose_b sqa tka na sa qa lwa hga sqb tkb nb sb qb lwb hgb k w ha hb
  · rw [decide_eq_false (fun a => ha a.1)]
    exact rclose_a sqa tka na sa qa lwa hga sqb tkb nb sb qb lwb hgb k w ha
end Go.Proofs.Ytaiepjcnncajcaa
end
section
/- Smooth histograms of the variance: what stays valid, what lies between the bounds, few marks; plain. -/
set_option linter.unusedVariables false
set_option linter.unusedSimpArgs false
set_option linter.unusedSectionVars false
set_option linter.unnecessarySimpa false
namespace Go.Proofs.Ytaiepjcnncajcaa
/-- The spread of a mark times its number. -/
def tpM (m : Mk) : Int := tpI m.n m.s m.q
def closeM (k : Int) (a b : Mk) : Prop := closeP a.n a.s a.q b.n b.s b.q k
instance (k : Int) (a b : Mk) : Decidable (closeM k a b) := by unfold closeM; infer_instance
def closeB (k : Int) (a b : Mk) : Bool := decide (closeM k a b)
def spGood (wd k cap now : Int) : Prop := 1 ≤ wd ∧ wd ≤ 1048576 ∧ 1 ≤ k ∧ k ≤ 64 ∧ 1 ≤ cap ∧ cap ≤ 65536 ∧ 0 ≤ now ∧ now ≤ 16777216
instance (wd k cap now : Int) : Decidable (spGood wd k cap now) := by unfold spGood; infer_instance
def spAt (k : Int) (l : List Mk) (i : Nat) : Prop := 2 ≤ i → ¬ closeM k (mkAt l (i - 2)) (mkAt l i)
instance (k : Int) (l : List Mk) (i : Nat) : Decidable (spAt k l i) := by unfold spAt; infer_instance
/-- A valid histogram of the variance. -/
def spValid (wd k cap now seq : Int) (l : List Mk) : Prop := spGood wd k cap now ∧ mvalid l seq cap now wd (-4096) ∧ ∀ i, i < l.length → spAt k l i
instance (wd k cap now seq : Int) (l : List Mk) : Decidable (spValid wd k cap now seq l) := by unfold spValid; infer_instance
def spvalE (wd k cap now seq : Int) (l : List Mk) : Int := if spValid wd k cap now seq l then 0 else 2
theorem spvalE_yes {wd k cap now seq : Int} {l : List Mk} (h : spValid wd k cap now seq l) : spvalE wd k cap now seq l = 0 := by unfold spvalE; rw [if_pos h]
theorem spvalE_no {wd k cap now seq : Int} {l : List Mk} (h : ¬ spValid wd k cap now seq l) : spvalE wd k cap now seq l = 2 := by unfold spvalE; rw [if_neg h]
theorem of_spvalE {wd k cap now seq : Int} {l : List Mk} (h : spvalE wd k cap now seq l = 0) : spValid wd k cap now seq l := by
  unfold spvalE at h
  split at h
  · assumption
  · omega
theorem spvalE_two {wd k cap now seq : Int} {l : List Mk} : spvalE wd k cap now seq l = 0 ∨ spvalE wd k cap now seq l = 2 := by
  unfold spvalE
  split
  · exact .inl rfl
  · exact .inr rfl
/-- What a call that answers a state and an error leaves. -/
structure SpOut where
  wd : Int
  k : Int
  cap : Int
  now : Int
  seq : Int
  ms : List Mk
  f : Int
def spZero (f : Int) : SpOut := ⟨0, 0, 0, 0, 0, [], f⟩
def spNew (wd k cap now : Int) : SpOut := if spGood wd k cap now then ⟨wd, k, cap, now, 0, [], 0⟩ else spZero 1
def spTick (wd k cap now seq : Int) (l : List Mk) (tt : Int) : SpOut :=
  if spvalE wd k cap now seq l = 0 then if tt < now ∨ 16777216 < tt then spZero 3 else ⟨wd, k, cap, tt, seq, dropM tt wd l, 0⟩ else spZero 2
def spAdd (wd k cap now seq : Int) (l : List Mk) (v : Int) : SpOut :=
  if spvalE wd k cap now seq l = 0 then if v < -4096 ∨ 4096 < v then spZero 4 else if smFull cap seq l then spZero 5 else ⟨wd, k, cap, now, seq + 1, prune (closeB k) (incl l (seq + 1) now v), 0⟩ else spZero 2
/-- Neighbours with a gap between them. -/
def GapL (L : Mk → Mk → Prop) (l : List Mk) : Prop := ∀ i, i + 1 < l.length → 1 < (mkAt l (i + 1)).seq - (mkAt l i).seq → L (mkAt l i) (mkAt l (i + 1))
/-- What was close once, and has been followed by the same items since. -/
def LaterM (k : Int) (a b : Mk) : Prop := ∃ cn cs cq : Int, 0 ≤ cn ∧ 0 ≤ tpI cn cs cq ∧ (cn = 0 → cs = 0 ∧ cq = 0) ∧ 1 ≤ b.n - cn ∧ 0 ≤ tpI (b.n - cn) (b.s - cs) (b.q - cq) ∧
  (6 * k - 1) * (a.n - cn) ≤ 6 * k * (b.n - cn) ∧ (6 * k - 1) * tpI (a.n - cn) (a.s - cs) (a.q - cq) * (b.n - cn) ≤ 6 * k * tpI (b.n - cn) (b.s - cs) (b.q - cq) * (a.n - cn)
theorem one_right {seq cap now w : Int} {m : Mk} (h : oneP seq cap now w (-4096) m) (hc : cap ≤ 65536) : rightP m.n m.s m.q := by
  obtain ⟨h1, h2, h3, h4, h5, h6, h7, h8, h9, p1, p2, p3, p4, p5⟩ := h
  have a := Int.mul_le_mul_of_nonneg_left h7 (show 0 ≤ m.n by omega)
  have b := Int.mul_le_mul_of_nonneg_left h8 (show 0 ≤ m.n by omega)
  exact ⟨by omega, by omega, by grind, by omega, p3, p4, p5⟩
/-- How many of the first n have a property. -/
def cntB (g : Nat → Bool) : Nat → Nat
  | 0 => 0
  | n + 1 => cntB g n + if g n = true then 1 else 0
theorem common (f : Nat → Int) (hf : ∀ j, 1 ≤ f j) : ∀ n, ∃ P : Int, 1 ≤ P ∧ ∀ j, j ≤ n → ∃ u, P = f j * u
  | 0 => ⟨f 0, hf 0, fun j hj => ⟨1, by rw [show j = 0 by omega, Int.mul_one]⟩⟩
  | n + 1 => by
    obtain ⟨P, h1, h2⟩ := common f hf n
    refine ⟨P * f (n + 1), ?_, fun j hj => ?_⟩
    · have := Int.mul_le_mul h1 (hf (n + 1)) (by omega) (by omega)
      omega
    · by_cases c : j = n + 1
      · exact ⟨P, by rw [c, Int.mul_comm]⟩
      · obtain ⟨u, e⟩ := h2 j (by omega)
        exact ⟨u * f (n + 1), by rw [e, Int.mul_assoc]⟩
end Go.Proofs.Ytaiepjcnncajcaa
end
section
/- Marks of smooth histograms: words; small functions. -/
set_option linter.unusedVariables false
set_option linter.unusedSimpArgs false
set_option linter.unusedSectionVars false
set_option linter.unnecessarySimpa false
namespace Go.Proofs.Ytaiepjcnncajcaa
open Go.RowKit
/-- The cells of a list of marks. -/
def mcells (l : List Mk) : List Value := l.flatMap fun m => [.int .i64 m.seq, .int .i64 m.t, .int .i64 m.n, .int .i64 m.s, .int .i64 m.q, .int .i64 m.lo, .int .i64 m.hi]
theorem mcells_nil : mcells [] = [] := rfl
theorem mcells_cons (m : Mk) (l : List Mk) : mcells (m :: l) = .int .i64 m.seq :: .int .i64 m.t :: .int .i64 m.n :: .int .i64 m.s :: .int .i64 m.q :: .int .i64 m.lo :: .int .i64 m.hi :: mcells l := rfl
theorem mcells_append (a b : List Mk) : mcells (a ++ b) = mcells a ++ mcells b := by unfold mcells; rw [List.flatMap_append]
theorem mcells_len : ∀ l : List Mk, (mcells l).length = l.length * 7
  | [] => rfl
  | m :: l => by rw [mcells_cons]; simp only [List.length_cons, mcells_len l]; omega
theorem mcells_take : ∀ (l : List Mk) (i : Nat), (mcells l).take (i * 7) = mcells (l.take i)
  | [], i => by simp [mcells_nil]
  | m :: l, 0 => by simp [mcells_nil]
  | m :: l, i + 1 => by
    rw [mcells_cons, show (i + 1) * 7 = i * 7 + 1 + 1 + 1 + 1 + 1 + 1 + 1 by omega]
    simp only [List.take_succ_cons]
    rw [mcells_take l i, mcells_cons]
theorem mcells_drop : ∀ (l : List Mk) (i : Nat), (mcells l).drop (i * 7) = mcells (l.drop i)
  | [], i => by simp [mcells_nil]
  | m :: l, 0 => by simp
  | m :: l, i + 1 => by
    rw [mcells_cons, show (i + 1) * 7 = i * 7 + 1 + 1 + 1 + 1 + 1 + 1 + 1 by omega]
    simp only [List.drop_succ_cons]
    rw [mcells_drop l i]
theorem mcells_at : ∀ (l : List Mk) (i : Nat), i < l.length → (mcells l)[i * 7]? = some (.int .i64 (mkAt l i).seq) ∧ (mcells l)[i * 7 + 1]? = some (.int .i64 (mkAt l i).t) ∧ (mcells l)[i * 7 + 2]? = some (.int .i64 (mkAt l i).n) ∧ (mcells l)[i * 7 + 3]? = some (.int .i64 (mkAt l i).s) ∧ (mcells l)[i * 7 + 4]? = some (.int .i64 (mkAt l i).q) ∧ (mcells l)[i * 7 + 5]? = some (.int .i64 (mkAt l i).lo) ∧ (mcells l)[i * 7 + 6]? = some (.int .i64 (mkAt l i).hi)
  | [], i, h => absurd h (by simp)
  | m :: l, 0, _ => ⟨rfl, rfl, rfl, rfl, rfl, rfl, rfl⟩
  | m :: l, i + 1, h => by
    have ih := mcells_at l i (by simpa using h)
    rw [mcells_cons, show (i + 1) * 7 = i * 7 + 1 + 1 + 1 + 1 + 1 + 1 + 1 by omega, show i * 7 + 1 + 1 + 1 + 1 + 1 + 1 + 1 + 1 = (i * 7 + 1) + 1 + 1 + 1 + 1 + 1 + 1 + 1 by omega, show i * 7 + 1 + 1 + 1 + 1 + 1 + 1 + 1 + 2 = (i * 7 + 2) + 1 + 1 + 1 + 1 + 1 + 1 + 1 by omega, show i * 7 + 1 + 1 + 1 + 1 + 1 + 1 + 1 + 3 = (i * 7 + 3) + 1 + 1 + 1 + 1 + 1 + 1 + 1 by omega, show i * 7 + 1 + 1 + 1 + 1 + 1 + 1 + 1 + 4 = (i * 7 + 4) + 1 + 1 + 1 + 1 + 1 + 1 + 1 by omega, show i * 7 + 1 + 1 + 1 + 1 + 1 + 1 + 1 + 5 = (i * 7 + 5) + 1 + 1 + 1 + 1 + 1 + 1 + 1 by omega, show i * 7 + 1 + 1 + 1 + 1 + 1 + 1 + 1 + 6 = (i * 7 + 6) + 1 + 1 + 1 + 1 + 1 + 1 + 1 by omega]
    simp only [List.getElem?_cons_succ]
    exact ih
theorem mcells_one (l : List Mk) : ∀ u ∈ mcells l, u.oneCell' = true := by
  intro u hu
  unfold mcells at hu
  rw [List.mem_flatMap] at hu
  obtain ⟨t, _, ht⟩ := hu
  simp at ht
  rcases ht with rfl | rfl | rfl | rfl | rfl | rfl | rfl <;> rfl
def I64 (x : Int) : Prop := -9223372036854775808 ≤ x ∧ x ≤ 9223372036854775807
/-- A mark's numbers are numbers of 64 bits. -/
def M64 (m : Mk) : Prop := I64 m.seq ∧ I64 m.t ∧ I64 m.n ∧ I64 m.s ∧ I64 m.q ∧ I64 m.lo ∧ I64 m.hi
theorem M64_zero : M64 Mk.zero := by unfold M64 I64 Mk.zero; simp
/-- The seven cells of a mark. -/
def MkCells (w : World) (a : Addr) (m : Mk) : Prop := w.cell? a = some (.int .i64 m.seq) ∧ w.cell? ⟨a.block, a.off + 1, none⟩ = some (.int .i64 m.t) ∧ w.cell? ⟨a.block, a.off + 2, none⟩ = some (.int .i64 m.n) ∧ w.cell? ⟨a.block, a.off + 3, none⟩ = some (.int .i64 m.s) ∧ w.cell? ⟨a.block, a.off + 4, none⟩ = some (.int .i64 m.q) ∧ w.cell? ⟨a.block, a.off + 5, none⟩ = some (.int .i64 m.lo) ∧ w.cell? ⟨a.block, a.off + 6, none⟩ = some (.int .i64 m.hi)
section
variable {w w' : World} {B m : Nat} {A : Option Addr} {l : List Mk}
theorem Reads.mk_len (h : Reads w B 7 A m (mcells l)) : l.length = m := by have := h.1; rw [mcells_len] at this; omega
theorem mk_lit (a : Addr) (j : Nat) (h : j ≠ 0) : a.add j = ⟨a.block, a.off + j, none⟩ := by unfold Addr.add; rw [if_neg h]
theorem MkCells.keep {a : Addr} {x : Mk} (h : MkCells w a x) (hk : ∀ p : Addr, p.block = a.block → w'.cell? p = w.cell? p) : MkCells w' a x :=
  ⟨(hk _ rfl).trans h.1, (hk ⟨a.block, a.off + 1, none⟩ rfl).trans h.2.1, (hk ⟨a.block, a.off + 2, none⟩ rfl).trans h.2.2.1, (hk ⟨a.block, a.off + 3, none⟩ rfl).trans h.2.2.2.1, (hk ⟨a.block, a.off + 4, none⟩ rfl).trans h.2.2.2.2.1, (hk ⟨a.block, a.off + 5, none⟩ rfl).trans h.2.2.2.2.2.1, (hk ⟨a.block, a.off + 6, none⟩ rfl).trans h.2.2.2.2.2.2⟩
theorem MkCells.below {a : Addr} {x : Mk} (h : MkCells w a x) (hb : Below B w w') (hlt : a.block < B) : MkCells w' a x := h.keep fun p hp => hb.cell (by rw [hp]; exact hlt)
theorem Reads.mk {i : Nat} (h : Reads w B 7 A m (mcells l)) (hi : i < m) : ∃ ad, A = some ad ∧ ad.block < B ∧ MkCells w (ad.add (i * 7)) (mkAt l i) := by
  obtain ⟨ad, e, hb, hc⟩ := h.2 (by omega)
  have ht := mcells_at l i (by rw [h.mk_len]; exact hi)
  refine ⟨ad, e, hb, hc _ _ ht.1, ?_, ?_, ?_, ?_, ?_, ?_⟩
  · rw [← mk_lit _ 1 (by decide), add_of_add]
    exact hc _ _ ht.2.1
  · rw [← mk_lit _ 2 (by decide), add_of_add]
    exact hc _ _ ht.2.2.1
  · rw [← mk_lit _ 3 (by decide), add_of_add]
    exact hc _ _ ht.2.2.2.1
  · rw [← mk_lit _ 4 (by decide), add_of_add]
    exact hc _ _ ht.2.2.2.2.1
  · rw [← mk_lit _ 5 (by decide), add_of_add]
    exact hc _ _ ht.2.2.2.2.2.1
  · rw [← mk_lit _ 6 (by decide), add_of_add]
    exact hc _ _ ht.2.2.2.2.2.2
end
/-- Marks as an argument. -/
structure MIn (A : Option Addr) (m c : Nat) (l : List Mk) (w : World) : Prop where
  reads : Reads w w.heap.size 7 A m (mcells l)
  mB : ∀ i, M64 (mkAt l i)
  mc : m ≤ c
  cB : c ≤ maxLen
section
variable {w w' : World} {m c : Nat} {A : Option Addr} {l : List Mk}
theorem MIn.max (h : MIn A m c l w) : m ≤ 9223372036854775807 := by
  have := h.mc
  have := h.cB
  unfold maxLen at *
  omega
theorem MIn.len (h : MIn A m c l w) : l.length = m := h.reads.mk_len
theorem MIn.below (h : MIn A m c l w) (hb : Below w.heap.size w w') : MIn A m c l w' := ⟨(h.reads.below hb).more hb.size, h.mB, h.mc, h.cB⟩
end
theorem info_mk : (Try.prog.info? 33).map (fun i => (i.zero, i.size, i.bytes)) = some (some (.agg #[.int .i64 0, .int .i64 0, .int .i64 0, .int .i64 0, .int .i64 0, .int .i64 0, .int .i64 0]), 7, 56) := by kernel_rfl
theorem mul_small {n x : Int} (h0 : 0 ≤ n) (h1 : n ≤ 65536) (h2 : -4096 ≤ x) (h3 : x ≤ 4096) : -268435456 ≤ n * x ∧ n * x ≤ 268435456 := by
  constructor
  · have : n * (-4096) ≤ n * x := Int.mul_le_mul_of_nonneg_left h2 h0
    omega
  · have : n * x ≤ n * 4096 := Int.mul_le_mul_of_nonneg_left h3 h0
    omega
theorem pfits_0 (n lo hi s q : Int) (w : World) (hn0 : 0 ≤ n) (hn1 : n ≤ 65536) (l0 : -4096 ≤ lo) (l1 : lo ≤ 4096) (g0 : -4096 ≤ hi) (g1 : hi ≤ 4096)  (h : s < n * lo) : Calls Try.prog 100 #[.int .i64 n, .int .i64 lo, .int .i64 hi, .int .i64 s, .int .i64 q] w fun e w' => e = .returned (.bool false) ∧ w' = w := by
  have b1 := mul_small hn0 hn1 l0 l1
  have b2 := mul_small hn0 hn1 g0 g1
  have wl : IntKind.i64.wrap (n * lo) = n * lo := IntWalk.i64_in _ (by omega)
  have wh : IntKind.i64.wrap (n * hi) = n * hi := IntWalk.i64_in _ (by omega)
  have wn2 : IntKind.i64.wrap (n * 4096) = n * 4096 := IntWalk.i64_in _ (by omega)
  have wn3 : IntKind.i64.wrap (n * 4096 * 4096) = n * 4096 * 4096 := IntWalk.i64_in _ (by omega)
  go_enter Try.func100, Try.ntmps100
  go_wp2_with fail
  go_ret
  exact ⟨by first | rfl | exact ret_bool (by simp; omega) | exact ret_bool (by simp [*]), rfl⟩
theorem pfits_1 (n lo hi s q : Int) (w : World) (hn0 : 0 ≤ n) (hn1 : n ≤ 65536) (l0 : -4096 ≤ lo) (l1 : lo ≤ 4096) (g0 : -4096 ≤ hi) (g1 : hi ≤ 4096) (h0 : n * lo ≤ s) (h : n * hi < s) : Calls Try.prog 100 #[.int .i64 n, .int .i64 lo, .int .i64 hi, .int .i64 s, .int .i64 q] w fun e w' => e = .returned (.bool false) ∧ w' = w := by
  have b1 := mul_small hn0 hn1 l0 l1
  have b2 := mul_small hn0 hn1 g0 g1
  have wl : IntKind.i64.wrap (n * lo) = n * lo := IntWalk.i64_in _ (by omega)
  have wh : IntKind.i64.wrap (n * hi) = n * hi := IntWalk.i64_in _ (by omega)
  have wn2 : IntKind.i64.wrap (n * 4096) = n * 4096 := IntWalk.i64_in _ (by omega)
  have wn3 : IntKind.i64.wrap (n * 4096 * 4096) = n * 4096 * 4096 := IntWalk.i64_in _ (by omega)
  go_enter Try.func100, Try.ntmps100
  go_wp2_with fail
  go_ret
  exact ⟨by first | rfl | exact ret_bool (by simp; omega) | exact ret_bool (by simp [*]), rfl⟩
theorem pfits_2 (n lo hi s q : Int) (w : World) (hn0 : 0 ≤ n) (hn1 : n ≤ 65536) (l0 : -4096 ≤ lo) (l1 : lo ≤ 4096) (g0 : -4096 ≤ hi) (g1 : hi ≤ 4096) (h0 : n * lo ≤ s) (h1 : s ≤ n * hi) (h : q < 0) : Calls Try.prog 100 #[.int .i64 n, .int .i64 lo, .int .i64 hi, .int .i64 s, .int .i64 q] w fun e w' => e = .returned (.bool false) ∧ w' = w := by
  have b1 := mul_small hn0 hn1 l0 l1
  have b2 := mul_small hn0 hn1 g0 g1
  have wl : IntKind.i64.wrap (n * lo) = n * lo := IntWalk.i64_in _ (by omega)
  have wh : IntKind.i64.wrap (n * hi) = n * hi := IntWalk.i64_in _ (by omega)
  have wn2 : IntKind.i64.wrap (n * 4096) = n * 4096 := IntWalk.i64_in _ (by omega)
  have wn3 : IntKind.i64.wrap (n * 4096 * 4096) = n * 4096 * 4096 := IntWalk.i64_in _ (by omega)
  go_enter Try.func100, Try.ntmps100
  go_wp2_with fail
  go_ret
  exact ⟨by first | rfl | exact ret_bool (by simp; omega) | exact ret_bool (by simp [*]), rfl⟩
theorem pfits_3 (n lo hi s q : Int) (w : World) (hn0 : 0 ≤ n) (hn1 : n ≤ 65536) (l0 : -4096 ≤ lo) (l1 : lo ≤ 4096) (g0 : -4096 ≤ hi) (g1 : hi ≤ 4096) (h0 : n * lo ≤ s) (h1 : s ≤ n * hi) (h2 : 0 ≤ q) (h : n * 4096 * 4096 < q) : Calls Try.prog 100 #[.int .i64 n, .int .i64 lo, .int .i64 hi, .int .i64 s, .int .i64 q] w fun e w' => e = .returned (.bool false) ∧ w' = w := by
  have b1 := mul_small hn0 hn1 l0 l1
  have b2 := mul_small hn0 hn1 g0 g1
  have wl : IntKind.i64.wrap (n * lo) = n * lo := IntWalk.i64_in _ (by omega)
  have wh : IntKind.i64.wrap (n * hi) = n * hi := IntWalk.i64_in _ (by omega)
  have wn2 : IntKind.i64.wrap (n * 4096) = n * 4096 := IntWalk.i64_in _ (by omega)
  have wn3 : IntKind.i64.wrap (n * 4096 * 4096) = n * 4096 * 4096 := IntWalk.i64_in _ (by omega)
  go_enter Try.func100, Try.ntmps100
  go_wp2_with fail
  go_ret
  exact ⟨by first | rfl | exact ret_bool (by simp; omega) | exact ret_bool (by simp [*]), rfl⟩
theorem pfits_4 (n lo hi s q : Int) (w : World) (hn0 : 0 ≤ n) (hn1 : n ≤ 65536) (l0 : -4096 ≤ lo) (l1 : lo ≤ 4096) (g0 : -4096 ≤ hi) (g1 : hi ≤ 4096) (h0 : n * lo ≤ s) (h1 : s ≤ n * hi) (h2 : 0 ≤ q) (h3 : q ≤ n * 4096 * 4096) (h : n * q < s * s) : Calls Try.prog 100 #[.int .i64 n, .int .i64 lo, .int .i64 hi, .int .i64 s, .int .i64 q] w fun e w' => e = .returned (.bool false) ∧ w' = w := by
  have b1 := mul_small hn0 hn1 l0 l1
  have b2 := mul_small hn0 hn1 g0 g1
  have wl : IntKind.i64.wrap (n * lo) = n * lo := IntWalk.i64_in _ (by omega)
  have wh : IntKind.i64.wrap (n * hi) = n * hi := IntWalk.i64_in _ (by omega)
  have wn2 : IntKind.i64.wrap (n * 4096) = n * 4096 := IntWalk.i64_in _ (by omega)
  have wn3 : IntKind.i64.wrap (n * 4096 * 4096) = n * 4096 * 4096 := IntWalk.i64_in _ (by omega)
  have b3 := sq_bound (s := s) (B := 268435456) (by omega) (by omega)
  have b4 : 0 ≤ n * q ∧ n * q ≤ 65536 * 1099511627776 := ⟨Int.mul_nonneg hn0 h2, Int.mul_le_mul hn1 (by omega) h2 (by decide)⟩
  have wss : IntKind.i64.wrap (s * s) = s * s := IntWalk.i64_in _ (by omega)
  have wnq : IntKind.i64.wrap (n * q) = n * q := IntWalk.i64_in _ (by omega)
  go_enter Try.func100, Try.ntmps100
  go_wp2_with fail
  go_ret
  exact ⟨by first | rfl | exact ret_bool (by simp; omega) | exact ret_bool (by simp [*]), rfl⟩
theorem pfits_5 (n lo hi s q : Int) (w : World) (hn0 : 0 ≤ n) (hn1 : n ≤ 65536) (l0 : -4096 ≤ lo) (l1 : lo ≤ 4096) (g0 : -4096 ≤ hi) (g1 : hi ≤ 4096) (h0 : n * lo ≤ s) (h1 : s ≤ n * hi) (h2 : 0 ≤ q) (h3 : q ≤ n * 4096 * 4096) (h4 : s * s ≤ n * q) : Calls Try.prog 100 #[.int .i64 n, .int .i64 lo, .int .i64 hi, .int .i64 s, .int .i64 q] w fun e w' => e = .returned (.bool true) ∧ w' = w := by
  have b1 := mul_small hn0 hn1 l0 l1
  have b2 := mul_small hn0 hn1 g0 g1
  have wl : IntKind.i64.wrap (n * lo) = n * lo := IntWalk.i64_in _ (by omega)
  have wh : IntKind.i64.wrap (n * hi) = n * hi := IntWalk.i64_in _ (by omega)
  have wn2 : IntKind.i64.wrap (n * 4096) = n * 4096 := IntWalk.i64_in _ (by omega)
  have wn3 : IntKind.i64.wrap (n * 4096 * 4096) = n * 4096 * 4096 := IntWalk.i64_in _ (by omega)
  have b3 := sq_bound (s := s) (B := 268435456) (by omega) (by omega)
  have b4 : 0 ≤ n * q ∧ n * q ≤ 65536 * 1099511627776 := ⟨Int.mul_nonneg hn0 h2, Int.mul_le_mul hn1 (by omega) h2 (by decide)⟩
  have wss : IntKind.i64.wrap (s * s) = s * s := IntWalk.i64_in _ (by omega)
  have wnq : IntKind.i64.wrap (n * q) = n * q := IntWalk.i64_in _ (by omega)
  go_enter Try.func100, Try.ntmps100
  go_wp2_with fail
  go_ret
  exact ⟨by first | rfl | exact ret_bool (by simp; omega) | exact ret_bool (by simp [*]), rfl⟩
theorem pfits (n lo hi s q : Int) (w : World) (hn0 : 0 ≤ n) (hn1 : n ≤ 65536) (l0 : -4096 ≤ lo) (l1 : lo ≤ 4096) (g0 : -4096 ≤ hi) (g1 : hi ≤ 4096) : Calls Try.prog 100 #[.int .i64 n, .int .i64 lo, .int .i64 hi, .int .i64 s, .int .i64 q] w fun e w' => e = .returned (.bool (decide (n * lo ≤ s ∧ s ≤ n * hi ∧ 0 ≤ q ∧ q ≤ n * 4096 * 4096 ∧ s * s ≤ n * q))) ∧ w' = w := by
  by_cases h0 : n * lo ≤ s
  · skip
    by_cases h1 : s ≤ n * hi
    · skip
      by_cases h2 : 0 ≤ q
      · skip
        by_cases h3 : q ≤ n * 4096 * 4096
        · skip
          by_cases h4 : s * s ≤ n * q
          · skip
            rw [show decide (n * lo ≤ s ∧ s ≤ n * hi ∧ 0 ≤ q ∧ q ≤ n * 4096 * 4096 ∧ s * s ≤ n * q) = true from decide_eq_true ⟨h0, h1, h2, h3, h4⟩]
            exact pfits_5 n lo hi s q w hn0 hn1 l0 l1 g0 g1 h0 h1 h2 h3 h4
          · rw [show decide (n * lo ≤ s ∧ s ≤ n * hi ∧ 0 ≤ q ∧ q ≤ n * 4096 * 4096 ∧ s * s ≤ n * q) = false from decide_eq_false (fun a => h4 a.2.2.2.2)]
            exact pfits_4 n lo hi s q w hn0 hn1 l0 l1 g0 g1 h0 h1 h2 h3 (Int.not_le.1 h4)
        · rw [show decide (n * lo ≤ s ∧ s ≤ n * hi ∧ 0 ≤ q ∧ q ≤ n * 4096 * 4096 ∧ s * s ≤ n * q) = false from decide_eq_false (fun a => h3 a.2.2.2.1)]
          exact pfits_3 n lo hi s q w hn0 hn1 l0 l1 g0 g1 h0 h1 h2 (Int.not_le.1 h3)
      · rw [show decide (n * lo ≤ s ∧ s ≤ n * hi ∧ 0 ≤ q ∧ q ≤ n * 4096 * 4096 ∧ s * s ≤ n * q) = false from decide_eq_false (fun a => h2 a.2.2.1)]
        exact pfits_2 n lo hi s q w hn0 hn1 l0 l1 g0 g1 h0 h1 (Int.not_le.1 h2)
    · rw [show decide (n * lo ≤ s ∧ s ≤ n * hi ∧ 0 ≤ q ∧ q ≤ n * 4096 * 4096 ∧ s * s ≤ n * q) = false from decide_eq_false (fun a => h1 a.2.1)]
      exact pfits_1 n lo hi s q w hn0 hn1 l0 l1 g0 g1 h0 (Int.not_le.1 h1)
  · rw [show decide (n * lo ≤ s ∧ s ≤ n * hi ∧ 0 ≤ q ∧ q ≤ n * 4096 * 4096 ∧ s * s ≤ n * q) = false from decide_eq_false (fun a => h0 a.1)]
    exact pfits_0 n lo hi s q w hn0 hn1 l0 l1 g0 g1  (Int.not_le.1 h0)
theorem pfitsP (n lo hi s q : Int) (w : World) (hn0 : 0 ≤ n) (hn1 : n ≤ 65536) (l0 : -4096 ≤ lo) (l1 : lo ≤ 4096) (g0 : -4096 ≤ hi) (g1 : hi ≤ 4096) : Calls Try.prog 100 #[.int .i64 n, .int .i64 lo, .int .i64 hi, .int .i64 s, .int .i64 q] w fun e w' => e = .returned (.bool (decide (partP n lo hi s q))) ∧ w' = w := by
  have e : decide (partP n lo hi s q) = decide (n * lo ≤ s ∧ s ≤ n * hi ∧ 0 ≤ q ∧ q ≤ n * 4096 * 4096 ∧ s * s ≤ n * q) := by
    by_cases h : partP n lo hi s q
    · exact (decide_eq_true h).trans (decide_eq_true (p := n * lo ≤ s ∧ s ≤ n * hi ∧ 0 ≤ q ∧ q ≤ n * 4096 * 4096 ∧ s * s ≤ n * q) h).symm
    · exact (decide_eq_false h).trans (decide_eq_false (p := n * lo ≤ s ∧ s ≤ n * hi ∧ 0 ≤ q ∧ q ≤ n * 4096 * 4096 ∧ s * s ≤ n * q) h).symm
  rw [e]
  exact pfits n lo hi s q w hn0 hn1 l0 l1 g0 g1
theorem rpart_0 (n lo hi s q : Int) (w : World) (hn0 : 0 ≤ n) (hn1 : n ≤ 65536) (l0 : -4096 ≤ lo) (l1 : lo ≤ 4096) (g0 : -4096 ≤ hi) (g1 : hi ≤ 4096)  (h : s < n * lo) : Calls Try.prog 102 #[.int .i64 n, .int .i64 s, .int .i64 q, .int .i64 lo, .int .i64 hi] w fun e w' => e = .returned (.bool false) ∧ w' = w := by
  have b1 := mul_small hn0 hn1 l0 l1
  have b2 := mul_small hn0 hn1 g0 g1
  have wl : IntKind.i64.wrap (n * lo) = n * lo := IntWalk.i64_in _ (by omega)
  have wh : IntKind.i64.wrap (n * hi) = n * hi := IntWalk.i64_in _ (by omega)
  have wn2 : IntKind.i64.wrap (n * 4096) = n * 4096 := IntWalk.i64_in _ (by omega)
  have wn3 : IntKind.i64.wrap (n * 4096 * 4096) = n * 4096 * 4096 := IntWalk.i64_in _ (by omega)
  go_enter Try.func102, Try.ntmps102
  go_wp2_with fail
  go_ret
  exact ⟨by first | rfl | exact ret_bool (by simp; omega) | exact ret_bool (by simp [*]), rfl⟩
theorem rpart_1 (n lo hi s q : Int) (w : World) (hn0 : 0 ≤ n) (hn1 : n ≤ 65536) (l0 : -4096 ≤ lo) (l1 : lo ≤ 4096) (g0 : -4096 ≤ hi) (g1 : hi ≤ 4096) (h0 : n * lo ≤ s) (h : n * hi < s) : Calls Try.prog 102 #[.int .i64 n, .int .i64 s, .int .i64 q, .int .i64 lo, .int .i64 hi] w fun e w' => e = .returned (.bool false) ∧ w' = w := by
  have b1 := mul_small hn0 hn1 l0 l1
  have b2 := mul_small hn0 hn1 g0 g1
  have wl : IntKind.i64.wrap (n * lo) = n * lo := IntWalk.i64_in _ (by omega)
  have wh : IntKind.i64.wrap (n * hi) = n * hi := IntWalk.i64_in _ (by omega)
  have wn2 : IntKind.i64.wrap (n * 4096) = n * 4096 := IntWalk.i64_in _ (by omega)
  have wn3 : IntKind.i64.wrap (n * 4096 * 4096) = n * 4096 * 4096 := IntWalk.i64_in _ (by omega)
  go_enter Try.func102, Try.ntmps102
  go_wp2_with fail
  go_ret
  exact ⟨by first | rfl | exact ret_bool (by simp; omega) | exact ret_bool (by simp [*]), rfl⟩
theorem rpart_2 (n lo hi s q : Int) (w : World) (hn0 : 0 ≤ n) (hn1 : n ≤ 65536) (l0 : -4096 ≤ lo) (l1 : lo ≤ 4096) (g0 : -4096 ≤ hi) (g1 : hi ≤ 4096) (h0 : n * lo ≤ s) (h1 : s ≤ n * hi) (h : q < 0) : Calls Try.prog 102 #[.int .i64 n, .int .i64 s, .int .i64 q, .int .i64 lo, .int .i64 hi] w fun e w' => e = .returned (.bool false) ∧ w' = w := by
  have b1 := mul_small hn0 hn1 l0 l1
  have b2 := mul_small hn0 hn1 g0 g1
  have wl : IntKind.i64.wrap (n * lo) = n * lo := IntWalk.i64_in _ (by omega)
  have wh : IntKind.i64.wrap (n * hi) = n * hi := IntWalk.i64_in _ (by omega)
  have wn2 : IntKind.i64.wrap (n * 4096) = n * 4096 := IntWalk.i64_in _ (by omega)
  have wn3 : IntKind.i64.wrap (n * 4096 * 4096) = n * 4096 * 4096 := IntWalk.i64_in _ (by omega)
  go_enter Try.func102, Try.ntmps102
  go_wp2_with fail
  go_ret
  exact ⟨by first | rfl | exact ret_bool (by simp; omega) | exact ret_bool (by simp [*]), rfl⟩
theorem rpart_3 (n lo hi s q : Int) (w : World) (hn0 : 0 ≤ n) (hn1 : n ≤ 65536) (l0 : -4096 ≤ lo) (l1 : lo ≤ 4096) (g0 : -4096 ≤ hi) (g1 : hi ≤ 4096) (h0 : n * lo ≤ s) (h1 : s ≤ n * hi) (h2 : 0 ≤ q) (h : n * 4096 * 4096 < q) : Calls Try.prog 102 #[.int .i64 n, .int .i64 s, .int .i64 q, .int .i64 lo, .int .i64 hi] w fun e w' => e = .returned (.bool false) ∧ w' = w := by
  have b1 := mul_small hn0 hn1 l0 l1
  have b2 := mul_small hn0 hn1 g0 g1
  have wl : IntKind.i64.wrap (n * lo) = n * lo := IntWalk.i64_in _ (by omega)
  have wh : IntKind.i64.wrap (n * hi) = n * hi := IntWalk.i64_in _ (by omega)
  have wn2 : IntKind.i64.wrap (n * 4096) = n * 4096 := IntWalk.i64_in _ (by omega)
  have wn3 : IntKind.i64.wrap (n * 4096 * 4096) = n * 4096 * 4096 := IntWalk.i64_in _ (by omega)
  go_enter Try.func102, Try.ntmps102
  go_wp2_with fail
  go_ret
  exact ⟨by first | rfl | exact ret_bool (by simp; omega) | exact ret_bool (by simp [*]), rfl⟩
theorem rpart_4 (n lo hi s q : Int) (w : World) (hn0 : 0 ≤ n) (hn1 : n ≤ 65536) (l0 : -4096 ≤ lo) (l1 : lo ≤ 4096) (g0 : -4096 ≤ hi) (g1 : hi ≤ 4096) (h0 : n * lo ≤ s) (h1 : s ≤ n * hi) (h2 : 0 ≤ q) (h3 : q ≤ n * 4096 * 4096) (h : n * q < s * s) : Calls Try.prog 102 #[.int .i64 n, .int .i64 s, .int .i64 q, .int .i64 lo, .int .i64 hi] w fun e w' => e = .returned (.bool false) ∧ w' = w := by
  have b1 := mul_small hn0 hn1 l0 l1
  have b2 := mul_small hn0 hn1 g0 g1
  have wl : IntKind.i64.wrap (n * lo) = n * lo := IntWalk.i64_in _ (by omega)
  have wh : IntKind.i64.wrap (n * hi) = n * hi := IntWalk.i64_in _ (by omega)
  have wn2 : IntKind.i64.wrap (n * 4096) = n * 4096 := IntWalk.i64_in _ (by omega)
  have wn3 : IntKind.i64.wrap (n * 4096 * 4096) = n * 4096 * 4096 := IntWalk.i64_in _ (by omega)
  have b3 := sq_bound (s := s) (B := 268435456) (by omega) (by omega)
  have b4 : 0 ≤ n * q ∧ n * q ≤ 65536 * 1099511627776 := ⟨Int.mul_nonneg hn0 h2, Int.mul_le_mul hn1 (by omega) h2 (by decide)⟩
  have wss : IntKind.i64.wrap (s * s) = s * s := IntWalk.i64_in _ (by omega)
  have wnq : IntKind.i64.wrap (n * q) = n * q := IntWalk.i64_in _ (by omega)
  go_enter Try.func102, Try.ntmps102
  go_wp2_with fail
  go_ret
  exact ⟨by first | rfl | exact ret_bool (by simp; omega) | exact ret_bool (by simp [*]), rfl⟩
theorem rpart_5 (n lo hi s q : Int) (w : World) (hn0 : 0 ≤ n) (hn1 : n ≤ 65536) (l0 : -4096 ≤ lo) (l1 : lo ≤ 4096) (g0 : -4096 ≤ hi) (g1 : hi ≤ 4096) (h0 : n * lo ≤ s) (h1 : s ≤ n * hi) (h2 : 0 ≤ q) (h3 : q ≤ n * 4096 * 4096) (h4 : s * s ≤ n * q) : Calls Try.prog 102 #[.int .i64 n, .int .i64 s, .int .i64 q, .int .i64 lo, .int .i64 hi] w fun e w' => e = .returned (.bool true) ∧ w' = w := by
  have b1 := mul_small hn0 hn1 l0 l1
  have b2 := mul_small hn0 hn1 g0 g1
  have wl : IntKind.i64.wrap (n * lo) = n * lo := IntWalk.i64_in _ (by omega)
  have wh : IntKind.i64.wrap (n * hi) = n * hi := IntWalk.i64_in _ (by omega)
  have wn2 : IntKind.i64.wrap (n * 4096) = n * 4096 := IntWalk.i64_in _ (by omega)
  have wn3 : IntKind.i64.wrap (n * 4096 * 4096) = n * 4096 * 4096 := IntWalk.i64_in _ (by omega)
  have b3 := sq_bound (s := s) (B := 268435456) (by omega) (by omega)
  have b4 : 0 ≤ n * q ∧ n * q ≤ 65536 * 1099511627776 := ⟨Int.mul_nonneg hn0 h2, Int.mul_le_mul hn1 (by omega) h2 (by decide)⟩
  have wss : IntKind.i64.wrap (s * s) = s * s := IntWalk.i64_in _ (by omega)
  have wnq : IntKind.i64.wrap (n * q) = n * q := IntWalk.i64_in _ (by omega)
  go_enter Try.func102, Try.ntmps102
  go_wp2_with fail
  go_ret
  exact ⟨by first | rfl | exact ret_bool (by simp; omega) | exact ret_bool (by simp [*]), rfl⟩
theorem rpart (n lo hi s q : Int) (w : World) (hn0 : 0 ≤ n) (hn1 : n ≤ 65536) (l0 : -4096 ≤ lo) (l1 : lo ≤ 4096) (g0 : -4096 ≤ hi) (g1 : hi ≤ 4096) : Calls Try.prog 102 #[.int .i64 n, .int .i64 s, .int .i64 q, .int .i64 lo, .int .i64 hi] w fun e w' => e = .returned (.bool (decide (n * lo ≤ s ∧ s ≤ n * hi ∧ 0 ≤ q ∧ q ≤ n * 4096 * 4096 ∧ s * s ≤ n * q))) ∧ w' = w := by
  by_cases h0 : n * lo ≤ s
  · skip
    by_cases h1 : s ≤ n * hi
    · skip
      by_cases h2 : 0 ≤ q
      · skip
        by_cases h3 : q ≤ n * 4096 * 4096
        · skip
          by_cases h4 : s * s ≤ n * q
          · skip
            rw [show decide (n * lo ≤ s ∧ s ≤ n * hi ∧ 0 ≤ q ∧ q ≤ n * 4096 * 4096 ∧ s * s ≤ n * q) = true from decide_eq_true ⟨h0, h1, h2, h3, h4⟩]
            exact rpart_5 n lo hi s q w hn0 hn1 l0 l1 g0 g1 h0 h1 h2 h3 h4
          · rw [show decide (n * lo ≤ s ∧ s ≤ n * hi ∧ 0 ≤ q ∧ q ≤ n * 4096 * 4096 ∧ s * s ≤ n * q) = false from decide_eq_false (fun a => h4 a.2.2.2.2)]
            exact rpart_4 n lo hi s q w hn0 hn1 l0 l1 g0 g1 h0 h1 h2 h3 (Int.not_le.1 h4)
        · rw [show decide (n * lo ≤ s ∧ s ≤ n * hi ∧ 0 ≤ q ∧ q ≤ n * 4096 * 4096 ∧ s * s ≤ n * q) = false from decide_eq_false (fun a => h3 a.2.2.2.1)]
          exact rpart_3 n lo hi s q w hn0 hn1 l0 l1 g0 g1 h0 h1 h2 (Int.not_le.1 h3)
      · rw [show decide (n * lo ≤ s ∧ s ≤ n * hi ∧ 0 ≤ q ∧ q ≤ n * 4096 * 4096 ∧ s * s ≤ n * q) = false from decide_eq_false (fun a => h2 a.2.2.1)]
        exact rpart_2 n lo hi s q w hn0 hn1 l0 l1 g0 g1 h0 h1 (Int.not_le.1 h2)
    · rw [show decide (n * lo ≤ s ∧ s ≤ n * hi ∧ 0 ≤ q ∧ q ≤ n * 4096 * 4096 ∧ s * s ≤ n * q) = false from decide_eq_false (fun a => h1 a.2.1)]
      exact rpart_1 n lo hi s q w hn0 hn1 l0 l1 g0 g1 h0 (Int.not_le.1 h1)
  · rw [show decide (n * lo ≤ s ∧ s ≤ n * hi ∧ 0 ≤ q ∧ q ≤ n * 4096 * 4096 ∧ s * s ≤ n * q) = false from decide_eq_false (fun a => h0 a.1)]
    exact rpart_0 n lo hi s q w hn0 hn1 l0 l1 g0 g1  (Int.not_le.1 h0)
theorem rpartP (n lo hi s q : Int) (w : World) (hn0 : 0 ≤ n) (hn1 : n ≤ 65536) (l0 : -4096 ≤ lo) (l1 : lo ≤ 4096) (g0 : -4096 ≤ hi) (g1 : hi ≤ 4096) : Calls Try.prog 102 #[.int .i64 n, .int .i64 s, .int .i64 q, .int .i64 lo, .int .i64 hi] w fun e w' => e = .returned (.bool (decide (partP n lo hi s q))) ∧ w' = w := by
  have e : decide (partP n lo hi s q) = decide (n * lo ≤ s ∧ s ≤ n * hi ∧ 0 ≤ q ∧ q ≤ n * 4096 * 4096 ∧ s * s ≤ n * q) := by
    by_cases h : partP n lo hi s q
    · exact (decide_eq_true h).trans (decide_eq_true (p := n * lo ≤ s ∧ s ≤ n * hi ∧ 0 ≤ q ∧ q ≤ n * 4096 * 4096 ∧ s * s ≤ n * q) h).symm
    · exact (decide_eq_false h).trans (decide_eq_false (p := n * lo ≤ s ∧ s ≤ n * hi ∧ 0 ≤ q ∧ q ≤ n * 4096 * 4096 ∧ s * s ≤ n * q) h).symm
  rw [e]
  exact rpart n lo hi s q w hn0 hn1 l0 l1 g0 g1
theorem ptick_2 (now : Int) (w : World)  (h0 : 0 ≤ now) (h1 : now ≤ 16777216) : Calls Try.prog 99 #[.int .i64 now] w fun e w' => e = .returned (.bool true) ∧ w' = w := by
  go_enter Try.func99, Try.ntmps99
  go_wp2_with fail
  go_ret
  exact ⟨by first | rfl | exact ret_bool (by simp; omega), rfl⟩
theorem pfirst_yes (now wd : Int) (w : World) (n0 : 0 ≤ now) (n1 : now ≤ 16777216) (d0 : 1 ≤ wd) (d1 : wd ≤ 1048576) (h : 0 ≤ now - wd + 1) : Calls Try.prog 103 #[.int .i64 now, .int .i64 wd] w fun e w' => e = .returned (.int .i64 (now - wd + 1)) ∧ w' = w := by
  have PT := Lib.hid (fun w => ptick_2 now w n0 n1)
  have w1 : IntKind.i64.wrap (now - wd) = now - wd := IntWalk.i64_in _ (by omega)
  have w2 : IntKind.i64.wrap (now - wd + 1) = now - wd + 1 := IntWalk.i64_in _ (by omega)
  go_enter Try.func103, Try.ntmps103
  go_wp2_with (go_at_call 99; with_reducible refine (PT.out _).mono ?_; rintro e w9 ⟨rfl, h9⟩; obtain rfl := h9.symm)
  go_ret
  exact ⟨by first | rfl | exact ret_i64 (by omega), rfl⟩
theorem pfirst_no (now wd : Int) (w : World) (n0 : 0 ≤ now) (n1 : now ≤ 16777216) (d0 : 1 ≤ wd) (d1 : wd ≤ 1048576) (h : now - wd + 1 < 0) : Calls Try.prog 103 #[.int .i64 now, .int .i64 wd] w fun e w' => e = .returned (.int .i64 0) ∧ w' = w := by
  have PT := Lib.hid (fun w => ptick_2 now w n0 n1)
  have w1 : IntKind.i64.wrap (now - wd) = now - wd := IntWalk.i64_in _ (by omega)
  have w2 : IntKind.i64.wrap (now - wd + 1) = now - wd + 1 := IntWalk.i64_in _ (by omega)
  go_enter Try.func103, Try.ntmps103
  go_wp2_with (go_at_call 99; with_reducible refine (PT.out _).mono ?_; rintro e w9 ⟨rfl, h9⟩; obtain rfl := h9.symm)
  go_ret
  exact ⟨by first | rfl | exact ret_i64 (by omega), rfl⟩
theorem plive_yes_true (now wd t : Int) (w : World) (n0 : 0 ≤ now) (n1 : now ≤ 16777216) (d0 : 1 ≤ wd) (d1 : wd ≤ 1048576) (t0 : 0 ≤ t) (t1 : t ≤ now) (h : 0 ≤ now - wd + 1) (hl : now - wd < t) : Calls Try.prog 77 #[.int .i64 now, .int .i64 wd, .int .i64 t] w fun e w' => e = .returned (.bool true) ∧ w' = w := by
  have PT := Lib.hid (fun w => ptick_2 t w t0 (by omega))
  have PF := Lib.hid (fun w => pfirst_yes now wd w n0 n1 d0 d1 h)
  go_enter Try.func77, Try.ntmps77
  go_wp2_with (first | (go_at_call 99; with_reducible refine (PT.out _).mono ?_; rintro e w9 ⟨rfl, h9⟩; obtain rfl := h9.symm) | (go_at_call 103; with_reducible refine (PF.out _).mono ?_; rintro e w9 ⟨rfl, h9⟩; obtain rfl := h9.symm))
  go_ret
  exact ⟨by first | rfl | exact ret_bool (by simp; omega), rfl⟩
theorem plive_yes_false (now wd t : Int) (w : World) (n0 : 0 ≤ now) (n1 : now ≤ 16777216) (d0 : 1 ≤ wd) (d1 : wd ≤ 1048576) (t0 : 0 ≤ t) (t1 : t ≤ now) (h : 0 ≤ now - wd + 1) (hl : ¬ now - wd < t) : Calls Try.prog 77 #[.int .i64 now, .int .i64 wd, .int .i64 t] w fun e w' => e = .returned (.bool false) ∧ w' = w := by
  have PT := Lib.hid (fun w => ptick_2 t w t0 (by omega))
  have PF := Lib.hid (fun w => pfirst_yes now wd w n0 n1 d0 d1 h)
  go_enter Try.func77, Try.ntmps77
  go_wp2_with (first | (go_at_call 99; with_reducible refine (PT.out _).mono ?_; rintro e w9 ⟨rfl, h9⟩; obtain rfl := h9.symm) | (go_at_call 103; with_reducible refine (PF.out _).mono ?_; rintro e w9 ⟨rfl, h9⟩; obtain rfl := h9.symm))
  go_ret
  exact ⟨by first | rfl | exact ret_bool (by simp; omega), rfl⟩
theorem plive_no_true (now wd t : Int) (w : World) (n0 : 0 ≤ now) (n1 : now ≤ 16777216) (d0 : 1 ≤ wd) (d1 : wd ≤ 1048576) (t0 : 0 ≤ t) (t1 : t ≤ now) (h : now - wd + 1 < 0) (hl : now - wd < t) : Calls Try.prog 77 #[.int .i64 now, .int .i64 wd, .int .i64 t] w fun e w' => e = .returned (.bool true) ∧ w' = w := by
  have PT := Lib.hid (fun w => ptick_2 t w t0 (by omega))
  have PF := Lib.hid (fun w => pfirst_no now wd w n0 n1 d0 d1 h)
  go_enter Try.func77, Try.ntmps77
  go_wp2_with (first | (go_at_call 99; with_reducible refine (PT.out _).mono ?_; rintro e w9 ⟨rfl, h9⟩; obtain rfl := h9.symm) | (go_at_call 103; with_reducible refine (PF.out _).mono ?_; rintro e w9 ⟨rfl, h9⟩; obtain rfl := h9.symm))
  go_ret
  exact ⟨by first | rfl | exact ret_bool (by simp; omega), rfl⟩
theorem plive (now wd t : Int) (w : World) (n0 : 0 ≤ now) (n1 : now ≤ 16777216) (d0 : 1 ≤ wd) (d1 : wd ≤ 1048576) (t0 : 0 ≤ t) (t1 : t ≤ now) : Calls Try.prog 77 #[.int .i64 now, .int .i64 wd, .int .i64 t] w fun e w' => e = .returned (.bool (decide (now - wd < t))) ∧ w' = w := by
  by_cases h : 0 ≤ now - wd + 1
  · by_cases hl : now - wd < t
    · rw [decide_eq_true hl]
      exact plive_yes_true now wd t w n0 n1 d0 d1 t0 t1 h hl
    · rw [decide_eq_false hl]
      exact plive_yes_false now wd t w n0 n1 d0 d1 t0 t1 h hl
  · rw [decide_eq_true (by omega)]
    exact plive_no_true now wd t w n0 n1 d0 d1 t0 t1 (by omega) (by omega)
theorem rlive_true (now wd t : Int) (w : World) (n0 : 0 ≤ now) (n1 : now ≤ 16777216) (d0 : 1 ≤ wd) (d1 : wd ≤ 1048576) (t0 : 0 ≤ t) (t1 : t ≤ now) (hl : now - wd < t) : Calls Try.prog 79 #[.int .i64 now, .int .i64 wd, .int .i64 t] w fun e w' => e = .returned (.bool true) ∧ w' = w := by
  have P1 := Lib.hid (fun w => rtick_2 now w n0 n1)
  have P2 := Lib.hid (fun w => rtick_2 t w t0 (by omega))
  have P3 := Lib.hid (fun w => rwindow_2 wd w d0 d1)
  have w1 : IntKind.i64.wrap (now - wd) = now - wd := IntWalk.i64_in _ (by omega)
  go_enter Try.func79, Try.ntmps79
  go_wp2_with (first | (go_at_call 83; with_reducible refine (P1.out _).mono ?_; rintro e w9 ⟨rfl, h9⟩; obtain rfl := h9.symm) | (go_at_call 83; with_reducible refine (P2.out _).mono ?_; rintro e w9 ⟨rfl, h9⟩; obtain rfl := h9.symm) | (go_at_call 82; with_reducible refine (P3.out _).mono ?_; rintro e w9 ⟨rfl, h9⟩; obtain rfl := h9.symm))
  go_ret
  exact ⟨by first | rfl | exact ret_bool (by simp; omega), rfl⟩
theorem rlive_false (now wd t : Int) (w : World) (n0 : 0 ≤ now) (n1 : now ≤ 16777216) (d0 : 1 ≤ wd) (d1 : wd ≤ 1048576) (t0 : 0 ≤ t) (t1 : t ≤ now) (hl : ¬ now - wd < t) : Calls Try.prog 79 #[.int .i64 now, .int .i64 wd, .int .i64 t] w fun e w' => e = .returned (.bool false) ∧ w' = w := by
  have P1 := Lib.hid (fun w => rtick_2 now w n0 n1)
  have P2 := Lib.hid (fun w => rtick_2 t w t0 (by omega))
  have P3 := Lib.hid (fun w => rwindow_2 wd w d0 d1)
  have w1 : IntKind.i64.wrap (now - wd) = now - wd := IntWalk.i64_in _ (by omega)
  go_enter Try.func79, Try.ntmps79
  go_wp2_with (first | (go_at_call 83; with_reducible refine (P1.out _).mono ?_; rintro e w9 ⟨rfl, h9⟩; obtain rfl := h9.symm) | (go_at_call 83; with_reducible refine (P2.out _).mono ?_; rintro e w9 ⟨rfl, h9⟩; obtain rfl := h9.symm) | (go_at_call 82; with_reducible refine (P3.out _).mono ?_; rintro e w9 ⟨rfl, h9⟩; obtain rfl := h9.symm))
  go_ret
  exact ⟨by first | rfl | exact ret_bool (by simp; omega), rfl⟩
theorem rlive (now wd t : Int) (w : World) (n0 : 0 ≤ now) (n1 : now ≤ 16777216) (d0 : 1 ≤ wd) (d1 : wd ≤ 1048576) (t0 : 0 ≤ t) (t1 : t ≤ now) : Calls Try.prog 79 #[.int .i64 now, .int .i64 wd, .int .i64 t] w fun e w' => e = .returned (.bool (decide (now - wd < t))) ∧ w' = w := by
  by_cases hl : now - wd < t
  · rw [decide_eq_true hl]
    exact rlive_true now wd t w n0 n1 d0 d1 t0 t1 hl
  · rw [decide_eq_false hl]
    exact rlive_false now wd t w n0 n1 d0 d1 t0 t1 hl
end Go.Proofs.Ytaiepjcnncajcaa
end
section
/- Marks of smooth histograms: the program's check, walked. -/
set_option linter.unusedVariables false
set_option linter.unusedSimpArgs false
set_option linter.unusedSectionVars false
set_option linter.unnecessarySimpa false
namespace Go.Proofs.Ytaiepjcnncajcaa
open Go.RowKit
theorem mvalid_bad {l : List Mk} {seq cap now wd least : Int} {i : Nat} (hi : i < l.length) (h : ¬ atP l seq cap now wd least i) : decide (mvalid l seq cap now wd least) = false := decide_eq_false (fun a => h (a.2.2.1 i hi))
/-- What a place asks, flat. -/
theorem at_flat {l : List Mk} {seq cap now wd least : Int} {i : Nat} {sq tk n s q lo hi : Int} (hM : mkAt l i = ⟨sq, tk, n, s, q, lo, hi⟩) : atP l seq cap now wd least i ↔ (1 ≤ sq ∧ sq ≤ seq ∧ n = seq - sq + 1 ∧ n ≤ cap ∧ 0 ≤ tk ∧ tk ≤ now) ∧ (least ≤ lo ∧ hi ≤ 4096 ∧ lo ≤ hi ∧ partP n lo hi s q) ∧ ((0 < i ∨ l.length = 1) → now - wd < tk) ∧ (0 < i → twoP (mkAt l (i - 1)) (mkAt l i)) := by
  unfold atP
  rw [hM]
  constructor
  · rintro ⟨⟨a1, a2, a3, a4, a5, a6, a7, a8, a9, a10⟩, b, c⟩
    exact ⟨⟨a1, a2, a3, a4, a5, a6⟩, ⟨a7, a8, a9, a10⟩, b, c⟩
  · rintro ⟨⟨a1, a2, a3, a4, a5, a6⟩, ⟨a7, a8, a9, a10⟩, b, c⟩
    exact ⟨⟨a1, a2, a3, a4, a5, a6, a7, a8, a9, a10⟩, b, c⟩
theorem two_flat {osq otk on os oq olo ohi sq tk n s q lo hi : Int} : twoP ⟨osq, otk, on, os, oq, olo, ohi⟩ ⟨sq, tk, n, s, q, lo, hi⟩ ↔ osq < sq ∧ otk ≤ tk ∧ olo ≤ lo ∧ hi ≤ ohi ∧ partP (on - n) olo ohi (os - s) (oq - q) := Iff.rfl
set_option maxRecDepth 100000 in
theorem pmvalid_a (A : Option Addr) (m c : Nat) (l : List Mk) (seq cap now wd least : Int) (w : World) (h : seq < 0) : Calls Try.prog 66 #[.slice A m c, .int .i64 seq, .int .i64 cap, .int .i64 now, .int .i64 wd, .int .i64 least] w fun e w' => e = .returned (.bool (decide (mvalid l seq cap now wd least))) ∧ Below w.heap.size w w' := by
  have E := Lib.hid (show decide (mvalid l seq cap now wd least) = false from decide_eq_false (fun a => absurd a.1 (by omega)))
  go_enter Try.func66, Try.ntmps66
  go_wp2
  go_ret
  exact ⟨ret_bool E.out.symm, Below.refl _ _⟩
set_option maxRecDepth 100000 in
theorem pmvalid_b (A : Option Addr) (m c : Nat) (l : List Mk) (seq cap now wd least : Int) (w : World) (h0 : 0 ≤ seq) (h : 1099511627776 < seq) : Calls Try.prog 66 #[.slice A m c, .int .i64 seq, .int .i64 cap, .int .i64 now, .int .i64 wd, .int .i64 least] w fun e w' => e = .returned (.bool (decide (mvalid l seq cap now wd least))) ∧ Below w.heap.size w w' := by
  have E := Lib.hid (show decide (mvalid l seq cap now wd least) = false from decide_eq_false (fun a => absurd a.2.1 (by omega)))
  go_enter Try.func66, Try.ntmps66
  go_wp2
  go_ret
  exact ⟨ret_bool E.out.symm, Below.refl _ _⟩
set_option maxRecDepth 100000 in
set_option maxHeartbeats 8000000 in
theorem pmvalid_one (A : Option Addr) (c : Nat) (l : List Mk) (seq cap now wd least : Int) (w : World) (hin : MIn A 1 c l w) (sB : I64 seq) (c0 : 1 ≤ cap) (c1 : cap ≤ 65536) (n0 : 0 ≤ now) (n1 : now ≤ 16777216) (d0 : 1 ≤ wd) (d1 : wd ≤ 1048576) (e0 : -4096 ≤ least) (s0 : 0 ≤ seq) (s1 : seq ≤ 1099511627776) : Calls Try.prog 66 #[.slice A 1 c, .int .i64 seq, .int .i64 cap, .int .i64 now, .int .i64 wd, .int .i64 least] w fun e w' => e = .returned (.bool (decide (mvalid l seq cap now wd least))) ∧ Below w.heap.size w w' := by
  have HR := Lib.hid hin
  have HL := Lib.hid hin.len
  have mB := hin.max
  have t0 : ¬ seq < 0 := by omega
  have t1 : ¬ 1099511627776 < seq := by omega
  clear hin sB
  go_enter Try.func66, Try.ntmps66
  go_wp2
  clear t0 t1
  go_loopw [25] (fun i wr => ∃ j : Nat, j ≤ 1 ∧ i = .int .i64 (j : Nat) ∧ RowKit.Hid (∀ e, e < j → atP l seq cap now wd least e) ∧ Below w.heap.size w wr) (fun i _ => 1 - (intOf i).toNat)
  case atStart => exact ⟨0, by omega, rfl, Lib.hid (fun e h => absurd h (by omega)), Below.refl _ _⟩
  case round =>
    obtain ⟨j, hj, rfl, HA, o⟩ := hrel
    by_cases hlt : j < 1
    · obtain rfl : j = 0 := by omega
      obtain ⟨ad, rfl, hadb, ht0⟩ := HR.out.reads.mk hlt
      have hB := HR.out.mB 0
      have ht0 : MkCells w ad (mkAt l 0) := ht0
      generalize hM : mkAt l 0 = mj at ht0 hB
      obtain ⟨sq, tk, n, s, q, lo, hi⟩ := mj
      obtain ⟨q0, q1, q2, q3, q4, q5, q6⟩ := ht0.below o hadb
      have AT := Lib.hid (at_flat (seq := seq) (cap := cap) (now := now) (wd := wd) (least := least) hM)
      have HM := Lib.hid hM
      obtain ⟨hB0, hB1, hB2, hB3, hB4, hB5, hB6⟩ := hB
      unfold I64 at hB0 hB1 hB2 hB3 hB4 hB5 hB6
      have i1 : (0 : Int) < 1 := by omega
      dsimp only at q0 q1 q2 q3 q4 q5 q6 hB0 hB1 hB2 hB3 hB4 hB5 hB6
      clear hM ht0
      go_upto_region 6 with (fail)
      have K : Row (wr.alloc (.cells #[.int .i64 sq, .int .i64 tk, .int .i64 n, .int .i64 s, .int .i64 q, .int .i64 lo, .int .i64 hi] 33)) wr.heap.size 33 #[.int .i64 sq, .int .i64 tk, .int .i64 n, .int .i64 s, .int .i64 q, .int .i64 lo, .int .i64 hi] := row_new rfl
      have z0 := o.size
      replace o := o.alloc o.size (.cells #[.int .i64 sq, .int .i64 tk, .int .i64 n, .int .i64 s, .int .i64 q, .int .i64 lo, .int .i64 hi] 33)
      have zm : wr.heap.size < (wr.alloc (.cells #[.int .i64 sq, .int .i64 tk, .int .i64 n, .int .i64 s, .int .i64 q, .int .i64 lo, .int .i64 hi] 33)).heap.size := row_lt K
      generalize (wr.alloc (.cells #[.int .i64 sq, .int .i64 tk, .int .i64 n, .int .i64 s, .int .i64 q, .int .i64 lo, .int .i64 hi] 33)) = w3 at K o zm ⊢
      generalize wr.heap.size = mb at K z0 zm ⊢
      clear q0 q1 q2 q3 q4 q5 q6
      obtain ⟨K0, K1, K2, K3, K4, K5, K6, Kf0, Kf1, Kf2, Kf3, Kf4, Kf5, Kf6⟩ := row_seven K
      by_cases x0 : sq < 1
      · skip
        have E := Lib.hid (mvalid_bad (l := l) (seq := seq) (cap := cap) (now := now) (wd := wd) (least := least) (i := 0) (by rw [HL.out]; exact hlt) (fun a => absurd (AT.out.1 a).1.1 (by omega)))
        go_wp2_with fail
        go_ret
        exact ⟨ret_bool E.out.symm, o⟩
      · skip
        by_cases x1 : seq < sq
        · skip
          have E := Lib.hid (mvalid_bad (l := l) (seq := seq) (cap := cap) (now := now) (wd := wd) (least := least) (i := 0) (by rw [HL.out]; exact hlt) (fun a => absurd (AT.out.1 a).1.2.1 (by omega)))
          go_wp2_with fail
          go_ret
          exact ⟨ret_bool E.out.symm, o⟩
        · skip
          by_cases x2 : n ≠ seq - sq + 1
          · skip
            have wn1 : IntKind.i64.wrap (seq - sq) = seq - sq := IntWalk.i64_in _ (by omega)
            have wn2 : IntKind.i64.wrap (seq - sq + 1) = seq - sq + 1 := IntWalk.i64_in _ (by omega)
            have dn : (n != seq - sq + 1) = true := by simpa using x2
            have E := Lib.hid (mvalid_bad (l := l) (seq := seq) (cap := cap) (now := now) (wd := wd) (least := least) (i := 0) (by rw [HL.out]; exact hlt) (fun a => absurd (AT.out.1 a).1.2.2.1 (by omega)))
            go_wp2_with fail
            go_ret
            exact ⟨ret_bool E.out.symm, o⟩
          · skip
            by_cases x3 : cap < n
            · skip
              have wn1 : IntKind.i64.wrap (seq - sq) = seq - sq := IntWalk.i64_in _ (by omega)
              have wn2 : IntKind.i64.wrap (seq - sq + 1) = seq - sq + 1 := IntWalk.i64_in _ (by omega)
              have dn : (n != seq - sq + 1) = false := by simp; omega
              have E := Lib.hid (mvalid_bad (l := l) (seq := seq) (cap := cap) (now := now) (wd := wd) (least := least) (i := 0) (by rw [HL.out]; exact hlt) (fun a => absurd (AT.out.1 a).1.2.2.2.1 (by omega)))
              go_wp2_with fail
              go_ret
              exact ⟨ret_bool E.out.symm, o⟩
            · skip
              by_cases x4 : tk < 0
              · skip
                have wn1 : IntKind.i64.wrap (seq - sq) = seq - sq := IntWalk.i64_in _ (by omega)
                have wn2 : IntKind.i64.wrap (seq - sq + 1) = seq - sq + 1 := IntWalk.i64_in _ (by omega)
                have dn : (n != seq - sq + 1) = false := by simp; omega
                have E := Lib.hid (mvalid_bad (l := l) (seq := seq) (cap := cap) (now := now) (wd := wd) (least := least) (i := 0) (by rw [HL.out]; exact hlt) (fun a => absurd (AT.out.1 a).1.2.2.2.2.1 (by omega)))
                go_wp2_with fail
                go_ret
                exact ⟨ret_bool E.out.symm, o⟩
              · skip
                by_cases x5 : now < tk
                · skip
                  have wn1 : IntKind.i64.wrap (seq - sq) = seq - sq := IntWalk.i64_in _ (by omega)
                  have wn2 : IntKind.i64.wrap (seq - sq + 1) = seq - sq + 1 := IntWalk.i64_in _ (by omega)
                  have dn : (n != seq - sq + 1) = false := by simp; omega
                  have E := Lib.hid (mvalid_bad (l := l) (seq := seq) (cap := cap) (now := now) (wd := wd) (least := least) (i := 0) (by rw [HL.out]; exact hlt) (fun a => absurd (AT.out.1 a).1.2.2.2.2.2 (by omega)))
                  go_wp2_with fail
                  go_ret
                  exact ⟨ret_bool E.out.symm, o⟩
                · skip
                  have wn1 : IntKind.i64.wrap (seq - sq) = seq - sq := IntWalk.i64_in _ (by omega)
                  have wn2 : IntKind.i64.wrap (seq - sq + 1) = seq - sq + 1 := IntWalk.i64_in _ (by omega)
                  have dn : (n != seq - sq + 1) = false := by simp; omega
                  go_upto_region 8 with (fail)
                  have x2a : n + sq ≤ seq + 1 := by omega
                  have x2b : seq + 1 ≤ n + sq := by omega
                  clear dn wn1 wn2 x2
                  by_cases y0 : lo < least
                  · skip
                    have E := Lib.hid (mvalid_bad (l := l) (seq := seq) (cap := cap) (now := now) (wd := wd) (least := least) (i := 0) (by rw [HL.out]; exact hlt) (fun a => absurd (AT.out.1 a).2.1.1 (by omega)))
                    go_wp2_with fail
                    go_ret
                    exact ⟨ret_bool E.out.symm, o⟩
                  · skip
                    by_cases y1 : 4096 < hi
                    · skip
                      have E := Lib.hid (mvalid_bad (l := l) (seq := seq) (cap := cap) (now := now) (wd := wd) (least := least) (i := 0) (by rw [HL.out]; exact hlt) (fun a => absurd (AT.out.1 a).2.1.2.1 (by omega)))
                      go_wp2_with fail
                      go_ret
                      exact ⟨ret_bool E.out.symm, o⟩
                    · skip
                      by_cases y2 : hi < lo
                      · skip
                        have E := Lib.hid (mvalid_bad (l := l) (seq := seq) (cap := cap) (now := now) (wd := wd) (least := least) (i := 0) (by rw [HL.out]; exact hlt) (fun a => absurd (AT.out.1 a).2.1.2.2.1 (by omega)))
                        go_wp2_with fail
                        go_ret
                        exact ⟨ret_bool E.out.symm, o⟩
                      · skip
                        have PF := fun w => pfitsP n lo hi s q w (by omega) (by omega) (by omega) (by omega) (by omega) (by omega)
                        by_cases y3 : partP n lo hi s q
                        rotate_left
                        · rw [decide_eq_false y3] at PF
                          replace PF := Lib.hid PF
                          clear HA
                          have E := Lib.hid (mvalid_bad (l := l) (seq := seq) (cap := cap) (now := now) (wd := wd) (least := least) (i := 0) (by rw [HL.out]; exact hlt) (fun a => y3 (AT.out.1 a).2.1.2.2.2))
                          go_wp2_with (go_at_call 100; with_reducible refine (PF.out _).mono ?_; rintro e w9 ⟨rfl, h9⟩; obtain rfl := h9.symm)
                          go_ret
                          exact ⟨ret_bool E.out.symm, o⟩
                        rw [decide_eq_true y3] at PF
                        replace PF := Lib.hid PF
                        have Y3 := Lib.hid y3
                        clear y3
                        go_upto_region 10 with (go_at_call 100; with_reducible refine (PF.out _).mono ?_; rintro e w9 ⟨rfl, h9⟩; obtain rfl := h9.symm)
                        clear PF
                        have PL := fun w => plive now wd tk w n0 n1 d0 d1 (by omega) (by omega)
                        by_cases lv : now - wd < tk
                        rotate_left
                        · rw [decide_eq_false lv] at PL
                          replace PL := Lib.hid PL
                          clear HA
                          have E := Lib.hid (mvalid_bad (l := l) (seq := seq) (cap := cap) (now := now) (wd := wd) (least := least) (i := 0) (by rw [HL.out]; exact hlt) (fun a => lv ((AT.out.1 a).2.2.1 (.inr HL.out))))
                          go_wp2_with (go_at_call 77; with_reducible refine (PL.out _).mono ?_; rintro e w9 ⟨rfl, h9⟩; obtain rfl := h9.symm)
                          go_ret
                          exact ⟨ret_bool E.out.symm, o⟩
                        rw [decide_eq_true lv] at PL
                        replace PL := Lib.hid PL
                        have LV := Lib.hid lv
                        clear lv
                        go_upto_region 12 with (go_at_call 77; with_reducible refine (PL.out _).mono ?_; rintro e w9 ⟨rfl, h9⟩; obtain rfl := h9.symm)
                        clear PL
                        have HA2 : RowKit.Hid (∀ e, e < 0 + 1 → atP l seq cap now wd least e) := Lib.hid (fun e he => by
                          rcases Nat.lt_or_ge e 0 with g | g
                          · exact HA.out e g
                          · rw [show e = 0 by omega]
                            exact (AT.out.2 ⟨⟨by omega, by omega, by omega, by omega, by omega, by omega⟩, ⟨by omega, by omega, by omega, Y3.out⟩, (fun _ => LV.out), (fun h => absurd h (by omega))⟩))
                        go_wp2
                        go_roundw
                        case rel => exact ⟨0 + 1, by omega, by go_num, HA2, o⟩
                        case measure => simp [intOf]
    · have i1 : ¬ (j : Int) < 1 := by omega
      obtain rfl : j = 1 := by omega
      have m0 : (1 : Nat) ≠ 0 := by decide
      obtain ⟨ad, rfl, hadb, ht0⟩ := HR.out.reads.mk (i := 0) (by omega)
      have hOP := HA.out 0 (by omega)
      have ht0 : MkCells w ad (mkAt l 0) := ht0
      generalize hM : mkAt l 0 = mj at ht0
      obtain ⟨sq, tk, n, s, q, lo, hi⟩ := mj
      obtain ⟨⟨b1, b2, b3, b4, b5, b6⟩, ⟨b7, b8, b9, ⟨f1, f2, f3, f4, f5⟩⟩, _⟩ := (at_flat hM).1 hOP
      obtain ⟨q0, q1, q2, q3, q4, q5, q6⟩ := ht0.below o hadb
      have bm1 := mul_small (n := n) (x := lo) (by omega) (by omega) (by omega) (by omega)
      have bm2 := mul_small (n := n) (x := hi) (by omega) (by omega) (by omega) (by omega)
      have bss := sq_bound (s := s) (B := 268435456) (by omega) (by omega)
      have wss : IntKind.i64.wrap (s * s) = s * s := IntWalk.i64_in _ (by omega)
      have LS : RowKit.Hid (mvalid l seq cap now wd least ↔ sq = seq ∧ lo = s ∧ hi = s ∧ q = s * s) := Lib.hid (by
        have e1 : l.length - 1 = 0 := by rw [HL.out]
        have e2 : l.length ≠ 0 := by rw [HL.out]; exact m0
        constructor
        · intro a
          have := a.2.2.2 e2
          rw [e1, hM] at this
          exact this
        · intro a
          refine ⟨s0, s1, fun i hi => HA.out i (by rw [HL.out] at hi; exact hi), fun _ => ?_⟩
          rw [e1, hM]
          exact a)
      dsimp only at q0 q1 q2 q3 q4 q5 q6
      clear hM ht0 hOP HA f1 f2 f3 f4 f5 bm1 bm2 bss b1 b2 b3 b4 b5 b6 b7 b8 b9
      go_upto_region 20 with (fail)
      have K : Row (wr.alloc (.cells #[.int .i64 sq, .int .i64 tk, .int .i64 n, .int .i64 s, .int .i64 q, .int .i64 lo, .int .i64 hi] 33)) wr.heap.size 33 #[.int .i64 sq, .int .i64 tk, .int .i64 n, .int .i64 s, .int .i64 q, .int .i64 lo, .int .i64 hi] := row_new rfl
      have z0 := o.size
      replace o := o.alloc o.size (.cells #[.int .i64 sq, .int .i64 tk, .int .i64 n, .int .i64 s, .int .i64 q, .int .i64 lo, .int .i64 hi] 33)
      generalize (wr.alloc (.cells #[.int .i64 sq, .int .i64 tk, .int .i64 n, .int .i64 s, .int .i64 q, .int .i64 lo, .int .i64 hi] 33)) = w3 at K o ⊢
      generalize wr.heap.size = mb at K z0 ⊢
      clear q0 q1 q2 q3 q4 q5 q6
      obtain ⟨K0, K1, K2, K3, K4, K5, K6, Kf0, Kf1, Kf2, Kf3, Kf4, Kf5, Kf6⟩ := row_seven K
      by_cases x0 : sq = seq
      rotate_left
      · have u0 : (sq == seq) = false := by simpa using x0
        have E := Lib.hid (show decide (mvalid l seq cap now wd least) = false from decide_eq_false (fun a => x0 (LS.out.1 a).1))
        clear x0
        go_wp2
        go_ret
        exact ⟨ret_bool E.out.symm, o⟩
      have u0 : (sq == seq) = true := by simpa using x0
      have X0 := Lib.hid x0
      clear x0
      by_cases x1 : lo = s
      rotate_left
      · have u1 : (lo == s) = false := by simpa using x1
        have E := Lib.hid (show decide (mvalid l seq cap now wd least) = false from decide_eq_false (fun a => x1 (LS.out.1 a).2.1))
        clear x1
        go_wp2
        go_ret
        exact ⟨ret_bool E.out.symm, o⟩
      have u1 : (lo == s) = true := by simpa using x1
      have X1 := Lib.hid x1
      clear x1
      by_cases x2 : hi = s
      rotate_left
      · have u2 : (hi == s) = false := by simpa using x2
        have E := Lib.hid (show decide (mvalid l seq cap now wd least) = false from decide_eq_false (fun a => x2 (LS.out.1 a).2.2.1))
        clear x2
        go_wp2
        go_ret
        exact ⟨ret_bool E.out.symm, o⟩
      have u2 : (hi == s) = true := by simpa using x2
      have X2 := Lib.hid x2
      clear x2
      by_cases x3 : q = s * s
      rotate_left
      · have u3 : (q == s * s) = false := by simpa using x3
        have E := Lib.hid (show decide (mvalid l seq cap now wd least) = false from decide_eq_false (fun a => x3 (LS.out.1 a).2.2.2))
        clear x3
        go_wp2
        go_ret
        exact ⟨ret_bool E.out.symm, o⟩
      have u3 : (q == s * s) = true := by simpa using x3
      have X3 := Lib.hid x3
      clear x3
      have E := Lib.hid (show decide (mvalid l seq cap now wd least) = true from decide_eq_true (LS.out.2 ⟨X0.out, X1.out, X2.out, X3.out⟩))
      go_wp2
      go_ret
      exact ⟨ret_bool E.out.symm, o⟩
set_option maxRecDepth 100000 in
set_option maxHeartbeats 8000000 in
theorem pmvalid_main (A : Option Addr) (m c : Nat) (l : List Mk) (seq cap now wd least : Int) (w : World) (hin : MIn A m c l w) (sB : I64 seq) (c0 : 1 ≤ cap) (c1 : cap ≤ 65536) (n0 : 0 ≤ now) (n1 : now ≤ 16777216) (d0 : 1 ≤ wd) (d1 : wd ≤ 1048576) (e0 : -4096 ≤ least) (s0 : 0 ≤ seq) (s1 : seq ≤ 1099511627776) (m1 : m ≠ 1) : Calls Try.prog 66 #[.slice A m c, .int .i64 seq, .int .i64 cap, .int .i64 now, .int .i64 wd, .int .i64 least] w fun e w' => e = .returned (.bool (decide (mvalid l seq cap now wd least))) ∧ Below w.heap.size w w' := by
  have M1 := Lib.hid m1
  clear m1
  have HR := Lib.hid hin
  have HL := Lib.hid hin.len
  have mB := hin.max
  have t0 : ¬ seq < 0 := by omega
  have t1 : ¬ 1099511627776 < seq := by omega
  clear hin sB
  go_enter Try.func66, Try.ntmps66
  go_wp2
  clear t0 t1
  go_loopw [25] (fun i wr => ∃ j : Nat, j ≤ m ∧ i = .int .i64 (j : Nat) ∧ RowKit.Hid (∀ e, e < j → atP l seq cap now wd least e) ∧ Below w.heap.size w wr) (fun i _ => m - (intOf i).toNat)
  case atStart => exact ⟨0, by omega, rfl, Lib.hid (fun e h => absurd h (by omega)), Below.refl _ _⟩
  case round =>
    obtain ⟨j, hj, rfl, HA, o⟩ := hrel
    by_cases hlt : j < m
    · obtain ⟨ad, rfl, hadb, ht0⟩ := HR.out.reads.mk hlt
      have hB := HR.out.mB j
      generalize hM : mkAt l j = mj at ht0 hB
      obtain ⟨sq, tk, n, s, q, lo, hi⟩ := mj
      obtain ⟨q0, q1, q2, q3, q4, q5, q6⟩ := ht0.below o (by rw [block_of_add]; exact hadb)
      have AT := Lib.hid (at_flat (seq := seq) (cap := cap) (now := now) (wd := wd) (least := least) hM)
      have HM := Lib.hid hM
      obtain ⟨hB0, hB1, hB2, hB3, hB4, hB5, hB6⟩ := hB
      unfold I64 at hB0 hB1 hB2 hB3 hB4 hB5 hB6
      have i1 : (j : Int) < (m : Int) := by omega
      have i2 : (0 : Int) ≤ (j : Int) := by omega
      dsimp only at q0 q1 q2 q3 q4 q5 q6 hB0 hB1 hB2 hB3 hB4 hB5 hB6
      clear hM ht0
      go_upto_region 6 with (fail)
      have K : Row (wr.alloc (.cells #[.int .i64 sq, .int .i64 tk, .int .i64 n, .int .i64 s, .int .i64 q, .int .i64 lo, .int .i64 hi] 33)) wr.heap.size 33 #[.int .i64 sq, .int .i64 tk, .int .i64 n, .int .i64 s, .int .i64 q, .int .i64 lo, .int .i64 hi] := row_new rfl
      have z0 := o.size
      replace o := o.alloc o.size (.cells #[.int .i64 sq, .int .i64 tk, .int .i64 n, .int .i64 s, .int .i64 q, .int .i64 lo, .int .i64 hi] 33)
      have zm : wr.heap.size < (wr.alloc (.cells #[.int .i64 sq, .int .i64 tk, .int .i64 n, .int .i64 s, .int .i64 q, .int .i64 lo, .int .i64 hi] 33)).heap.size := row_lt K
      generalize (wr.alloc (.cells #[.int .i64 sq, .int .i64 tk, .int .i64 n, .int .i64 s, .int .i64 q, .int .i64 lo, .int .i64 hi] 33)) = w3 at K o zm ⊢
      generalize wr.heap.size = mb at K z0 zm ⊢
      clear q0 q1 q2 q3 q4 q5 q6
      obtain ⟨K0, K1, K2, K3, K4, K5, K6, Kf0, Kf1, Kf2, Kf3, Kf4, Kf5, Kf6⟩ := row_seven K
      by_cases x0 : sq < 1
      · skip
        have E := Lib.hid (mvalid_bad (l := l) (seq := seq) (cap := cap) (now := now) (wd := wd) (least := least) (i := j) (by rw [HL.out]; exact hlt) (fun a => absurd (AT.out.1 a).1.1 (by omega)))
        go_wp2_with fail
        go_ret
        exact ⟨ret_bool E.out.symm, o⟩
      · skip
        by_cases x1 : seq < sq
        · skip
          have E := Lib.hid (mvalid_bad (l := l) (seq := seq) (cap := cap) (now := now) (wd := wd) (least := least) (i := j) (by rw [HL.out]; exact hlt) (fun a => absurd (AT.out.1 a).1.2.1 (by omega)))
          go_wp2_with fail
          go_ret
          exact ⟨ret_bool E.out.symm, o⟩
        · skip
          by_cases x2 : n ≠ seq - sq + 1
          · skip
            have wn1 : IntKind.i64.wrap (seq - sq) = seq - sq := IntWalk.i64_in _ (by omega)
            have wn2 : IntKind.i64.wrap (seq - sq + 1) = seq - sq + 1 := IntWalk.i64_in _ (by omega)
            have dn : (n != seq - sq + 1) = true := by simpa using x2
            have E := Lib.hid (mvalid_bad (l := l) (seq := seq) (cap := cap) (now := now) (wd := wd) (least := least) (i := j) (by rw [HL.out]; exact hlt) (fun a => absurd (AT.out.1 a).1.2.2.1 (by omega)))
            go_wp2_with fail
            go_ret
            exact ⟨ret_bool E.out.symm, o⟩
          · skip
            by_cases x3 : cap < n
            · skip
              have wn1 : IntKind.i64.wrap (seq - sq) = seq - sq := IntWalk.i64_in _ (by omega)
              have wn2 : IntKind.i64.wrap (seq - sq + 1) = seq - sq + 1 := IntWalk.i64_in _ (by omega)
              have dn : (n != seq - sq + 1) = false := by simp; omega
              have E := Lib.hid (mvalid_bad (l := l) (seq := seq) (cap := cap) (now := now) (wd := wd) (least := least) (i := j) (by rw [HL.out]; exact hlt) (fun a => absurd (AT.out.1 a).1.2.2.2.1 (by omega)))
              go_wp2_with fail
              go_ret
              exact ⟨ret_bool E.out.symm, o⟩
            · skip
              by_cases x4 : tk < 0
              · skip
                have wn1 : IntKind.i64.wrap (seq - sq) = seq - sq := IntWalk.i64_in _ (by omega)
                have wn2 : IntKind.i64.wrap (seq - sq + 1) = seq - sq + 1 := IntWalk.i64_in _ (by omega)
                have dn : (n != seq - sq + 1) = false := by simp; omega
                have E := Lib.hid (mvalid_bad (l := l) (seq := seq) (cap := cap) (now := now) (wd := wd) (least := least) (i := j) (by rw [HL.out]; exact hlt) (fun a => absurd (AT.out.1 a).1.2.2.2.2.1 (by omega)))
                go_wp2_with fail
                go_ret
                exact ⟨ret_bool E.out.symm, o⟩
              · skip
                by_cases x5 : now < tk
                · skip
                  have wn1 : IntKind.i64.wrap (seq - sq) = seq - sq := IntWalk.i64_in _ (by omega)
                  have wn2 : IntKind.i64.wrap (seq - sq + 1) = seq - sq + 1 := IntWalk.i64_in _ (by omega)
                  have dn : (n != seq - sq + 1) = false := by simp; omega
                  have E := Lib.hid (mvalid_bad (l := l) (seq := seq) (cap := cap) (now := now) (wd := wd) (least := least) (i := j) (by rw [HL.out]; exact hlt) (fun a => absurd (AT.out.1 a).1.2.2.2.2.2 (by omega)))
                  go_wp2_with fail
                  go_ret
                  exact ⟨ret_bool E.out.symm, o⟩
                · skip
                  have wn1 : IntKind.i64.wrap (seq - sq) = seq - sq := IntWalk.i64_in _ (by omega)
                  have wn2 : IntKind.i64.wrap (seq - sq + 1) = seq - sq + 1 := IntWalk.i64_in _ (by omega)
                  have dn : (n != seq - sq + 1) = false := by simp; omega
                  go_upto_region 8 with (fail)
                  have x2a : n + sq ≤ seq + 1 := by omega
                  have x2b : seq + 1 ≤ n + sq := by omega
                  clear dn wn1 wn2 x2
                  by_cases y0 : lo < least
                  · skip
                    have E := Lib.hid (mvalid_bad (l := l) (seq := seq) (cap := cap) (now := now) (wd := wd) (least := least) (i := j) (by rw [HL.out]; exact hlt) (fun a => absurd (AT.out.1 a).2.1.1 (by omega)))
                    go_wp2_with fail
                    go_ret
                    exact ⟨ret_bool E.out.symm, o⟩
                  · skip
                    by_cases y1 : 4096 < hi
                    · skip
                      have E := Lib.hid (mvalid_bad (l := l) (seq := seq) (cap := cap) (now := now) (wd := wd) (least := least) (i := j) (by rw [HL.out]; exact hlt) (fun a => absurd (AT.out.1 a).2.1.2.1 (by omega)))
                      go_wp2_with fail
                      go_ret
                      exact ⟨ret_bool E.out.symm, o⟩
                    · skip
                      by_cases y2 : hi < lo
                      · skip
                        have E := Lib.hid (mvalid_bad (l := l) (seq := seq) (cap := cap) (now := now) (wd := wd) (least := least) (i := j) (by rw [HL.out]; exact hlt) (fun a => absurd (AT.out.1 a).2.1.2.2.1 (by omega)))
                        go_wp2_with fail
                        go_ret
                        exact ⟨ret_bool E.out.symm, o⟩
                      · skip
                        have PF := fun w => pfitsP n lo hi s q w (by omega) (by omega) (by omega) (by omega) (by omega) (by omega)
                        by_cases y3 : partP n lo hi s q
                        rotate_left
                        · rw [decide_eq_false y3] at PF
                          replace PF := Lib.hid PF
                          clear HA
                          have E := Lib.hid (mvalid_bad (l := l) (seq := seq) (cap := cap) (now := now) (wd := wd) (least := least) (i := j) (by rw [HL.out]; exact hlt) (fun a => y3 (AT.out.1 a).2.1.2.2.2))
                          go_wp2_with (go_at_call 100; with_reducible refine (PF.out _).mono ?_; rintro e w9 ⟨rfl, h9⟩; obtain rfl := h9.symm)
                          go_ret
                          exact ⟨ret_bool E.out.symm, o⟩
                        rw [decide_eq_true y3] at PF
                        replace PF := Lib.hid PF
                        have Y3 := Lib.hid y3
                        clear y3
                        go_upto_region 10 with (go_at_call 100; with_reducible refine (PF.out _).mono ?_; rintro e w9 ⟨rfl, h9⟩; obtain rfl := h9.symm)
                        clear PF
                        have PL := fun w => plive now wd tk w n0 n1 d0 d1 (by omega) (by omega)
                        by_cases j0 : j = 0
                        · skip
                          subst j0
                          by_cases m1 : m = 1
                          · skip
                            exact absurd m1 M1.out
                          · skip
                            have m1b : ((m : Int) == 1) = false := by simp; omega
                            clear PL
                            go_upto_region 12 with (fail)
                            have HA2 : RowKit.Hid (∀ e, e < 0 + 1 → atP l seq cap now wd least e) := Lib.hid (fun e he => by
                              rcases Nat.lt_or_ge e 0 with g | g
                              · exact HA.out e g
                              · rw [show e = 0 by omega]
                                exact (AT.out.2 ⟨⟨by omega, by omega, by omega, by omega, by omega, by omega⟩, ⟨by omega, by omega, by omega, Y3.out⟩, (fun h => absurd h (by rw [HL.out]; omega)), (fun h => absurd h (by omega))⟩))
                            go_wp2
                            go_roundw
                            case rel => exact ⟨0 + 1, by omega, by go_num, HA2, o⟩
                            case measure => simp [intOf]; omega
                        · skip
                          have jp : (0 : Int) < (j : Int) := by omega
                          have jb : ((j : Int) == 0) = false := by simp; omega
                          by_cases lv : now - wd < tk
                          rotate_left
                          · rw [decide_eq_false lv] at PL
                            replace PL := Lib.hid PL
                            clear HA
                            have E := Lib.hid (mvalid_bad (l := l) (seq := seq) (cap := cap) (now := now) (wd := wd) (least := least) (i := j) (by rw [HL.out]; exact hlt) (fun a => lv ((AT.out.1 a).2.2.1 (.inl (by omega)))))
                            go_wp2_with (go_at_call 77; with_reducible refine (PL.out _).mono ?_; rintro e w9 ⟨rfl, h9⟩; obtain rfl := h9.symm)
                            go_ret
                            exact ⟨ret_bool E.out.symm, o⟩
                          rw [decide_eq_true lv] at PL
                          replace PL := Lib.hid PL
                          have LV := Lib.hid lv
                          clear lv
                          go_upto_region 12 with (go_at_call 77; with_reducible refine (PL.out _).mono ?_; rintro e w9 ⟨rfl, h9⟩; obtain rfl := h9.symm)
                          clear PL
                          obtain ⟨p, hp⟩ : ∃ p : Nat, j = p + 1 := ⟨j - 1, by omega⟩
                          have HP := Lib.hid hp
                          obtain ⟨ad', ea, _, ht1⟩ := HR.out.reads.mk (i := p) (by omega)
                          obtain rfl : ad = ad' := by injection ea
                          have hOP := HA.out p (by omega)
                          generalize hO : mkAt l p = mo at ht1
                          obtain ⟨osq, otk, on, os, oq, olo, ohi⟩ := mo
                          obtain ⟨⟨b1, b2, b3, b4, b5, b6⟩, ⟨b7, b8, b9, B10⟩, _⟩ := (at_flat hO).1 hOP
                          obtain ⟨q0, q1, q2, q3, q4, q5, q6⟩ := ht1.below o (by rw [block_of_add]; exact hadb)
                          have hp1 : mkAt l (j - 1) = ⟨osq, otk, on, os, oq, olo, ohi⟩ := by rw [hp]; exact hO
                          have hp2 : mkAt l j = ⟨sq, tk, n, s, q, lo, hi⟩ := HM.out
                          have TW : RowKit.Hid (twoP (mkAt l (j - 1)) (mkAt l j) ↔ osq < sq ∧ otk ≤ tk ∧ olo ≤ lo ∧ hi ≤ ohi ∧ partP (on - n) olo ohi (os - s) (oq - q)) := Lib.hid (by rw [hp1, hp2]; exact two_flat)
                          dsimp only at q0 q1 q2 q3 q4 q5 q6
                          have wj : IntKind.i64.wrap ((j : Int) - 1) = (p : Int) := by rw [IntWalk.i64_in _ (by omega)]; omega
                          have p1 : (p : Int) < (m : Int) := by omega
                          have p0 : (0 : Int) ≤ (p : Int) := by omega
                          have b3a : on + osq ≤ seq + 1 := by omega
                          have b3b : seq + 1 ≤ on + osq := by omega
                          obtain ⟨f1, f2, f3, f4, f5⟩ := B10
                          obtain ⟨g1, g2, g3, g4, g5⟩ := Y3.out
                          have bo1 := mul_small (n := on) (x := olo) (by omega) (by omega) (by omega) (by omega)
                          have bo2 := mul_small (n := on) (x := ohi) (by omega) (by omega) (by omega) (by omega)
                          have bm1 := mul_small (n := n) (x := lo) (by omega) (by omega) (by omega) (by omega)
                          have bm2 := mul_small (n := n) (x := hi) (by omega) (by omega) (by omega) (by omega)
                          have wd1 : IntKind.i64.wrap (on - n) = on - n := IntWalk.i64_in _ (by omega)
                          have wd2 : IntKind.i64.wrap (os - s) = os - s := IntWalk.i64_in _ (by omega)
                          have wd3 : IntKind.i64.wrap (oq - q) = oq - q := IntWalk.i64_in _ (by omega)
                          clear hO ht1 ea hp1 hp2 f1 f2 f3 f4 f5 g1 g2 g3 g4 g5 bo1 bo2 bm1 bm2 hp hOP b3
                          go_upto_region 14 with (fail)
                          have O : Row (w3.alloc (.cells #[.int .i64 osq, .int .i64 otk, .int .i64 on, .int .i64 os, .int .i64 oq, .int .i64 olo, .int .i64 ohi] 33)) w3.heap.size 33 #[.int .i64 osq, .int .i64 otk, .int .i64 on, .int .i64 os, .int .i64 oq, .int .i64 olo, .int .i64 ohi] := row_new rfl
                          replace K := row_alloc K (.cells #[.int .i64 osq, .int .i64 otk, .int .i64 on, .int .i64 os, .int .i64 oq, .int .i64 olo, .int .i64 ohi] 33)
                          have z1 := o.size
                          replace o := o.alloc o.size (.cells #[.int .i64 osq, .int .i64 otk, .int .i64 on, .int .i64 os, .int .i64 oq, .int .i64 olo, .int .i64 ohi] 33)
                          generalize (w3.alloc (.cells #[.int .i64 osq, .int .i64 otk, .int .i64 on, .int .i64 os, .int .i64 oq, .int .i64 olo, .int .i64 ohi] 33)) = w4 at O K o ⊢
                          generalize w3.heap.size = ob at O z1 ⊢
                          clear q0 q1 q2 q3 q4 q5 q6 K0 K1 K2 K3 K4 K5 K6 Kf0 Kf1 Kf2 Kf3 Kf4 Kf5 Kf6
                          obtain ⟨K0, K1, K2, K3, K4, K5, K6, Kf0, Kf1, Kf2, Kf3, Kf4, Kf5, Kf6⟩ := row_seven K
                          obtain ⟨O0, O1, O2, O3, O4, O5, O6, Of0, Of1, Of2, Of3, Of4, Of5, Of6⟩ := row_seven O
                          by_cases v0 : sq ≤ osq
                          · skip
                            have E := Lib.hid (mvalid_bad (l := l) (seq := seq) (cap := cap) (now := now) (wd := wd) (least := least) (i := j) (by rw [HL.out]; exact hlt) (fun a => absurd (TW.out.1 ((AT.out.1 a).2.2.2 (by omega))).1 (by omega)))
                            go_wp2_with fail
                            go_ret
                            exact ⟨ret_bool E.out.symm, o⟩
                          · skip
                            by_cases v1 : tk < otk
                            · skip
                              have E := Lib.hid (mvalid_bad (l := l) (seq := seq) (cap := cap) (now := now) (wd := wd) (least := least) (i := j) (by rw [HL.out]; exact hlt) (fun a => absurd (TW.out.1 ((AT.out.1 a).2.2.2 (by omega))).2.1 (by omega)))
                              go_wp2_with fail
                              go_ret
                              exact ⟨ret_bool E.out.symm, o⟩
                            · skip
                              by_cases v2 : lo < olo
                              · skip
                                have E := Lib.hid (mvalid_bad (l := l) (seq := seq) (cap := cap) (now := now) (wd := wd) (least := least) (i := j) (by rw [HL.out]; exact hlt) (fun a => absurd (TW.out.1 ((AT.out.1 a).2.2.2 (by omega))).2.2.1 (by omega)))
                                go_wp2_with fail
                                go_ret
                                exact ⟨ret_bool E.out.symm, o⟩
                              · skip
                                by_cases v3 : ohi < hi
                                · skip
                                  have E := Lib.hid (mvalid_bad (l := l) (seq := seq) (cap := cap) (now := now) (wd := wd) (least := least) (i := j) (by rw [HL.out]; exact hlt) (fun a => absurd (TW.out.1 ((AT.out.1 a).2.2.2 (by omega))).2.2.2.1 (by omega)))
                                  go_wp2_with fail
                                  go_ret
                                  exact ⟨ret_bool E.out.symm, o⟩
                                · skip
                                  have PF := fun w => pfitsP (on - n) olo ohi (os - s) (oq - q) w (by omega) (by omega) (by omega) (by omega) (by omega) (by omega)
                                  by_cases v4 : partP (on - n) olo ohi (os - s) (oq - q)
                                  rotate_left
                                  · rw [decide_eq_false v4] at PF
                                    replace PF := Lib.hid PF
                                    clear HA
                                    have E := Lib.hid (mvalid_bad (l := l) (seq := seq) (cap := cap) (now := now) (wd := wd) (least := least) (i := j) (by rw [HL.out]; exact hlt) (fun a => v4 (TW.out.1 ((AT.out.1 a).2.2.2 (by omega))).2.2.2.2))
                                    go_wp2_with (go_at_call 100; with_reducible refine (PF.out _).mono ?_; rintro e w9 ⟨rfl, h9⟩; obtain rfl := h9.symm)
                                    go_ret
                                    exact ⟨ret_bool E.out.symm, o⟩
                                  rw [decide_eq_true v4] at PF
                                  replace PF := Lib.hid PF
                                  have V4 := Lib.hid v4
                                  clear v4
                                  go_upto_region 16 with (go_at_call 100; with_reducible refine (PF.out _).mono ?_; rintro e w9 ⟨rfl, h9⟩; obtain rfl := h9.symm)
                                  clear PF
                                  have HA2 : RowKit.Hid (∀ e, e < j + 1 → atP l seq cap now wd least e) := Lib.hid (fun e he => by
                                    rcases Nat.lt_or_ge e j with g | g
                                    · exact HA.out e g
                                    · rw [show e = j by omega]
                                      exact (AT.out.2 ⟨⟨by omega, by omega, by omega, by omega, by omega, by omega⟩, ⟨by omega, by omega, by omega, Y3.out⟩, (fun _ => LV.out), (fun _ => TW.out.2 ⟨by omega, by omega, by omega, by omega, V4.out⟩)⟩))
                                  go_wp2
                                  go_roundw
                                  case rel => exact ⟨j + 1, by omega, by go_num, HA2, o⟩
                                  case measure => simp [intOf]; omega
    · have i1 : ¬ (j : Int) < (m : Int) := by omega
      obtain rfl : j = m := by omega
      by_cases m0 : j = 0
      · have m0b : ((j : Int) == 0) = true := by simp; omega
        have E := Lib.hid (show decide (mvalid l seq cap now wd least) = true from decide_eq_true ⟨s0, s1, fun i hi => HA.out i (by rw [HL.out] at hi; exact hi), fun h => absurd (HL.out.trans m0) h⟩)
        clear HA
        go_wp2
        go_ret
        exact ⟨ret_bool E.out.symm, o⟩
      · have m0b : ((j : Int) == 0) = false := by simp; omega
        obtain ⟨p, hp⟩ : ∃ p : Nat, j = p + 1 := ⟨j - 1, by omega⟩
        obtain ⟨ad, rfl, hadb, ht0⟩ := HR.out.reads.mk (i := p) (by omega)
        have hOP := HA.out p (by omega)
        generalize hM : mkAt l p = mj at ht0
        obtain ⟨sq, tk, n, s, q, lo, hi⟩ := mj
        obtain ⟨⟨b1, b2, b3, b4, b5, b6⟩, ⟨b7, b8, b9, ⟨f1, f2, f3, f4, f5⟩⟩, _⟩ := (at_flat hM).1 hOP
        obtain ⟨q0, q1, q2, q3, q4, q5, q6⟩ := ht0.below o (by rw [block_of_add]; exact hadb)
        have bm1 := mul_small (n := n) (x := lo) (by omega) (by omega) (by omega) (by omega)
        have bm2 := mul_small (n := n) (x := hi) (by omega) (by omega) (by omega) (by omega)
        have bss := sq_bound (s := s) (B := 268435456) (by omega) (by omega)
        have wss : IntKind.i64.wrap (s * s) = s * s := IntWalk.i64_in _ (by omega)
        have LS : RowKit.Hid (mvalid l seq cap now wd least ↔ sq = seq ∧ lo = s ∧ hi = s ∧ q = s * s) := Lib.hid (by
          have e1 : l.length - 1 = p := by rw [HL.out, hp]; rfl
          have e2 : l.length ≠ 0 := by rw [HL.out]; exact m0
          constructor
          · intro a
            have := a.2.2.2 e2
            rw [e1, hM] at this
            exact this
          · intro a
            refine ⟨s0, s1, fun i hi => HA.out i (by rw [HL.out] at hi; exact hi), fun _ => ?_⟩
            rw [e1, hM]
            exact a)
        have wj : IntKind.i64.wrap ((j : Int) - 1) = (p : Int) := by rw [IntWalk.i64_in _ (by omega)]; omega
        have p1 : (p : Int) < (j : Int) := by omega
        have p0 : (0 : Int) ≤ (p : Int) := by omega
        dsimp only at q0 q1 q2 q3 q4 q5 q6
        clear hM ht0 hOP HA hp f1 f2 f3 f4 f5 bm1 bm2 bss b1 b2 b3 b4 b5 b6 b7 b8 b9
        go_upto_region 20 with (fail)
        have K : Row (wr.alloc (.cells #[.int .i64 sq, .int .i64 tk, .int .i64 n, .int .i64 s, .int .i64 q, .int .i64 lo, .int .i64 hi] 33)) wr.heap.size 33 #[.int .i64 sq, .int .i64 tk, .int .i64 n, .int .i64 s, .int .i64 q, .int .i64 lo, .int .i64 hi] := row_new rfl
        have z0 := o.size
        replace o := o.alloc o.size (.cells #[.int .i64 sq, .int .i64 tk, .int .i64 n, .int .i64 s, .int .i64 q, .int .i64 lo, .int .i64 hi] 33)
        generalize (wr.alloc (.cells #[.int .i64 sq, .int .i64 tk, .int .i64 n, .int .i64 s, .int .i64 q, .int .i64 lo, .int .i64 hi] 33)) = w3 at K o ⊢
        generalize wr.heap.size = mb at K z0 ⊢
        clear q0 q1 q2 q3 q4 q5 q6
        obtain ⟨K0, K1, K2, K3, K4, K5, K6, Kf0, Kf1, Kf2, Kf3, Kf4, Kf5, Kf6⟩ := row_seven K
        by_cases x0 : sq = seq
        rotate_left
        · have u0 : (sq == seq) = false := by simpa using x0
          have E := Lib.hid (show decide (mvalid l seq cap now wd least) = false from decide_eq_false (fun a => x0 (LS.out.1 a).1))
          clear x0
          go_wp2
          go_ret
          exact ⟨ret_bool E.out.symm, o⟩
        have u0 : (sq == seq) = true := by simpa using x0
        have X0 := Lib.hid x0
        clear x0
        by_cases x1 : lo = s
        rotate_left
        · have u1 : (lo == s) = false := by simpa using x1
          have E := Lib.hid (show decide (mvalid l seq cap now wd least) = false from decide_eq_false (fun a => x1 (LS.out.1 a).2.1))
          clear x1
          go_wp2
          go_ret
          exact ⟨ret_bool E.out.symm, o⟩
        have u1 : (lo == s) = true := by simpa using x1
        have X1 := Lib.hid x1
        clear x1
        by_cases x2 : hi = s
        rotate_left
        · have u2 : (hi == s) = false := by simpa using x2
          have E := Lib.hid (show decide (mvalid l seq cap now wd least) = false from decide_eq_false (fun a => x2 (LS.out.1 a).2.2.1))
          clear x2
          go_wp2
          go_ret
          exact ⟨ret_bool E.out.symm, o⟩
        have u2 : (hi == s) = true := by simpa using x2
        have X2 := Lib.hid x2
        clear x2
        by_cases x3 : q = s * s
        rotate_left
        · have u3 : (q == s * s) = false := by simpa using x3
          have E := Lib.hid (show decide (mvalid l seq cap now wd least) = false from decide_eq_false (fun a => x3 (LS.out.1 a).2.2.2))
          clear x3
          go_wp2
          go_ret
          exact ⟨ret_bool E.out.symm, o⟩
        have u3 : (q == s * s) = true := by simpa using x3
        have X3 := Lib.hid x3
        clear x3
        have E := Lib.hid (show decide (mvalid l seq cap now wd least) = true from decide_eq_true (LS.out.2 ⟨X0.out, X1.out, X2.out, X3.out⟩))
        go_wp2
        go_ret
        exact ⟨ret_bool E.out.symm, o⟩
theorem pmvalid (A : Option Addr) (m c : Nat) (l : List Mk) (seq cap now wd least : Int) (w : World) (hin : MIn A m c l w) (sB : I64 seq) (c0 : 1 ≤ cap) (c1 : cap ≤ 65536) (n0 : 0 ≤ now) (n1 : now ≤ 16777216) (d0 : 1 ≤ wd) (d1 : wd ≤ 1048576) (e0 : -4096 ≤ least) : Calls Try.prog 66 #[.slice A m c, .int .i64 seq, .int .i64 cap, .int .i64 now, .int .i64 wd, .int .i64 least] w fun e w' => e = .returned (.bool (decide (mvalid l seq cap now wd least))) ∧ Below w.heap.size w w' := by
  by_cases h : seq < 0
  · exact pmvalid_a A m c l seq cap now wd least w h
  · by_cases h1 : 1099511627776 < seq
    · exact pmvalid_b A m c l seq cap now wd least w (by omega) h1
    · by_cases m1 : m = 1
      · subst m1
        exact pmvalid_one A c l seq cap now wd least w hin sB c0 c1 n0 n1 d0 d1 e0 (by omega) (by omega)
      · exact pmvalid_main A m c l seq cap now wd least w hin sB c0 c1 n0 n1 d0 d1 e0 (by omega) (by omega) m1
end Go.Proofs.Ytaiepjcnncajcaa
end
section
/- A region in the order of its text, whose operations only read and whose callees only read, walked once by the quiet walk. -/
set_option linter.unusedVariables false
set_option linter.unusedSimpArgs false
set_option linter.unusedSectionVars false
set_option linter.unnecessarySimpa false
namespace Go.Proofs.Ytaiepjcnncajcaa
open Go
theorem wpList_of_quiet {P : Program} {ops : Array Oper} {C : World → Prop} {Q : Act → Prop} {Q' : Exit → Act → World → Prop} (hQ : ∀ a w, C w → Q a → Q' .normal a w) : ∀ (l : List Oper) (a : Act) (w : World), C w → wpQuiet P ops C Q l a → wpList P ops Q' l a w
  | [], _, _, hw, h => hQ _ _ hw h
  | o :: rest, a, w, hw, h => by
    unfold wpQuiet at h
    unfold wpList
    split
    · rename_i hg
      rw [if_pos hg] at h
      exact .inl (Oper.wp_of_quiet hw (fun a' w' hw' h' => wpList_of_quiet hQ rest a' w' hw' h') h)
    · rename_i hg
      rw [if_neg hg] at h
      exact wpList_of_quiet hQ rest _ w hw h
theorem wp_region_quietF {P : Program} {id : Nat} {Q : Exit → Act → World → Prop} {a : Act} {w : World} {l : List Oper} (h : wpQuiet P l.toArray (fun w' => ∃ n, w' = w.drewN n) (fun a' => ∀ w', (∃ n, w' = w.drewN n) → Q .normal a' w') l a) : (Code.region id l.toArray false).wp P Q a w :=
  wp_region_lit (wpList_of_quiet (C := fun w' => ∃ n, w' = w.drewN n) (fun _ w' hw h => h w' hw) l a w ⟨0, rfl⟩ h)
end Go.Proofs.Ytaiepjcnncajcaa
end
