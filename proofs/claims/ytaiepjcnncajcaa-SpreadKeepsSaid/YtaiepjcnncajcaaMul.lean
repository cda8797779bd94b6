/- The product of two wide numbers, walked: the program. -/
import Derived.Test.YtaiepjcnncajcaaWalkC
import Derived.Test.YtaiepjcnncajcaaMathMul
import Derived.Test.YtaiepjcnncajcaaDivS
import Derived.Test.YtaiepjcnncajcaaFree
import Derived.Lib.Hide
import Derived.Deep.Cut
set_option linter.unusedVariables false
set_option linter.unusedSimpArgs false
set_option linter.unusedSectionVars false
set_option linter.unnecessarySimpa false
namespace Go.Proofs.Ytaiepjcnncajcaa
open Go.RowKit Go.Shelf
theorem pprod_ll (x y : Nat) (w : World) : Calls Try.prog 50 #[.int .u64 (lo x), .int .u64 (lo y)] w fun e w' => e = .returned (W (mlow x y)) ∧ Below w.heap.size w w' := by
  have h := pproduct (lo x) (lo y) (lo_word x) (lo_word y) w
  rw [lo_toNat, lo_toNat] at h
  exact h
theorem pprod_lh (x y : Nat) (hy : y < big) (w : World) : Calls Try.prog 50 #[.int .u64 (lo x), .int .u64 (hi y)] w fun e w' => e = .returned (W (mhigh x y)) ∧ Below w.heap.size w w' := by
  have h := pproduct (lo x) (hi y) (lo_word x) (hi_word hy) w
  rw [lo_toNat, hi_toNat] at h
  exact h
/-- The last sum of a product. -/
theorem padd_high (x y : Nat) (hx : hi x = 0) (hy : y < big) (hh : hi (mhigh x y) = 0) (w : World) :
    Calls Try.prog 90 #[W (mlow x y), .agg #[.int .u64 (lo (mhigh x y)), .int .u64 0]] w fun e w' => e = .returned (.tuple #[W (mulV x y), .bool (mulB x y)]) ∧ Below w.heap.size w w' := by
  obtain ⟨e1, e2⟩ := high_shift hh
  have hs := mul_split (y := y) hx
  have hl := high_lt hh
  rw [← e1, ← e2]
  by_cases h : x * y < big
  · obtain ⟨v, b⟩ := mulV_yes h
    rw [v, b, hs]
    exact padd_fits _ _ (mlow_lt x y) hl (by rw [← hs]; exact h) w
  · obtain ⟨v, b⟩ := mulV_no h
    rw [v, b]
    exact padd_over _ _ (mlow_lt x y) hl (by rw [← hs]; exact h) w
set_option maxHeartbeats 4000000 in
theorem pmul (a b : Nat) (ha : a < big) (hb : b < big) (w : World) :
    Calls Try.prog 49 #[W a, W b] w fun e w' => e = .returned (.tuple #[W (mulV a b), .bool (mulB a b)]) ∧ Below w.heap.size w w' := by
  by_cases hxa : hi a = 0
  · have t1 : (hi a != 0) = false := by simp [hxa]
    have HX := Lib.hid hxa
    clear hxa
    go_enter Try.func49, Try.ntmps49
    go_upto_region 5 with (fail)
    have hxa := HX.out
    have L : Row (((w.alloc (.cells (Wc a) 72)).alloc (.cells (Wc b) 72)).alloc (.cells #[.int .u64 0, .int .u64 0] 72)) (w.heap.size) 72 (Wc a) ∧ Row (((w.alloc (.cells (Wc a) 72)).alloc (.cells (Wc b) 72)).alloc (.cells #[.int .u64 0, .int .u64 0] 72)) (w.heap.size + 1) 72 (Wc b) ∧ Row (((w.alloc (.cells (Wc a) 72)).alloc (.cells (Wc b) 72)).alloc (.cells #[.int .u64 0, .int .u64 0] 72)) (w.heap.size + 1 + 1) 72 #[.int .u64 0, .int .u64 0] ∧ Below w.heap.size w (((w.alloc (.cells (Wc a) 72)).alloc (.cells (Wc b) 72)).alloc (.cells #[.int .u64 0, .int .u64 0] 72)) := by
      refine ⟨?_, ?_, ?_, ?_⟩
      · (repeat (first | assumption | (refine row_new ?_; (first | (simp; done) | omega)) | refine row_alloc ?_ _ | refine row_drew ?_ | refine row_call ?_ (by assumption)))
      · (repeat (first | assumption | (refine row_new ?_; (first | (simp; done) | omega)) | refine row_alloc ?_ _ | refine row_drew ?_ | refine row_call ?_ (by assumption)))
      · (repeat (first | assumption | (refine row_new ?_; (first | (simp; done) | omega)) | refine row_alloc ?_ _ | refine row_drew ?_ | refine row_call ?_ (by assumption)))
      · (repeat (first | exact Below.refl _ _ | refine Below.setCell ?_ (by first | (simp; done) | (simp; omega) | omega) _ | refine Below.alloc ?_ (by first | (simp; done) | (simp; omega) | omega) _ | refine Below.drew ?_ | refine Below.trans ?_ (Below.mono (by assumption) (by first | (simp; done) | (simp; omega) | omega))))
    generalize (((w.alloc (.cells (Wc a) 72)).alloc (.cells (Wc b) 72)).alloc (.cells #[.int .u64 0, .int .u64 0] 72)) = w2 at L ⊢
    have hw2 := row_lt L.2.2.1
    have HX := Lib.hid hxa
    refine wp_region_free2 [0, 1, 2, 3, 4, 5, 6, 7, 8, 9] [] [0, 1, 2, 3, 4, 5, 6, 7, 8, 9, 10, 11] (10, 72, #[.int .u64 0, .int .u64 0]) (11, 72, #[.int .u64 0, .int .u64 0]) 6 7 12 (fun w' => Row w' (w.heap.size) 72 (Wc a) ∧ Row w' (w.heap.size + 1) 72 (Wc b) ∧ Row w' (w.heap.size + 1 + 1) 72 #[.int .u64 0, .int .u64 0] ∧ Below w.heap.size w w') (by kernel_rfl) (by kernel_rfl) ⟨_, _, rfl, rfl, rfl, fun ρ w' => by go_simp⟩ ⟨_, _, rfl, rfl, rfl, fun ρ w' => by go_simp⟩ rfl rfl (by simp) (by simp) (fun _ h => ⟨row_alloc h.1 _, row_alloc h.2.1 _, row_alloc h.2.2.1 _, h.2.2.2.alloc h.2.2.2.size _⟩) (fun _ h => ⟨row_alloc h.1 _, row_alloc h.2.1 _, row_alloc h.2.2.1 _, h.2.2.2.alloc h.2.2.2.size _⟩) (fun _ _ d _ _ h => by cases d <;> exact h) ?_ ?_
    · exact ⟨L.1, L.2.1, L.2.2.1, L.2.2.2.drew⟩
    (refine plan_pure ?_ rfl rfl (fun w' => ?_) ?_; rotate_left; (go_simp; try with_reducible rfl); simp only [Act.put, List.setIfInBounds_toArray, List.set_cons_zero, List.set_cons_succ])
    (refine plan_val ?_ rfl rfl rfl (fun w' hS => ?_) ?_; rotate_left; (obtain ⟨A00, A01, A02, A03⟩ := row_two hS.1; obtain ⟨A10, A11, A12, A13⟩ := row_two hS.2.1; obtain ⟨A20, A21, A22, A23⟩ := row_two hS.2.2.1; go_simp; try with_reducible rfl); simp only [Act.put, List.setIfInBounds_toArray, List.set_cons_zero, List.set_cons_succ])
    (refine plan_pure ?_ rfl rfl (fun w' => ?_) ?_; rotate_left; (go_simp; try with_reducible rfl); simp only [Act.put, List.setIfInBounds_toArray, List.set_cons_zero, List.set_cons_succ])
    (refine plan_val ?_ rfl rfl rfl (fun w' hS => ?_) ?_; rotate_left; (obtain ⟨A00, A01, A02, A03⟩ := row_two hS.1; obtain ⟨A10, A11, A12, A13⟩ := row_two hS.2.1; obtain ⟨A20, A21, A22, A23⟩ := row_two hS.2.2.1; go_simp; try with_reducible rfl); simp only [Act.put, List.setIfInBounds_toArray, List.set_cons_zero, List.set_cons_succ])
    refine plan_call (W (mlow a b)) 50 #[.int .u64 (lo a), .int .u64 (lo b)] rfl rfl rfl (fun _ _ h hb => ⟨row_call h.1 hb, row_call h.2.1 hb, row_call h.2.2.1 hb, h.2.2.2.trans (hb.mono h.2.2.2.size)⟩) (fun w' hS => by obtain ⟨A00, A01, A02, A03⟩ := row_two hS.1; obtain ⟨A10, A11, A12, A13⟩ := row_two hS.2.1; obtain ⟨A20, A21, A22, A23⟩ := row_two hS.2.2.1; go_simp) (fun w' hS => pprod_ll a b w') ?_
    simp only [Act.put, List.setIfInBounds_toArray, List.set_cons_zero, List.set_cons_succ]
    (refine plan_pure ?_ rfl rfl (fun w' => ?_) ?_; rotate_left; (go_simp; try with_reducible rfl); simp only [Act.put, List.setIfInBounds_toArray, List.set_cons_zero, List.set_cons_succ])
    (refine plan_val ?_ rfl rfl rfl (fun w' hS => ?_) ?_; rotate_left; (obtain ⟨A00, A01, A02, A03⟩ := row_two hS.1; obtain ⟨A10, A11, A12, A13⟩ := row_two hS.2.1; obtain ⟨A20, A21, A22, A23⟩ := row_two hS.2.2.1; go_simp; try with_reducible rfl); simp only [Act.put, List.setIfInBounds_toArray, List.set_cons_zero, List.set_cons_succ])
    (refine plan_pure ?_ rfl rfl (fun w' => ?_) ?_; rotate_left; (go_simp; try with_reducible rfl); simp only [Act.put, List.setIfInBounds_toArray, List.set_cons_zero, List.set_cons_succ])
    (refine plan_val ?_ rfl rfl rfl (fun w' hS => ?_) ?_; rotate_left; (obtain ⟨A00, A01, A02, A03⟩ := row_two hS.1; obtain ⟨A10, A11, A12, A13⟩ := row_two hS.2.1; obtain ⟨A20, A21, A22, A23⟩ := row_two hS.2.2.1; go_simp; try with_reducible rfl); simp only [Act.put, List.setIfInBounds_toArray, List.set_cons_zero, List.set_cons_succ])
    refine plan_call (W (mhigh a b)) 50 #[.int .u64 (lo a), .int .u64 (hi b)] rfl rfl rfl (fun _ _ h hb => ⟨row_call h.1 hb, row_call h.2.1 hb, row_call h.2.2.1 hb, h.2.2.2.trans (hb.mono h.2.2.2.size)⟩) (fun w' hS => by obtain ⟨A00, A01, A02, A03⟩ := row_two hS.1; obtain ⟨A10, A11, A12, A13⟩ := row_two hS.2.1; obtain ⟨A20, A21, A22, A23⟩ := row_two hS.2.2.1; go_simp) (fun w' hS => pprod_lh a b hb w') ?_
    simp only [Act.put, List.setIfInBounds_toArray, List.set_cons_zero, List.set_cons_succ]
    refine plan_nil ?_
    intro g k w3 L3 Rg Rk hgk hg hk
    simp only [List.drop_succ_cons, List.drop_zero]
    try simp only [Act.put, List.setIfInBounds_toArray, List.set_cons_zero, List.set_cons_succ]
    obtain ⟨G0, G1, G2, G3⟩ := row_two Rg
    obtain ⟨K0, K1, K2, K3⟩ := row_two Rk
    go_upto_region 6 with (fail)
    have Rg5 := row_two_other (u := .int .u64 (hi (mhigh a b))) (v := .int .u64 (lo (mhigh a b))) (row_two_set (u := .int .u64 (hi (mlow a b))) (v := .int .u64 (lo (mlow a b))) Rg) hgk
    have Rk5 := row_two_set (u := .int .u64 (hi (mhigh a b))) (v := .int .u64 (lo (mhigh a b))) (row_two_other (u := .int .u64 (hi (mlow a b))) (v := .int .u64 (lo (mlow a b))) Rk (Ne.symm hgk))
    have R45 := row_two_other (c := k) (u := .int .u64 (hi (mhigh a b))) (v := .int .u64 (lo (mhigh a b))) (row_two_other (c := g) (u := .int .u64 (hi (mlow a b))) (v := .int .u64 (lo (mlow a b))) L3.2.2.1 (by omega)) (by omega)
    have B5 := (((L3.2.2.2.setCell (p := ⟨g, 0, none⟩) (show w.heap.size ≤ g by omega) (.int .u64 (hi (mlow a b)))).setCell (p := ⟨g, 1, none⟩) (show w.heap.size ≤ g by omega) (.int .u64 (lo (mlow a b)))).setCell (p := ⟨k, 0, none⟩) (show w.heap.size ≤ k by omega) (.int .u64 (hi (mhigh a b)))).setCell (p := ⟨k, 1, none⟩) (show w.heap.size ≤ k by omega) (.int .u64 (lo (mhigh a b)))
    generalize (((w3.setCell ⟨g, 0, none⟩ (.int .u64 (hi (mlow a b)))).setCell ⟨g, 1, none⟩ (.int .u64 (lo (mlow a b)))).setCell ⟨k, 0, none⟩ (.int .u64 (hi (mhigh a b)))).setCell ⟨k, 1, none⟩ (.int .u64 (lo (mhigh a b))) = w5 at Rg5 Rk5 R45 B5 ⊢
    clear L L3 Rg Rk G0 G1 G2 G3 K0 K1 K2 K3
    obtain ⟨G0, G1, G2, G3⟩ := row_two Rg5
    obtain ⟨K0, K1, K2, K3⟩ := row_two Rk5
    obtain ⟨Z0, Z1, Z2, Z3⟩ := row_two R45
    have z5 := B5.size
    by_cases hh : hi (mhigh a b) = 0
    · have HA := Lib.hid (fun w' => padd_high a b hxa hb hh w')
      have tst : (hi (mhigh a b) != 0) = false := by simp [hh]
      clear hh
      go_wp2_with (go_at_call 90; refine (HA.out _).mono ?_; rintro e w6 ⟨rfl, hb6⟩; have j4 := row_call R45 hb6; obtain ⟨Y0, Y1, Y2, Y3⟩ := row_two j4; have z6 := hb6.size)
      simp [bodyPost, results, Try.results49, go_sem, Y0, Y1]
      (repeat (first | exact Below.refl _ _ | refine Below.setCell ?_ (by first | (simp; done) | (simp; omega) | omega) _ | refine Below.alloc ?_ (by first | (simp; done) | (simp; omega) | omega) _ | refine Below.drew ?_ | refine Below.trans ?_ (Below.mono (by assumption) (by first | (simp; done) | (simp; omega) | omega))))
    · obtain ⟨v1, v2⟩ := mulV_no (mul_high hxa hh)
      have HV := Lib.hid (And.intro v1 v2)
      have tst : (hi (mhigh a b) != 0) = true := by simp [hh]
      clear v1 v2 hh
      go_wp2
      simp [bodyPost, results, Try.results49, go_sem, Z0, Z1, HV.out.1, HV.out.2]
      first | (refine ⟨⟨rfl, rfl⟩, ?_⟩; (repeat (first | exact Below.refl _ _ | refine Below.setCell ?_ (by first | (simp; done) | (simp; omega) | omega) _ | refine Below.alloc ?_ (by first | (simp; done) | (simp; omega) | omega) _ | refine Below.drew ?_ | refine Below.trans ?_ (Below.mono (by assumption) (by first | (simp; done) | (simp; omega) | omega))))) | (repeat (first | exact Below.refl _ _ | refine Below.setCell ?_ (by first | (simp; done) | (simp; omega) | omega) _ | refine Below.alloc ?_ (by first | (simp; done) | (simp; omega) | omega) _ | refine Below.drew ?_ | refine Below.trans ?_ (Below.mono (by assumption) (by first | (simp; done) | (simp; omega) | omega))))
  · by_cases hxb : hi b = 0
    · have t1 : (hi a != 0) = true := by simp [hxa]
      have t2 : (hi b != 0) = false := by simp [hxb]
      have HX := Lib.hid hxb
      clear hxb hxa
      obtain ⟨c1, c2⟩ := mul_comm' a b
      rw [c1, c2]
      clear c1 c2
      go_enter Try.func49, Try.ntmps49
      go_upto_region 5 with (fail)
      have hxb := HX.out
      have L : Row (((w.alloc (.cells (Wc b) 72)).alloc (.cells (Wc a) 72)).alloc (.cells #[.int .u64 0, .int .u64 0] 72)) (w.heap.size) 72 (Wc b) ∧ Row (((w.alloc (.cells (Wc b) 72)).alloc (.cells (Wc a) 72)).alloc (.cells #[.int .u64 0, .int .u64 0] 72)) (w.heap.size + 1) 72 (Wc a) ∧ Row (((w.alloc (.cells (Wc b) 72)).alloc (.cells (Wc a) 72)).alloc (.cells #[.int .u64 0, .int .u64 0] 72)) (w.heap.size + 1 + 1) 72 #[.int .u64 0, .int .u64 0] ∧ Below w.heap.size w (((w.alloc (.cells (Wc b) 72)).alloc (.cells (Wc a) 72)).alloc (.cells #[.int .u64 0, .int .u64 0] 72)) := by
        refine ⟨?_, ?_, ?_, ?_⟩
        · (repeat (first | assumption | (refine row_new ?_; (first | (simp; done) | omega)) | refine row_alloc ?_ _ | refine row_drew ?_ | refine row_call ?_ (by assumption)))
        · (repeat (first | assumption | (refine row_new ?_; (first | (simp; done) | omega)) | refine row_alloc ?_ _ | refine row_drew ?_ | refine row_call ?_ (by assumption)))
        · (repeat (first | assumption | (refine row_new ?_; (first | (simp; done) | omega)) | refine row_alloc ?_ _ | refine row_drew ?_ | refine row_call ?_ (by assumption)))
        · (repeat (first | exact Below.refl _ _ | refine Below.setCell ?_ (by first | (simp; done) | (simp; omega) | omega) _ | refine Below.alloc ?_ (by first | (simp; done) | (simp; omega) | omega) _ | refine Below.drew ?_ | refine Below.trans ?_ (Below.mono (by assumption) (by first | (simp; done) | (simp; omega) | omega))))
      generalize (((w.alloc (.cells (Wc b) 72)).alloc (.cells (Wc a) 72)).alloc (.cells #[.int .u64 0, .int .u64 0] 72)) = w2 at L ⊢
      have hw2 := row_lt L.2.2.1
      have HX := Lib.hid hxb
      refine wp_region_free2 [0, 1, 2, 3, 4, 5, 6, 7, 8, 9] [] [0, 1, 2, 3, 4, 5, 6, 7, 8, 9, 10, 11] (10, 72, #[.int .u64 0, .int .u64 0]) (11, 72, #[.int .u64 0, .int .u64 0]) 6 7 12 (fun w' => Row w' (w.heap.size) 72 (Wc b) ∧ Row w' (w.heap.size + 1) 72 (Wc a) ∧ Row w' (w.heap.size + 1 + 1) 72 #[.int .u64 0, .int .u64 0] ∧ Below w.heap.size w w') (by kernel_rfl) (by kernel_rfl) ⟨_, _, rfl, rfl, rfl, fun ρ w' => by go_simp⟩ ⟨_, _, rfl, rfl, rfl, fun ρ w' => by go_simp⟩ rfl rfl (by simp) (by simp) (fun _ h => ⟨row_alloc h.1 _, row_alloc h.2.1 _, row_alloc h.2.2.1 _, h.2.2.2.alloc h.2.2.2.size _⟩) (fun _ h => ⟨row_alloc h.1 _, row_alloc h.2.1 _, row_alloc h.2.2.1 _, h.2.2.2.alloc h.2.2.2.size _⟩) (fun _ _ d _ _ h => by cases d <;> exact h) ?_ ?_
      · exact ⟨L.1, L.2.1, L.2.2.1, L.2.2.2.drew⟩
      (refine plan_pure ?_ rfl rfl (fun w' => ?_) ?_; rotate_left; (go_simp; try with_reducible rfl); simp only [Act.put, List.setIfInBounds_toArray, List.set_cons_zero, List.set_cons_succ])
      (refine plan_val ?_ rfl rfl rfl (fun w' hS => ?_) ?_; rotate_left; (obtain ⟨A00, A01, A02, A03⟩ := row_two hS.1; obtain ⟨A10, A11, A12, A13⟩ := row_two hS.2.1; obtain ⟨A20, A21, A22, A23⟩ := row_two hS.2.2.1; go_simp; try with_reducible rfl); simp only [Act.put, List.setIfInBounds_toArray, List.set_cons_zero, List.set_cons_succ])
      (refine plan_pure ?_ rfl rfl (fun w' => ?_) ?_; rotate_left; (go_simp; try with_reducible rfl); simp only [Act.put, List.setIfInBounds_toArray, List.set_cons_zero, List.set_cons_succ])
      (refine plan_val ?_ rfl rfl rfl (fun w' hS => ?_) ?_; rotate_left; (obtain ⟨A00, A01, A02, A03⟩ := row_two hS.1; obtain ⟨A10, A11, A12, A13⟩ := row_two hS.2.1; obtain ⟨A20, A21, A22, A23⟩ := row_two hS.2.2.1; go_simp; try with_reducible rfl); simp only [Act.put, List.setIfInBounds_toArray, List.set_cons_zero, List.set_cons_succ])
      refine plan_call (W (mlow b a)) 50 #[.int .u64 (lo b), .int .u64 (lo a)] rfl rfl rfl (fun _ _ h hb => ⟨row_call h.1 hb, row_call h.2.1 hb, row_call h.2.2.1 hb, h.2.2.2.trans (hb.mono h.2.2.2.size)⟩) (fun w' hS => by obtain ⟨A00, A01, A02, A03⟩ := row_two hS.1; obtain ⟨A10, A11, A12, A13⟩ := row_two hS.2.1; obtain ⟨A20, A21, A22, A23⟩ := row_two hS.2.2.1; go_simp) (fun w' hS => pprod_ll b a w') ?_
      simp only [Act.put, List.setIfInBounds_toArray, List.set_cons_zero, List.set_cons_succ]
      (refine plan_pure ?_ rfl rfl (fun w' => ?_) ?_; rotate_left; (go_simp; try with_reducible rfl); simp only [Act.put, List.setIfInBounds_toArray, List.set_cons_zero, List.set_cons_succ])
      (refine plan_val ?_ rfl rfl rfl (fun w' hS => ?_) ?_; rotate_left; (obtain ⟨A00, A01, A02, A03⟩ := row_two hS.1; obtain ⟨A10, A11, A12, A13⟩ := row_two hS.2.1; obtain ⟨A20, A21, A22, A23⟩ := row_two hS.2.2.1; go_simp; try with_reducible rfl); simp only [Act.put, List.setIfInBounds_toArray, List.set_cons_zero, List.set_cons_succ])
      (refine plan_pure ?_ rfl rfl (fun w' => ?_) ?_; rotate_left; (go_simp; try with_reducible rfl); simp only [Act.put, List.setIfInBounds_toArray, List.set_cons_zero, List.set_cons_succ])
      (refine plan_val ?_ rfl rfl rfl (fun w' hS => ?_) ?_; rotate_left; (obtain ⟨A00, A01, A02, A03⟩ := row_two hS.1; obtain ⟨A10, A11, A12, A13⟩ := row_two hS.2.1; obtain ⟨A20, A21, A22, A23⟩ := row_two hS.2.2.1; go_simp; try with_reducible rfl); simp only [Act.put, List.setIfInBounds_toArray, List.set_cons_zero, List.set_cons_succ])
      refine plan_call (W (mhigh b a)) 50 #[.int .u64 (lo b), .int .u64 (hi a)] rfl rfl rfl (fun _ _ h hb => ⟨row_call h.1 hb, row_call h.2.1 hb, row_call h.2.2.1 hb, h.2.2.2.trans (hb.mono h.2.2.2.size)⟩) (fun w' hS => by obtain ⟨A00, A01, A02, A03⟩ := row_two hS.1; obtain ⟨A10, A11, A12, A13⟩ := row_two hS.2.1; obtain ⟨A20, A21, A22, A23⟩ := row_two hS.2.2.1; go_simp) (fun w' hS => pprod_lh b a ha w') ?_
      simp only [Act.put, List.setIfInBounds_toArray, List.set_cons_zero, List.set_cons_succ]
      refine plan_nil ?_
      intro g k w3 L3 Rg Rk hgk hg hk
      simp only [List.drop_succ_cons, List.drop_zero]
      try simp only [Act.put, List.setIfInBounds_toArray, List.set_cons_zero, List.set_cons_succ]
      obtain ⟨G0, G1, G2, G3⟩ := row_two Rg
      obtain ⟨K0, K1, K2, K3⟩ := row_two Rk
      go_upto_region 6 with (fail)
      have Rg5 := row_two_other (u := .int .u64 (hi (mhigh b a))) (v := .int .u64 (lo (mhigh b a))) (row_two_set (u := .int .u64 (hi (mlow b a))) (v := .int .u64 (lo (mlow b a))) Rg) hgk
      have Rk5 := row_two_set (u := .int .u64 (hi (mhigh b a))) (v := .int .u64 (lo (mhigh b a))) (row_two_other (u := .int .u64 (hi (mlow b a))) (v := .int .u64 (lo (mlow b a))) Rk (Ne.symm hgk))
      have R45 := row_two_other (c := k) (u := .int .u64 (hi (mhigh b a))) (v := .int .u64 (lo (mhigh b a))) (row_two_other (c := g) (u := .int .u64 (hi (mlow b a))) (v := .int .u64 (lo (mlow b a))) L3.2.2.1 (by omega)) (by omega)
      have B5 := (((L3.2.2.2.setCell (p := ⟨g, 0, none⟩) (show w.heap.size ≤ g by omega) (.int .u64 (hi (mlow b a)))).setCell (p := ⟨g, 1, none⟩) (show w.heap.size ≤ g by omega) (.int .u64 (lo (mlow b a)))).setCell (p := ⟨k, 0, none⟩) (show w.heap.size ≤ k by omega) (.int .u64 (hi (mhigh b a)))).setCell (p := ⟨k, 1, none⟩) (show w.heap.size ≤ k by omega) (.int .u64 (lo (mhigh b a)))
      generalize (((w3.setCell ⟨g, 0, none⟩ (.int .u64 (hi (mlow b a)))).setCell ⟨g, 1, none⟩ (.int .u64 (lo (mlow b a)))).setCell ⟨k, 0, none⟩ (.int .u64 (hi (mhigh b a)))).setCell ⟨k, 1, none⟩ (.int .u64 (lo (mhigh b a))) = w5 at Rg5 Rk5 R45 B5 ⊢
      clear L L3 Rg Rk G0 G1 G2 G3 K0 K1 K2 K3
      obtain ⟨G0, G1, G2, G3⟩ := row_two Rg5
      obtain ⟨K0, K1, K2, K3⟩ := row_two Rk5
      obtain ⟨Z0, Z1, Z2, Z3⟩ := row_two R45
      have z5 := B5.size
      by_cases hh : hi (mhigh b a) = 0
      · have HA := Lib.hid (fun w' => padd_high b a hxb ha hh w')
        have tst : (hi (mhigh b a) != 0) = false := by simp [hh]
        clear hh
        go_wp2_with (go_at_call 90; refine (HA.out _).mono ?_; rintro e w6 ⟨rfl, hb6⟩; have j4 := row_call R45 hb6; obtain ⟨Y0, Y1, Y2, Y3⟩ := row_two j4; have z6 := hb6.size)
        simp [bodyPost, results, Try.results49, go_sem, Y0, Y1]
        (repeat (first | exact Below.refl _ _ | refine Below.setCell ?_ (by first | (simp; done) | (simp; omega) | omega) _ | refine Below.alloc ?_ (by first | (simp; done) | (simp; omega) | omega) _ | refine Below.drew ?_ | refine Below.trans ?_ (Below.mono (by assumption) (by first | (simp; done) | (simp; omega) | omega))))
      · obtain ⟨v1, v2⟩ := mulV_no (mul_high hxb hh)
        have HV := Lib.hid (And.intro v1 v2)
        have tst : (hi (mhigh b a) != 0) = true := by simp [hh]
        clear v1 v2 hh
        go_wp2
        simp [bodyPost, results, Try.results49, go_sem, Z0, Z1, HV.out.1, HV.out.2]
        first | (refine ⟨⟨rfl, rfl⟩, ?_⟩; (repeat (first | exact Below.refl _ _ | refine Below.setCell ?_ (by first | (simp; done) | (simp; omega) | omega) _ | refine Below.alloc ?_ (by first | (simp; done) | (simp; omega) | omega) _ | refine Below.drew ?_ | refine Below.trans ?_ (Below.mono (by assumption) (by first | (simp; done) | (simp; omega) | omega))))) | (repeat (first | exact Below.refl _ _ | refine Below.setCell ?_ (by first | (simp; done) | (simp; omega) | omega) _ | refine Below.alloc ?_ (by first | (simp; done) | (simp; omega) | omega) _ | refine Below.drew ?_ | refine Below.trans ?_ (Below.mono (by assumption) (by first | (simp; done) | (simp; omega) | omega))))
    · obtain ⟨v1, v2⟩ := mulV_no (mul_both hxa hxb)
      rw [v1, v2]
      have t1 : (hi a != 0) = true := by simp [hxa]
      have t2 : (hi b != 0) = true := by simp [hxb]
      clear v1 v2 hxa hxb
      go_enter Try.func49, Try.ntmps49
      go_wp2
      simp [bodyPost, results, Try.results49, go_sem]
      refine ⟨⟨rfl, rfl⟩, ?_⟩
      (repeat (first | exact Below.refl _ _ | refine Below.setCell ?_ (by first | (simp; done) | (simp; omega) | omega) _ | refine Below.alloc ?_ (by first | (simp; done) | (simp; omega) | omega) _ | refine Below.drew ?_ | refine Below.trans ?_ (Below.mono (by assumption) (by first | (simp; done) | (simp; omega) | omega))))
end Go.Proofs.Ytaiepjcnncajcaa
