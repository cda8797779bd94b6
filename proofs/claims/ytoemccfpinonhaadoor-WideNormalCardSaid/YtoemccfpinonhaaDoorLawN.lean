/- The law of odd parts, walked. -/
import Derived.Test.YtoemccfpinonhaaDoorTz
import Derived.IntWalk
namespace Go.Proofs.YtoemccfpinonhaaDoor
open Go.RowKit Go.Shelf
theorem run_eql_zeroS {b : Nat} (h : b ≠ 0) (w' : World) : (binOp .eql 24 (.agg #[.int .u64 (hi b), .int .u64 (lo b)]) (.agg #[.int .u64 0, .int .u64 0])).run Tryd.prog w' = .ok (.bool false) w' := by
  go_simp
  exact fun h1 h2 => h (hi_inj (b := 0) h1 h2)
theorem wideNormal_0 (w : World) (hT : TabAt w) (h0 : 0 < w.heap.size) : Calls Tryd.prog 4 #[W 0] w fun e w' => e = .returned (.bool true) ∧ Below w.heap.size w w' := by
  have ha : (0 : Nat) < big := by decide
  have e1 : tzI 0 = 0 := rfl
  have e2 : blenI 0 = 0 := by decide
  have PZ := fun w h k => pzeros 0 ha w h k
  have PB := fun w => pbits 0 ha w
  rw [e1] at PZ
  rw [e2] at PB
  have PZ := Lib.hid PZ
  have PB := Lib.hid PB
  have o1 : Below w.heap.size w (w.alloc (.cells (Wc 0) 24)) := by (repeat (first | exact Below.refl _ _ | refine Below.setCell ?_ (by first | (simp; done) | (simp; omega) | omega) _ | refine Below.alloc ?_ (by first | (simp; done) | (simp; omega) | omega) _ | refine Below.drew ?_ | refine Below.trans ?_ (Below.mono (by assumption) (by first | (simp; done) | (simp; omega) | omega))))
  have hT1 := hT.below o1 h0
  have h1 : 0 < (w.alloc (.cells (Wc 0) 24)).heap.size := by simp
  have T0 := hi_0
  have T1 := lo_0
  clear e1 e2 ha o1
  go_enter Tryd.func4, Tryd.ntmps4
  go_wp2_with (first | (go_at_call 11; refine (PZ.out _ hT1 h1).mono ?_; rintro e w1 ⟨rfl, hb1⟩; have hz1 := hb1.size; (try simp at hz1); have q1_0 : w.heap.size < w1.heap.size := (by omega); have r1_0 : Row w1 (w.heap.size) 24 (Wc 0) := row_call (by (repeat (first | assumption | (refine row_new ?_; (first | (simp; done) | omega)) | refine row_alloc ?_ _ | refine row_drew ?_ | refine row_call ?_ (by assumption)))) hb1; obtain ⟨c1_0a, c1_0b, f1_0a, f1_0b⟩ := row_two r1_0) | (go_at_call 9; refine (PB.out _).mono ?_; rintro e w2 ⟨rfl, hb2⟩; have hz2 := hb2.size; (try simp at hz2)) | (go_at_call 13; refine (awake_true _).mono ?_; rintro e w9 ⟨rfl, hb9⟩; have hz9 := hb9.size))
  go_ret
  refine ⟨rfl, ?_⟩
  (repeat (first | exact Below.refl _ _ | refine Below.setCell ?_ (by first | (simp; done) | (simp; omega) | omega) _ | refine Below.alloc ?_ (by first | (simp; done) | (simp; omega) | omega) _ | refine Below.drew ?_ | refine Below.trans ?_ (Below.mono (by assumption) (by first | (simp; done) | (simp; omega) | omega))))
set_option maxHeartbeats 4000000 in
theorem wideNormal_in (a o : Nat) (z l1 l2 : Int) (hz0 : a ≠ 0) (hm : (lo o).tmod 2 = 1) (hs : IntKind.i64.wrap (l2 - z) = l1)
    (PZ : RowKit.Hid (∀ w, TabAt w → 0 < w.heap.size → Calls Tryd.prog 11 #[W a] w fun e w' => e = .returned (.int .i64 z) ∧ Below w.heap.size w w')) (PR : RowKit.Hid (∀ w, Calls Tryd.prog 7 #[W a, .int .i64 z] w fun e w' => e = .returned (W o) ∧ Below w.heap.size w w')) (PL : RowKit.Hid (∀ w, Calls Tryd.prog 5 #[W o, .int .i64 z] w fun e w' => e = .returned (.tuple #[W a, .bool true]) ∧ Below w.heap.size w w'))
    (B1 : RowKit.Hid (∀ w, Calls Tryd.prog 9 #[W o] w fun e w' => e = .returned (.int .i64 l1) ∧ Below w.heap.size w w')) (B2 : RowKit.Hid (∀ w, Calls Tryd.prog 9 #[W a] w fun e w' => e = .returned (.int .i64 l2) ∧ Below w.heap.size w w')) (w : World) (hT : TabAt w) (h0 : 0 < w.heap.size) :
    Calls Tryd.prog 4 #[W a] w fun e w' => e = .returned (.bool true) ∧ Below w.heap.size w w' := by
  have HM := Lib.hid hm
  have HS := Lib.hid hs
  have hq := run_eql_zeroS hz0
  have o1 : Below w.heap.size w (w.alloc (.cells (Wc a) 24)) := by (repeat (first | exact Below.refl _ _ | refine Below.setCell ?_ (by first | (simp; done) | (simp; omega) | omega) _ | refine Below.alloc ?_ (by first | (simp; done) | (simp; omega) | omega) _ | refine Below.drew ?_ | refine Below.trans ?_ (Below.mono (by assumption) (by first | (simp; done) | (simp; omega) | omega))))
  have hT1 := hT.below o1 h0
  have h1 : 0 < (w.alloc (.cells (Wc a) 24)).heap.size := by simp
  clear hm hs o1 hz0
  go_enter Tryd.func4, Tryd.ntmps4
  go_upto_region 6 with (first | (go_at_call 11; refine (PZ.out _ hT1 h1).mono ?_; rintro e w1 ⟨rfl, hb1⟩; have hz1 := hb1.size; (try simp at hz1); have q1_0 : w.heap.size < w1.heap.size := (by omega); have r1_0 : Row w1 (w.heap.size) 24 (Wc a) := row_call (by (repeat (first | assumption | (refine row_new ?_; (first | (simp; done) | omega)) | refine row_alloc ?_ _ | refine row_drew ?_ | refine row_call ?_ (by assumption)))) hb1; obtain ⟨c1_0a, c1_0b, f1_0a, f1_0b⟩ := row_two r1_0) | (go_at_call 7; refine (PR.out _).mono ?_; rintro e w2 ⟨rfl, hb2⟩; have hz2 := hb2.size; (try simp at hz2); have q2_0 : w.heap.size < w2.heap.size := (by omega); have r2_0 : Row w2 (w.heap.size) 24 (Wc a) := row_call (by (repeat (first | assumption | (refine row_new ?_; (first | (simp; done) | omega)) | refine row_alloc ?_ _ | refine row_drew ?_ | refine row_call ?_ (by assumption)))) hb2; obtain ⟨c2_0a, c2_0b, f2_0a, f2_0b⟩ := row_two r2_0) | (go_at_call 5; refine (PL.out _).mono ?_; rintro e w3 ⟨rfl, hb3⟩; have hz3 := hb3.size; (try simp at hz3); have q3_0 : w.heap.size < w3.heap.size := (by omega); have r3_0 : Row w3 (w.heap.size) 24 (Wc a) := row_call (by (repeat (first | assumption | (refine row_new ?_; (first | (simp; done) | omega)) | refine row_alloc ?_ _ | refine row_drew ?_ | refine row_call ?_ (by assumption)))) hb3; obtain ⟨c3_0a, c3_0b, f3_0a, f3_0b⟩ := row_two r3_0; have q3_1 : w2.heap.size < w3.heap.size := (by omega); have r3_1 : Row w3 (w2.heap.size) 24 (Wc o) := row_call (by (repeat (first | assumption | (refine row_new ?_; (first | (simp; done) | omega)) | refine row_alloc ?_ _ | refine row_drew ?_ | refine row_call ?_ (by assumption)))) hb3; obtain ⟨c3_1a, c3_1b, f3_1a, f3_1b⟩ := row_two r3_1))
  have L : Row (w3.alloc (.cells (Wc a) 24)) (w.heap.size) 24 (Wc a) ∧ Row (w3.alloc (.cells (Wc a) 24)) (w2.heap.size) 24 (Wc o) ∧ Row (w3.alloc (.cells (Wc a) 24)) (w3.heap.size) 24 (Wc a) ∧ Below w.heap.size w (w3.alloc (.cells (Wc a) 24)) := by
    refine ⟨?_, ?_, ?_, ?_⟩
    · (repeat (first | assumption | (refine row_new ?_; (first | (simp; done) | omega)) | refine row_alloc ?_ _ | refine row_drew ?_ | refine row_call ?_ (by assumption)))
    · (repeat (first | assumption | (refine row_new ?_; (first | (simp; done) | omega)) | refine row_alloc ?_ _ | refine row_drew ?_ | refine row_call ?_ (by assumption)))
    · (repeat (first | assumption | (refine row_new ?_; (first | (simp; done) | omega)) | refine row_alloc ?_ _ | refine row_drew ?_ | refine row_call ?_ (by assumption)))
    · (repeat (first | exact Below.refl _ _ | refine Below.setCell ?_ (by first | (simp; done) | (simp; omega) | omega) _ | refine Below.alloc ?_ (by first | (simp; done) | (simp; omega) | omega) _ | refine Below.drew ?_ | refine Below.trans ?_ (Below.mono (by assumption) (by first | (simp; done) | (simp; omega) | omega))))
  generalize (w3.alloc (.cells (Wc a) 24)) = w4 at L ⊢
  clear hq
  have hm := HM.out
  have hs := HS.out
  refine wp_region_free0 [0, 1, 2, 3, 4, 5, 6, 7, 8, 9, 10, 11, 12, 13, 14, 15, 16, 17, 18, 19, 20, 21, 22, 23] [] [0, 1, 2, 3, 4, 5, 6, 7, 8, 9, 10, 11, 12, 13, 14, 15, 16, 17, 18, 19, 20, 21, 22, 23] 24 (fun w' => Row w' (w.heap.size) 24 (Wc a) ∧ Row w' (w2.heap.size) 24 (Wc o) ∧ Row w' (w3.heap.size) 24 (Wc a) ∧ Below w.heap.size w w') (by kernel_rfl) (by kernel_rfl) (fun _ _ d _ _ h => by cases d <;> exact h) ?_ ?_
  · exact ⟨L.1, L.2.1, L.2.2.1, L.2.2.2.drew⟩
  (refine plan_pure ?_ rfl rfl (fun w' => ?_) ?_; rotate_left; (go_simp; try with_reducible rfl); simp only [Act.put, List.setIfInBounds_toArray, List.set_cons_zero, List.set_cons_succ])
  (refine plan_pure ?_ rfl rfl (fun w' => ?_) ?_; rotate_left; (go_simp; try with_reducible rfl); simp only [Act.put, List.setIfInBounds_toArray, List.set_cons_zero, List.set_cons_succ])
  (refine plan_val ?_ rfl rfl rfl (fun w' hS => ?_) ?_; rotate_left; (obtain ⟨A00, A01, A02, A03⟩ := row_two hS.1; obtain ⟨A10, A11, A12, A13⟩ := row_two hS.2.1; obtain ⟨A20, A21, A22, A23⟩ := row_two hS.2.2.1; go_simp; try with_reducible rfl); simp only [Act.put, List.setIfInBounds_toArray, List.set_cons_zero, List.set_cons_succ])
  (refine plan_val ?_ rfl rfl rfl (fun w' hS => ?_) ?_; rotate_left; (obtain ⟨A00, A01, A02, A03⟩ := row_two hS.1; obtain ⟨A10, A11, A12, A13⟩ := row_two hS.2.1; obtain ⟨A20, A21, A22, A23⟩ := row_two hS.2.2.1; go_simp; try with_reducible rfl); simp only [Act.put, List.setIfInBounds_toArray, List.set_cons_zero, List.set_cons_succ])
  (refine plan_pure ?_ rfl rfl (fun w' => ?_) ?_; rotate_left; (go_simp; try with_reducible rfl); simp only [Act.put, List.setIfInBounds_toArray, List.set_cons_zero, List.set_cons_succ])
  (refine plan_pure ?_ rfl rfl (fun w' => ?_) ?_; rotate_left; (go_simp; try with_reducible rfl); simp only [Act.put, List.setIfInBounds_toArray, List.set_cons_zero, List.set_cons_succ])
  (refine plan_pure ?_ rfl rfl (fun w' => ?_) ?_; rotate_left; (go_simp; try with_reducible rfl); simp only [Act.put, List.setIfInBounds_toArray, List.set_cons_zero, List.set_cons_succ])
  (refine plan_pure ?_ rfl rfl (fun w' => ?_) ?_; rotate_left; (go_simp; try with_reducible rfl); simp only [Act.put, List.setIfInBounds_toArray, List.set_cons_zero, List.set_cons_succ])
  (refine plan_val ?_ rfl rfl rfl (fun w' hS => ?_) ?_; rotate_left; (obtain ⟨A00, A01, A02, A03⟩ := row_two hS.1; obtain ⟨A10, A11, A12, A13⟩ := row_two hS.2.1; obtain ⟨A20, A21, A22, A23⟩ := row_two hS.2.2.1; go_simp; try with_reducible rfl); simp only [Act.put, List.setIfInBounds_toArray, List.set_cons_zero, List.set_cons_succ])
  (refine plan_pure ?_ rfl rfl (fun w' => ?_) ?_; rotate_left; (go_simp; try with_reducible rfl); simp only [Act.put, List.setIfInBounds_toArray, List.set_cons_zero, List.set_cons_succ])
  (refine plan_pure ?_ rfl rfl (fun w' => ?_) ?_; rotate_left; (go_simp; try with_reducible rfl); simp only [Act.put, List.setIfInBounds_toArray, List.set_cons_zero, List.set_cons_succ])
  (refine plan_pure ?_ rfl rfl (fun w' => ?_) ?_; rotate_left; (go_simp; try with_reducible rfl); simp only [Act.put, List.setIfInBounds_toArray, List.set_cons_zero, List.set_cons_succ])
  (refine plan_pure ?_ rfl rfl (fun w' => ?_) ?_; rotate_left; (go_simp; try with_reducible rfl); simp only [Act.put, List.setIfInBounds_toArray, List.set_cons_zero, List.set_cons_succ])
  (refine plan_val ?_ rfl rfl rfl (fun w' hS => ?_) ?_; rotate_left; (obtain ⟨A00, A01, A02, A03⟩ := row_two hS.1; obtain ⟨A10, A11, A12, A13⟩ := row_two hS.2.1; obtain ⟨A20, A21, A22, A23⟩ := row_two hS.2.2.1; go_simp; try with_reducible rfl); simp only [Act.put, List.setIfInBounds_toArray, List.set_cons_zero, List.set_cons_succ])
  refine plan_call (.int .i64 l1) 9 #[W o] rfl rfl rfl (fun _ _ h hb => ⟨row_call h.1 hb, row_call h.2.1 hb, row_call h.2.2.1 hb, h.2.2.2.trans (hb.mono h.2.2.2.size)⟩) (fun w' hS => by obtain ⟨A00, A01, A02, A03⟩ := row_two hS.1; obtain ⟨A10, A11, A12, A13⟩ := row_two hS.2.1; obtain ⟨A20, A21, A22, A23⟩ := row_two hS.2.2.1; go_simp) (fun w' hS => B1.out w') ?_
  simp only [Act.put, List.setIfInBounds_toArray, List.set_cons_zero, List.set_cons_succ]
  (refine plan_val ?_ rfl rfl rfl (fun w' hS => ?_) ?_; rotate_left; (obtain ⟨A00, A01, A02, A03⟩ := row_two hS.1; obtain ⟨A10, A11, A12, A13⟩ := row_two hS.2.1; obtain ⟨A20, A21, A22, A23⟩ := row_two hS.2.2.1; go_simp; try with_reducible rfl); simp only [Act.put, List.setIfInBounds_toArray, List.set_cons_zero, List.set_cons_succ])
  refine plan_call (.int .i64 l2) 9 #[W a] rfl rfl rfl (fun _ _ h hb => ⟨row_call h.1 hb, row_call h.2.1 hb, row_call h.2.2.1 hb, h.2.2.2.trans (hb.mono h.2.2.2.size)⟩) (fun w' hS => by obtain ⟨A00, A01, A02, A03⟩ := row_two hS.1; obtain ⟨A10, A11, A12, A13⟩ := row_two hS.2.1; obtain ⟨A20, A21, A22, A23⟩ := row_two hS.2.2.1; go_simp) (fun w' hS => B2.out w') ?_
  simp only [Act.put, List.setIfInBounds_toArray, List.set_cons_zero, List.set_cons_succ]
  (refine plan_pure ?_ rfl rfl (fun w' => ?_) ?_; rotate_left; (go_simp; try with_reducible rfl); simp only [Act.put, List.setIfInBounds_toArray, List.set_cons_zero, List.set_cons_succ])
  (refine plan_pure ?_ rfl rfl (fun w' => ?_) ?_; rotate_left; (go_simp; try with_reducible rfl); simp only [Act.put, List.setIfInBounds_toArray, List.set_cons_zero, List.set_cons_succ])
  (refine plan_pure ?_ rfl rfl (fun w' => ?_) ?_; rotate_left; (go_simp; try with_reducible rfl); simp only [Act.put, List.setIfInBounds_toArray, List.set_cons_zero, List.set_cons_succ])
  (refine plan_pure ?_ rfl rfl (fun w' => ?_) ?_; rotate_left; (go_simp; try with_reducible rfl); simp only [Act.put, List.setIfInBounds_toArray, List.set_cons_zero, List.set_cons_succ])
  (refine plan_pure ?_ rfl rfl (fun w' => ?_) ?_; rotate_left; (go_simp; try with_reducible rfl); simp only [Act.put, List.setIfInBounds_toArray, List.set_cons_zero, List.set_cons_succ])
  refine plan_call (.bool true) 13 #[] rfl rfl rfl (fun _ _ h hb => ⟨row_call h.1 hb, row_call h.2.1 hb, row_call h.2.2.1 hb, h.2.2.2.trans (hb.mono h.2.2.2.size)⟩) (fun w' hS => by obtain ⟨A00, A01, A02, A03⟩ := row_two hS.1; obtain ⟨A10, A11, A12, A13⟩ := row_two hS.2.1; obtain ⟨A20, A21, A22, A23⟩ := row_two hS.2.2.1; go_simp) (fun w' hS => awake_true w') ?_
  simp only [Act.put, List.setIfInBounds_toArray, List.set_cons_zero, List.set_cons_succ]
  (refine plan_pure ?_ rfl rfl (fun w' => ?_) ?_; rotate_left; (go_simp; try with_reducible rfl); simp only [Act.put, List.setIfInBounds_toArray, List.set_cons_zero, List.set_cons_succ])
  refine plan_nil ?_
  intro w5 L5
  simp only [List.drop_succ_cons, List.drop_zero]
  try simp only [Act.put, List.setIfInBounds_toArray, List.set_cons_zero, List.set_cons_succ]
  obtain ⟨A00, A01, A02, A03⟩ := row_two L5.1; obtain ⟨A10, A11, A12, A13⟩ := row_two L5.2.1; obtain ⟨A20, A21, A22, A23⟩ := row_two L5.2.2.1
  have o3 := L5.2.2.2
  clear L hm hs
  go_wp2
  go_ret
  exact ⟨rfl, o3⟩
theorem wideNormal (a : Nat) (ha : a < big) (w : World) (hT : TabAt w) (h0 : 0 < w.heap.size) : Calls Tryd.prog 4 #[W a] w fun e w' => e = .returned (.bool true) ∧ Below w.heap.size w w' := by
  by_cases hz : a = 0
  · subst hz
    exact wideNormal_0 w hT h0
  · obtain ⟨h1, h2, h3, h4⟩ := blen_odd hz ha
    have ho : a / 2 ^ tz a < big := Nat.lt_of_le_of_lt (Nat.div_le_self _ _) ha
    have hr : rightV a (tzI a) = a / 2 ^ tz a := right_in h4
    have hl : leftN (a / 2 ^ tz a) (tzI a) = a := by
      unfold leftN tzI
      rw [Int.toNat_natCast]
      exact h3
    have hy := left_yes (a := a / 2 ^ tz a) (n := tzI a) (by unfold tzI; omega) (by rw [hl]; exact ha)
    rw [hl] at hy
    have PR := fun w => pright a (tzI a) ha w
    rw [hr] at PR
    have PL := fun w => pleft (a / 2 ^ tz a) (tzI a) ho (by unfold tzI; omega) w
    rw [hy.1, hy.2] at PL
    refine wideNormal_in a (a / 2 ^ tz a) (tzI a) (blenI (a / 2 ^ tz a)) (blenI a) hz ?_ ?_ (Lib.hid fun w h k => pzeros a ha w h k) (Lib.hid PR) (Lib.hid PL) (Lib.hid fun w => pbits _ ho w) (Lib.hid fun w => pbits a ha w) w hT h0
    · generalize a / 2 ^ tz a = o at h2
      rw [Int.tmod_eq_emod_of_nonneg (lo_word o).1]
      unfold lo
      omega
    · have hb := blen_le ha
      unfold blenI tzI
      rw [IntWalk.i64_in _ (by omega)]
      omega
end Go.Proofs.YtoemccfpinonhaaDoor
