/- The laws of sums, products, quotients and divisors, walked. -/
import Derived.Test.YtoemccfpinonhaaLawA
import Derived.Test.YtoemccfpinonhaaGcd
import Derived.Test.YtoemccfpinonhaaMul
import Derived.Test.YtoemccfpinonhaaRMul
namespace Go.Proofs.Ytoemccfpinonhaa
open Go.RowKit Go.Shelf
def addV (a b : Nat) : Nat := if a + b < big then a + b else 0
def addB (a b : Nat) : Bool := decide (a + b < big)
def subV (a b : Nat) : Nat := if b ≤ a then a - b else 0
def subB (a b : Nat) : Bool := decide (b ≤ a)
def divR (a b : Nat) : Nat := if b = 0 then 0 else a % b
def divB (b : Nat) : Bool := decide (b ≠ 0)
theorem padd_any (a b : Nat) (ha : a < big) (hb : b < big) (w : World) :
    Calls Try.prog 20 #[W a, W b] w fun e w' => e = .returned (.tuple #[W (addV a b), .bool (addB a b)]) ∧ Below w.heap.size w w' := by
  unfold addV addB
  by_cases h : a + b < big
  · rw [if_pos h, decide_eq_true h]
    exact padd_fits a b ha hb h w
  · rw [if_neg h, decide_eq_false h]
    exact padd_over a b ha hb h w
theorem psub_any (a b : Nat) (ha : a < big) (hb : b < big) (w : World) :
    Calls Try.prog 22 #[W a, W b] w fun e w' => e = .returned (.tuple #[W (subV a b), .bool (subB a b)]) ∧ Below w.heap.size w w' := by
  unfold subV subB
  by_cases h : b ≤ a
  · rw [if_pos h, decide_eq_true h]
    exact psub_yes a b ha hb h w
  · rw [if_neg h, decide_eq_false h]
    exact psub_no a b ha hb h w
theorem pdiv_any (a b : Nat) (ha : a < big) (hb : b < big) (w : World) :
    Calls Try.prog 13 #[W a, W b] w fun e w' => e = .returned (.tuple #[W (a / b), W (divR a b), .bool (divB b)]) ∧ Below w.heap.size w w' := by
  unfold divR divB
  by_cases h : b = 0
  · subst h
    rw [Nat.div_zero]
    exact pdiv_no a w
  · rw [if_neg h, decide_eq_true h]
    exact pdiv_yes a b ha hb h w
theorem radd_any (a b : Nat) (ha : a < big) (hb : b < big) (w : World) :
    Calls Try.prog 21 #[W a, W b] w fun e w' => e = .returned (.tuple #[W (addV a b), .bool (addB a b)]) ∧ Below w.heap.size w w' := by
  unfold addV addB
  by_cases h : a + b < big
  · rw [if_pos h, decide_eq_true h]
    exact radd_fits a b ha hb h w
  · rw [if_neg h, decide_eq_false h]
    exact radd_over a b ha hb h w
theorem rsub_any (a b : Nat) (ha : a < big) (hb : b < big) (w : World) :
    Calls Try.prog 23 #[W a, W b] w fun e w' => e = .returned (.tuple #[W (subV a b), .bool (subB a b)]) ∧ Below w.heap.size w w' := by
  unfold subV subB
  by_cases h : b ≤ a
  · rw [if_pos h, decide_eq_true h]
    exact rsub_yes a b ha hb h w
  · rw [if_neg h, decide_eq_false h]
    exact rsub_no a b h w
theorem rdiv_any (a b : Nat) (ha : a < big) (hb : b < big) (w : World) :
    Calls Try.prog 14 #[W a, W b] w fun e w' => e = .returned (.tuple #[W (a / b), W (divR a b), .bool (divB b)]) ∧ Below w.heap.size w w' := by
  unfold divR divB
  by_cases h : b = 0
  · subst h
    rw [Nat.div_zero]
    exact rdiv_no a w
  · rw [if_neg h, decide_eq_true h]
    exact rdiv_yes a b ha hb h w
set_option maxHeartbeats 2000000 in
theorem wideAdds (a : Nat) (ha : a < big) (b : Nat) (hb : b < big) (w : World) :
    Calls Try.prog 6 #[W a, W b] w fun e w' => e = .returned (.bool true) ∧ Below w.heap.size w w' := by
  go_enter Try.func6, Try.ntmps6
  go_wp2_with (first | (go_at_call 20; refine (padd_any a b ha hb _).mono ?_; rintro e w1 ⟨rfl, hb1⟩; obtain ⟨hc1, hf1⟩ := bcell hb1; have hz1 := hb1.size; (try simp at hz1); have q1_0 : w.heap.size < w1.heap.size := (by omega); have q1_1 : w.heap.size + 1 < w1.heap.size := (by omega)) | (go_at_call 21; refine (radd_any a b ha hb _).mono ?_; rintro e w2 ⟨rfl, hb2⟩; obtain ⟨hc2, hf2⟩ := bcell hb2; have hz2 := hb2.size; (try simp at hz2); have q2_0 : w.heap.size < w2.heap.size := (by omega); have q2_1 : w.heap.size + 1 < w2.heap.size := (by omega); have q2_2 : w1.heap.size < w2.heap.size := (by omega)) | (go_at_call 22; refine (psub_any a b ha hb _).mono ?_; rintro e w3 ⟨rfl, hb3⟩; obtain ⟨hc3, hf3⟩ := bcell hb3; have hz3 := hb3.size; (try simp at hz3); have q3_0 : w.heap.size < w3.heap.size := (by omega); have q3_1 : w.heap.size + 1 < w3.heap.size := (by omega); have q3_2 : w1.heap.size < w3.heap.size := (by omega); have q3_3 : w2.heap.size < w3.heap.size := (by omega)) | (go_at_call 23; refine (rsub_any a b ha hb _).mono ?_; rintro e w4 ⟨rfl, hb4⟩; obtain ⟨hc4, hf4⟩ := bcell hb4; have hz4 := hb4.size; (try simp at hz4); have q4_0 : w.heap.size < w4.heap.size := (by omega); have q4_1 : w.heap.size + 1 < w4.heap.size := (by omega); have q4_2 : w1.heap.size < w4.heap.size := (by omega); have q4_3 : w2.heap.size < w4.heap.size := (by omega); have q4_4 : w3.heap.size < w4.heap.size := (by omega)) | (go_at_call 15; refine (awake_true _).mono ?_; rintro e w5 ⟨rfl, hb5⟩; obtain ⟨hc5, hf5⟩ := bcell hb5; have hz5 := hb5.size; (try simp at hz5);))
  go_ret
  refine ⟨rfl, ?_⟩
  (repeat (first | exact Below.refl _ _ | refine Below.setCell ?_ (by first | (simp; done) | (simp; omega) | omega) _ | refine Below.alloc ?_ (by first | (simp; done) | (simp; omega) | omega) _ | refine Below.drew ?_ | refine Below.trans ?_ (Below.mono (by assumption) (by first | (simp; done) | (simp; omega) | omega))))
set_option maxHeartbeats 2000000 in
theorem wideDivides (a : Nat) (ha : a < big) (b : Nat) (hb : b < big) (w : World) :
    Calls Try.prog 3 #[W a, W b] w fun e w' => e = .returned (.bool true) ∧ Below w.heap.size w w' := by
  go_enter Try.func3, Try.ntmps3
  go_wp2_with (first | (go_at_call 13; refine (pdiv_any a b ha hb _).mono ?_; rintro e w1 ⟨rfl, hb1⟩; obtain ⟨hc1, hf1⟩ := bcell hb1; have hz1 := hb1.size; (try simp at hz1); have q1_0 : w.heap.size < w1.heap.size := (by omega); have q1_1 : w.heap.size + 1 < w1.heap.size := (by omega)) | (go_at_call 14; refine (rdiv_any a b ha hb _).mono ?_; rintro e w2 ⟨rfl, hb2⟩; obtain ⟨hc2, hf2⟩ := bcell hb2; have hz2 := hb2.size; (try simp at hz2); have q2_0 : w.heap.size < w2.heap.size := (by omega); have q2_1 : w.heap.size + 1 < w2.heap.size := (by omega); have q2_2 : w1.heap.size < w2.heap.size := (by omega); have q2_3 : w1.heap.size + 1 < w2.heap.size := (by omega)) | (go_at_call 15; refine (awake_true _).mono ?_; rintro e w9 ⟨rfl, hb9⟩; have hz9 := hb9.size))
  go_ret
  refine ⟨rfl, ?_⟩
  (repeat (first | exact Below.refl _ _ | refine Below.setCell ?_ (by first | (simp; done) | (simp; omega) | omega) _ | refine Below.alloc ?_ (by first | (simp; done) | (simp; omega) | omega) _ | refine Below.drew ?_ | refine Below.trans ?_ (Below.mono (by assumption) (by first | (simp; done) | (simp; omega) | omega))))
set_option maxHeartbeats 2000000 in
theorem wideGcds (a : Nat) (ha : a < big) (b : Nat) (hb : b < big) (w : World) :
    Calls Try.prog 5 #[W a, W b] w fun e w' => e = .returned (.bool true) ∧ Below w.heap.size w w' := by
  go_enter Try.func5, Try.ntmps5
  go_upto_region 1 with (fail)
  have L : Row ((w.alloc (.cells (Wc a) 24)).alloc (.cells (Wc b) 24)) (w.heap.size) 24 (Wc a) ∧ Row ((w.alloc (.cells (Wc a) 24)).alloc (.cells (Wc b) 24)) (w.heap.size + 1) 24 (Wc b) ∧ Below w.heap.size w ((w.alloc (.cells (Wc a) 24)).alloc (.cells (Wc b) 24)) := by
    refine ⟨?_, ?_, ?_⟩
    · (repeat (first | assumption | (refine row_new ?_; (first | (simp; done) | omega)) | refine row_alloc ?_ _ | refine row_drew ?_ | refine row_call ?_ (by assumption)))
    · (repeat (first | assumption | (refine row_new ?_; (first | (simp; done) | omega)) | refine row_alloc ?_ _ | refine row_drew ?_ | refine row_call ?_ (by assumption)))
    · (repeat (first | exact Below.refl _ _ | refine Below.setCell ?_ (by first | (simp; done) | (simp; omega) | omega) _ | refine Below.alloc ?_ (by first | (simp; done) | (simp; omega) | omega) _ | refine Below.drew ?_ | refine Below.trans ?_ (Below.mono (by assumption) (by first | (simp; done) | (simp; omega) | omega))))
  generalize ((w.alloc (.cells (Wc a) 24)).alloc (.cells (Wc b) 24)) = w2 at L ⊢
  refine wp_region_free0 [0, 1, 2, 3, 4, 5, 6, 7, 8, 9] [] [0, 1, 2, 3, 4, 5, 6, 7, 8, 9] 10 (fun w' => Row w' (w.heap.size) 24 (Wc a) ∧ Row w' (w.heap.size + 1) 24 (Wc b) ∧ Below w.heap.size w w') (by kernel_rfl) (by kernel_rfl) (fun _ _ d _ _ h => by cases d <;> exact h) ?_ ?_
  · exact ⟨L.1, L.2.1, L.2.2.drew⟩
  (refine plan_val ?_ rfl rfl rfl (fun w' hS => ?_) ?_; rotate_left; (obtain ⟨A00, A01, A02, A03⟩ := row_two hS.1; obtain ⟨A10, A11, A12, A13⟩ := row_two hS.2.1; go_simp; try with_reducible rfl); simp only [Act.put, List.setIfInBounds_toArray, List.set_cons_zero, List.set_cons_succ])
  (refine plan_val ?_ rfl rfl rfl (fun w' hS => ?_) ?_; rotate_left; (obtain ⟨A00, A01, A02, A03⟩ := row_two hS.1; obtain ⟨A10, A11, A12, A13⟩ := row_two hS.2.1; go_simp; try with_reducible rfl); simp only [Act.put, List.setIfInBounds_toArray, List.set_cons_zero, List.set_cons_succ])
  refine plan_call (W (Nat.gcd a b)) 18 #[W a, W b] rfl rfl rfl (fun _ _ h hb => ⟨row_call h.1 hb, row_call h.2.1 hb, h.2.2.trans (hb.mono h.2.2.size)⟩) (fun w' hS => by obtain ⟨A00, A01, A02, A03⟩ := row_two hS.1; obtain ⟨A10, A11, A12, A13⟩ := row_two hS.2.1; go_simp) (fun w' hS => pgcd a b ha hb w') ?_
  simp only [Act.put, List.setIfInBounds_toArray, List.set_cons_zero, List.set_cons_succ]
  (refine plan_val ?_ rfl rfl rfl (fun w' hS => ?_) ?_; rotate_left; (obtain ⟨A00, A01, A02, A03⟩ := row_two hS.1; obtain ⟨A10, A11, A12, A13⟩ := row_two hS.2.1; go_simp; try with_reducible rfl); simp only [Act.put, List.setIfInBounds_toArray, List.set_cons_zero, List.set_cons_succ])
  (refine plan_val ?_ rfl rfl rfl (fun w' hS => ?_) ?_; rotate_left; (obtain ⟨A00, A01, A02, A03⟩ := row_two hS.1; obtain ⟨A10, A11, A12, A13⟩ := row_two hS.2.1; go_simp; try with_reducible rfl); simp only [Act.put, List.setIfInBounds_toArray, List.set_cons_zero, List.set_cons_succ])
  refine plan_call (W (Nat.gcd a b)) 19 #[W a, W b] rfl rfl rfl (fun _ _ h hb => ⟨row_call h.1 hb, row_call h.2.1 hb, h.2.2.trans (hb.mono h.2.2.size)⟩) (fun w' hS => by obtain ⟨A00, A01, A02, A03⟩ := row_two hS.1; obtain ⟨A10, A11, A12, A13⟩ := row_two hS.2.1; go_simp) (fun w' hS => rgcd a b ha hb w') ?_
  simp only [Act.put, List.setIfInBounds_toArray, List.set_cons_zero, List.set_cons_succ]
  (refine plan_pure ?_ rfl rfl (fun w' => ?_) ?_; rotate_left; (go_simp; try with_reducible rfl); simp only [Act.put, List.setIfInBounds_toArray, List.set_cons_zero, List.set_cons_succ])
  (refine plan_pure ?_ rfl rfl (fun w' => ?_) ?_; rotate_left; (go_simp; try with_reducible rfl); simp only [Act.put, List.setIfInBounds_toArray, List.set_cons_zero, List.set_cons_succ])
  refine plan_call (.bool true) 15 #[] rfl rfl rfl (fun _ _ h hb => ⟨row_call h.1 hb, row_call h.2.1 hb, h.2.2.trans (hb.mono h.2.2.size)⟩) (fun w' hS => by obtain ⟨A00, A01, A02, A03⟩ := row_two hS.1; obtain ⟨A10, A11, A12, A13⟩ := row_two hS.2.1; go_simp) (fun w' hS => awake_true w') ?_
  simp only [Act.put, List.setIfInBounds_toArray, List.set_cons_zero, List.set_cons_succ]
  (refine plan_pure ?_ rfl rfl (fun w' => ?_) ?_; rotate_left; (go_simp; try with_reducible rfl); simp only [Act.put, List.setIfInBounds_toArray, List.set_cons_zero, List.set_cons_succ])
  refine plan_nil ?_
  intro w3 L3
  simp only [List.drop_succ_cons, List.drop_zero]
  try simp only [Act.put, List.setIfInBounds_toArray, List.set_cons_zero, List.set_cons_succ]
  obtain ⟨A00, A01, A02, A03⟩ := row_two L3.1; obtain ⟨A10, A11, A12, A13⟩ := row_two L3.2.1
  have o3 := L3.2.2
  clear L
  go_wp2
  go_ret
  exact ⟨rfl, o3⟩
set_option maxHeartbeats 2000000 in
theorem wideRemains (a : Nat) (ha : a < big) (b : Nat) (hb : b < big) (w : World) :
    Calls Try.prog 9 #[W a, W b] w fun e w' => e = .returned (.bool true) ∧ Below w.heap.size w w' := by
  by_cases h : b = 0
  · subst h
    have T0 := hi_0
    have T1 := lo_0
    have HD := Lib.hid (fun w' => pdiv_no a w')
    go_enter Try.func9, Try.ntmps9
    go_wp2_with fail
    have C := HD.out
    unfold W at C
    rw [T0, T1] at C
    refine (C _).mono ?_
    rintro e w1 ⟨rfl, hb1⟩
    obtain ⟨hc1, hf1⟩ := bcell hb1
    have hz1 := hb1.size
    simp at hz1
    have q1_0 : w.heap.size < w1.heap.size := by omega
    have q1_1 : w.heap.size + 1 < w1.heap.size := by omega
    clear C
    go_wp2_with (go_at_call 15; refine (awake_true _).mono ?_; rintro e w9 ⟨rfl, hb9⟩; have hz9 := hb9.size)
    go_ret
    refine ⟨rfl, ?_⟩
    (repeat (first | exact Below.refl _ _ | refine Below.setCell ?_ (by first | (simp; done) | (simp; omega) | omega) _ | refine Below.alloc ?_ (by first | (simp; done) | (simp; omega) | omega) _ | refine Below.drew ?_ | refine Below.trans ?_ (Below.mono (by assumption) (by first | (simp; done) | (simp; omega) | omega))))
  · have hq := run_eql_zero h
    have hdb : a / b * b ≤ a := Nat.div_mul_le_self a b
    have hm : a / b * b < big := Nat.lt_of_le_of_lt hdb ha
    have hr : a % b < b := Nat.mod_lt _ (by omega)
    have e1 : a / b * b + a % b = a := by rw [Nat.mul_comm]; exact Nat.div_add_mod a b
    have HM := Lib.hid (fun w' => pmul (a / b) b (Nat.lt_of_le_of_lt (Nat.div_le_self a b) ha) hb w')
    have HA := Lib.hid (fun w' => padd_fits (a / b * b) (a % b) hm (Nat.lt_trans hr hb) (by rw [e1]; exact ha) w')
    have HC := Lib.hid (fun w' => pcmp_any (a % b) b w')
    have HD := Lib.hid (fun w' => pdiv_yes a b ha hb h w')
    obtain ⟨v1, v2⟩ := mulV_yes hm
    have M := HM.out
    rw [v1, v2] at M
    have A := HA.out
    rw [e1] at A
    have CC := HC.out
    rw [cmp_lt hr] at CC
    have HM := Lib.hid M
    have HA := Lib.hid A
    have HC := Lib.hid CC
    clear M A CC v1 v2 e1 hdb hm hr h
    go_enter Try.func9, Try.ntmps9
    go_wp2_with (first | (go_at_call 13; refine (HD.out _).mono ?_; rintro e w1 ⟨rfl, hb1⟩; have hz1 := hb1.size; (try simp at hz1); have q1_0 : w.heap.size < w1.heap.size := (by omega); have r1_0 : Row w1 (w.heap.size) 24 (Wc a) := row_call (by (repeat (first | assumption | (refine row_new ?_; (first | (simp; done) | omega)) | refine row_alloc ?_ _ | refine row_drew ?_ | refine row_call ?_ (by assumption)))) hb1; obtain ⟨c1_0a, c1_0b, f1_0a, f1_0b⟩ := row_two r1_0; have q1_1 : w.heap.size + 1 < w1.heap.size := (by omega); have r1_1 : Row w1 (w.heap.size + 1) 24 (Wc b) := row_call (by (repeat (first | assumption | (refine row_new ?_; (first | (simp; done) | omega)) | refine row_alloc ?_ _ | refine row_drew ?_ | refine row_call ?_ (by assumption)))) hb1; obtain ⟨c1_1a, c1_1b, f1_1a, f1_1b⟩ := row_two r1_1) | (go_at_call 26; refine (HM.out _).mono ?_; rintro e w2 ⟨rfl, hb2⟩; have hz2 := hb2.size; (try simp at hz2); have q2_0 : w.heap.size < w2.heap.size := (by omega); have r2_0 : Row w2 (w.heap.size) 24 (Wc a) := row_call (by (repeat (first | assumption | (refine row_new ?_; (first | (simp; done) | omega)) | refine row_alloc ?_ _ | refine row_drew ?_ | refine row_call ?_ (by assumption)))) hb2; obtain ⟨c2_0a, c2_0b, f2_0a, f2_0b⟩ := row_two r2_0; have q2_1 : w.heap.size + 1 < w2.heap.size := (by omega); have r2_1 : Row w2 (w.heap.size + 1) 24 (Wc b) := row_call (by (repeat (first | assumption | (refine row_new ?_; (first | (simp; done) | omega)) | refine row_alloc ?_ _ | refine row_drew ?_ | refine row_call ?_ (by assumption)))) hb2; obtain ⟨c2_1a, c2_1b, f2_1a, f2_1b⟩ := row_two r2_1; have q2_2 : w1.heap.size < w2.heap.size := (by omega); have r2_2 : Row w2 (w1.heap.size) 24 (Wc (a / b)) := row_call (by (repeat (first | assumption | (refine row_new ?_; (first | (simp; done) | omega)) | refine row_alloc ?_ _ | refine row_drew ?_ | refine row_call ?_ (by assumption)))) hb2; obtain ⟨c2_2a, c2_2b, f2_2a, f2_2b⟩ := row_two r2_2; have q2_3 : w1.heap.size + 1 < w2.heap.size := (by omega); have r2_3 : Row w2 (w1.heap.size + 1) 24 (Wc (a % b)) := row_call (by (repeat (first | assumption | (refine row_new ?_; (first | (simp; done) | omega)) | refine row_alloc ?_ _ | refine row_drew ?_ | refine row_call ?_ (by assumption)))) hb2; obtain ⟨c2_3a, c2_3b, f2_3a, f2_3b⟩ := row_two r2_3) | (go_at_call 20; refine (HA.out _).mono ?_; rintro e w3 ⟨rfl, hb3⟩; have hz3 := hb3.size; (try simp at hz3); have q3_0 : w.heap.size < w3.heap.size := (by omega); have r3_0 : Row w3 (w.heap.size) 24 (Wc a) := row_call (by (repeat (first | assumption | (refine row_new ?_; (first | (simp; done) | omega)) | refine row_alloc ?_ _ | refine row_drew ?_ | refine row_call ?_ (by assumption)))) hb3; obtain ⟨c3_0a, c3_0b, f3_0a, f3_0b⟩ := row_two r3_0; have q3_1 : w.heap.size + 1 < w3.heap.size := (by omega); have r3_1 : Row w3 (w.heap.size + 1) 24 (Wc b) := row_call (by (repeat (first | assumption | (refine row_new ?_; (first | (simp; done) | omega)) | refine row_alloc ?_ _ | refine row_drew ?_ | refine row_call ?_ (by assumption)))) hb3; obtain ⟨c3_1a, c3_1b, f3_1a, f3_1b⟩ := row_two r3_1; have q3_2 : w1.heap.size < w3.heap.size := (by omega); have r3_2 : Row w3 (w1.heap.size) 24 (Wc (a / b)) := row_call (by (repeat (first | assumption | (refine row_new ?_; (first | (simp; done) | omega)) | refine row_alloc ?_ _ | refine row_drew ?_ | refine row_call ?_ (by assumption)))) hb3; obtain ⟨c3_2a, c3_2b, f3_2a, f3_2b⟩ := row_two r3_2; have q3_3 : w1.heap.size + 1 < w3.heap.size := (by omega); have r3_3 : Row w3 (w1.heap.size + 1) 24 (Wc (a % b)) := row_call (by (repeat (first | assumption | (refine row_new ?_; (first | (simp; done) | omega)) | refine row_alloc ?_ _ | refine row_drew ?_ | refine row_call ?_ (by assumption)))) hb3; obtain ⟨c3_3a, c3_3b, f3_3a, f3_3b⟩ := row_two r3_3; have q3_4 : w2.heap.size < w3.heap.size := (by omega); have r3_4 : Row w3 (w2.heap.size) 24 (Wc (a / b * b)) := row_call (by (repeat (first | assumption | (refine row_new ?_; (first | (simp; done) | omega)) | refine row_alloc ?_ _ | refine row_drew ?_ | refine row_call ?_ (by assumption)))) hb3; obtain ⟨c3_4a, c3_4b, f3_4a, f3_4b⟩ := row_two r3_4) | (go_at_call 16; refine (HC.out _).mono ?_; rintro e w4 ⟨rfl, hb4⟩; have hz4 := hb4.size; (try simp at hz4)) | (go_at_call 15; refine (awake_true _).mono ?_; rintro e w9 ⟨rfl, hb9⟩; have hz9 := hb9.size))
    go_ret
    refine ⟨rfl, ?_⟩
    (repeat (first | exact Below.refl _ _ | refine Below.setCell ?_ (by first | (simp; done) | (simp; omega) | omega) _ | refine Below.alloc ?_ (by first | (simp; done) | (simp; omega) | omega) _ | refine Below.drew ?_ | refine Below.trans ?_ (Below.mono (by assumption) (by first | (simp; done) | (simp; omega) | omega))))
end Go.Proofs.Ytoemccfpinonhaa
