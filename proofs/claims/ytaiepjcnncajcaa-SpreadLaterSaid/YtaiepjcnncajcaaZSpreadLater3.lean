/- The law SpreadLater of the given program: for every input the call returns true, and each argument reads behind the call as it read before. No conditions. -/
import Derived.Test.YtaiepjcnncajcaaZSpreadLater2
section
/- An interval is narrow against a number: for ratios that are not negative, walked. -/
set_option linter.unusedVariables false
set_option linter.unusedSimpArgs false
set_option linter.unusedSectionVars false
set_option linter.unnecessarySimpa false
namespace Go.Proofs.Ytaiepjcnncajcaa
open Go.RowKit Go.Shelf
theorem QV_W {d : Nat} (h : d < big) : QV d = .agg #[.int .u64 (lo d), .int .u64 (hi d), .int .u64 0, .int .u64 0] := by
  have e0 : ((qd 0 d : Nat) : Int) = lo d := by unfold qd lo; rw [Nat.pow_zero, Nat.div_one]
  have e1 : ((qd 1 d : Nat) : Int) = hi d := by
    unfold qd hi big at *
    rw [Nat.pow_one, Nat.mod_eq_of_lt (by omega)]
  have e2 : qd 2 d = 0 := by
    unfold qd big at *
    rw [Nat.div_eq_of_lt (by omega)]
  have e3 : qd 3 d = 0 := by
    unfold qd big at *
    rw [Nat.div_eq_of_lt (by omega)]
  unfold QV
  rw [e0, e1, e2, e3]
  rfl
/-- The words of numbers of 256 bits in order. -/
theorem q_le {L R : Nat} (hL : L < 115792089237316195423570985008687907853269984665640564039457584007913129639936) (hR : R < 115792089237316195423570985008687907853269984665640564039457584007913129639936) (h : L ≤ R) :
    (qd 3 L = qd 3 R ∧ qd 2 L = qd 2 R ∧ qd 1 L = qd 1 R ∧ qd 0 L = qd 0 R) ∨ qd 3 L < qd 3 R ∨ (qd 3 L = qd 3 R ∧ qd 2 L < qd 2 R) ∨ (qd 3 L = qd 3 R ∧ qd 2 L = qd 2 R ∧ qd 1 L < qd 1 R) ∨ (qd 3 L = qd 3 R ∧ qd 2 L = qd 2 R ∧ qd 1 L = qd 1 R ∧ qd 0 L < qd 0 R) := by
  have a0 := qd_step L 0
  have a1 := qd_step L 1
  have a2 := qd_step L 2
  have a3 := qd_step L 3
  have c0 := qd_step R 0
  have c1 := qd_step R 1
  have c2 := qd_step R 2
  have c3 := qd_step R 3
  have l0 := qd_lt 0 L
  have l1 := qd_lt 1 L
  have l2 := qd_lt 2 L
  have l3 := qd_lt 3 L
  have r0 := qd_lt 0 R
  have r1 := qd_lt 1 R
  have r2 := qd_lt 2 R
  have r3 := qd_lt 3 R
  have eL : L / 18446744073709551616 ^ (3 + 1) = 0 := Nat.div_eq_of_lt (by omega)
  have eR : R / 18446744073709551616 ^ (3 + 1) = 0 := Nat.div_eq_of_lt (by omega)
  rw [eL] at a3
  rw [eR] at c3
  rw [Nat.pow_zero, Nat.div_one] at a0 c0
  simp only [Nat.reduceAdd] at *
  generalize L / 18446744073709551616 ^ 1 = L1 at *
  generalize L / 18446744073709551616 ^ 2 = L2 at *
  generalize L / 18446744073709551616 ^ 3 = L3 at *
  generalize R / 18446744073709551616 ^ 1 = R1 at *
  generalize R / 18446744073709551616 ^ 2 = R2 at *
  generalize R / 18446744073709551616 ^ 3 = R3 at *
  omega
theorem info_u64 : (Try.prog.info? 70).isSome = true := by kernel_rfl
theorem cells_u64 : Try.prog.cellsOf 70 = 1 := by kernel_rfl
theorem plain_u64 : Try.prog.plainKey 70 = true := by kernel_rfl
theorem quad_item {xs ys : Array Value} {i : Nat} {is : List Nat} {a b : Int} (w' : World) (hx : xs[i]? = some (.int .u64 a)) (hy : ys[i]? = some (.int .u64 b)) :
    (Op.eqItems 9999 70 1 xs ys (i :: is)).run Try.prog w' = if a = b then (Op.eqItems 9999 70 1 xs ys is).run Try.prog w' else .ok false w' := by
  have px := run_part_plain (w := w') (P := Try.prog) plain_u64 hx
  have py := run_part_plain (w := w') (P := Try.prog) plain_u64 hy
  have e : (Op.equalIn 9999 70 (.int .u64 a) (.int .u64 b)).run Try.prog w' = .ok (a == b) w' := run_equalIn_int w' 9998 70 .u64 .u64 a b Try.underlying70
  rw [Op.eqItems]
  simp only [Sem.run_bind, Nat.mul_one, px, py, e, Result.andThen_ok]
  by_cases h : a = b
  · rw [if_pos h, if_neg (by simp [h])]
  · rw [if_neg h, if_pos (by simp [h])]
    rfl
theorem run_quad_ne {b0 b1 b2 b3 c0 c1 c2 c3 : Int} (h : ¬ (b0 = c0 ∧ b1 = c1 ∧ b2 = c2 ∧ b3 = c3)) (w' : World) : (binOp .eql 86 (.agg #[.int .u64 b0, .int .u64 b1, .int .u64 b2, .int .u64 b3]) (.agg #[.int .u64 c0, .int .u64 c1, .int .u64 c2, .int .u64 c3])).run Try.prog w' = .ok (.bool false) w' := by
  obtain ⟨i, hi⟩ := Option.isSome_iff_exists.1 info_u64
  rw [run_eql_struct, show (10000 : Nat) = 9999 + 1 from rfl, run_equalIn_array w' 9999 _ _ Try.underlying86 hi, cells_u64, show List.range 4 = [0, 1, 2, 3] from rfl,
    quad_item (i := 0) (a := b0) (b := c0) w' rfl rfl, quad_item (i := 1) (a := b1) (b := c1) w' rfl rfl, quad_item (i := 2) (a := b2) (b := c2) w' rfl rfl, quad_item (i := 3) (a := b3) (b := c3) w' rfl rfl]
  split
  · split
    · split
      · split
        · exact absurd ⟨by assumption, by assumption, by assumption, by assumption⟩ h
        · rfl
      · rfl
    · rfl
  · rfl
theorem run_quad_eq {b0 b1 b2 b3 : Int} (w' : World) : (binOp .eql 86 (.agg #[.int .u64 b0, .int .u64 b1, .int .u64 b2, .int .u64 b3]) (.agg #[.int .u64 b0, .int .u64 b1, .int .u64 b2, .int .u64 b3])).run Try.prog w' = .ok (.bool true) w' := by
  obtain ⟨i, hi⟩ := Option.isSome_iff_exists.1 info_u64
  rw [run_eql_struct, show (10000 : Nat) = 9999 + 1 from rfl, run_equalIn_array w' 9999 _ _ Try.underlying86 hi, cells_u64, show List.range 4 = [0, 1, 2, 3] from rfl,
    quad_item (i := 0) (a := b0) (b := b0) w' rfl rfl, quad_item (i := 1) (a := b1) (b := b1) w' rfl rfl, quad_item (i := 2) (a := b2) (b := b2) w' rfl rfl, quad_item (i := 3) (a := b3) (b := b3) w' rfl rfl,
    if_pos rfl, if_pos rfl, if_pos rfl, if_pos rfl]
  rfl
set_option maxHeartbeats 4000000 in
theorem pwithin_flat {l1 l2 m1 m2 h1 h2 v1 v2 k d e : Nat} {a0 a1 a2 a3 b0 b1 b2 b3 c0 c1 c2 c3 : Int} (hb : BndOK l1 l2 m1 m2 h1 h2) (hv : RatOK v1 v2) (hk : 1 ≤ k ∧ k ≤ 64) (hle : l1 * h2 ≤ h1 * l2) (hd : h1 * l2 - l1 * h2 = d) (he : l2 * h2 = e)
    (T1 : RowKit.Hid (∀ w, Calls Try.prog 62 #[.agg #[.int .u64 (lo d), .int .u64 (hi d), .int .u64 0, .int .u64 0], .int .u64 (k : Nat)] w fun e w' => e = .returned (.agg #[.int .u64 a0, .int .u64 a1, .int .u64 a2, .int .u64 a3]) ∧ Below w.heap.size w w'))
    (T2 : RowKit.Hid (∀ w, Calls Try.prog 62 #[.agg #[.int .u64 a0, .int .u64 a1, .int .u64 a2, .int .u64 a3], .int .u64 (v2 : Nat)] w fun e w' => e = .returned (.agg #[.int .u64 b0, .int .u64 b1, .int .u64 b2, .int .u64 b3]) ∧ Below w.heap.size w w'))
    (T3 : RowKit.Hid (∀ w, Calls Try.prog 62 #[.agg #[.int .u64 (lo e), .int .u64 (hi e), .int .u64 0, .int .u64 0], .int .u64 (v1 : Nat)] w fun e w' => e = .returned (.agg #[.int .u64 c0, .int .u64 c1, .int .u64 c2, .int .u64 c3]) ∧ Below w.heap.size w w'))
    (hq : (b3 = c3 ∧ b2 = c2 ∧ b1 = c1 ∧ b0 = c0) ∨ b3 < c3 ∨ (b3 = c3 ∧ b2 < c2) ∨ (b3 = c3 ∧ b2 = c2 ∧ b1 < c1) ∨ (b3 = c3 ∧ b2 = c2 ∧ b1 = c1 ∧ b0 < c0)) (w : World) :
    Calls Try.prog 23 #[.agg #[.int .i64 (l1 : Nat), .int .i64 (l2 : Nat), .int .i64 (m1 : Nat), .int .i64 (m2 : Nat), .int .i64 (h1 : Nat), .int .i64 (h2 : Nat)], .int .i64 (k : Nat), .agg #[.int .i64 (v1 : Nat), .int .i64 (v2 : Nat)]] w fun e w' => e = .returned (.bool true) ∧ Below w.heap.size w w' := by
  have P1 := Lib.hid (fun w => pbvalid hb w)
  have P2 := Lib.hid (fun w => pvR hv w)
  have P3 := fun w => pwidth hb hle w
  have z1 := hb.lo.2.1.2
  have z2 := hb.hi.2.1.2
  have z3 := hv.2.1.2
  have z4 := hv.1
  have P4 := fun w => pprodn l2 h2 (by omega) (by omega) w
  rw [hd] at P3
  rw [he] at P4
  unfold W at P3 P4
  replace P3 := Lib.hid P3
  replace P4 := Lib.hid P4
  have i1 : ¬ (k : Int) < 1 := by omega
  have i2 : ¬ (v1 : Int) < 0 := by omega
  have wk : IntKind.u64.wrap (k : Int) = k := IntWalk.u64_in _ (by omega)
  have wv1 : IntKind.u64.wrap (v1 : Int) = v1 := IntWalk.u64_in _ (by omega)
  have wv2 : IntKind.u64.wrap (v2 : Int) = v2 := IntWalk.u64_in _ (by omega)
  have wl2 : IntKind.u64.wrap (l2 : Int) = l2 := IntWalk.u64_in _ (by omega)
  have wh2 : IntKind.u64.wrap (h2 : Int) = h2 := IntWalk.u64_in _ (by omega)
  have HQ := Lib.hid hq
  clear hb hv hk hle hd he hq z1 z2 z3 z4
  go_enter Try.func23, Try.ntmps23
  go_upto_region 1 with (fail)
  have X : Row ((w.alloc (.cells #[.int .i64 (l1 : Nat), .int .i64 (l2 : Nat), .int .i64 (m1 : Nat), .int .i64 (m2 : Nat), .int .i64 (h1 : Nat), .int .i64 (h2 : Nat)] 45)).alloc (.cells #[.int .i64 (v1 : Nat), .int .i64 (v2 : Nat)] 35)) w.heap.size 45 #[.int .i64 (l1 : Nat), .int .i64 (l2 : Nat), .int .i64 (m1 : Nat), .int .i64 (m2 : Nat), .int .i64 (h1 : Nat), .int .i64 (h2 : Nat)] := row_alloc (row_new rfl) _
  have V : Row ((w.alloc (.cells #[.int .i64 (l1 : Nat), .int .i64 (l2 : Nat), .int .i64 (m1 : Nat), .int .i64 (m2 : Nat), .int .i64 (h1 : Nat), .int .i64 (h2 : Nat)] 45)).alloc (.cells #[.int .i64 (v1 : Nat), .int .i64 (v2 : Nat)] 35)) (w.heap.size + 1) 35 #[.int .i64 (v1 : Nat), .int .i64 (v2 : Nat)] := row_new (by simp)
  have o : Below w.heap.size w ((w.alloc (.cells #[.int .i64 (l1 : Nat), .int .i64 (l2 : Nat), .int .i64 (m1 : Nat), .int .i64 (m2 : Nat), .int .i64 (h1 : Nat), .int .i64 (h2 : Nat)] 45)).alloc (.cells #[.int .i64 (v1 : Nat), .int .i64 (v2 : Nat)] 35)) := by (repeat (first | exact Below.refl _ _ | refine Below.setCell ?_ (by first | (simp; done) | (simp; omega) | omega) _ | refine Below.alloc ?_ (by first | (simp; done) | (simp; omega) | omega) _ | refine Below.drew ?_ | refine Below.trans ?_ (Below.mono (by assumption) (by first | (simp; done) | (simp; omega) | omega))))
  generalize ((w.alloc (.cells #[.int .i64 (l1 : Nat), .int .i64 (l2 : Nat), .int .i64 (m1 : Nat), .int .i64 (m2 : Nat), .int .i64 (h1 : Nat), .int .i64 (h2 : Nat)] 45)).alloc (.cells #[.int .i64 (v1 : Nat), .int .i64 (v2 : Nat)] 35)) = w0 at X V o ⊢
  obtain ⟨X0, X1, X2, X3, X4, X5, Xf0, Xf1, Xf2, Xf3, Xf4, Xf5⟩ := row_six X
  obtain ⟨V0, V1, Vf0, Vf1⟩ := row_two V
  go_wp2_with fail
  refine (P1.out _).mono ?_
  rintro e w1 ⟨rfl, hb⟩
  replace X := row_call X hb
  replace V := row_call V hb
  replace o := o.trans (hb.mono o.size)
  clear hb X0 Xf0 X1 Xf1 X2 Xf2 X3 Xf3 X4 Xf4 X5 Xf5 V0 Vf0 V1 Vf1
  obtain ⟨X0, X1, X2, X3, X4, X5, Xf0, Xf1, Xf2, Xf3, Xf4, Xf5⟩ := row_six X
  obtain ⟨V0, V1, Vf0, Vf1⟩ := row_two V
  go_wp2_with fail
  refine (P2.out _).mono ?_
  rintro e w2 ⟨rfl, hb⟩
  replace X := row_call X hb
  replace V := row_call V hb
  replace o := o.trans (hb.mono o.size)
  clear hb X0 Xf0 X1 Xf1 X2 Xf2 X3 Xf3 X4 Xf4 X5 Xf5 V0 Vf0 V1 Vf1
  obtain ⟨X0, X1, X2, X3, X4, X5, Xf0, Xf1, Xf2, Xf3, Xf4, Xf5⟩ := row_six X
  obtain ⟨V0, V1, Vf0, Vf1⟩ := row_two V
  go_wp2_with fail
  refine (P3.out _).mono ?_
  rintro e w3 ⟨rfl, hb⟩
  replace X := row_call X hb
  replace V := row_call V hb
  replace o := o.trans (hb.mono o.size)
  clear hb X0 Xf0 X1 Xf1 X2 Xf2 X3 Xf3 X4 Xf4 X5 Xf5 V0 Vf0 V1 Vf1
  go_upto_region 4 with (fail)
  have D : Row (w3.alloc (.cells #[.int .u64 (hi d), .int .u64 (lo d)] 72)) w3.heap.size 72 #[.int .u64 (hi d), .int .u64 (lo d)] := row_new rfl
  replace X := row_alloc X (.cells #[.int .u64 (hi d), .int .u64 (lo d)] 72)
  replace V := row_alloc V (.cells #[.int .u64 (hi d), .int .u64 (lo d)] 72)
  replace o := o.alloc o.size (.cells #[.int .u64 (hi d), .int .u64 (lo d)] 72)
  generalize w3.alloc (.cells #[.int .u64 (hi d), .int .u64 (lo d)] 72) = w4 at X V D o ⊢
  generalize w3.heap.size = wb at D ⊢
  have xl := row_lt X
  have vl := row_lt V
  refine wp_region_free1 [0, 1, 2, 3, 4, 5, 6, 7, 8, 9, 10, 11] [] [0, 1, 2, 3, 4, 5, 6, 7, 8, 9, 10, 11, 12] (12, 86, #[.int .u64 0, .int .u64 0, .int .u64 0, .int .u64 0]) 8 13 (fun w' => Row w' (w.heap.size) 45 #[.int .i64 (l1 : Nat), .int .i64 (l2 : Nat), .int .i64 (m1 : Nat), .int .i64 (m2 : Nat), .int .i64 (h1 : Nat), .int .i64 (h2 : Nat)] ∧ Row w' (w.heap.size + 1) 35 #[.int .i64 (v1 : Nat), .int .i64 (v2 : Nat)] ∧ Row w' (wb) 72 #[.int .u64 (hi d), .int .u64 (lo d)] ∧ Below w.heap.size w w') (by kernel_rfl) (by kernel_rfl) ⟨_, _, rfl, rfl, rfl, fun ρ w' => by go_simp⟩ rfl (by simp) (fun _ h => ⟨row_alloc h.1 _, row_alloc h.2.1 _, row_alloc h.2.2.1 _, h.2.2.2.alloc h.2.2.2.size _⟩) (fun _ _ d _ _ h => by cases d <;> exact h) ?_ ?_
  · exact ⟨X, V, D, o.drew⟩
  (refine plan_pure ?_ rfl rfl (fun w' => ?_) ?_; rotate_left; (go_simp; try with_reducible rfl); simp only [Act.put, List.setIfInBounds_toArray, List.set_cons_zero, List.set_cons_succ])
  (refine plan_val ?_ rfl rfl rfl (fun w' hS => ?_) ?_; rotate_left; (obtain ⟨X0, X1, X2, X3, X4, X5, Xf0, Xf1, Xf2, Xf3, Xf4, Xf5⟩ := row_six hS.1; obtain ⟨V0, V1, Vf0, Vf1⟩ := row_two hS.2.1; obtain ⟨D0, D1, Df0, Df1⟩ := row_two hS.2.2.1; go_simp; try with_reducible rfl); simp only [Act.put, List.setIfInBounds_toArray, List.set_cons_zero, List.set_cons_succ])
  (refine plan_pure ?_ rfl rfl (fun w' => ?_) ?_; rotate_left; (go_simp; try with_reducible rfl); simp only [Act.put, List.setIfInBounds_toArray, List.set_cons_zero, List.set_cons_succ])
  (refine plan_val ?_ rfl rfl rfl (fun w' hS => ?_) ?_; rotate_left; (obtain ⟨X0, X1, X2, X3, X4, X5, Xf0, Xf1, Xf2, Xf3, Xf4, Xf5⟩ := row_six hS.1; obtain ⟨V0, V1, Vf0, Vf1⟩ := row_two hS.2.1; obtain ⟨D0, D1, Df0, Df1⟩ := row_two hS.2.2.1; go_simp; try with_reducible rfl); simp only [Act.put, List.setIfInBounds_toArray, List.set_cons_zero, List.set_cons_succ])
  (refine plan_pure ?_ rfl rfl (fun w' => ?_) ?_; rotate_left; (go_simp; try with_reducible rfl); simp only [Act.put, List.setIfInBounds_toArray, List.set_cons_zero, List.set_cons_succ])
  (refine plan_pure ?_ rfl rfl (fun w' => ?_) ?_; rotate_left; (go_simp; try with_reducible rfl); simp only [Act.put, List.setIfInBounds_toArray, List.set_cons_zero, List.set_cons_succ])
  (refine plan_pure ?_ rfl rfl (fun w' => ?_) ?_; rotate_left; (go_simp; try with_reducible rfl); simp only [Act.put, List.setIfInBounds_toArray, List.set_cons_zero, List.set_cons_succ])
  refine plan_call (.agg #[.int .u64 a0, .int .u64 a1, .int .u64 a2, .int .u64 a3]) 62 #[.agg #[.int .u64 (lo d), .int .u64 (hi d), .int .u64 0, .int .u64 0], .int .u64 (k : Nat)] rfl rfl rfl (fun _ _ h hb => ⟨row_call h.1 hb, row_call h.2.1 hb, row_call h.2.2.1 hb, h.2.2.2.trans (hb.mono h.2.2.2.size)⟩) (fun w' hS => by obtain ⟨X0, X1, X2, X3, X4, X5, Xf0, Xf1, Xf2, Xf3, Xf4, Xf5⟩ := row_six hS.1; obtain ⟨V0, V1, Vf0, Vf1⟩ := row_two hS.2.1; obtain ⟨D0, D1, Df0, Df1⟩ := row_two hS.2.2.1; go_simp) (fun w' hS => T1.out w') ?_
  simp only [Act.put, List.setIfInBounds_toArray, List.set_cons_zero, List.set_cons_succ]
  (refine plan_pure ?_ rfl rfl (fun w' => ?_) ?_; rotate_left; (go_simp; try with_reducible rfl); simp only [Act.put, List.setIfInBounds_toArray, List.set_cons_zero, List.set_cons_succ])
  (refine plan_val ?_ rfl rfl rfl (fun w' hS => ?_) ?_; rotate_left; (obtain ⟨X0, X1, X2, X3, X4, X5, Xf0, Xf1, Xf2, Xf3, Xf4, Xf5⟩ := row_six hS.1; obtain ⟨V0, V1, Vf0, Vf1⟩ := row_two hS.2.1; obtain ⟨D0, D1, Df0, Df1⟩ := row_two hS.2.2.1; go_simp; try with_reducible rfl); simp only [Act.put, List.setIfInBounds_toArray, List.set_cons_zero, List.set_cons_succ])
  (refine plan_pure ?_ rfl rfl (fun w' => ?_) ?_; rotate_left; (go_simp; try with_reducible rfl); simp only [Act.put, List.setIfInBounds_toArray, List.set_cons_zero, List.set_cons_succ])
  refine plan_call (.agg #[.int .u64 b0, .int .u64 b1, .int .u64 b2, .int .u64 b3]) 62 #[.agg #[.int .u64 a0, .int .u64 a1, .int .u64 a2, .int .u64 a3], .int .u64 (v2 : Nat)] rfl rfl rfl (fun _ _ h hb => ⟨row_call h.1 hb, row_call h.2.1 hb, row_call h.2.2.1 hb, h.2.2.2.trans (hb.mono h.2.2.2.size)⟩) (fun w' hS => by obtain ⟨X0, X1, X2, X3, X4, X5, Xf0, Xf1, Xf2, Xf3, Xf4, Xf5⟩ := row_six hS.1; obtain ⟨V0, V1, Vf0, Vf1⟩ := row_two hS.2.1; obtain ⟨D0, D1, Df0, Df1⟩ := row_two hS.2.2.1; go_simp) (fun w' hS => T2.out w') ?_
  simp only [Act.put, List.setIfInBounds_toArray, List.set_cons_zero, List.set_cons_succ]
  refine plan_nil ?_
  intro lb w5 L hlb hlg
  simp only [List.drop_succ_cons, List.drop_zero]
  try simp only [Act.put, List.setIfInBounds_toArray, List.set_cons_zero, List.set_cons_succ]
  obtain ⟨X', V', D', o'⟩ := L
  clear X V D o D'
  have n1 : w.heap.size ≠ lb := by omega
  have n2 : w.heap.size + 1 ≠ lb := by omega
  have n3 : w.heap.size ≤ lb := by omega
  obtain ⟨Q0, Q1, Q2, Q3, Qf0, Qf1, Qf2, Qf3⟩ := row_four hlb
  go_upto_region 5 with (fail)
  have LQ : Row ((((w5.setCell ⟨lb, 0, none⟩ (.int .u64 b0)).setCell ⟨lb, 1, none⟩ (.int .u64 b1)).setCell ⟨lb, 2, none⟩ (.int .u64 b2)).setCell ⟨lb, 3, none⟩ (.int .u64 b3)) lb 86 #[.int .u64 b0, .int .u64 b1, .int .u64 b2, .int .u64 b3] := (row_set (row_set (row_set (row_set hlb 0 (.int .u64 b0)) 1 (.int .u64 b1)) 2 (.int .u64 b2)) 3 (.int .u64 b3))
  have X : Row ((((w5.setCell ⟨lb, 0, none⟩ (.int .u64 b0)).setCell ⟨lb, 1, none⟩ (.int .u64 b1)).setCell ⟨lb, 2, none⟩ (.int .u64 b2)).setCell ⟨lb, 3, none⟩ (.int .u64 b3)) w.heap.size 45 #[.int .i64 (l1 : Nat), .int .i64 (l2 : Nat), .int .i64 (m1 : Nat), .int .i64 (m2 : Nat), .int .i64 (h1 : Nat), .int .i64 (h2 : Nat)] := (row_other (row_other (row_other (row_other X' n1 (.int .u64 b0)) n1 (.int .u64 b1)) n1 (.int .u64 b2)) n1 (.int .u64 b3))
  have V : Row ((((w5.setCell ⟨lb, 0, none⟩ (.int .u64 b0)).setCell ⟨lb, 1, none⟩ (.int .u64 b1)).setCell ⟨lb, 2, none⟩ (.int .u64 b2)).setCell ⟨lb, 3, none⟩ (.int .u64 b3)) (w.heap.size + 1) 35 #[.int .i64 (v1 : Nat), .int .i64 (v2 : Nat)] := (row_other (row_other (row_other (row_other V' n2 (.int .u64 b0)) n2 (.int .u64 b1)) n2 (.int .u64 b2)) n2 (.int .u64 b3))
  have o : Below w.heap.size w ((((w5.setCell ⟨lb, 0, none⟩ (.int .u64 b0)).setCell ⟨lb, 1, none⟩ (.int .u64 b1)).setCell ⟨lb, 2, none⟩ (.int .u64 b2)).setCell ⟨lb, 3, none⟩ (.int .u64 b3)) := (Below.setCell (p := ⟨lb, 3, none⟩) (Below.setCell (p := ⟨lb, 2, none⟩) (Below.setCell (p := ⟨lb, 1, none⟩) (Below.setCell (p := ⟨lb, 0, none⟩) o' n3 (.int .u64 b0)) n3 (.int .u64 b1)) n3 (.int .u64 b2)) n3 (.int .u64 b3))
  generalize ((((w5.setCell ⟨lb, 0, none⟩ (.int .u64 b0)).setCell ⟨lb, 1, none⟩ (.int .u64 b1)).setCell ⟨lb, 2, none⟩ (.int .u64 b2)).setCell ⟨lb, 3, none⟩ (.int .u64 b3)) = w6 at LQ X V o ⊢
  clear hlb X' V' o' Q0 Q1 Q2 Q3 Qf0 Qf1 Qf2 Qf3 xl vl hlg
  obtain ⟨X0, X1, X2, X3, X4, X5, Xf0, Xf1, Xf2, Xf3, Xf4, Xf5⟩ := row_six X
  go_wp2_with fail
  refine (P4.out _).mono ?_
  rintro e w7 ⟨rfl, hb⟩
  replace X := row_call X hb
  replace V := row_call V hb
  replace LQ := row_call LQ hb
  replace o := o.trans (hb.mono o.size)
  clear hb X0 Xf0 X1 Xf1 X2 Xf2 X3 Xf3 X4 Xf4 X5 Xf5
  go_upto_region 6 with (fail)
  have E : Row (w7.alloc (.cells #[.int .u64 (hi e), .int .u64 (lo e)] 72)) w7.heap.size 72 #[.int .u64 (hi e), .int .u64 (lo e)] := row_new rfl
  replace V := row_alloc V (.cells #[.int .u64 (hi e), .int .u64 (lo e)] 72)
  replace LQ := row_alloc LQ (.cells #[.int .u64 (hi e), .int .u64 (lo e)] 72)
  replace o := o.alloc o.size (.cells #[.int .u64 (hi e), .int .u64 (lo e)] 72)
  clear X
  generalize w7.alloc (.cells #[.int .u64 (hi e), .int .u64 (lo e)] 72) = w8 at V LQ E o ⊢
  generalize w7.heap.size = eb at E ⊢
  obtain ⟨V0, V1, Vf0, Vf1⟩ := row_two V
  obtain ⟨E0, E1, Ef0, Ef1⟩ := row_two E
  go_wp2_with fail
  refine (T3.out _).mono ?_
  rintro e w9 ⟨rfl, hb⟩
  replace V := row_call V hb
  replace E := row_call E hb
  replace LQ := row_call LQ hb
  replace o := o.trans (hb.mono o.size)
  clear hb V0 Vf0 V1 Vf1 E0 Ef0 E1 Ef1
  clear V E
  go_upto_region 7 with (fail)
  have RQ : Row (w9.alloc (.cells #[.int .u64 c0, .int .u64 c1, .int .u64 c2, .int .u64 c3] 86)) w9.heap.size 86 #[.int .u64 c0, .int .u64 c1, .int .u64 c2, .int .u64 c3] := row_new rfl
  replace LQ := row_alloc LQ (.cells #[.int .u64 c0, .int .u64 c1, .int .u64 c2, .int .u64 c3] 86)
  replace o := o.alloc o.size (.cells #[.int .u64 c0, .int .u64 c1, .int .u64 c2, .int .u64 c3] 86)
  generalize w9.alloc (.cells #[.int .u64 c0, .int .u64 c1, .int .u64 c2, .int .u64 c3] 86) = w10 at LQ RQ o ⊢
  generalize w9.heap.size = rb at RQ ⊢
  obtain ⟨L0, L1, L2, L3, Lf0, Lf1, Lf2, Lf3⟩ := row_four LQ
  obtain ⟨R0, R1, R2, R3, Rf0, Rf1, Rf2, Rf3⟩ := row_four RQ
  rcases HQ.out with ⟨rfl, rfl, rfl, rfl⟩ | h3 | ⟨rfl, h2⟩ | ⟨rfl, rfl, h1⟩ | ⟨rfl, rfl, rfl, h0⟩
  · have he := fun w' => run_quad_eq (b0 := b0) (b1 := b1) (b2 := b2) (b3 := b3) w'
    go_wp2
    go_ret
    exact ⟨rfl, o⟩
  · have hne : ¬ (b0 = c0 ∧ b1 = c1 ∧ b2 = c2 ∧ b3 = c3) := by omega
    have he : ∀ w', (binOp .eql 86 (.agg #[.int .u64 b0, .int .u64 b1, .int .u64 b2, .int .u64 b3]) (.agg #[.int .u64 c0, .int .u64 c1, .int .u64 c2, .int .u64 c3])).run Try.prog w' = .ok (.bool false) w' := fun w' => run_quad_ne hne w'
    clear hne
    have hd : (b3 == c3) = false := by simp; omega
    have LQ' : Row w10 lb 86 #[.int .u64 b0, .int .u64 b1, .int .u64 b2, .int .u64 b3] := LQ
    have RQ' : Row w10 rb 86 #[.int .u64 c0, .int .u64 c1, .int .u64 c2, .int .u64 c3] := RQ
    go_upto_region 10 with (fail)
    clear he L0 L1 L2 L3 Lf0 Lf1 Lf2 Lf3 R0 R1 R2 R3 Rf0 Rf1 Rf2 Rf3 LQ RQ
    go_loopw [11] (fun i wr => (i = .int .i64 3) ∧ Row wr lb 86 #[.int .u64 b0, .int .u64 b1, .int .u64 b2, .int .u64 b3] ∧ Row wr rb 86 #[.int .u64 c0, .int .u64 c1, .int .u64 c2, .int .u64 c3] ∧ Below w.heap.size w wr) (fun i _ => (intOf i).toNat)
    case atStart => exact ⟨rfl, LQ', RQ', o⟩
    case round =>
      clear LQ' RQ' o
      obtain ⟨hi, LQ, RQ, o⟩ := hrel
      obtain ⟨L0, L1, L2, L3, Lf0, Lf1, Lf2, Lf3⟩ := row_four LQ
      obtain ⟨R0, R1, R2, R3, Rf0, Rf1, Rf2, Rf3⟩ := row_four RQ
      rcases hi with rfl
      · go_upto_region 10 with (fail)
        go_quiet (fail)
        go_upto_region 12 with (fail)
        go_quiet (fail)
        go_wp2
        go_ret
        exact ⟨by first | rfl | (simp; omega), o.trans ⟨rfl, rfl, rfl, Nat.le_refl _, fun _ _ => rfl⟩⟩
  · have hne : ¬ (b0 = c0 ∧ b1 = c1 ∧ b2 = c2 ∧ b3 = b3) := by omega
    have he : ∀ w', (binOp .eql 86 (.agg #[.int .u64 b0, .int .u64 b1, .int .u64 b2, .int .u64 b3]) (.agg #[.int .u64 c0, .int .u64 c1, .int .u64 c2, .int .u64 b3])).run Try.prog w' = .ok (.bool false) w' := fun w' => run_quad_ne hne w'
    clear hne
    have hd : (b2 == c2) = false := by simp; omega
    have LQ' : Row w10 lb 86 #[.int .u64 b0, .int .u64 b1, .int .u64 b2, .int .u64 b3] := LQ
    have RQ' : Row w10 rb 86 #[.int .u64 c0, .int .u64 c1, .int .u64 c2, .int .u64 b3] := RQ
    go_upto_region 10 with (fail)
    clear he L0 L1 L2 L3 Lf0 Lf1 Lf2 Lf3 R0 R1 R2 R3 Rf0 Rf1 Rf2 Rf3 LQ RQ
    go_loopw [11] (fun i wr => (i = .int .i64 3 ∨ i = .int .i64 2) ∧ Row wr lb 86 #[.int .u64 b0, .int .u64 b1, .int .u64 b2, .int .u64 b3] ∧ Row wr rb 86 #[.int .u64 c0, .int .u64 c1, .int .u64 c2, .int .u64 b3] ∧ Below w.heap.size w wr) (fun i _ => (intOf i).toNat)
    case atStart => exact ⟨.inl rfl, LQ', RQ', o⟩
    case round =>
      clear LQ' RQ' o
      obtain ⟨hi, LQ, RQ, o⟩ := hrel
      obtain ⟨L0, L1, L2, L3, Lf0, Lf1, Lf2, Lf3⟩ := row_four LQ
      obtain ⟨R0, R1, R2, R3, Rf0, Rf1, Rf2, Rf3⟩ := row_four RQ
      rcases hi with rfl | rfl
      · go_upto_region 10 with (fail)
        go_quiet (fail)
        go_wp2
        go_roundw
        case rel => exact ⟨.inr rfl, LQ, RQ, o.trans ⟨rfl, rfl, rfl, Nat.le_refl _, fun _ _ => rfl⟩⟩
        case measure => simp [intOf]
      · go_upto_region 10 with (fail)
        go_quiet (fail)
        go_upto_region 12 with (fail)
        go_quiet (fail)
        go_wp2
        go_ret
        exact ⟨by first | rfl | (simp; omega), o.trans ⟨rfl, rfl, rfl, Nat.le_refl _, fun _ _ => rfl⟩⟩
  · have hne : ¬ (b0 = c0 ∧ b1 = c1 ∧ b2 = b2 ∧ b3 = b3) := by omega
    have he : ∀ w', (binOp .eql 86 (.agg #[.int .u64 b0, .int .u64 b1, .int .u64 b2, .int .u64 b3]) (.agg #[.int .u64 c0, .int .u64 c1, .int .u64 b2, .int .u64 b3])).run Try.prog w' = .ok (.bool false) w' := fun w' => run_quad_ne hne w'
    clear hne
    have hd : (b1 == c1) = false := by simp; omega
    have LQ' : Row w10 lb 86 #[.int .u64 b0, .int .u64 b1, .int .u64 b2, .int .u64 b3] := LQ
    have RQ' : Row w10 rb 86 #[.int .u64 c0, .int .u64 c1, .int .u64 b2, .int .u64 b3] := RQ
    go_upto_region 10 with (fail)
    clear he L0 L1 L2 L3 Lf0 Lf1 Lf2 Lf3 R0 R1 R2 R3 Rf0 Rf1 Rf2 Rf3 LQ RQ
    go_loopw [11] (fun i wr => (i = .int .i64 3 ∨ i = .int .i64 2 ∨ i = .int .i64 1) ∧ Row wr lb 86 #[.int .u64 b0, .int .u64 b1, .int .u64 b2, .int .u64 b3] ∧ Row wr rb 86 #[.int .u64 c0, .int .u64 c1, .int .u64 b2, .int .u64 b3] ∧ Below w.heap.size w wr) (fun i _ => (intOf i).toNat)
    case atStart => exact ⟨.inl rfl, LQ', RQ', o⟩
    case round =>
      clear LQ' RQ' o
      obtain ⟨hi, LQ, RQ, o⟩ := hrel
      obtain ⟨L0, L1, L2, L3, Lf0, Lf1, Lf2, Lf3⟩ := row_four LQ
      obtain ⟨R0, R1, R2, R3, Rf0, Rf1, Rf2, Rf3⟩ := row_four RQ
      rcases hi with rfl | rfl | rfl
      · go_upto_region 10 with (fail)
        go_quiet (fail)
        go_wp2
        go_roundw
        case rel => exact ⟨.inr (.inl rfl), LQ, RQ, o.trans ⟨rfl, rfl, rfl, Nat.le_refl _, fun _ _ => rfl⟩⟩
        case measure => simp [intOf]
      · go_upto_region 10 with (fail)
        go_quiet (fail)
        go_wp2
        go_roundw
        case rel => exact ⟨.inr (.inr rfl), LQ, RQ, o.trans ⟨rfl, rfl, rfl, Nat.le_refl _, fun _ _ => rfl⟩⟩
        case measure => simp [intOf]
      · go_upto_region 10 with (fail)
        go_quiet (fail)
        go_upto_region 12 with (fail)
        go_quiet (fail)
        go_wp2
        go_ret
        exact ⟨by first | rfl | (simp; omega), o.trans ⟨rfl, rfl, rfl, Nat.le_refl _, fun _ _ => rfl⟩⟩
  · have hne : ¬ (b0 = c0 ∧ b1 = b1 ∧ b2 = b2 ∧ b3 = b3) := by omega
    have he : ∀ w', (binOp .eql 86 (.agg #[.int .u64 b0, .int .u64 b1, .int .u64 b2, .int .u64 b3]) (.agg #[.int .u64 c0, .int .u64 b1, .int .u64 b2, .int .u64 b3])).run Try.prog w' = .ok (.bool false) w' := fun w' => run_quad_ne hne w'
    clear hne
    have hd : (b0 == c0) = false := by simp; omega
    have LQ' : Row w10 lb 86 #[.int .u64 b0, .int .u64 b1, .int .u64 b2, .int .u64 b3] := LQ
    have RQ' : Row w10 rb 86 #[.int .u64 c0, .int .u64 b1, .int .u64 b2, .int .u64 b3] := RQ
    go_upto_region 10 with (fail)
    clear he L0 L1 L2 L3 Lf0 Lf1 Lf2 Lf3 R0 R1 R2 R3 Rf0 Rf1 Rf2 Rf3 LQ RQ
    go_loopw [11] (fun i wr => (i = .int .i64 3 ∨ i = .int .i64 2 ∨ i = .int .i64 1 ∨ i = .int .i64 0) ∧ Row wr lb 86 #[.int .u64 b0, .int .u64 b1, .int .u64 b2, .int .u64 b3] ∧ Row wr rb 86 #[.int .u64 c0, .int .u64 b1, .int .u64 b2, .int .u64 b3] ∧ Below w.heap.size w wr) (fun i _ => (intOf i).toNat)
    case atStart => exact ⟨.inl rfl, LQ', RQ', o⟩
    case round =>
      clear LQ' RQ' o
      obtain ⟨hi, LQ, RQ, o⟩ := hrel
      obtain ⟨L0, L1, L2, L3, Lf0, Lf1, Lf2, Lf3⟩ := row_four LQ
      obtain ⟨R0, R1, R2, R3, Rf0, Rf1, Rf2, Rf3⟩ := row_four RQ
      rcases hi with rfl | rfl | rfl | rfl
      · go_upto_region 10 with (fail)
        go_quiet (fail)
        go_wp2
        go_roundw
        case rel => exact ⟨.inr (.inl rfl), LQ, RQ, o.trans ⟨rfl, rfl, rfl, Nat.le_refl _, fun _ _ => rfl⟩⟩
        case measure => simp [intOf]
      · go_upto_region 10 with (fail)
        go_quiet (fail)
        go_wp2
        go_roundw
        case rel => exact ⟨.inr (.inr (.inl rfl)), LQ, RQ, o.trans ⟨rfl, rfl, rfl, Nat.le_refl _, fun _ _ => rfl⟩⟩
        case measure => simp [intOf]
      · go_upto_region 10 with (fail)
        go_quiet (fail)
        go_wp2
        go_roundw
        case rel => exact ⟨.inr (.inr (.inr rfl)), LQ, RQ, o.trans ⟨rfl, rfl, rfl, Nat.le_refl _, fun _ _ => rfl⟩⟩
        case measure => simp [intOf]
      · go_upto_region 10 with (fail)
        go_quiet (fail)
        go_upto_region 12 with (fail)
        go_quiet (fail)
        go_wp2
        go_ret
        exact ⟨by first | rfl | (simp; omega), o.trans ⟨rfl, rfl, rfl, Nat.le_refl _, fun _ _ => rfl⟩⟩
theorem pwithin {l1 l2 m1 m2 h1 h2 v1 v2 k : Nat} (hb : BndOK l1 l2 m1 m2 h1 h2) (hv : RatOK v1 v2) (hk : 1 ≤ k ∧ k ≤ 64) (hle : l1 * h2 ≤ h1 * l2) (h : k * (h1 * l2 - l1 * h2) * v2 ≤ v1 * (l2 * h2)) (w : World) :
    Calls Try.prog 23 #[.agg #[.int .i64 (l1 : Nat), .int .i64 (l2 : Nat), .int .i64 (m1 : Nat), .int .i64 (m2 : Nat), .int .i64 (h1 : Nat), .int .i64 (h2 : Nat)], .int .i64 (k : Nat), .agg #[.int .i64 (v1 : Nat), .int .i64 (v2 : Nat)]] w fun e w' => e = .returned (.bool true) ∧ Below w.heap.size w w' := by
  have z1 := hb.lo.2.1.2
  have z2 := hb.hi.2.1.2
  have z3 := hv.2.1.2
  have z4 := hv.1
  have z5 := hb.hi.1
  have x1 : h1 * l2 ≤ 4611686018427387904 * 4294967295 := Nat.mul_le_mul (by omega) (by omega)
  have x2 : l2 * h2 ≤ 4294967295 * 4294967295 := Nat.mul_le_mul (by omega) (by omega)
  generalize hd : h1 * l2 - l1 * h2 = d at h
  generalize he : l2 * h2 = e at h x2
  have d1 : d ≤ 4611686018427387904 * 4294967295 := by omega
  have s1 : d * k ≤ 4611686018427387904 * 4294967295 * 64 := Nat.mul_le_mul d1 hk.2
  have s2 : d * k * v2 ≤ 4611686018427387904 * 4294967295 * 64 * 4294967295 := Nat.mul_le_mul s1 z3
  have s3 : e * v1 ≤ 4294967295 * 4294967295 * 4611686018427387904 := Nat.mul_le_mul x2 (by omega)
  have hle2 : d * k * v2 ≤ e * v1 := by rw [Nat.mul_comm d k, Nat.mul_comm e v1]; exact h
  have t1 := fun w => ptimes d k w (by omega)
  have t2 := fun w => ptimes (d * k) v2 w (by omega)
  have t3 := fun w => ptimes e v1 w (by omega)
  have q := q_le (L := d * k * v2) (R := e * v1) (by omega) (by omega) hle2
  rw [QV_W (d := d) (by unfold big; omega)] at t1
  rw [QV_W (d := e) (by unfold big; omega)] at t3
  exact pwithin_flat hb hv hk hle hd he (Lib.hid t1) (Lib.hid t2) (Lib.hid t3) (by omega) w
end Go.Proofs.Ytaiepjcnncajcaa
end
section
/- What stays close, in items: plain. -/
set_option linter.unusedVariables false
set_option linter.unusedSimpArgs false
set_option linter.unusedSectionVars false
set_option linter.unnecessarySimpa false
namespace Go.Proofs.Ytaiepjcnncajcaa
theorem itN_of {l : List Itm} (h : 1 ≤ l.length) : itN l = l.length := by unfold itN; omega
theorem next_close {k : Int} {kn : Nat} (hk : k = (kn : Int)) {O B : List Itm} (C : List Itm) (hB : 1 ≤ B.length)
    (h : closeP ((O ++ B).length : Int) (isum (O ++ B)) (isq (O ++ B)) (B.length : Int) (isum B) (isq B) k) :
    kn * (itT (O ++ (B ++ C)) * itN (B ++ C)) ≤ (kn + 1) * (itT (B ++ C) * itN (O ++ (B ++ C))) := by
  obtain ⟨ha, hb, hkk, h1, h2⟩ := h
  obtain ⟨a0, ea⟩ := right_tp ha
  obtain ⟨b0, eb⟩ := right_tp hb
  have e1 : ((topN ((O ++ B).length : Int) (isum (O ++ B)) (isq (O ++ B)) * (B.length : Int).toNat * (6 * k - 1).toNat : Nat) : Int) ≤ ((topN (B.length : Int) (isum B) (isq B) * ((O ++ B).length : Int).toNat * (6 * k).toNat : Nat) : Int) := Int.ofNat_le.2 h2
  rw [Int.natCast_mul, Int.natCast_mul, Int.natCast_mul, Int.natCast_mul, ea, eb, Int.toNat_of_nonneg (show 0 ≤ (B.length : Int) by omega), Int.toNat_of_nonneg (show 0 ≤ 6 * k - 1 by omega), Int.toNat_of_nonneg (show 0 ≤ ((O ++ B).length : Int) by omega), Int.toNat_of_nonneg (show 0 ≤ 6 * k by omega)] at e1
  have lOB : ((O ++ B).length : Int) = (O.length : Int) + (B.length : Int) := by simp
  have lBC : ((B ++ C).length : Int) = (B.length : Int) + (C.length : Int) := by simp
  have lA : ((O ++ (B ++ C)).length : Int) = (O.length : Int) + ((B.length : Int) + (C.length : Int)) := by simp
  rw [lOB, isum_append, isq_append] at e1
  rw [lOB] at h1
  have K := close_later (k := k) (o := (O.length : Int)) (b := (B.length : Int)) (c := (C.length : Int)) (sO := isum O) (qO := isq O) (sB := isum B) (qB := isq B) (sC := isum C) (qC := isq C) (by omega) (by omega) (by omega) (by omega) (isq_isum O)
    (fun e => by rw [List.eq_nil_of_length_eq_zero (show O.length = 0 by omega)]; exact ⟨rfl, rfl⟩) (isq_isum B) (isq_isum C)
    (fun e => by rw [List.eq_nil_of_length_eq_zero (show C.length = 0 by omega)]; exact ⟨rfl, rfl⟩) h1 (by grind)
  have tA := itT_eq (O ++ (B ++ C))
  have tG := itT_eq (B ++ C)
  rw [lA, isum_append, isq_append, isum_append, isq_append] at tA
  rw [lBC, isum_append, isq_append] at tG
  rw [← tA, ← tG] at K
  have nA : itN (O ++ (B ++ C)) = (O ++ (B ++ C)).length := itN_of (by simp; omega)
  have nG : itN (B ++ C) = (B ++ C).length := itN_of (by simp; omega)
  have zA : (itN (O ++ (B ++ C)) : Int) = (O.length : Int) + ((B.length : Int) + (C.length : Int)) := by rw [nA]; exact lA
  have zG : (itN (B ++ C) : Int) = (B.length : Int) + (C.length : Int) := by rw [nG]; exact lBC
  rw [← zA, ← zG, hk] at K
  clear tA tG zA zG nA nG e1 h1 h2 ea eb a0 b0 ha hb lOB lBC lA
  generalize itT (O ++ (B ++ C)) = T1 at *
  generalize itN (O ++ (B ++ C)) = n1 at *
  generalize itT (B ++ C) = T2 at *
  generalize itN (B ++ C) = n2 at *
  have : ((kn * (T1 * n2) : Nat) : Int) ≤ (((kn + 1) * (T2 * n1) : Nat) : Int) := by
    rw [Int.natCast_mul, Int.natCast_mul, Int.natCast_mul, Int.natCast_mul]
    exact K
  exact Int.ofNat_le.1 this
theorem within_of {k T1 n1 T2 n2 : Nat} (h : k * (T1 * n2) ≤ (k + 1) * (T2 * n1)) : k * (T1 * n2 - T2 * n1) * n2 ≤ T2 * (n2 * n1) := by
  have e : k * (T1 * n2 - T2 * n1) ≤ T2 * n1 := by
    rw [Nat.mul_sub]
    have : (k + 1) * (T2 * n1) = k * (T2 * n1) + T2 * n1 := by rw [Nat.add_mul, Nat.one_mul]
    omega
  have := Nat.mul_le_mul_right n2 e
  grind
end Go.Proofs.Ytaiepjcnncajcaa
end
section
/- The law of suffixes that stay near, walked. -/
set_option linter.unusedVariables false
set_option linter.unusedSimpArgs false
set_option linter.unusedSectionVars false
set_option linter.unnecessarySimpa false
namespace Go.Proofs.Ytaiepjcnncajcaa
open Go.RowKit
theorem itT_lt {l : List Itm} (hl : l.length ≤ 1000) (hv : ∀ x ∈ l, -4096 ≤ x.v ∧ x.v ≤ 4096) : itT l < 4611686018427387904 := by
  have h1 := (isq_bd l hv).2
  have h0 := (isq_bd l hv).1
  have h2 := itT_eq l
  unfold tpI at h2
  have h3 := sqn (isum l)
  have h4 : (l.length : Int) * isq l ≤ 1000 * (16777216 * 1000) := Int.mul_le_mul (by omega) (by omega) h0 (by decide)
  omega
theorem rat_it {l : List Itm} (hl : l.length ≤ 1000) (hv : ∀ x ∈ l, -4096 ≤ x.v ∧ x.v ≤ 4096) : RatOK (rn (itT l) (itN l)) (rd (itT l) (itN l)) :=
  rat_ok (itT_lt hl hv) (by unfold itN; omega) (by unfold itN; omega)
theorem later_facts {k : Int} {kn : Nat} (hk : k = (kn : Int)) {O B C : List Itm} (hB : 1 ≤ B.length) (hl : (O ++ (B ++ C)).length ≤ 1000) (hv : ∀ x ∈ O ++ (B ++ C), -4096 ≤ x.v ∧ x.v ≤ 4096)
    (h : closeP ((O ++ B).length : Int) (isum (O ++ B)) (isq (O ++ B)) (B.length : Int) (isum B) (isq B) k) :
    ∃ x1 x2 y1 y2 : Nat, rn (itT (O ++ (B ++ C))) (itN (O ++ (B ++ C))) = x1 ∧ rd (itT (O ++ (B ++ C))) (itN (O ++ (B ++ C))) = x2 ∧ rn (itT (B ++ C)) (itN (B ++ C)) = y1 ∧ rd (itT (B ++ C)) (itN (B ++ C)) = y2 ∧
      BndOK y1 y2 y1 y2 x1 x2 ∧ RatOK y1 y2 ∧ y1 * x2 ≤ x1 * y2 ∧ kn * (x1 * y2 - y1 * x2) * y2 ≤ y1 * (y2 * x2) := by
  have hg : ∀ x ∈ B ++ C, -4096 ≤ x.v ∧ x.v ≤ 4096 := fun x hx => hv x (List.mem_append_right _ hx)
  have hgl : (B ++ C).length ≤ 1000 := by have := hl; simp at this ⊢; omega
  have hne : B ++ C ≠ [] := fun e => by have := congrArg List.length e; simp at this; have e2 := this.1; rw [e2] at hB; simp at hB
  have h1 : 1 ≤ itN (O ++ (B ++ C)) := by unfold itN; omega
  have h2 : 1 ≤ itN (B ++ C) := by unfold itN; omega
  have nc := within_of (next_close hk C hB h)
  have mo := it_mono O (B ++ C) hne
  have r1 := rat_it hgl hg
  have r2 := rat_it hl hv
  have le := rat_le h2 h1 mo
  have wi := rat_within h1 h2 h2 mo nc
  exact ⟨_, _, _, _, rfl, rfl, rfl, rfl, ⟨r1, r1, r2, Nat.le_refl _, le⟩, r1, le, wi⟩
theorem vitems_v {vs : List Int} (h : ∀ x ∈ vs, -4096 ≤ x ∧ x ≤ 4096) : ∀ x ∈ vitems vs, -4096 ≤ x.v ∧ x.v ≤ 4096 := by
  intro x hx
  unfold vitems at hx
  obtain ⟨v, hv, rfl⟩ := List.mem_map.1 hx
  exact h v hv
set_option maxRecDepth 100000 in
set_option maxHeartbeats 8000000 in
theorem spreadLater (A0 : Option Addr) (m0 c0 : Nat) (l0 : List Itm) (A1 : Option Addr) (m1 c1 : Nat) (l1 : List Itm) (A2 : Option Addr) (m2 c2 : Nat) (l2 : List Itm) (k0 : Int) (w : World) (h0 : RIn A0 m0 c0 l0 w) (h1 : RIn A1 m1 c1 l1 w) (h2 : RIn A2 m2 c2 l2 w) :
    Calls Try.prog 5 #[.slice A0 m0 c0, .slice A1 m1 c1, .slice A2 m2 c2, .int .i64 k0] w fun e w' => e = .returned (.bool true) ∧ Below w.heap.size w w' := by
  obtain ⟨ii, hii, iz0, iz1, iz2⟩ := info_parts info_itm
  have PI := Lib.hid (fun w => pint k0 4 (by omega) (by omega) w)
  have PV1 := Lib.hid (fun w' (hb : Below w.heap.size w w') => pvalues14 A1 m1 c1 l1 60 w' (h1.below hb) (by omega))
  have PV0 := Lib.hid (fun w' (hb : Below w.heap.size w w') => pvalues14 A0 m0 c0 l0 8 w' (h0.below hb) (by omega))
  have PV2 := Lib.hid (fun w' (hb : Below w.heap.size w w') => pvalues14 A2 m2 c2 l2 60 w' (h2.below hb) (by omega))
  clear h0 h1 h2
  obtain ⟨kn, hkn, hk1, hk4⟩ : ∃ kn : Nat, 1 + k0 % 4 = (kn : Int) ∧ 1 ≤ kn ∧ kn ≤ 4 := ⟨(1 + k0 % 4).toNat, by omega, by omega, by omega⟩
  obtain ⟨q, hq⟩ : ∃ q : Int, k0 % 4 = q := ⟨_, rfl⟩
  have q0 : 0 ≤ q := by omega
  have q1 : q ≤ 3 := by omega
  rw [hq] at PI hkn
  clear hq
  go_enter Try.func5, Try.ntmps5
  go_wp2_with fail
  refine (PI.out _).mono ?_
  rintro e w1 ⟨rfl, hx⟩
  obtain rfl := hx.symm
  go_wp2_with fail
  refine (PV1.out _ (Below.refl _ _)).mono ?_
  rintro e w1 ⟨vb, bs, rfl, ownB, bl, bv, o⟩
  go_wp2_with fail
  refine (PV0.out _ o).mono ?_
  rintro e w2 ⟨va, os, rfl, ownO, ol, ov, hb2⟩
  have z1 := o.size
  have z2 := hb2.size
  obtain ⟨Ab, cb, rfl, rdB, _, _, _⟩ := orow_forms ownB
  clear ownB
  replace rdB := rdB.below hb2
  have zO := ownO.lt
  go_upto_region 4 with (at_builtin; refine wpList_append_any _ rfl _ _ 39 rfl w1.heap.size 51 ii (.agg #[.int .i64 0, .int .i64 0]) 2 16 Try.underlying39 hii iz0 iz1 iz2 rfl (by decide) va os.length (icells (vitems os)) rfl ownO w1.heap.size Ab bs.length cb (icells (vitems bs)) rfl rdB (icells_one _) (by unfold maxLen; omega) (by omega) z2 ?_; intro vv w3 ownA hg3 hat3)
  replace rdB := (reads_grown rdB hg3 (fun k hk => (zO k hk).1) z2).more (Nat.le_trans z2 hg3.size)
  replace o := below_grown (o.trans (hb2.mono o.size)) hg3 (fun k hk => by have := (zO k hk).1; omega) (by omega)
  obtain ⟨Aa, ca, rfl, rdA, _, _, _⟩ := orow_forms ownA
  clear ownA hg3 hat3 zO ownO hb2
  rw [← icells_append] at rdA
  have hvA : ∀ x ∈ vitems os ++ vitems bs, -4096 ≤ x.v ∧ x.v ≤ 4096 := fun x hx => by
    rcases List.mem_append.1 hx with hx | hx
    · exact vitems_v ov x hx
    · exact vitems_v bv x hx
  have hvB := vitems_v bv
  have lO := vitems_len os
  have lB := vitems_len bs
  obtain ⟨na, hna⟩ : ∃ na : Nat, os.length + bs.length = na := ⟨_, rfl⟩
  obtain ⟨nb, hnb⟩ : ∃ nb : Nat, bs.length = nb := ⟨_, rfl⟩
  rw [hna] at rdA
  rw [hnb] at rdB lB
  generalize vitems bs = B at rdA rdB hvA hvB lB
  generalize vitems os = O at rdA hvA lO
  have lA : (O ++ B).length = na := by rw [List.length_append, lO, lB]; omega
  have na1 : na ≤ 68 := by omega
  have nb1 : nb ≤ 60 := by omega
  rw [hna, hnb]
  have PA := Lib.hid awake14
  by_cases hz : nb = 0
  · have hz' : (nb : Int) = 0 := by omega
    clear lA lO lB hvA hvB rdA rdB PV0 PV1 PV2 PI hnb hna ol bl ov bv z1 z2
    go_wp2_with fail
    refine (PA.out _).mono ?_
    rintro e w4 ⟨rfl, hb⟩
    go_wp2
    go_ret
    exact ⟨rfl, o.trans (hb.mono o.size)⟩
  have hz' : ¬ (nb : Int) = 0 := by omega
  have M1 := rmark14 Aa na ca (O ++ B) w3 rdA (by omega) (by omega) hvA
  have M2 := fun w' (hb : Below w3.heap.size w3 w') => rmark14 Ab nb cb B w' ((rdB.below hb).more hb.size) (by omega) (by omega) hvB
  have PF : closeP (na : Nat) (isum (O ++ B)) (isq (O ++ B)) (nb : Nat) (isum B) (isq B) (kn : Nat) →
      ∀ C : List Itm, C.length ≤ 60 → (∀ x ∈ C, -4096 ≤ x.v ∧ x.v ≤ 4096) → ∃ x1 x2 y1 y2 : Nat, rn (itT (O ++ (B ++ C))) (itN (O ++ (B ++ C))) = x1 ∧ rd (itT (O ++ (B ++ C))) (itN (O ++ (B ++ C))) = x2 ∧ rn (itT (B ++ C)) (itN (B ++ C)) = y1 ∧ rd (itT (B ++ C)) (itN (B ++ C)) = y2 ∧
      BndOK y1 y2 y1 y2 x1 x2 ∧ RatOK y1 y2 ∧ y1 * x2 ≤ x1 * y2 ∧ kn * (x1 * y2 - y1 * x2) * y2 ≤ y1 * (y2 * x2) := fun hc C hC hvC => by
    rw [← lA, ← lB] at hc
    refine later_facts rfl (by omega) (by simp at lA ⊢; omega) (fun x hx => ?_) hc
    rw [← List.append_assoc] at hx
    rcases List.mem_append.1 hx with hx | hx
    · exact hvA x hx
    · exact hvC x hx
  have PCl := fun a b c d w => pclose 1 0 (na : Nat) (isum (O ++ B)) (isq (O ++ B)) a b 1 0 (nb : Nat) (isum B) (isq B) c d (kn : Nat) w
  replace M1 := Lib.hid M1
  replace M2 := Lib.hid M2
  replace PF := Lib.hid PF
  generalize isum (O ++ B) = sA at M1 PF PCl
  generalize isq (O ++ B) = qA at M1 PF PCl
  generalize isum B = sB at M2 PF PCl
  generalize isq B = qB at M2 PF PCl
  have wk : IntKind.i64.wrap (1 + q) = (kn : Nat) := by rw [hkn]; exact IntWalk.i64_in _ (by omega)
  go_wp2_with fail
  refine M1.out.mono ?_
  rintro e w4 ⟨a1, a2, rfl, hb4⟩
  go_wp2_with fail
  refine (M2.out _ hb4).mono ?_
  rintro e w5 ⟨b1, b2, rfl, hb5⟩
  have b35 := hb4.trans (hb5.mono hb4.size)
  replace o := o.trans (b35.mono o.size)
  replace rdA := (rdA.below b35).more b35.size
  replace rdB := (rdB.below b35).more b35.size
  clear M1 M2 hb4 hb5 b35
  replace PCl := Lib.hid (PCl a1 a2 b1 b2)
  by_cases hcl : closeP (na : Nat) sA qA (nb : Nat) sB qB (kn : Nat)
  rotate_left
  · have PC2 := Lib.hid (fun w => by have := PCl.out w; rw [decide_eq_false hcl] at this; exact this)
    clear PCl PF lA lO lB hvA hvB rdA rdB PV0 PV1 PV2 PI hnb hna ol bl ov bv z1 z2 hcl
    go_wp2_with fail
    refine (PC2.out _).mono ?_
    rintro e w6 ⟨rfl, hb⟩
    replace o := o.trans (hb.mono o.size)
    clear hb
    go_wp2_with fail
    refine (PA.out _).mono ?_
    rintro e w4 ⟨rfl, hb⟩
    go_wp2
    go_ret
    exact ⟨rfl, o.trans (hb.mono o.size)⟩
  have PC2 := Lib.hid (fun w => by have := PCl.out w; rw [decide_eq_true hcl] at this; exact this)
  replace PF := Lib.hid (PF.out hcl)
  clear PCl hcl
  go_wp2_with fail
  refine (PC2.out _).mono ?_
  rintro e w6 ⟨rfl, hb6⟩
  go_wp2_with fail
  refine (PV2.out _ (o.trans (hb6.mono o.size))).mono ?_
  rintro e w7 ⟨vc, cs, rfl, ownC, cl, cv, hb7⟩
  have b67 := hb6.trans (hb7.mono hb6.size)
  replace o := o.trans (b67.mono o.size)
  replace rdA := (rdA.below b67).more b67.size
  replace rdB := (rdB.below b67).more b67.size
  obtain ⟨Ac, cc, rfl, rdC, _, _, _⟩ := orow_forms ownC
  have lC := vitems_len cs
  have hvC := vitems_v cv
  obtain ⟨nc, hnc⟩ : ∃ nc : Nat, cs.length = nc := ⟨_, rfl⟩
  rw [hnc] at rdC lC cl
  rw [hnc]
  generalize vitems cs = C at rdC lC hvC
  clear ownC PC2 hb6 hb7 b67
  obtain ⟨x1, x2, y1, y2, e1, e2, e3, e4, BO, ro, le, wi⟩ := PF.out C (by omega) hvC
  have PWi := Lib.hid (fun w => pwithin (k := kn) BO ro (by omega) le wi w)
  have PX : RowKit.Hid (∀ A c w, Reads w w.heap.size 2 A (na + nc) (icells (O ++ B) ++ icells C) → Calls Try.prog 22 #[.slice A (na + nc) c] w fun e w' => e = .returned (.agg #[.int .i64 (x1 : Nat), .int .i64 (x2 : Nat)]) ∧ Below w.heap.size w w') := Lib.hid (fun A c w h => by
    rw [← icells_append] at h
    have := rspread8 A (na + nc) c (O ++ B ++ C) w h (by omega) (fun x hx => by rcases List.mem_append.1 hx with hx | hx; exact hvA x hx; exact hvC x hx)
    rw [List.append_assoc, e1, e2] at this
    exact this)
  have PY : RowKit.Hid (∀ A c w, Reads w w.heap.size 2 A (nb + nc) (icells B ++ icells C) → Calls Try.prog 22 #[.slice A (nb + nc) c] w fun e w' => e = .returned (.agg #[.int .i64 (y1 : Nat), .int .i64 (y2 : Nat)]) ∧ Below w.heap.size w w') := Lib.hid (fun A c w h => by
    rw [← icells_append] at h
    have := rspread8 A (nb + nc) c (B ++ C) w h (by omega) (fun x hx => by rcases List.mem_append.1 hx with hx | hx; exact hvB x hx; exact hvC x hx)
    rw [e3, e4] at this
    exact this)
  have I1 := Lib.hid (icells_one (O ++ B))
  have I2 := Lib.hid (icells_one B)
  have I3 := Lib.hid (icells_one C)
  generalize icells (O ++ B) = IA at rdA I1 PX
  generalize icells B = IB at rdB I2 PY
  generalize icells C = IC at rdC I3 PX PY
  clear lA lO lB lC hvA hvB hvC PF PV0 PV1 PV2 PI hna hnb hnc ol bl ov bv cv z1 z2 e1 e2 e3 e4 BO ro le wi
  go_wp2_with (first | (at_builtin; refine wpList_clone rfl _ _ 39 rfl 51 ii (.agg #[.int .i64 0, .int .i64 0]) 2 16 Try.underlying39 hii iz0 iz1 iz2 rfl (by decide) rfl w7.heap.size Aa na ca IA rfl rdA (Nat.le_refl _) I1.out (by unfold maxLen; omega) (by omega) ?_; intro g c15 w15 own15 hg15 hb15 hz15) | (at_builtin; refine wpList_append_any _ rfl _ _ 39 rfl g 51 ii (.agg #[.int .i64 0, .int .i64 0]) 2 16 Try.underlying39 hii iz0 iz1 iz2 rfl (by decide) (.slice (some ⟨g, 0, none⟩) na c15) na IA rfl (own15.row (Nat.le_refl _)) w7.heap.size Ac nc cc IC rfl (rdC.below hb15) I3.out (by unfold maxLen; omega) (by omega) (Nat.le_of_lt own15.lt) ?_; intro v16 w16 own16 hg16 hat16))
  obtain ⟨A16, c16, rfl, rd16, _, _, _⟩ := orow_forms own16
  have b16 : Below w7.heap.size w7 w16 := below_grown hb15 hg16 (fun k hk => by simp [Value.ownBlock] at hk; omega) hb15.size
  clear hat16 hg16 own16 own15 hb15 hz15
  refine (PX.out _ _ _ rd16).mono ?_
  rintro e w17 ⟨rfl, hb17⟩
  replace b16 := b16.trans (hb17.mono b16.size)
  clear rd16 hb17 hg15
  go_upto_region 8 with (fail)
  have X : Row (w17.alloc (.cells #[.int .i64 (x1 : Nat), .int .i64 (x2 : Nat)] 35)) w17.heap.size 35 #[.int .i64 (x1 : Nat), .int .i64 (x2 : Nat)] := row_new rfl
  replace b16 := b16.alloc b16.size (.cells #[.int .i64 (x1 : Nat), .int .i64 (x2 : Nat)] 35)
  generalize w17.alloc (.cells #[.int .i64 (x1 : Nat), .int .i64 (x2 : Nat)] 35) = w18 at X b16 ⊢
  generalize w17.heap.size = bX at X ⊢
  replace o := o.trans (b16.mono o.size)
  replace rdA := (rdA.below b16).more b16.size
  replace rdB := (rdB.below b16).more b16.size
  replace rdC := (rdC.below b16).more b16.size
  clear b16
  clear PX
  go_wp2_with (first | (at_builtin; refine wpList_clone rfl _ _ 39 rfl 51 ii (.agg #[.int .i64 0, .int .i64 0]) 2 16 Try.underlying39 hii iz0 iz1 iz2 rfl (by decide) rfl w18.heap.size Ab nb cb IB rfl rdB (Nat.le_refl _) I2.out (by unfold maxLen; omega) (by omega) ?_; intro g c15 w15 own15 hg15 hb15 hz15) | (at_builtin; refine wpList_append_any _ rfl _ _ 39 rfl g 51 ii (.agg #[.int .i64 0, .int .i64 0]) 2 16 Try.underlying39 hii iz0 iz1 iz2 rfl (by decide) (.slice (some ⟨g, 0, none⟩) nb c15) nb IB rfl (own15.row (Nat.le_refl _)) w18.heap.size Ac nc cc IC rfl (rdC.below hb15) I3.out (by unfold maxLen; omega) (by omega) (Nat.le_of_lt own15.lt) ?_; intro v16 w16 own16 hg16 hat16))
  obtain ⟨A16, c16, rfl, rd16, _, _, _⟩ := orow_forms own16
  have b16 : Below w18.heap.size w18 w16 := below_grown hb15 hg16 (fun k hk => by simp [Value.ownBlock] at hk; omega) hb15.size
  clear hat16 hg16 own16 own15 hb15 hz15
  refine (PY.out _ _ _ rd16).mono ?_
  rintro e w27 ⟨rfl, hb17⟩
  replace b16 := b16.trans (hb17.mono b16.size)
  clear rd16 hb17 hg15
  go_upto_region 9 with (fail)
  have Y : Row (w27.alloc (.cells #[.int .i64 (y1 : Nat), .int .i64 (y2 : Nat)] 35)) w27.heap.size 35 #[.int .i64 (y1 : Nat), .int .i64 (y2 : Nat)] := row_new rfl
  replace b16 := b16.alloc b16.size (.cells #[.int .i64 (y1 : Nat), .int .i64 (y2 : Nat)] 35)
  generalize w27.alloc (.cells #[.int .i64 (y1 : Nat), .int .i64 (y2 : Nat)] 35) = w19 at Y b16 ⊢
  generalize w27.heap.size = bY at Y ⊢
  replace o := o.trans (b16.mono o.size)
  replace rdA := (rdA.below b16).more b16.size
  replace rdB := (rdB.below b16).more b16.size
  replace rdC := (rdC.below b16).more b16.size
  replace X := row_call X b16
  clear b16
  obtain ⟨X0, X1, Xf0, Xf1⟩ := row_two X
  obtain ⟨Y0, Y1, Yf0, Yf1⟩ := row_two Y
  clear X Y rdA rdB rdC I1 I2 I3
  go_wp2_with fail
  refine (PWi.out _).mono ?_
  rintro e w8 ⟨rfl, hb⟩
  replace o := o.trans (hb.mono o.size)
  clear hb X0 X1 Xf0 Xf1 Y0 Y1 Yf0 Yf1 PWi
  go_wp2_with fail
  refine (PA.out _).mono ?_
  rintro e w4 ⟨rfl, hb⟩
  go_wp2
  go_ret
  exact ⟨rfl, o.trans (hb.mono o.size)⟩
end Go.Proofs.Ytaiepjcnncajcaa
end
section
/- A parameter that is a slice of items opened to what it reads (open_slice_fields is the guide's, extra-structs.md, copied as that page bids). -/
set_option linter.unusedVariables false
set_option linter.unusedSimpArgs false
set_option linter.unusedSectionVars false
set_option linter.unnecessarySimpa false
namespace Go.Proofs.Ytaiepjcnncajcaa
open Go.ChangeShapes Go.WideShapes Go.Deep Go.RowKit
section
variable {H : Type} {enc : TypeId × Value → H} {P : Program} {w : World} {base : Nat} {spare : Nat → Bool} {held : Bool}
theorem open_slice_fields {t e : TypeId} {fs : Array Field} {fuel : Nat} {cs : List Value} {x : DataW H × List MemPlace} (ht : P.underlying t = some (.slice e)) (he : P.underlying e = some (.struct fs))
    (hone : oneCellFields P fs = true) (hC : P.cellsOf e = fs.size) (h : DataW.trod enc P w base spare held fuel t cs = some x) :
    (cs = [.slice none 0 0] ∧ x = (.nil, [])) ∨
    ∃ (a : Addr) (len cap m : Nat) (D : Nat → DataW H) (Pl : Nat → List MemPlace), cs = [.slice (some a) len cap] ∧ base ≤ a.block ∧ len ≤ cap ∧ cap ≤ maxLen ∧ m = (if spare a.block then cap else len) ∧
      x = (.slice ((List.range len).map D) ((List.range (m - len)).map fun j => D (len + j)), MemPlace.row a (m * fs.size) ++ (List.range m).flatMap Pl) ∧
      ∀ i, i < m → ∃ (ys : List (DataW H × List MemPlace)) (n : Nat), D i = .agg (ys.map (·.1)) ∧ Pl i = ys.flatMap (·.2) ∧ ys.length = fs.size ∧
        ∀ (j : Nat) (f : Field), fs[j]? = some f → ∃ (v : Value) (y : DataW H × List MemPlace), w.cell? (a.add (i * fs.size + j)) = some v ∧ ys[j]? = some y ∧ DataW.trod enc P w base spare held n f.type [v] = some y := by
  rcases open_slice ht h with h0 | ⟨a, len, cap, m, n, D, Pl, hcs, hb, hl, hm, hmm, hx, hi⟩
  · exact .inl h0
  · refine .inr ⟨a, len, cap, m, D, Pl, hcs, hb, hl, hm, hmm, by rw [hC] at hx; exact hx, fun i him => ?_⟩
    obtain ⟨cs', hc, ht'⟩ := hi i him
    rw [hC] at hc
    obtain ⟨ys, n', hn', hy, hlen, hyl, hf⟩ := DataW.trod_struct he ht'
    obtain ⟨_, hcl, hat⟩ := World.cells?_some hc
    simp only [Prod.mk.injEq] at hy
    refine ⟨ys, n', hy.1, hy.2, hyl, fun j f hj => ?_⟩
    obtain ⟨ho, hk⟩ := hone_of hone j f hj
    have hjl : j < fs.size := (Array.getElem?_eq_some_iff.1 hj).1
    have hcell := hat j hjl
    have hv : cs'[j]? = some (cs'[j]'(by omega)) := List.getElem?_eq_getElem (by omega)
    have h1 := hf j f hj
    rw [ho, hk] at h1
    have hone' : (cs'.drop j).take 1 = [cs'[j]'(by omega)] := by
      rw [List.drop_eq_getElem_cons (by omega)]
      rfl
    rw [hone'] at h1
    have hys : ys[j]? = some (ys[j]'(by omega)) := List.getElem?_eq_getElem (by omega)
    refine ⟨_, _, ?_, hys, h1.trans hys⟩
    rw [← Go.Deep.add_add, hcell, hv]
end

theorem cellsItm : Try.prog.cellsOf 51 = 2 := by kernel_rfl
theorem i64_wf {x : Int} (h : (Lit.int .i64 x).wf = true) : -9223372036854775808 ≤ x ∧ x ≤ 9223372036854775807 := by
  simp [Lit.wf, IntKind.min, IntKind.max, IntKind.signed, IntKind.bits] at h
  exact ⟨by omega, by omega⟩
section
variable {H : Type} {enc : TypeId × Value → H} {W : World}
theorem list_of {P : Nat → Itm → Prop} : ∀ n, (∀ i, i < n → ∃ x, P i x) → ∃ l : List Itm, l.length = n ∧ ∀ i, i < n → P i (itmAt l i)
  | 0, _ => ⟨[], rfl, fun i h => absurd h (by omega)⟩
  | n + 1, h => by
    obtain ⟨l, h1, h2⟩ := list_of n (fun i hi => h i (by omega))
    obtain ⟨x, hx⟩ := h n (by omega)
    refine ⟨l ++ [x], by simp [h1], fun i hi => ?_⟩
    by_cases c : i < n
    · rw [itm_left (by omega)]
      exact h2 i c
    · obtain rfl : i = l.length := by omega
      rw [itm_last, h1]
      exact hx
set_option maxRecDepth 100000 in
theorem rin_open {r : Reach} {b0 : Nat} {v : Value} {d : DataW H} {p : List MemPlace} (hv : Value.okWide Try.prog W r b0 39 v) (h : DataW.Trod enc Try.prog W 0 (fun _ => true) true 39 v d p) :
    ∃ A m c l, v = .slice A m c ∧ RIn A m c l W := by
  obtain ⟨a, len, cap, rfl⟩ := okWide_slice Try.underlying39 hv
  obtain ⟨fuel, hf⟩ := h
  rcases open_slice_fields Try.underlying39 Try.underlying51 (by kernel_rfl) cellsItm hf with ⟨h1, _⟩ | ⟨a', len', cap', m, D, Pl, h1, _, hl, hc, hm0, _, hi⟩
  · simp [Value.cells] at h1
    obtain ⟨rfl, rfl, rfl⟩ := h1
    exact ⟨none, 0, 0, [], rfl, by simpa [icells] using Reads.none_, by simp [itmAt], by simp [itmAt], Nat.le_refl _, Nat.zero_le _⟩
  · simp [Value.cells] at h1
    obtain ⟨rfl, rfl, rfl⟩ := h1
    have hm : len ≤ m := by
      rw [hm0, if_pos rfl]
      exact hl
    have hh : ∀ i, i < len → ∃ x : Itm, (W.cell? (a'.add (i * 2)) = some (.int .i64 x.t) ∧ W.cell? (a'.add (i * 2 + 1)) = some (.int .i64 x.v)) ∧ (-9223372036854775808 ≤ x.t ∧ x.t ≤ 9223372036854775807) ∧ (-9223372036854775808 ≤ x.v ∧ x.v ≤ 9223372036854775807) := by
      intro i hi'
      obtain ⟨ys, n, _, _, _, hf⟩ := hi i (by omega)
      obtain ⟨v0, y0, c0, _, t0⟩ := hf 0 _ rfl
      obtain ⟨v1, y1, c1, _, t1⟩ := hf 1 _ rfl
      obtain ⟨x0, e0, _, w0⟩ := DataW.trod_int Try.underlying2 t0
      obtain ⟨x1, e1, _, w1⟩ := DataW.trod_int Try.underlying2 t1
      simp at e0 e1
      subst e0 e1
      exact ⟨⟨x0, x1⟩, ⟨c0, c1⟩, i64_wf w0, i64_wf w1⟩
    obtain ⟨l, hl1, hl2⟩ := list_of len hh
    have hb : ∀ i, (-9223372036854775808 ≤ (itmAt l i).t ∧ (itmAt l i).t ≤ 9223372036854775807) ∧ (-9223372036854775808 ≤ (itmAt l i).v ∧ (itmAt l i).v ≤ 9223372036854775807) := by
      intro i
      by_cases c : i < len
      · exact (hl2 i c).2
      · have : itmAt l i = ⟨0, 0⟩ := by unfold itmAt; rw [List.getD_eq_getElem?_getD, List.getElem?_eq_none (by omega)]; rfl
        rw [this]
        exact ⟨⟨by decide, by decide⟩, by decide, by decide⟩
    refine ⟨some a', len, cap, l, rfl, ⟨by rw [icells_len, hl1], fun h0 => ⟨a', rfl, ?_, fun j u hu => ?_⟩⟩, fun i => (hb i).1, fun i => (hb i).2, hl, hc⟩
    · have := World.block_lt_of_cell? W _ (hl2 0 h0).1.1
      rw [block_of_add] at this
      exact this
    · have hj : j < len * 2 := by
        have := (List.getElem?_eq_some_iff.1 hu).1
        rw [icells_len, hl1] at this
        exact this
      have hat := icells_at l (j / 2) (by omega)
      have hcl := (hl2 (j / 2) (by omega)).1
      rcases Nat.mod_two_eq_zero_or_one j with hp | hp
      · have e : j / 2 * 2 = j := by omega
        rw [e] at hat hcl
        rw [hu] at hat
        rw [hcl.1, hat.1]
      · have e : j / 2 * 2 + 1 = j := by omega
        rw [e] at hat hcl
        rw [hu] at hat
        rw [hcl.2, hat.2]
end
end Go.Proofs.Ytaiepjcnncajcaa
end
section
/- The law SpreadLater of the given program: for every input the call returns true, and each argument reads behind the call as it read before. No conditions. -/
set_option linter.unusedVariables false
set_option linter.unusedSimpArgs false
set_option linter.unusedSectionVars false
set_option linter.unnecessarySimpa false
namespace Go.Proofs.Ytaiepjcnncajcaa.lSpreadLater
open Go.ChangeShapes Go.WideShapes Go.ChangeAt Go.RowKit Go.Joins Go.WideMaps Go.WideElems Go.Deep

theorem own : ownKnob Try.prog.godebug = none := by kernel_rfl
theorem laid_out : laidOutB Try.prog = true := by kernel_rfl
theorem readable : (Try.f5.params.toList.all fun t => Try.prog.readableRec t && decide (t < Try.prog.types.size)) = true := by kernel_rfl
set_option maxRecDepth 100000 in
theorem lifted (os : Os) (started : os.Started) (H : Type) (enc : TypeId × Value → H) :
    ReturnsInHanded {} Try.checked os 5 .any (Rows.spreadLaterSpec.pre6 enc Try.prog Try.f5 Rows.spreadLaterRow.domain false) (Rows.spreadLaterSpec.post enc Try.prog Try.f5 false true false false) := by
  refine returnsInHanded_of_change (C := Try.checked) own started (by kernel_rfl) Try.func5
    (ChangeSpec.witness6 (enc := enc) (C := Try.checked) false ⟨#[], #[.slice none 0 0, .slice none 0 0, .slice none 0 0, .int .i64 0], []⟩ 8 (by kernel_rfl) (by kernel_rfl) (by kernel_rfl) (by kernel_rfl)) ?_
  intro W base args ds gs before hval0 hW hcnd _
  have hval : ∀ (j : Nat) t v, Try.f5.params[j]? = some t → args[j]? = some v → Value.okWide Try.prog W .any base t v := hval0
  have hW' := hW
  obtain ⟨p, q, hA0, hV, rfl, hfz, hnd⟩ := hW
  have hA : DataW.TrodAll enc Try.prog W 0 (fun _ => true) true Try.f5.params.toList args.toList ds p := hA0
  have hAA := hA
  rw [Try.params5] at hA hval
  obtain ⟨v0, v1, v2, v3, d0, d1, d2, d3, p0, p1, p2, p3, rfl, rfl, rfl, h0, h1, h2, h3⟩ := trodAll_four hA
  obtain ⟨rfl, rfl⟩ := trodVars_none hV
  obtain ⟨A0, m0, c0, l0, rfl, rin0⟩ := rin_open (hval 0 39 v0 rfl rfl) h0
  obtain ⟨A1, m1, c1, l1, rfl, rin1⟩ := rin_open (hval 1 39 v1 rfl rfl) h1
  obtain ⟨A2, m2, c2, l2, rfl, rin2⟩ := rin_open (hval 2 39 v2 rfl rfl) h2
  obtain ⟨x3, rfl, rfl, rfl, wx3⟩ := open_int Try.underlying3 (hval 3 3 v3 rfl rfl) h3
  clear hA0 hval0
  refine (spreadLater A0 m0 c0 l0 A1 m1 c1 l1 A2 m2 c2 l2 x3 W rin0 rin1 rin2).mono fun e W' ⟨he, hb⟩ => ?_
  subst he
  refine ⟨_, rfl, post_of_below (pa := _) (pv := []) hW' (fun _ _ _ => trodAll_mk1 (shut_bool Try.underlying4 _)) (fun sp hsp => ?_) (fun _ _ => rfl) rfl hb (ok_one (by kernel_rfl) rfl (okWide_bool_mk Try.underlying4 _))⟩
  exact trodAll_stays laid_out hb (fun t ht => by have := List.all_eq_true.1 readable t ht; simpa using this) hAA (fun x hx => hW'.lt x (List.mem_append_left _ hx)) (fun x hx => hsp x (List.mem_append_left _ hx))

theorem holds : Rows.SpreadLaterSaid :=
  OpenClaim.holds_of_wide 5 Try.f5 rfl rfl rfl rfl rfl rfl rfl ⟨rfl, rfl, rfl, rfl, rfl⟩ rfl rfl rfl rfl rfl (by kernel_rfl) Try.func5 (by kernel_rfl)
    (of_decide_eq_true (by kernel_rfl)) (by unfold Func.isWrapper; first | (rw [if_pos (by decide +kernel)]; kernel_rfl) | (rw [if_neg (by decide +kernel)]; exact ⟨rfl, rfl⟩))
    (fun os started H enc _ => lifted os started H enc)
#print axioms holds
end Go.Proofs.Ytaiepjcnncajcaa.lSpreadLater
end
