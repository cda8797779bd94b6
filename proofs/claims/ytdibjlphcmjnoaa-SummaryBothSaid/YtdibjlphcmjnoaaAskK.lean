/- Summaries of a stream: the law of truth, walked. -/
import Derived.Test.YtdibjlphcmjnoaaAskJ
set_option linter.unusedVariables false
set_option linter.unusedSimpArgs false
set_option linter.unusedSectionVars false
set_option linter.unnecessarySimpa false
namespace Go.Proofs.Ytdibjlphcmjnoaa
open Go.RowKit
set_option maxHeartbeats 4000000 in
theorem summaryTruth (A : Option Addr) (m c : Nat) (l : List Int) (k0 o0 v p0 q0 : Int) (w : World) (hin : NIn A m c l w) :
    Calls Try.prog 8 #[.slice A m c, .int .i64 k0, .int .i64 o0, .int .i64 v, .int .i64 p0, .int .i64 q0] w fun e w' => e = .returned (.bool true) ∧ Below w.heap.size w w' := by
  have PI := fun w => pint k0 8 (by decide) (by decide) w
  have r0 := Int.emod_nonneg k0 (show (8 : Int) ≠ 0 by decide)
  have r1 := Int.emod_lt_of_pos k0 (show (0 : Int) < 8 by decide)
  have PJ := fun w => pint o0 12 (by decide) (by decide) w
  have s0 := Int.emod_nonneg o0 (show (12 : Int) ≠ 0 by decide)
  have s1 := Int.emod_lt_of_pos o0 (show (0 : Int) < 12 by decide)
  have PQ := fun w => pmod q0 50 (by decide) (by decide) w
  have t0 := Int.emod_nonneg q0 (show (50 : Int) ≠ 0 by decide)
  have t1 := Int.emod_lt_of_pos q0 (show (0 : Int) < 50 by decide)
  generalize k0 % 8 = r at PI r0 r1
  generalize o0 % 12 = s at PJ s0 s1
  generalize q0 % 50 = u at PQ t0 t1
  obtain ⟨kk, hkk⟩ : ∃ kk, 1 + r = kk := ⟨_, rfl⟩
  obtain ⟨oo, hoo⟩ : ∃ oo : Nat, 1 + s = (oo : Int) := ⟨(1 + s).toNat, by omega⟩
  obtain ⟨q, hq⟩ : ∃ q : Nat, 1 + u = (q : Int) := ⟨(1 + u).toNat, by omega⟩
  have PP := fun w => (pmod p0 ((q : Int) + 1) (by omega) (by omega) w).mono (fun e w' h => (⟨h.1, by rw [h.2]; exact Below.refl _ _⟩ : e = .returned (.int .i64 (p0 % ((q : Int) + 1))) ∧ Below w.heap.size w w'))
  have p1 := Int.emod_nonneg p0 (show (q : Int) + 1 ≠ 0 by omega)
  have p2 := Int.emod_lt_of_pos p0 (show (0 : Int) < (q : Int) + 1 by omega)
  obtain ⟨p, hp⟩ : ∃ p : Nat, p0 % ((q : Int) + 1) = (p : Int) := ⟨(p0 % ((q : Int) + 1)).toNat, by omega⟩
  rw [hp] at PP p1 p2
  have kb : 1 ≤ kk ∧ kk ≤ 8 := by omega
  have ob : 1 ≤ oo ∧ oo ≤ 12 := by omega
  have qb : 1 ≤ q ∧ q ≤ 50 ∧ p ≤ q := by omega
  have wr1 : IntKind.i64.wrap (1 + r) = kk := by rw [IntWalk.i64_in _ (by omega)]; exact hkk
  have ws1 : IntKind.i64.wrap (1 + s) = (oo : Int) := by rw [IntWalk.i64_in _ (by omega)]; exact hoo
  have wt1 : IntKind.i64.wrap (1 + u) = (q : Int) := by rw [IntWalk.i64_in _ (by omega)]; exact hq
  have wq1 : IntKind.i64.wrap ((q : Int) + 1) = (q : Int) + 1 := IntWalk.i64_in _ (by omega)
  have PI := Lib.hid PI
  have PJ := Lib.hid PJ
  have PQ := Lib.hid PQ
  have PP := Lib.hid PP
  have PV := Lib.hid (pvalues A m c l 120 w hin (by decide))
  clear hin r0 r1 s0 s1 t0 t1 hkk hoo hq hp p1 p2
  go_enter Try.func8, Try.ntmps8
  go_upto_region 3 with (first | (go_at_call 21; with_reducible refine (PI.out _).mono ?_; rintro e w9 ⟨rfl, h9⟩; obtain rfl := h9.symm) | (go_at_call 21; with_reducible refine (PJ.out _).mono ?_; rintro e w9 ⟨rfl, h9⟩; obtain rfl := h9.symm) | (go_at_call 31; with_reducible refine (PQ.out _).mono ?_; rintro e w9 ⟨rfl, h9⟩; obtain rfl := h9.symm))
  go_wp2_with fail
  refine PV.out.mono ?_
  rintro e w1 ⟨v1, vs, rfl, own1, hlm, hvb, hb1⟩
  obtain ⟨A1, c1, rfl, rd1, fb1⟩ := Reads.of_own' own1
  generalize hvl : vs.length = nv at hlm rd1 ⊢
  have PR := prun20 kk oo A1 nv c1 vs w1 kb.1 (by omega) ob.1 (by omega) rd1 hvl (by omega) hvb
  have HVL := Lib.hid hvl
  have o1 := hb1
  clear own1 hvb hvl fb1 PV PI PJ PQ wr1 ws1 wt1 hb1
  go_wp2_with fail
  refine PR.mono ?_
  rintro e w2 ⟨A2, m2, c2, ts, rfl, hin2, hT, hb2, f2⟩
  rw [HVL.out] at hin2
  rw [HVL.out]
  have o2 := o1.trans (hb2.mono o1.size)
  have rd2 := (rd1.below hb2).more hb2.size
  clear PR rd1 o1 hb2 f2
  go_upto_region 5 with (fail)
  have x : Row (w2.alloc (.cells #[.int .i64 kk, .int .i64 300, .int .i64 (nv : Nat), .slice A2 m2 c2] 24)) w2.heap.size 24 #[.int .i64 kk, .int .i64 300, .int .i64 (nv : Nat), .slice A2 m2 c2] := row_new rfl
  have al := (Below.refl w2.heap.size w2).alloc (Nat.le_refl _) (.cells #[.int .i64 kk, .int .i64 300, .int .i64 (nv : Nat), .slice A2 m2 c2] 24)
  have hin3 := hin2.below al
  have rd3 := (rd2.below al).more al.size
  have o3 := o2.trans (al.mono o2.size)
  generalize w2.alloc (.cells #[.int .i64 kk, .int .i64 300, .int .i64 (nv : Nat), .slice A2 m2 c2] 24) = w4 at x hin3 rd3 o3 ⊢
  generalize w2.heap.size = xb at x ⊢
  clear al hin2 rd2 o2
  have PS := Lib.hid (fun w1 (hb : Below w4.heap.size w4 w1) => psound kk 300 A2 m2 c2 ts A1 nv c1 vs v p q w1 (hin3.below hb) hT ((rd3.below hb).more hb.size) HVL.out (by omega) qb.1 qb.2.2 (by omega))
  clear hin3 rd3 hT
  refine wp_region_free0 [0, 1, 2, 3, 4, 5, 6, 7, 8, 9, 10, 11, 12, 13, 14] [] [0, 1, 2, 3, 4, 5, 6, 7, 8, 9, 10, 11, 12, 13, 14] 15 (fun w' => Below w4.heap.size w4 w') (by kernel_rfl) (by kernel_rfl) (fun _ _ d _ _ h => by cases d <;> exact h) ?_ ?_
  · exact (Below.refl _ _).drew
  (refine plan_pure ?_ rfl rfl (fun w' => ?_) ?_; rotate_left; (go_simp; try with_reducible rfl); simp only [Act.put, List.setIfInBounds_toArray, List.set_cons_zero, List.set_cons_succ])
  (refine plan_pure ?_ rfl rfl (fun w' => ?_) ?_; rotate_left; (go_simp; try with_reducible rfl); simp only [Act.put, List.setIfInBounds_toArray, List.set_cons_zero, List.set_cons_succ])
  (refine plan_val ?_ rfl rfl rfl (fun w' hS => ?_) ?_; rotate_left; (obtain ⟨X0, X1, X2, X3, Xf0, Xf1, Xf2, Xf3⟩ := row_four (row_call x hS); go_simp; try with_reducible rfl); simp only [Act.put, List.setIfInBounds_toArray, List.set_cons_zero, List.set_cons_succ])
  (refine plan_pure ?_ rfl rfl (fun w' => ?_) ?_; rotate_left; (go_simp; try with_reducible rfl); simp only [Act.put, List.setIfInBounds_toArray, List.set_cons_zero, List.set_cons_succ])
  (refine plan_pure ?_ rfl rfl (fun w' => ?_) ?_; rotate_left; (go_simp; try with_reducible rfl); simp only [Act.put, List.setIfInBounds_toArray, List.set_cons_zero, List.set_cons_succ])
  (refine plan_pure ?_ rfl rfl (fun w' => ?_) ?_; rotate_left; (go_simp; try with_reducible rfl); simp only [Act.put, List.setIfInBounds_toArray, List.set_cons_zero, List.set_cons_succ])
  (refine plan_pure ?_ rfl rfl (fun w' => ?_) ?_; rotate_left; (go_simp; try with_reducible rfl); simp only [Act.put, List.setIfInBounds_toArray, List.set_cons_zero, List.set_cons_succ])
  (refine plan_pure ?_ rfl rfl (fun w' => ?_) ?_; rotate_left; (go_simp; try with_reducible rfl); simp only [Act.put, List.setIfInBounds_toArray, List.set_cons_zero, List.set_cons_succ])
  refine plan_call (.int .i64 (p : Nat)) 31 #[.int .i64 p0, .int .i64 ((q : Int) + 1)] rfl rfl rfl (fun _ _ h hb => h.trans (hb.mono h.size)) (fun w' hS => by obtain ⟨X0, X1, X2, X3, Xf0, Xf1, Xf2, Xf3⟩ := row_four (row_call x hS); go_simp) (fun w' hS => PP.out w') ?_
  simp only [Act.put, List.setIfInBounds_toArray, List.set_cons_zero, List.set_cons_succ]
  (refine plan_pure ?_ rfl rfl (fun w' => ?_) ?_; rotate_left; (go_simp; try with_reducible rfl); simp only [Act.put, List.setIfInBounds_toArray, List.set_cons_zero, List.set_cons_succ])
  refine plan_call (.bool true) 33 #[.agg #[.int .i64 kk, .int .i64 300, .int .i64 (nv : Nat), .slice A2 m2 c2], .slice A1 nv c1, .int .i64 v, .int .i64 (p : Nat), .int .i64 (q : Nat)] rfl rfl rfl (fun _ _ h hb => h.trans (hb.mono h.size)) (fun w' hS => by obtain ⟨X0, X1, X2, X3, Xf0, Xf1, Xf2, Xf3⟩ := row_four (row_call x hS); go_simp) (fun w' hS => PS.out w' hS) ?_
  simp only [Act.put, List.setIfInBounds_toArray, List.set_cons_zero, List.set_cons_succ]
  (refine plan_pure ?_ rfl rfl (fun w' => ?_) ?_; rotate_left; (go_simp; try with_reducible rfl); simp only [Act.put, List.setIfInBounds_toArray, List.set_cons_zero, List.set_cons_succ])
  (refine plan_pure ?_ rfl rfl (fun w' => ?_) ?_; rotate_left; (go_simp; try with_reducible rfl); simp only [Act.put, List.setIfInBounds_toArray, List.set_cons_zero, List.set_cons_succ])
  refine plan_call (.bool true) 13 #[] rfl rfl rfl (fun _ _ h hb => h.trans (hb.mono h.size)) (fun w' hS => by obtain ⟨X0, X1, X2, X3, Xf0, Xf1, Xf2, Xf3⟩ := row_four (row_call x hS); go_simp) (fun w' hS => awake20 w') ?_
  simp only [Act.put, List.setIfInBounds_toArray, List.set_cons_zero, List.set_cons_succ]
  (refine plan_pure ?_ rfl rfl (fun w' => ?_) ?_; rotate_left; (go_simp; try with_reducible rfl); simp only [Act.put, List.setIfInBounds_toArray, List.set_cons_zero, List.set_cons_succ])
  refine plan_nil ?_
  intro w5 L5
  simp only [List.drop_succ_cons, List.drop_zero]
  try simp only [Act.put, List.setIfInBounds_toArray, List.set_cons_zero, List.set_cons_succ]
  have o5 := o3.trans (L5.mono o3.size)
  go_wp2
  go_ret
  exact ⟨rfl, o5⟩
end Go.Proofs.Ytdibjlphcmjnoaa
