/- Smooth histograms: the law of valid states, walked. -/
import Derived.Test.YthknkdjpfanlnaaSmE
set_option linter.unusedVariables false
set_option linter.unusedSimpArgs false
set_option linter.unusedSectionVars false
set_option linter.unnecessarySimpa false
namespace Go.Proofs.Ythknkdjpfanlnaa
open Go.RowKit
theorem few13_yes (A : Option Addr) (m c : Nat) (l : List Mk) (agg wd k cap now seq : Int) (w : World) (h : m ≤ 300) : Calls Try.prog 10 #[.agg #[.int .i64 agg, .int .i64 wd, .int .i64 k, .int .i64 cap, .int .i64 now, .int .i64 seq, .slice A m c]] w fun e w' => e = .returned (.bool true) ∧ Below w.heap.size w w' := by
  have i1 : (m : Int) ≤ 300 := by omega
  clear h
  go_enter Try.func10, Try.ntmps10
  go_wp2
  go_ret
  exact ⟨by first | rfl | exact ret_bool (by simp; omega), (Below.refl _ _).alloc (Nat.le_refl _) _⟩
theorem few13_no (A : Option Addr) (m c : Nat) (l : List Mk) (agg wd k cap now seq : Int) (w : World) (h : ¬ m ≤ 300) : Calls Try.prog 10 #[.agg #[.int .i64 agg, .int .i64 wd, .int .i64 k, .int .i64 cap, .int .i64 now, .int .i64 seq, .slice A m c]] w fun e w' => e = .returned (.bool false) ∧ Below w.heap.size w w' := by
  have i1 : ¬ (m : Int) ≤ 300 := by omega
  clear h
  go_enter Try.func10, Try.ntmps10
  go_wp2
  go_ret
  exact ⟨by first | rfl | exact ret_bool (by simp; omega), (Below.refl _ _).alloc (Nat.le_refl _) _⟩
theorem smoothValidate_no (A : Option Addr) (m c : Nat) (l : List Mk) (agg wd k cap now seq : Int) (w : World) (hm : ¬ m ≤ 300) : Calls Try.prog 3 #[.agg #[.int .i64 agg, .int .i64 wd, .int .i64 k, .int .i64 cap, .int .i64 now, .int .i64 seq, .slice A m c]] w fun e w' => e = .returned (.bool true) ∧ Below w.heap.size w w' := by
  go_enter Try.func3, Try.ntmps3
  go_wp2_with fail
  have X : Row (w.alloc (.cells #[.int .i64 agg, .int .i64 wd, .int .i64 k, .int .i64 cap, .int .i64 now, .int .i64 seq, .slice A m c] 24)) w.heap.size 24 #[.int .i64 agg, .int .i64 wd, .int .i64 k, .int .i64 cap, .int .i64 now, .int .i64 seq, .slice A m c] := row_new rfl
  have o : Below w.heap.size w (w.alloc (.cells #[.int .i64 agg, .int .i64 wd, .int .i64 k, .int .i64 cap, .int .i64 now, .int .i64 seq, .slice A m c] 24)) := by (repeat (first | exact Below.refl _ _ | refine Below.setCell ?_ (by first | (simp; done) | (simp; omega) | omega) _ | refine Below.alloc ?_ (by first | (simp; done) | (simp; omega) | omega) _ | refine Below.drew ?_ | refine Below.trans ?_ (Below.mono (by assumption) (by first | (simp; done) | (simp; omega) | omega))))
  generalize (w.alloc (.cells #[.int .i64 agg, .int .i64 wd, .int .i64 k, .int .i64 cap, .int .i64 now, .int .i64 seq, .slice A m c] 24)) = w0 at X o ⊢
  refine (few13_no A m c l agg wd k cap now seq w0 hm).mono ?_
  rintro e w1 ⟨rfl, hb1⟩
  replace X := row_call X hb1
  replace o := o.trans (hb1.mono o.size)
  clear hb1
  clear X hm
  go_wp2_with fail
  refine (awake13 _).mono ?_
  rintro e w2 ⟨rfl, hb2⟩
  replace o := o.trans (hb2.mono o.size)
  go_wp2
  go_ret
  exact ⟨rfl, o⟩
theorem smoothValidate (A : Option Addr) (m c : Nat) (l : List Mk) (agg wd k cap now seq : Int) (w : World) (hin : MIn A m c l w) (sB : I64 seq) : Calls Try.prog 3 #[.agg #[.int .i64 agg, .int .i64 wd, .int .i64 k, .int .i64 cap, .int .i64 now, .int .i64 seq, .slice A m c]] w fun e w' => e = .returned (.bool true) ∧ Below w.heap.size w w' := by
  by_cases hm : m ≤ 300
  · have VP := fun w' (hb : Below w.heap.size w w') => pvalS A m c l agg wd k cap now seq w' (hin.below hb) sB
    have VR := fun w' (hb : Below w.heap.size w w') => rvalS A m c l agg wd k cap now seq w' (hin.below hb) sB
    generalize smvalE agg wd k cap now seq l = ve at VP VR
    replace VP := Lib.hid VP
    replace VR := Lib.hid VR
    clear hin sB
    go_enter Try.func3, Try.ntmps3
    go_wp2_with fail
    have X : Row (w.alloc (.cells #[.int .i64 agg, .int .i64 wd, .int .i64 k, .int .i64 cap, .int .i64 now, .int .i64 seq, .slice A m c] 24)) w.heap.size 24 #[.int .i64 agg, .int .i64 wd, .int .i64 k, .int .i64 cap, .int .i64 now, .int .i64 seq, .slice A m c] := row_new rfl
    have o : Below w.heap.size w (w.alloc (.cells #[.int .i64 agg, .int .i64 wd, .int .i64 k, .int .i64 cap, .int .i64 now, .int .i64 seq, .slice A m c] 24)) := by (repeat (first | exact Below.refl _ _ | refine Below.setCell ?_ (by first | (simp; done) | (simp; omega) | omega) _ | refine Below.alloc ?_ (by first | (simp; done) | (simp; omega) | omega) _ | refine Below.drew ?_ | refine Below.trans ?_ (Below.mono (by assumption) (by first | (simp; done) | (simp; omega) | omega))))
    generalize (w.alloc (.cells #[.int .i64 agg, .int .i64 wd, .int .i64 k, .int .i64 cap, .int .i64 now, .int .i64 seq, .slice A m c] 24)) = w0 at X o ⊢
    refine (few13_yes A m c l agg wd k cap now seq w0 hm).mono ?_
    rintro e w1 ⟨rfl, hb1⟩
    replace X := row_call X hb1
    replace o := o.trans (hb1.mono o.size)
    clear hb1
    clear hm
    go_upto_region 3 with (fail)
    refine wp_region_free0 [0, 1, 2, 3, 4, 5, 6, 7] [] [0, 1, 2, 3, 4, 5, 6, 7] 8 (fun w' => Row w' (w.heap.size) 24 #[.int .i64 agg, .int .i64 wd, .int .i64 k, .int .i64 cap, .int .i64 now, .int .i64 seq, .slice A m c] ∧ Below w.heap.size w w') (by kernel_rfl) (by kernel_rfl) (fun _ _ d _ _ h => by cases d <;> exact h) ?_ ?_
    · exact ⟨X, o.drew⟩
    (refine plan_val ?_ rfl rfl rfl (fun w' hS => ?_) ?_; rotate_left; (obtain ⟨X0, X1, X2, X3, X4, X5, X6, Xf0, Xf1, Xf2, Xf3, Xf4, Xf5, Xf6⟩ := row_seven hS.1; go_simp; try with_reducible rfl); simp only [Act.put, List.setIfInBounds_toArray, List.set_cons_zero, List.set_cons_succ])
    refine plan_call (.int .i64 ve) 12 #[.agg #[.int .i64 agg, .int .i64 wd, .int .i64 k, .int .i64 cap, .int .i64 now, .int .i64 seq, .slice A m c]] rfl rfl rfl (fun _ _ h hb => ⟨row_call h.1 hb, h.2.trans (hb.mono h.2.size)⟩) (fun w' hS => by obtain ⟨X0, X1, X2, X3, X4, X5, X6, Xf0, Xf1, Xf2, Xf3, Xf4, Xf5, Xf6⟩ := row_seven hS.1; go_simp) (fun w' hS => VP.out w' hS.2) ?_
    simp only [Act.put, List.setIfInBounds_toArray, List.set_cons_zero, List.set_cons_succ]
    (refine plan_val ?_ rfl rfl rfl (fun w' hS => ?_) ?_; rotate_left; (obtain ⟨X0, X1, X2, X3, X4, X5, X6, Xf0, Xf1, Xf2, Xf3, Xf4, Xf5, Xf6⟩ := row_seven hS.1; go_simp; try with_reducible rfl); simp only [Act.put, List.setIfInBounds_toArray, List.set_cons_zero, List.set_cons_succ])
    refine plan_call (.int .i64 ve) 13 #[.agg #[.int .i64 agg, .int .i64 wd, .int .i64 k, .int .i64 cap, .int .i64 now, .int .i64 seq, .slice A m c]] rfl rfl rfl (fun _ _ h hb => ⟨row_call h.1 hb, h.2.trans (hb.mono h.2.size)⟩) (fun w' hS => by obtain ⟨X0, X1, X2, X3, X4, X5, X6, Xf0, Xf1, Xf2, Xf3, Xf4, Xf5, Xf6⟩ := row_seven hS.1; go_simp) (fun w' hS => VR.out w' hS.2) ?_
    simp only [Act.put, List.setIfInBounds_toArray, List.set_cons_zero, List.set_cons_succ]
    (refine plan_pure ?_ rfl rfl (fun w' => ?_) ?_; rotate_left; (go_simp; try with_reducible rfl); simp only [Act.put, List.setIfInBounds_toArray, List.set_cons_zero, List.set_cons_succ])
    (refine plan_pure ?_ rfl rfl (fun w' => ?_) ?_; rotate_left; (go_simp; try with_reducible rfl); simp only [Act.put, List.setIfInBounds_toArray, List.set_cons_zero, List.set_cons_succ])
    refine plan_call (.bool true) 11 #[] rfl rfl rfl (fun _ _ h hb => ⟨row_call h.1 hb, h.2.trans (hb.mono h.2.size)⟩) (fun w' hS => by obtain ⟨X0, X1, X2, X3, X4, X5, X6, Xf0, Xf1, Xf2, Xf3, Xf4, Xf5, Xf6⟩ := row_seven hS.1; go_simp) (fun w' hS => awake13 w') ?_
    simp only [Act.put, List.setIfInBounds_toArray, List.set_cons_zero, List.set_cons_succ]
    (refine plan_pure ?_ rfl rfl (fun w' => ?_) ?_; rotate_left; (go_simp; try with_reducible rfl); simp only [Act.put, List.setIfInBounds_toArray, List.set_cons_zero, List.set_cons_succ])
    refine plan_nil ?_
    intro w2 L
    simp only [List.drop_succ_cons, List.drop_zero]
    try simp only [Act.put, List.setIfInBounds_toArray, List.set_cons_zero, List.set_cons_succ]
    have o2 := L.2
    clear L X o
    go_wp2
    go_ret
    exact ⟨rfl, o2⟩
  · exact smoothValidate_no A m c l agg wd k cap now seq w hm
end Go.Proofs.Ythknkdjpfanlnaa
