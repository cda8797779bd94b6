/- Marks of smooth histograms: equal lists, walked. -/
import Derived.Test.YthknkdjpfanlnaaMkB
import Derived.Test.YthknkdjpfanlnaaFree
import Derived.Test.YthknkdjpfanlnaaOrder
set_option linter.unusedVariables false
set_option linter.unusedSimpArgs false
set_option linter.unusedSectionVars false
set_option linter.unnecessarySimpa false
namespace Go.Proofs.Ythknkdjpfanlnaa
open Go.RowKit
set_option maxHeartbeats 2000000 in
theorem rsamemk (A A' : Option Addr) (m c c' : Nat) (l : List Mk) (w : World) (h : MIn A m c l w) (h' : MIn A' m c' l w) : Calls Try.prog 49 #[.slice A m c, .slice A' m c'] w fun e w' => e = .returned (.bool true) ∧ Below w.heap.size w w' := by
  have HR := Lib.hid h
  have HR' := Lib.hid h'
  have hn := h.max
  clear h h'
  go_enter Try.func49, Try.ntmps49
  go_wp2
  go_loopw [13] (fun i wr => ∃ k : Nat, k ≤ m ∧ i = .int .i64 (k : Nat) ∧ Below w.heap.size w wr) (fun i _ => m - (intOf i).toNat)
  case atStart => exact ⟨0, by omega, rfl, Below.refl _ _⟩
  case round =>
    obtain ⟨k, hk, rfl, o⟩ := hrel
    by_cases hlt : k < m
    · obtain ⟨ad, rfl, hadb, mx⟩ := HR.out.reads.mk hlt
      obtain ⟨ad', rfl, hadb', my⟩ := HR'.out.reads.mk hlt
      generalize mkAt l k = x at mx my
      obtain ⟨sq, tk, n, s, q, lo, hi⟩ := x
      have MX := Lib.hid mx
      have MY := Lib.hid my
      have HAB : RowKit.Hid ((ad.add (k * 7)).block < w.heap.size) := Lib.hid (by rw [block_of_add]; exact hadb)
      have HAB' : RowKit.Hid ((ad'.add (k * 7)).block < w.heap.size) := Lib.hid (by rw [block_of_add]; exact hadb')
      have i1 : (k : Int) < (m : Int) := by omega
      have i2 : (0 : Int) ≤ (k : Int) := by omega
      clear mx my
      go_upto_region 6 with (fail)
      refine wp_region_free0 [0, 1, 2, 4, 5, 6, 3, 7] [] [0, 1, 2, 3, 4, 5, 6, 7] 8 (fun w' => Below wr.heap.size wr w') (by kernel_rfl) (by kernel_rfl) (fun _ _ d _ _ h => by cases d <;> exact h) ?_ ?_
      · exact (Below.refl _ _).drew
      (refine plan_pure ?_ rfl rfl (fun w' => ?_) ?_; rotate_left; (go_simp; try with_reducible rfl); simp only [Act.put, List.setIfInBounds_toArray, List.set_cons_zero, List.set_cons_succ])
      (refine plan_pure ?_ rfl rfl (fun w' => ?_) ?_; rotate_left; (go_simp; try with_reducible rfl); simp only [Act.put, List.setIfInBounds_toArray, List.set_cons_zero, List.set_cons_succ])
      (refine plan_pure ?_ rfl rfl (fun w' => ?_) ?_; rotate_left; (go_simp; try with_reducible rfl); simp only [Act.put, List.setIfInBounds_toArray, List.set_cons_zero, List.set_cons_succ])
      (refine plan_pure ?_ rfl rfl (fun w' => ?_) ?_; rotate_left; (go_simp; try with_reducible rfl); simp only [Act.put, List.setIfInBounds_toArray, List.set_cons_zero, List.set_cons_succ])
      (refine plan_pure ?_ rfl rfl (fun w' => ?_) ?_; rotate_left; (go_simp; try with_reducible rfl); simp only [Act.put, List.setIfInBounds_toArray, List.set_cons_zero, List.set_cons_succ])
      (refine plan_pure ?_ rfl rfl (fun w' => ?_) ?_; rotate_left; (go_simp; try with_reducible rfl); simp only [Act.put, List.setIfInBounds_toArray, List.set_cons_zero, List.set_cons_succ])
      (refine plan_val ?_ rfl rfl rfl (fun w' hS => ?_) ?_; rotate_left; (obtain ⟨p0, p1, p2, p3, p4, p5, p6⟩ := MX.out.below (o.trans (hS.mono o.size)) HAB.out; obtain ⟨q0, q1, q2, q3, q4, q5, q6⟩ := MY.out.below (o.trans (hS.mono o.size)) HAB'.out; dsimp only at p0 p1 p2 p3 p4 p5 p6 q0 q1 q2 q3 q4 q5 q6; go_simp; try with_reducible rfl); simp only [Act.put, List.setIfInBounds_toArray, List.set_cons_zero, List.set_cons_succ])
      (refine plan_val ?_ rfl rfl rfl (fun w' hS => ?_) ?_; rotate_left; (obtain ⟨p0, p1, p2, p3, p4, p5, p6⟩ := MX.out.below (o.trans (hS.mono o.size)) HAB.out; obtain ⟨q0, q1, q2, q3, q4, q5, q6⟩ := MY.out.below (o.trans (hS.mono o.size)) HAB'.out; dsimp only at p0 p1 p2 p3 p4 p5 p6 q0 q1 q2 q3 q4 q5 q6; go_simp; try with_reducible rfl); simp only [Act.put, List.setIfInBounds_toArray, List.set_cons_zero, List.set_cons_succ])
      refine plan_nil ?_
      intro w3 L3
      simp only [List.drop_succ_cons, List.drop_zero]
      try simp only [Act.put, List.setIfInBounds_toArray, List.set_cons_zero, List.set_cons_succ]
      replace o := o.trans (L3.mono o.size)
      clear L3
      go_wp2
      go_roundw
      case rel => exact ⟨k + 1, by omega, by go_num, o⟩
      case measure => simp [intOf]; omega
    · have i1 : ¬ (k : Int) < (m : Int) := by omega
      go_wp2
      go_ret
      exact ⟨rfl, o⟩
end Go.Proofs.Ythknkdjpfanlnaa
