/- What the law SpreadStates needs, joined of its texts by a program (slim.py); part 3. -/
import Derived.Test.YtaiepjcnncajcaaZSpreadStates2
section
/- Marks of smooth histograms: the reference's check, walked. -/
set_option linter.unusedVariables false
set_option linter.unusedSimpArgs false
set_option linter.unusedSectionVars false
set_option linter.unnecessarySimpa false
namespace Go.Proofs.Ytaiepjcnncajcaa
open Go.RowKit
theorem part_lo {n lo hi s q : Int} (hn : 0 ≤ n) (h : partP n lo hi s q) (hl : -4096 ≤ lo) (hh : hi ≤ 4096) : -n * 4096 ≤ s ∧ s ≤ n * 4096 := by
  obtain ⟨h1, h2, _⟩ := part_wide hn h hl hh
  omega
theorem rval9_0 (v : Int) (w : World)   (h : v < -4096) : Calls Try.prog 73 #[.int .i64 v] w fun e w' => e = .returned (.bool false) ∧ w' = w := by
  go_enter Try.func73, Try.ntmps73
  go_wp2_with fail
  go_ret
  exact ⟨by first | rfl | exact ret_bool (by simp; omega), rfl⟩
theorem rval9_1 (v : Int) (w : World)  (h0 : -4096 ≤ v) (h : 4096 < v) : Calls Try.prog 73 #[.int .i64 v] w fun e w' => e = .returned (.bool false) ∧ w' = w := by
  go_enter Try.func73, Try.ntmps73
  go_wp2_with fail
  go_ret
  exact ⟨by first | rfl | exact ret_bool (by simp; omega), rfl⟩
theorem rval9_2 (v : Int) (w : World)  (h0 : -4096 ≤ v) (h1 : v ≤ 4096) : Calls Try.prog 73 #[.int .i64 v] w fun e w' => e = .returned (.bool true) ∧ w' = w := by
  go_enter Try.func73, Try.ntmps73
  go_wp2_with fail
  go_ret
  exact ⟨by first | rfl | exact ret_bool (by simp; omega), rfl⟩
theorem rvalue_a (agg v : Int) (w : World) (h : v < -4096) : Calls Try.prog 101 #[.int .i64 agg, .int .i64 v] w fun e w' => e = .returned (.bool false) ∧ w' = w := by
  have P := Lib.hid (fun w => rval9_0 v w h)
  go_enter Try.func101, Try.ntmps101
  go_wp2_with (go_at_call 73; with_reducible refine (P.out _).mono ?_; rintro e w9 ⟨rfl, h9⟩; obtain rfl := h9.symm)
  go_ret
  exact ⟨by first | rfl | exact ret_bool (by simp; omega), rfl⟩
theorem rvalue_b (agg v : Int) (w : World) (h0 : -4096 ≤ v) (h : 4096 < v) : Calls Try.prog 101 #[.int .i64 agg, .int .i64 v] w fun e w' => e = .returned (.bool false) ∧ w' = w := by
  have P := Lib.hid (fun w => rval9_1 v w h0 h)
  go_enter Try.func101, Try.ntmps101
  go_wp2_with (go_at_call 73; with_reducible refine (P.out _).mono ?_; rintro e w9 ⟨rfl, h9⟩; obtain rfl := h9.symm)
  go_ret
  exact ⟨by first | rfl | exact ret_bool (by simp; omega), rfl⟩
theorem rvalue_c (agg v : Int) (w : World) (h0 : 0 ≤ v) (h1 : v ≤ 4096) : Calls Try.prog 101 #[.int .i64 agg, .int .i64 v] w fun e w' => e = .returned (.bool true) ∧ w' = w := by
  have P := Lib.hid (fun w => rval9_2 v w (by omega) h1)
  go_enter Try.func101, Try.ntmps101
  go_wp2_with (go_at_call 73; with_reducible refine (P.out _).mono ?_; rintro e w9 ⟨rfl, h9⟩; obtain rfl := h9.symm)
  go_ret
  exact ⟨by first | rfl | exact ret_bool (by simp; omega), rfl⟩
theorem rvalue_d (agg v : Int) (w : World) (h0 : -4096 ≤ v) (h1 : v < 0) (h : agg = 1) : Calls Try.prog 101 #[.int .i64 agg, .int .i64 v] w fun e w' => e = .returned (.bool true) ∧ w' = w := by
  have P := Lib.hid (fun w => rval9_2 v w h0 (by omega))
  subst h
  go_enter Try.func101, Try.ntmps101
  go_wp2_with (go_at_call 73; with_reducible refine (P.out _).mono ?_; rintro e w9 ⟨rfl, h9⟩; obtain rfl := h9.symm)
  go_ret
  exact ⟨by first | rfl | exact ret_bool (by simp; omega), rfl⟩
theorem rvalue_e (agg v : Int) (w : World) (h0 : -4096 ≤ v) (h1 : v < 0) (h : agg = 4) : Calls Try.prog 101 #[.int .i64 agg, .int .i64 v] w fun e w' => e = .returned (.bool true) ∧ w' = w := by
  have P := Lib.hid (fun w => rval9_2 v w h0 (by omega))
  subst h
  go_enter Try.func101, Try.ntmps101
  go_wp2_with (go_at_call 73; with_reducible refine (P.out _).mono ?_; rintro e w9 ⟨rfl, h9⟩; obtain rfl := h9.symm)
  go_ret
  exact ⟨by first | rfl | exact ret_bool (by simp; omega), rfl⟩
theorem rvalue_f (agg v : Int) (w : World) (h0 : -4096 ≤ v) (h1 : v < 0) (h : agg ≠ 1) (h2 : agg ≠ 4) : Calls Try.prog 101 #[.int .i64 agg, .int .i64 v] w fun e w' => e = .returned (.bool false) ∧ w' = w := by
  have P := Lib.hid (fun w => rval9_2 v w h0 (by omega))
  have b1 : (agg == 1) = false := by simpa using h
  have b2 : (agg == 4) = false := by simpa using h2
  go_enter Try.func101, Try.ntmps101
  go_wp2_with (go_at_call 73; with_reducible refine (P.out _).mono ?_; rintro e w9 ⟨rfl, h9⟩; obtain rfl := h9.symm)
  go_ret
  exact ⟨by first | rfl | exact ret_bool (by simp; omega), rfl⟩
theorem rvalue (agg v : Int) (w : World) (a0 : 1 ≤ agg) (a1 : agg ≤ 4) : Calls Try.prog 101 #[.int .i64 agg, .int .i64 v] w fun e w' => e = .returned (.bool (decide (leastV agg ≤ v ∧ v ≤ 4096))) ∧ w' = w := by
  by_cases h : v < -4096
  · rw [decide_eq_false (fun a => absurd a.1 (by have := leastV_ge agg; omega))]
    exact rvalue_a agg v w h
  · by_cases h1 : 4096 < v
    · rw [decide_eq_false (fun a => absurd a.2 (by omega))]
      exact rvalue_b agg v w (by omega) h1
    · by_cases h2 : 0 ≤ v
      · rw [decide_eq_true ⟨by have := leastV_le agg; omega, by omega⟩]
        exact rvalue_c agg v w h2 (by omega)
      · by_cases e1 : agg = 1
        · rw [decide_eq_true ⟨by subst e1; show (-4096 : Int) ≤ v; omega, by omega⟩]
          exact rvalue_d agg v w (by omega) (by omega) e1
        · by_cases e4 : agg = 4
          · rw [decide_eq_true ⟨by subst e4; show (-4096 : Int) ≤ v; omega, by omega⟩]
            exact rvalue_e agg v w (by omega) (by omega) e4
          · rw [decide_eq_false (fun a => absurd a.1 (by unfold leastV; rw [if_pos (by omega)]; omega))]
            exact rvalue_f agg v w (by omega) (by omega) e1 e4
set_option maxRecDepth 100000 in
theorem rmarks_a (A : Option Addr) (m c : Nat) (l : List Mk) (agg wd cap now seq : Int) (w : World) (h : seq < 0) : Calls Try.prog 67 #[.slice A m c, .int .i64 agg, .int .i64 wd, .int .i64 cap, .int .i64 now, .int .i64 seq] w fun e w' => e = .returned (.bool (decide (mvalid l seq cap now wd (leastV agg)))) ∧ Below w.heap.size w w' := by
  have E := Lib.hid (show decide (mvalid l seq cap now wd (leastV agg)) = false from decide_eq_false (fun a => absurd a.1 (by omega)))
  go_enter Try.func67, Try.ntmps67
  go_wp2
  go_ret
  exact ⟨ret_bool E.out.symm, Below.refl _ _⟩
set_option maxRecDepth 100000 in
theorem rmarks_b (A : Option Addr) (m c : Nat) (l : List Mk) (agg wd cap now seq : Int) (w : World) (h0 : 0 ≤ seq) (h : 1099511627776 < seq) : Calls Try.prog 67 #[.slice A m c, .int .i64 agg, .int .i64 wd, .int .i64 cap, .int .i64 now, .int .i64 seq] w fun e w' => e = .returned (.bool (decide (mvalid l seq cap now wd (leastV agg)))) ∧ Below w.heap.size w w' := by
  have E := Lib.hid (show decide (mvalid l seq cap now wd (leastV agg)) = false from decide_eq_false (fun a => absurd a.2.1 (by omega)))
  go_enter Try.func67, Try.ntmps67
  go_wp2
  go_ret
  exact ⟨ret_bool E.out.symm, Below.refl _ _⟩
set_option maxRecDepth 100000 in
set_option maxHeartbeats 16000000 in
theorem rmarks_one (A : Option Addr) (c : Nat) (l : List Mk) (agg wd cap now seq : Int) (w : World) (hin : MIn A 1 c l w) (a0 : 1 ≤ agg) (a1 : agg ≤ 4) (sB : I64 seq) (c0 : 1 ≤ cap) (c1 : cap ≤ 65536) (n0 : 0 ≤ now) (n1 : now ≤ 16777216) (d0 : 1 ≤ wd) (d1 : wd ≤ 1048576) (s0 : 0 ≤ seq) (s1 : seq ≤ 1099511627776) : Calls Try.prog 67 #[.slice A 1 c, .int .i64 agg, .int .i64 wd, .int .i64 cap, .int .i64 now, .int .i64 seq] w fun e w' => e = .returned (.bool (decide (mvalid l seq cap now wd (leastV agg)))) ∧ Below w.heap.size w w' := by
  have HR := Lib.hid hin
  have HL := Lib.hid hin.len
  have mB := hin.max
  have t0 : ¬ seq < 0 := by omega
  have t1 : ¬ 1099511627776 < seq := by omega
  obtain ⟨least, hl⟩ : ∃ x, x = leastV agg := ⟨_, rfl⟩
  have e0 : -4096 ≤ least := by rw [hl]; exact leastV_ge agg
  rw [← hl]
  have LEQ := Lib.hid hl
  clear hin sB hl
  go_enter Try.func67, Try.ntmps67
  go_wp2
  clear t0 t1
  go_loopw [24] (fun i wr => ∃ j : Nat, j ≤ 1 ∧ i = .int .i64 (j : Nat) ∧ RowKit.Hid (∀ e, e < j → atP l seq cap now wd least e) ∧ RowKit.Hid (j = 1 → j ≠ 0 → lastP seq (mkAt l (j - 1))) ∧ Below w.heap.size w wr) (fun i _ => 1 - (intOf i).toNat)
  case atStart => exact ⟨0, by omega, rfl, Lib.hid (fun e h => absurd h (by omega)), Lib.hid (fun _ h => absurd rfl h), Below.refl _ _⟩
  case round =>
    obtain ⟨j, hj, rfl, HA, HZ, o⟩ := hrel
    by_cases hlt : j < 1
    · obtain rfl : j = 0 := by omega
      obtain ⟨ad, rfl, hadb, ht0⟩ := HR.out.reads.mk hlt
      have ht0 : MkCells w ad (mkAt l 0) := ht0
      have hB := HR.out.mB 0
      generalize hM : mkAt l 0 = mj at ht0 hB
      obtain ⟨sq, tk, n, s, q, lo, hi⟩ := mj
      obtain ⟨q0, q1, q2, q3, q4, q5, q6⟩ := ht0.below o hadb
      have AT := Lib.hid (at_flat (seq := seq) (cap := cap) (now := now) (wd := wd) (least := least) hM)
      have HM := Lib.hid hM
      obtain ⟨hB0, hB1, hB2, hB3, hB4, hB5, hB6⟩ := hB
      unfold I64 at hB0 hB1 hB2 hB3 hB4 hB5 hB6
      dsimp only at q0 q1 q2 q3 q4 q5 q6 hB0 hB1 hB2 hB3 hB4 hB5 hB6
      clear hM ht0
      have i1 : (0 : Int) < 1 := by omega
      go_upto_region 6 with (fail)
      have K : Row (wr.alloc (.cells #[.int .i64 sq, .int .i64 tk, .int .i64 n, .int .i64 s, .int .i64 q, .int .i64 lo, .int .i64 hi] 33)) wr.heap.size 33 #[.int .i64 sq, .int .i64 tk, .int .i64 n, .int .i64 s, .int .i64 q, .int .i64 lo, .int .i64 hi] := row_new rfl
      have z0 := o.size
      replace o := o.alloc o.size (.cells #[.int .i64 sq, .int .i64 tk, .int .i64 n, .int .i64 s, .int .i64 q, .int .i64 lo, .int .i64 hi] 33)
      generalize (wr.alloc (.cells #[.int .i64 sq, .int .i64 tk, .int .i64 n, .int .i64 s, .int .i64 q, .int .i64 lo, .int .i64 hi] 33)) = w3 at K o ⊢
      generalize wr.heap.size = mb at K z0 ⊢
      clear q0 q1 q2 q3 q4 q5 q6
      obtain ⟨K0, K1, K2, K3, K4, K5, K6, Kf0, Kf1, Kf2, Kf3, Kf4, Kf5, Kf6⟩ := row_seven K
      by_cases x0 : sq < 1
      · skip
        have E := Lib.hid (mvalid_bad (l := l) (seq := seq) (cap := cap) (now := now) (wd := wd) (least := least) (i := 0) (by rw [HL.out]; exact hlt) (fun a => absurd (AT.out.1 a).1.1 (by omega)))
        have e0 : decide (sq < 1) = true := decide_eq_true (by omega)
        refine wp_region_quiet_lit (by as_aux_lemma => kernel_rfl) (by as_aux_lemma => kernel_rfl) ?_
        repeat (go_big_quiet_step (fail))
        refine wpQuiet_nil ?_
        intro _ hw'
        obtain ⟨nq, hw''⟩ := hw'
        subst hw''
        replace o := o.trans (⟨rfl, rfl, rfl, Nat.le_refl _, fun _ _ => rfl⟩ : Below _ w3 (w3.drewN nq))
        generalize w3.drewN nq = w4 at  o ⊢
        go_wp2_with fail
        go_ret
        exact ⟨ret_bool E.out.symm, o⟩
      · skip
        by_cases x1 : seq < sq
        · skip
          have E := Lib.hid (mvalid_bad (l := l) (seq := seq) (cap := cap) (now := now) (wd := wd) (least := least) (i := 0) (by rw [HL.out]; exact hlt) (fun a => absurd (AT.out.1 a).1.2.1 (by omega)))
          have e0 : decide (sq < 1) = false := decide_eq_false (by omega)
          have e1 : decide (seq < sq) = true := decide_eq_true (by omega)
          refine wp_region_quiet_lit (by as_aux_lemma => kernel_rfl) (by as_aux_lemma => kernel_rfl) ?_
          repeat (go_big_quiet_step (fail))
          refine wpQuiet_nil ?_
          intro _ hw'
          obtain ⟨nq, hw''⟩ := hw'
          subst hw''
          replace o := o.trans (⟨rfl, rfl, rfl, Nat.le_refl _, fun _ _ => rfl⟩ : Below _ w3 (w3.drewN nq))
          generalize w3.drewN nq = w4 at  o ⊢
          go_wp2_with fail
          go_ret
          exact ⟨ret_bool E.out.symm, o⟩
        · skip
          by_cases x2 : n ≠ seq - sq + 1
          · skip
            have E := Lib.hid (mvalid_bad (l := l) (seq := seq) (cap := cap) (now := now) (wd := wd) (least := least) (i := 0) (by rw [HL.out]; exact hlt) (fun a => absurd (AT.out.1 a).1.2.2.1 (by omega)))
            have wn1 : IntKind.i64.wrap (seq - sq) = seq - sq := IntWalk.i64_in _ (by omega)
            have wn2 : IntKind.i64.wrap (seq - sq + 1) = seq - sq + 1 := IntWalk.i64_in _ (by omega)
            have e0 : decide (sq < 1) = false := decide_eq_false (by omega)
            have e1 : decide (seq < sq) = false := decide_eq_false (by omega)
            have e2 : (n != seq - sq + 1) = true := by simpa using x2
            refine wp_region_quiet_lit (by as_aux_lemma => kernel_rfl) (by as_aux_lemma => kernel_rfl) ?_
            repeat (go_big_quiet_step (fail))
            refine wpQuiet_nil ?_
            intro _ hw'
            obtain ⟨nq, hw''⟩ := hw'
            subst hw''
            replace o := o.trans (⟨rfl, rfl, rfl, Nat.le_refl _, fun _ _ => rfl⟩ : Below _ w3 (w3.drewN nq))
            generalize w3.drewN nq = w4 at  o ⊢
            go_wp2_with fail
            go_ret
            exact ⟨ret_bool E.out.symm, o⟩
          · skip
            by_cases x3 : cap < n
            · skip
              have E := Lib.hid (mvalid_bad (l := l) (seq := seq) (cap := cap) (now := now) (wd := wd) (least := least) (i := 0) (by rw [HL.out]; exact hlt) (fun a => absurd (AT.out.1 a).1.2.2.2.1 (by omega)))
              have wn1 : IntKind.i64.wrap (seq - sq) = seq - sq := IntWalk.i64_in _ (by omega)
              have wn2 : IntKind.i64.wrap (seq - sq + 1) = seq - sq + 1 := IntWalk.i64_in _ (by omega)
              have e0 : decide (sq < 1) = false := decide_eq_false (by omega)
              have e1 : decide (seq < sq) = false := decide_eq_false (by omega)
              have e2 : (n != seq - sq + 1) = false := by simp; omega
              have e3 : decide (cap < n) = true := decide_eq_true (by omega)
              refine wp_region_quiet_lit (by as_aux_lemma => kernel_rfl) (by as_aux_lemma => kernel_rfl) ?_
              repeat (go_big_quiet_step (fail))
              refine wpQuiet_nil ?_
              intro _ hw'
              obtain ⟨nq, hw''⟩ := hw'
              subst hw''
              replace o := o.trans (⟨rfl, rfl, rfl, Nat.le_refl _, fun _ _ => rfl⟩ : Below _ w3 (w3.drewN nq))
              generalize w3.drewN nq = w4 at  o ⊢
              go_wp2_with fail
              go_ret
              exact ⟨ret_bool E.out.symm, o⟩
            · skip
              have wn1 : IntKind.i64.wrap (seq - sq) = seq - sq := IntWalk.i64_in _ (by omega)
              have wn2 : IntKind.i64.wrap (seq - sq + 1) = seq - sq + 1 := IntWalk.i64_in _ (by omega)
              have e0 : decide (sq < 1) = false := decide_eq_false (by omega)
              have e1 : decide (seq < sq) = false := decide_eq_false (by omega)
              have e2 : (n != seq - sq + 1) = false := by simp; omega
              have e3 : decide (cap < n) = false := decide_eq_false (by omega)
              refine wp_region_quiet_lit (by as_aux_lemma => kernel_rfl) (by as_aux_lemma => kernel_rfl) ?_
              repeat (go_big_quiet_step (fail))
              refine wpQuiet_nil ?_
              intro _ hw'
              obtain ⟨nq, hw''⟩ := hw'
              subst hw''
              replace K : Row (w3.drewN nq) mb 33 #[.int .i64 sq, .int .i64 tk, .int .i64 n, .int .i64 s, .int .i64 q, .int .i64 lo, .int .i64 hi] := K
              replace o := o.trans (⟨rfl, rfl, rfl, Nat.le_refl _, fun _ _ => rfl⟩ : Below _ w3 (w3.drewN nq))
              generalize w3.drewN nq = w4 at K o ⊢
              have x2a : n + sq ≤ seq + 1 := by omega
              have x2b : seq + 1 ≤ n + sq := by omega
              clear wn1 wn2 x2 e0 e1 e2 e3 K0 K1 K2 K3 K4 K5 K6 Kf0 Kf1 Kf2 Kf3 Kf4 Kf5 Kf6
              go_upto_region 8 with (fail)
              obtain ⟨K0, K1, K2, K3, K4, K5, K6, Kf0, Kf1, Kf2, Kf3, Kf4, Kf5, Kf6⟩ := row_seven K
              have PT := fun w => rtick tk w
              have PL := fun (w : World) (h0 : 0 ≤ tk) (h1 : tk ≤ now) => rlive now wd tk w n0 n1 d0 d1 h0 h1
              by_cases y0 : ¬ (0 ≤ tk ∧ tk ≤ 16777216)
              · skip
                have E := Lib.hid (mvalid_bad (l := l) (seq := seq) (cap := cap) (now := now) (wd := wd) (least := least) (i := 0) (by rw [HL.out]; exact hlt) (fun a => absurd (AT.out.1 a).1.2.2.2.2 (by omega)))
                rw [decide_eq_false y0] at PT
                replace PT := Lib.hid PT
                refine wp_region_quiet_lit (by as_aux_lemma => kernel_rfl) (by as_aux_lemma => kernel_rfl) ?_
                repeat (go_big_quiet_step ((go_at_call 83; exact Calls.quiet_of_same (PT.out _))))
                refine wpQuiet_nil ?_
                intro _ hw'
                obtain ⟨nq, hw''⟩ := hw'
                subst hw''
                replace o := o.trans (⟨rfl, rfl, rfl, Nat.le_refl _, fun _ _ => rfl⟩ : Below _ w4 (w4.drewN nq))
                generalize w4.drewN nq = w5 at  o ⊢
                go_wp2_with fail
                go_ret
                exact ⟨ret_bool E.out.symm, o⟩
              · skip
                replace y0 : 0 ≤ tk ∧ tk ≤ 16777216 := Decidable.not_not.1 y0
                rw [decide_eq_true y0] at PT
                replace PT := Lib.hid PT
                obtain ⟨y0, y0b⟩ := y0
                by_cases y1 : now < tk
                · skip
                  have E := Lib.hid (mvalid_bad (l := l) (seq := seq) (cap := cap) (now := now) (wd := wd) (least := least) (i := 0) (by rw [HL.out]; exact hlt) (fun a => absurd (AT.out.1 a).1.2.2.2.2.2 (by omega)))
                  have e1 : decide (now < tk) = true := decide_eq_true (by omega)
                  refine wp_region_quiet_lit (by as_aux_lemma => kernel_rfl) (by as_aux_lemma => kernel_rfl) ?_
                  repeat (go_big_quiet_step ((go_at_call 83; exact Calls.quiet_of_same (PT.out _))))
                  refine wpQuiet_nil ?_
                  intro _ hw'
                  obtain ⟨nq, hw''⟩ := hw'
                  subst hw''
                  replace o := o.trans (⟨rfl, rfl, rfl, Nat.le_refl _, fun _ _ => rfl⟩ : Below _ w4 (w4.drewN nq))
                  generalize w4.drewN nq = w5 at  o ⊢
                  go_wp2_with fail
                  go_ret
                  exact ⟨ret_bool E.out.symm, o⟩
                · skip
                  have e1 : decide (now < tk) = false := decide_eq_false (by omega)
                  replace PL := fun w => PL w (by omega) (by omega)
                  by_cases y3 : ¬ now - wd < tk
                  · skip
                    have E := Lib.hid (mvalid_bad (l := l) (seq := seq) (cap := cap) (now := now) (wd := wd) (least := least) (i := 0) (by rw [HL.out]; exact hlt) (fun a => y3 ((AT.out.1 a).2.2.1 (.inr HL.out))))
                    rw [decide_eq_false y3] at PL
                    replace PL := Lib.hid PL
                    refine wp_region_quiet_lit (by as_aux_lemma => kernel_rfl) (by as_aux_lemma => kernel_rfl) ?_
                    repeat (go_big_quiet_step ((first | (go_at_call 83; exact Calls.quiet_of_same (PT.out _)) | (go_at_call 79; exact Calls.quiet_of_same (PL.out _)))))
                    refine wpQuiet_nil ?_
                    intro _ hw'
                    obtain ⟨nq, hw''⟩ := hw'
                    subst hw''
                    replace o := o.trans (⟨rfl, rfl, rfl, Nat.le_refl _, fun _ _ => rfl⟩ : Below _ w4 (w4.drewN nq))
                    generalize w4.drewN nq = w5 at  o ⊢
                    go_wp2_with fail
                    go_ret
                    exact ⟨ret_bool E.out.symm, o⟩
                  · skip
                    replace y3 : now - wd < tk := Decidable.not_not.1 y3
                    rw [decide_eq_true y3] at PL
                    replace PL := Lib.hid PL
                    have LV := Lib.hid y3
                    clear y3
                    refine wp_region_quiet_lit (by as_aux_lemma => kernel_rfl) (by as_aux_lemma => kernel_rfl) ?_
                    repeat (go_big_quiet_step ((first | (go_at_call 83; exact Calls.quiet_of_same (PT.out _)) | (go_at_call 79; exact Calls.quiet_of_same (PL.out _)))))
                    refine wpQuiet_nil ?_
                    intro _ hw'
                    obtain ⟨nq, hw''⟩ := hw'
                    subst hw''
                    replace K : Row (w4.drewN nq) mb 33 #[.int .i64 sq, .int .i64 tk, .int .i64 n, .int .i64 s, .int .i64 q, .int .i64 lo, .int .i64 hi] := K
                    replace o := o.trans (⟨rfl, rfl, rfl, Nat.le_refl _, fun _ _ => rfl⟩ : Below _ w4 (w4.drewN nq))
                    generalize w4.drewN nq = w5 at K o ⊢
                    clear PT PL
                    clear e1 K0 K1 K2 K3 K4 K5 K6 Kf0 Kf1 Kf2 Kf3 Kf4 Kf5 Kf6
                    go_upto_region 10 with (fail)
                    obtain ⟨K0, K1, K2, K3, K4, K5, K6, Kf0, Kf1, Kf2, Kf3, Kf4, Kf5, Kf6⟩ := row_seven K
                    have PV1 := fun w => rvalue agg lo w a0 a1
                    have PV2 := fun w => rvalue agg hi w a0 a1
                    have LE := LEQ.out
                    by_cases v0 : ¬ (leastV agg ≤ lo ∧ lo ≤ 4096)
                    · skip
                      have E := Lib.hid (mvalid_bad (l := l) (seq := seq) (cap := cap) (now := now) (wd := wd) (least := least) (i := 0) (by rw [HL.out]; exact hlt) (fun a => v0 (by have h := (AT.out.1 a).2.1; have h1 := h.1; have h2 := h.2.1; have h3 := h.2.2.1; omega)))
                      rw [decide_eq_false v0] at PV1
                      replace PV1 := Lib.hid PV1
                      clear LE v0
                      refine wp_region_quietF ?_
                      repeat (go_big_quiet_step ((go_at_call 101; with_reducible exact Calls.quiet_of_same (PV1.out _))))
                      refine wpQuiet_nil ?_
                      intro _ hw'
                      obtain ⟨nq, hw''⟩ := hw'
                      subst hw''
                      replace o := o.trans (⟨rfl, rfl, rfl, Nat.le_refl _, fun _ _ => rfl⟩ : Below _ w5 (w5.drewN nq))
                      generalize w5.drewN nq = w6 at  o ⊢
                      go_wp2_with fail
                      go_ret
                      exact ⟨ret_bool E.out.symm, o⟩
                    · skip
                      replace v0 := Decidable.not_not.1 v0
                      rw [decide_eq_true v0] at PV1
                      replace PV1 := Lib.hid PV1
                      by_cases v1 : ¬ (leastV agg ≤ hi ∧ hi ≤ 4096)
                      · skip
                        have E := Lib.hid (mvalid_bad (l := l) (seq := seq) (cap := cap) (now := now) (wd := wd) (least := least) (i := 0) (by rw [HL.out]; exact hlt) (fun a => v1 (by have h := (AT.out.1 a).2.1; have h1 := h.1; have h2 := h.2.1; have h3 := h.2.2.1; omega)))
                        rw [decide_eq_false v1] at PV2
                        replace PV2 := Lib.hid PV2
                        clear LE v0 v1
                        refine wp_region_quietF ?_
                        repeat (go_big_quiet_step ((first | (go_at_call 101; with_reducible exact Calls.quiet_of_same (PV1.out _)) | (go_at_call 101; with_reducible exact Calls.quiet_of_same (PV2.out _)))))
                        refine wpQuiet_nil ?_
                        intro _ hw'
                        obtain ⟨nq, hw''⟩ := hw'
                        subst hw''
                        replace o := o.trans (⟨rfl, rfl, rfl, Nat.le_refl _, fun _ _ => rfl⟩ : Below _ w5 (w5.drewN nq))
                        generalize w5.drewN nq = w6 at  o ⊢
                        go_wp2_with fail
                        go_ret
                        exact ⟨ret_bool E.out.symm, o⟩
                      · skip
                        replace v1 := Decidable.not_not.1 v1
                        rw [decide_eq_true v1] at PV2
                        replace PV2 := Lib.hid PV2
                        have lo0 : least ≤ lo := by omega
                        have lo1 : -4096 ≤ lo := by omega
                        have lo2 : lo ≤ 4096 := v0.2
                        have hi1 : -4096 ≤ hi := by omega
                        have hi2 : hi ≤ 4096 := v1.2
                        clear LE v0 v1
                        by_cases u0 : hi < lo
                        · skip
                          have E := Lib.hid (mvalid_bad (l := l) (seq := seq) (cap := cap) (now := now) (wd := wd) (least := least) (i := 0) (by rw [HL.out]; exact hlt) (fun a => absurd (AT.out.1 a).2.1.2.2.1 (by omega)))
                          have e0 : decide (hi < lo) = true := decide_eq_true (by omega)
                          refine wp_region_quietF ?_
                          repeat (go_big_quiet_step ((first | (go_at_call 101; with_reducible exact Calls.quiet_of_same (PV1.out _)) | (go_at_call 101; with_reducible exact Calls.quiet_of_same (PV2.out _)))))
                          refine wpQuiet_nil ?_
                          intro _ hw'
                          obtain ⟨nq, hw''⟩ := hw'
                          subst hw''
                          replace o := o.trans (⟨rfl, rfl, rfl, Nat.le_refl _, fun _ _ => rfl⟩ : Below _ w5 (w5.drewN nq))
                          generalize w5.drewN nq = w6 at  o ⊢
                          go_wp2_with fail
                          go_ret
                          exact ⟨ret_bool E.out.symm, o⟩
                        · skip
                          by_cases u1 : s < -n * 4096
                          · skip
                            have E := Lib.hid (mvalid_bad (l := l) (seq := seq) (cap := cap) (now := now) (wd := wd) (least := least) (i := 0) (by rw [HL.out]; exact hlt) (fun a => absurd (part_lo (by omega) (AT.out.1 a).2.1.2.2.2 lo1 hi2).1 (by omega)))
                            have e0 : decide (hi < lo) = false := decide_eq_false (by omega)
                            have e1 : decide (s < -n * 4096) = true := decide_eq_true (by omega)
                            have wn : IntKind.i64.wrap (-n) = -n := IntWalk.i64_in _ (by omega)
                            have wnm : IntKind.i64.wrap (-n * 4096) = -n * 4096 := IntWalk.i64_in _ (by omega)
                            have wn2 : IntKind.i64.wrap (n * 4096) = n * 4096 := IntWalk.i64_in _ (by omega)
                            have wn3 : IntKind.i64.wrap (n * 4096 * 4096) = n * 4096 * 4096 := IntWalk.i64_in _ (by omega)
                            refine wp_region_quietF ?_
                            repeat (go_big_quiet_step ((first | (go_at_call 101; with_reducible exact Calls.quiet_of_same (PV1.out _)) | (go_at_call 101; with_reducible exact Calls.quiet_of_same (PV2.out _)))))
                            refine wpQuiet_nil ?_
                            intro _ hw'
                            obtain ⟨nq, hw''⟩ := hw'
                            subst hw''
                            replace o := o.trans (⟨rfl, rfl, rfl, Nat.le_refl _, fun _ _ => rfl⟩ : Below _ w5 (w5.drewN nq))
                            generalize w5.drewN nq = w6 at  o ⊢
                            go_wp2_with fail
                            go_ret
                            exact ⟨ret_bool E.out.symm, o⟩
                          · skip
                            by_cases u2 : n * 4096 < s
                            · skip
                              have E := Lib.hid (mvalid_bad (l := l) (seq := seq) (cap := cap) (now := now) (wd := wd) (least := least) (i := 0) (by rw [HL.out]; exact hlt) (fun a => absurd (part_lo (by omega) (AT.out.1 a).2.1.2.2.2 lo1 hi2).2 (by omega)))
                              have e0 : decide (hi < lo) = false := decide_eq_false (by omega)
                              have e1 : decide (s < -n * 4096) = false := decide_eq_false (by omega)
                              have e2 : decide (n * 4096 < s) = true := decide_eq_true (by omega)
                              have wn : IntKind.i64.wrap (-n) = -n := IntWalk.i64_in _ (by omega)
                              have wnm : IntKind.i64.wrap (-n * 4096) = -n * 4096 := IntWalk.i64_in _ (by omega)
                              have wn2 : IntKind.i64.wrap (n * 4096) = n * 4096 := IntWalk.i64_in _ (by omega)
                              have wn3 : IntKind.i64.wrap (n * 4096 * 4096) = n * 4096 * 4096 := IntWalk.i64_in _ (by omega)
                              refine wp_region_quietF ?_
                              repeat (go_big_quiet_step ((first | (go_at_call 101; with_reducible exact Calls.quiet_of_same (PV1.out _)) | (go_at_call 101; with_reducible exact Calls.quiet_of_same (PV2.out _)))))
                              refine wpQuiet_nil ?_
                              intro _ hw'
                              obtain ⟨nq, hw''⟩ := hw'
                              subst hw''
                              replace o := o.trans (⟨rfl, rfl, rfl, Nat.le_refl _, fun _ _ => rfl⟩ : Below _ w5 (w5.drewN nq))
                              generalize w5.drewN nq = w6 at  o ⊢
                              go_wp2_with fail
                              go_ret
                              exact ⟨ret_bool E.out.symm, o⟩
                            · skip
                              by_cases u3 : q < 0
                              · skip
                                have E := Lib.hid (mvalid_bad (l := l) (seq := seq) (cap := cap) (now := now) (wd := wd) (least := least) (i := 0) (by rw [HL.out]; exact hlt) (fun a => absurd (AT.out.1 a).2.1.2.2.2.2.2.1 (by omega)))
                                have e0 : decide (hi < lo) = false := decide_eq_false (by omega)
                                have e1 : decide (s < -n * 4096) = false := decide_eq_false (by omega)
                                have e2 : decide (n * 4096 < s) = false := decide_eq_false (by omega)
                                have e3 : decide (q < 0) = true := decide_eq_true (by omega)
                                have wn : IntKind.i64.wrap (-n) = -n := IntWalk.i64_in _ (by omega)
                                have wnm : IntKind.i64.wrap (-n * 4096) = -n * 4096 := IntWalk.i64_in _ (by omega)
                                have wn2 : IntKind.i64.wrap (n * 4096) = n * 4096 := IntWalk.i64_in _ (by omega)
                                have wn3 : IntKind.i64.wrap (n * 4096 * 4096) = n * 4096 * 4096 := IntWalk.i64_in _ (by omega)
                                refine wp_region_quietF ?_
                                repeat (go_big_quiet_step ((first | (go_at_call 101; with_reducible exact Calls.quiet_of_same (PV1.out _)) | (go_at_call 101; with_reducible exact Calls.quiet_of_same (PV2.out _)))))
                                refine wpQuiet_nil ?_
                                intro _ hw'
                                obtain ⟨nq, hw''⟩ := hw'
                                subst hw''
                                replace o := o.trans (⟨rfl, rfl, rfl, Nat.le_refl _, fun _ _ => rfl⟩ : Below _ w5 (w5.drewN nq))
                                generalize w5.drewN nq = w6 at  o ⊢
                                go_wp2_with fail
                                go_ret
                                exact ⟨ret_bool E.out.symm, o⟩
                              · skip
                                by_cases u4 : n * 4096 * 4096 < q
                                · skip
                                  have E := Lib.hid (mvalid_bad (l := l) (seq := seq) (cap := cap) (now := now) (wd := wd) (least := least) (i := 0) (by rw [HL.out]; exact hlt) (fun a => absurd (AT.out.1 a).2.1.2.2.2.2.2.2.1 (by omega)))
                                  have e0 : decide (hi < lo) = false := decide_eq_false (by omega)
                                  have e1 : decide (s < -n * 4096) = false := decide_eq_false (by omega)
                                  have e2 : decide (n * 4096 < s) = false := decide_eq_false (by omega)
                                  have e3 : decide (q < 0) = false := decide_eq_false (by omega)
                                  have e4 : decide (n * 4096 * 4096 < q) = true := decide_eq_true (by omega)
                                  have wn : IntKind.i64.wrap (-n) = -n := IntWalk.i64_in _ (by omega)
                                  have wnm : IntKind.i64.wrap (-n * 4096) = -n * 4096 := IntWalk.i64_in _ (by omega)
                                  have wn2 : IntKind.i64.wrap (n * 4096) = n * 4096 := IntWalk.i64_in _ (by omega)
                                  have wn3 : IntKind.i64.wrap (n * 4096 * 4096) = n * 4096 * 4096 := IntWalk.i64_in _ (by omega)
                                  refine wp_region_quietF ?_
                                  repeat (go_big_quiet_step ((first | (go_at_call 101; with_reducible exact Calls.quiet_of_same (PV1.out _)) | (go_at_call 101; with_reducible exact Calls.quiet_of_same (PV2.out _)))))
                                  refine wpQuiet_nil ?_
                                  intro _ hw'
                                  obtain ⟨nq, hw''⟩ := hw'
                                  subst hw''
                                  replace o := o.trans (⟨rfl, rfl, rfl, Nat.le_refl _, fun _ _ => rfl⟩ : Below _ w5 (w5.drewN nq))
                                  generalize w5.drewN nq = w6 at  o ⊢
                                  go_wp2_with fail
                                  go_ret
                                  exact ⟨ret_bool E.out.symm, o⟩
                                · skip
                                  have PF := fun w => rpartP n lo hi s q w (by omega) (by omega) lo1 lo2 hi1 hi2
                                  by_cases u5 : ¬ partP n lo hi s q
                                  · skip
                                    have E := Lib.hid (mvalid_bad (l := l) (seq := seq) (cap := cap) (now := now) (wd := wd) (least := least) (i := 0) (by rw [HL.out]; exact hlt) (fun a => u5 (AT.out.1 a).2.1.2.2.2))
                                    have e0 : decide (hi < lo) = false := decide_eq_false (by omega)
                                    have e1 : decide (s < -n * 4096) = false := decide_eq_false (by omega)
                                    have e2 : decide (n * 4096 < s) = false := decide_eq_false (by omega)
                                    have e3 : decide (q < 0) = false := decide_eq_false (by omega)
                                    have e4 : decide (n * 4096 * 4096 < q) = false := decide_eq_false (by omega)
                                    have wn : IntKind.i64.wrap (-n) = -n := IntWalk.i64_in _ (by omega)
                                    have wnm : IntKind.i64.wrap (-n * 4096) = -n * 4096 := IntWalk.i64_in _ (by omega)
                                    have wn2 : IntKind.i64.wrap (n * 4096) = n * 4096 := IntWalk.i64_in _ (by omega)
                                    have wn3 : IntKind.i64.wrap (n * 4096 * 4096) = n * 4096 * 4096 := IntWalk.i64_in _ (by omega)
                                    rw [decide_eq_false u5] at PF
                                    replace PF := Lib.hid PF
                                    refine wp_region_quietF ?_
                                    repeat (go_big_quiet_step ((first | (go_at_call 101; with_reducible exact Calls.quiet_of_same (PV1.out _)) | (go_at_call 101; with_reducible exact Calls.quiet_of_same (PV2.out _)) | (go_at_call 102; with_reducible exact Calls.quiet_of_same (PF.out _)))))
                                    refine wpQuiet_nil ?_
                                    intro _ hw'
                                    obtain ⟨nq, hw''⟩ := hw'
                                    subst hw''
                                    replace o := o.trans (⟨rfl, rfl, rfl, Nat.le_refl _, fun _ _ => rfl⟩ : Below _ w5 (w5.drewN nq))
                                    generalize w5.drewN nq = w6 at  o ⊢
                                    go_wp2_with fail
                                    go_ret
                                    exact ⟨ret_bool E.out.symm, o⟩
                                  · skip
                                    have e0 : decide (hi < lo) = false := decide_eq_false (by omega)
                                    have e1 : decide (s < -n * 4096) = false := decide_eq_false (by omega)
                                    have e2 : decide (n * 4096 < s) = false := decide_eq_false (by omega)
                                    have e3 : decide (q < 0) = false := decide_eq_false (by omega)
                                    have e4 : decide (n * 4096 * 4096 < q) = false := decide_eq_false (by omega)
                                    have wn : IntKind.i64.wrap (-n) = -n := IntWalk.i64_in _ (by omega)
                                    have wnm : IntKind.i64.wrap (-n * 4096) = -n * 4096 := IntWalk.i64_in _ (by omega)
                                    have wn2 : IntKind.i64.wrap (n * 4096) = n * 4096 := IntWalk.i64_in _ (by omega)
                                    have wn3 : IntKind.i64.wrap (n * 4096 * 4096) = n * 4096 * 4096 := IntWalk.i64_in _ (by omega)
                                    replace u5 := Decidable.not_not.1 u5
                                    rw [decide_eq_true u5] at PF
                                    replace PF := Lib.hid PF
                                    have Y3 : RowKit.Hid (partP n lo hi s q) := Lib.hid u5
                                    clear u5
                                    refine wp_region_quietF ?_
                                    repeat (go_big_quiet_step ((first | (go_at_call 101; with_reducible exact Calls.quiet_of_same (PV1.out _)) | (go_at_call 101; with_reducible exact Calls.quiet_of_same (PV2.out _)) | (go_at_call 102; with_reducible exact Calls.quiet_of_same (PF.out _)))))
                                    refine wpQuiet_nil ?_
                                    intro _ hw'
                                    obtain ⟨nq, hw''⟩ := hw'
                                    subst hw''
                                    replace K : Row (w5.drewN nq) mb 33 #[.int .i64 sq, .int .i64 tk, .int .i64 n, .int .i64 s, .int .i64 q, .int .i64 lo, .int .i64 hi] := K
                                    replace o := o.trans (⟨rfl, rfl, rfl, Nat.le_refl _, fun _ _ => rfl⟩ : Below _ w5 (w5.drewN nq))
                                    generalize w5.drewN nq = w6 at K o ⊢
                                    clear K0 K1 K2 K3 K4 K5 K6 Kf0 Kf1 Kf2 Kf3 Kf4 Kf5 Kf6
                                    clear PF PV1 PV2 wn wnm wn2 wn3 e0 e1 e2 e3 e4
                                    go_upto_region 12 with (fail)
                                    obtain ⟨K0, K1, K2, K3, K4, K5, K6, Kf0, Kf1, Kf2, Kf3, Kf4, Kf5, Kf6⟩ := row_seven K
                                    have bm1 := mul_small (n := n) (x := lo) (by omega) (by omega) lo1 lo2
                                    have bm2 := mul_small (n := n) (x := hi) (by omega) (by omega) hi1 hi2
                                    have G1 := Y3.out.1
                                    have G2 := Y3.out.2.1
                                    have bss := sq_bound (s := s) (B := 268435456) (by omega) (by omega)
                                    have wss : IntKind.i64.wrap (s * s) = s * s := IntWalk.i64_in _ (by omega)
                                    clear G1 G2 bm1 bm2 bss
                                    have LS : RowKit.Hid (mvalid l seq cap now wd least → sq = seq ∧ lo = s ∧ hi = s ∧ q = s * s) := Lib.hid (fun a => by
                                      have h := a.2.2.2 (by rw [HL.out]; omega)
                                      rw [show l.length - 1 = 0 by have := HL.out; omega, HM.out] at h
                                      exact h)
                                    by_cases t0 : sq ≠ seq
                                    · skip
                                      have tb0 : (sq != seq) = true := by simpa using t0
                                      have E := Lib.hid (show decide (mvalid l seq cap now wd least) = false from decide_eq_false (fun a => t0 (LS.out a).1))
                                      clear t0
                                      go_wp2_with fail
                                      go_ret
                                      exact ⟨ret_bool E.out.symm, o⟩
                                    · skip
                                      have tb0 : (sq != seq) = false := by simp; omega
                                      have T0 := Lib.hid (Decidable.not_not.1 t0)
                                      clear t0
                                      by_cases t1 : lo ≠ s
                                      · skip
                                        have tb1 : (lo != s) = true := by simpa using t1
                                        have E := Lib.hid (show decide (mvalid l seq cap now wd least) = false from decide_eq_false (fun a => t1 (LS.out a).2.1))
                                        clear t1
                                        go_wp2_with fail
                                        go_ret
                                        exact ⟨ret_bool E.out.symm, o⟩
                                      · skip
                                        have tb1 : (lo != s) = false := by simp; omega
                                        have T1 := Lib.hid (Decidable.not_not.1 t1)
                                        clear t1
                                        by_cases t2 : hi ≠ s
                                        · skip
                                          have tb2 : (hi != s) = true := by simpa using t2
                                          have E := Lib.hid (show decide (mvalid l seq cap now wd least) = false from decide_eq_false (fun a => t2 (LS.out a).2.2.1))
                                          clear t2
                                          go_wp2_with fail
                                          go_ret
                                          exact ⟨ret_bool E.out.symm, o⟩
                                        · skip
                                          have tb2 : (hi != s) = false := by simp; omega
                                          have T2 := Lib.hid (Decidable.not_not.1 t2)
                                          clear t2
                                          by_cases t3 : q ≠ s * s
                                          · skip
                                            have tb3 : (q != s * s) = true := by simpa using t3
                                            have E := Lib.hid (show decide (mvalid l seq cap now wd least) = false from decide_eq_false (fun a => t3 (LS.out a).2.2.2))
                                            clear t3
                                            go_wp2_with fail
                                            go_ret
                                            exact ⟨ret_bool E.out.symm, o⟩
                                          · skip
                                            have tb3 : (q != s * s) = false := by simp; omega
                                            have T3 := Lib.hid (Decidable.not_not.1 t3)
                                            clear t3
                                            have HA2 : RowKit.Hid (∀ e, e < 0 + 1 → atP l seq cap now wd least e) := Lib.hid (fun e he => by
                                              rcases Nat.lt_or_ge e 0 with g | g
                                              · exact HA.out e g
                                              · rw [show e = 0 by omega]
                                                exact (AT.out.2 ⟨⟨by omega, by omega, by omega, by omega, by omega, by omega⟩, ⟨by omega, by omega, by omega, Y3.out⟩, (fun _ => LV.out), (fun h => absurd h (by omega))⟩))
                                            have HZ2 : RowKit.Hid (0 + 1 = 1 → 0 + 1 ≠ 0 → lastP seq (mkAt l (0 + 1 - 1))) := Lib.hid (fun _ _ => (by rw [show 0 + 1 - 1 = 0 by omega, HM.out]; exact ⟨T0.out, T1.out, T2.out, T3.out⟩))
                                            go_wp2
                                            go_roundw
                                            case rel => exact ⟨0 + 1, by omega, (by first | go_num | exact congrArg (Value.int .i64) (by omega)), HA2, HZ2, o⟩
                                            case measure => simp [intOf]
    · have i1 : ¬ (j : Int) < 1 := by omega
      obtain rfl : j = 1 := by omega
      have E := Lib.hid (show decide (mvalid l seq cap now wd least) = true from decide_eq_true ⟨s0, s1, fun i hi => HA.out i (by rw [HL.out] at hi; exact hi), fun h => by rw [HL.out] at h ⊢; exact HZ.out rfl h⟩)
      clear HA HZ
      go_wp2
      go_ret
      exact ⟨ret_bool E.out.symm, o⟩
set_option maxRecDepth 100000 in
set_option maxHeartbeats 16000000 in
theorem rmarks_main (A : Option Addr) (m c : Nat) (l : List Mk) (agg wd cap now seq : Int) (w : World) (hin : MIn A m c l w) (a0 : 1 ≤ agg) (a1 : agg ≤ 4) (sB : I64 seq) (c0 : 1 ≤ cap) (c1 : cap ≤ 65536) (n0 : 0 ≤ now) (n1 : now ≤ 16777216) (d0 : 1 ≤ wd) (d1 : wd ≤ 1048576) (s0 : 0 ≤ seq) (s1 : seq ≤ 1099511627776) (m1 : m ≠ 1) : Calls Try.prog 67 #[.slice A m c, .int .i64 agg, .int .i64 wd, .int .i64 cap, .int .i64 now, .int .i64 seq] w fun e w' => e = .returned (.bool (decide (mvalid l seq cap now wd (leastV agg)))) ∧ Below w.heap.size w w' := by
  have HR := Lib.hid hin
  have HL := Lib.hid hin.len
  have mB := hin.max
  have t0 : ¬ seq < 0 := by omega
  have t1 : ¬ 1099511627776 < seq := by omega
  obtain ⟨least, hl⟩ : ∃ x, x = leastV agg := ⟨_, rfl⟩
  have e0 : -4096 ≤ least := by rw [hl]; exact leastV_ge agg
  rw [← hl]
  have LEQ := Lib.hid hl
  clear hin sB hl
  go_enter Try.func67, Try.ntmps67
  go_wp2
  clear t0 t1
  go_loopw [24] (fun i wr => ∃ j : Nat, j ≤ m ∧ i = .int .i64 (j : Nat) ∧ RowKit.Hid (∀ e, e < j → atP l seq cap now wd least e) ∧ RowKit.Hid (j = m → j ≠ 0 → lastP seq (mkAt l (j - 1))) ∧ Below w.heap.size w wr) (fun i _ => m - (intOf i).toNat)
  case atStart => exact ⟨0, by omega, rfl, Lib.hid (fun e h => absurd h (by omega)), Lib.hid (fun _ h => absurd rfl h), Below.refl _ _⟩
  case round =>
    obtain ⟨j, hj, rfl, HA, HZ, o⟩ := hrel
    by_cases hlt : j < m
    · by_cases j0 : j = 0
      · as_aux_lemma =>
        subst j0
        obtain ⟨ad, rfl, hadb, ht0⟩ := HR.out.reads.mk hlt
        have ht0 : MkCells w ad (mkAt l 0) := ht0
        have hB := HR.out.mB 0
        generalize hM : mkAt l 0 = mj at ht0 hB
        obtain ⟨sq, tk, n, s, q, lo, hi⟩ := mj
        obtain ⟨q0, q1, q2, q3, q4, q5, q6⟩ := ht0.below o hadb
        have AT := Lib.hid (at_flat (seq := seq) (cap := cap) (now := now) (wd := wd) (least := least) hM)
        have HM := Lib.hid hM
        obtain ⟨hB0, hB1, hB2, hB3, hB4, hB5, hB6⟩ := hB
        unfold I64 at hB0 hB1 hB2 hB3 hB4 hB5 hB6
        dsimp only at q0 q1 q2 q3 q4 q5 q6 hB0 hB1 hB2 hB3 hB4 hB5 hB6
        clear hM ht0
        have i1 : (0 : Int) < (m : Int) := by omega
        have i2 : (0 : Int) ≤ (0 : Int) := by omega
        go_upto_region 6 with (fail)
        have K : Row (wr.alloc (.cells #[.int .i64 sq, .int .i64 tk, .int .i64 n, .int .i64 s, .int .i64 q, .int .i64 lo, .int .i64 hi] 33)) wr.heap.size 33 #[.int .i64 sq, .int .i64 tk, .int .i64 n, .int .i64 s, .int .i64 q, .int .i64 lo, .int .i64 hi] := row_new rfl
        have z0 := o.size
        replace o := o.alloc o.size (.cells #[.int .i64 sq, .int .i64 tk, .int .i64 n, .int .i64 s, .int .i64 q, .int .i64 lo, .int .i64 hi] 33)
        generalize (wr.alloc (.cells #[.int .i64 sq, .int .i64 tk, .int .i64 n, .int .i64 s, .int .i64 q, .int .i64 lo, .int .i64 hi] 33)) = w3 at K o ⊢
        generalize wr.heap.size = mb at K z0 ⊢
        clear q0 q1 q2 q3 q4 q5 q6
        obtain ⟨K0, K1, K2, K3, K4, K5, K6, Kf0, Kf1, Kf2, Kf3, Kf4, Kf5, Kf6⟩ := row_seven K
        by_cases x0 : sq < 1
        · skip
          have E := Lib.hid (mvalid_bad (l := l) (seq := seq) (cap := cap) (now := now) (wd := wd) (least := least) (i := 0) (by rw [HL.out]; exact hlt) (fun a => absurd (AT.out.1 a).1.1 (by omega)))
          have e0 : decide (sq < 1) = true := decide_eq_true (by omega)
          refine wp_region_quiet_lit (by as_aux_lemma => kernel_rfl) (by as_aux_lemma => kernel_rfl) ?_
          repeat (go_big_quiet_step (fail))
          refine wpQuiet_nil ?_
          intro _ hw'
          obtain ⟨nq, hw''⟩ := hw'
          subst hw''
          replace o := o.trans (⟨rfl, rfl, rfl, Nat.le_refl _, fun _ _ => rfl⟩ : Below _ w3 (w3.drewN nq))
          generalize w3.drewN nq = w4 at  o ⊢
          go_wp2_with fail
          go_ret
          exact ⟨ret_bool E.out.symm, o⟩
        · skip
          by_cases x1 : seq < sq
          · skip
            have E := Lib.hid (mvalid_bad (l := l) (seq := seq) (cap := cap) (now := now) (wd := wd) (least := least) (i := 0) (by rw [HL.out]; exact hlt) (fun a => absurd (AT.out.1 a).1.2.1 (by omega)))
            have e0 : decide (sq < 1) = false := decide_eq_false (by omega)
            have e1 : decide (seq < sq) = true := decide_eq_true (by omega)
            refine wp_region_quiet_lit (by as_aux_lemma => kernel_rfl) (by as_aux_lemma => kernel_rfl) ?_
            repeat (go_big_quiet_step (fail))
            refine wpQuiet_nil ?_
            intro _ hw'
            obtain ⟨nq, hw''⟩ := hw'
            subst hw''
            replace o := o.trans (⟨rfl, rfl, rfl, Nat.le_refl _, fun _ _ => rfl⟩ : Below _ w3 (w3.drewN nq))
            generalize w3.drewN nq = w4 at  o ⊢
            go_wp2_with fail
            go_ret
            exact ⟨ret_bool E.out.symm, o⟩
          · skip
            by_cases x2 : n ≠ seq - sq + 1
            · skip
              have E := Lib.hid (mvalid_bad (l := l) (seq := seq) (cap := cap) (now := now) (wd := wd) (least := least) (i := 0) (by rw [HL.out]; exact hlt) (fun a => absurd (AT.out.1 a).1.2.2.1 (by omega)))
              have wn1 : IntKind.i64.wrap (seq - sq) = seq - sq := IntWalk.i64_in _ (by omega)
              have wn2 : IntKind.i64.wrap (seq - sq + 1) = seq - sq + 1 := IntWalk.i64_in _ (by omega)
              have e0 : decide (sq < 1) = false := decide_eq_false (by omega)
              have e1 : decide (seq < sq) = false := decide_eq_false (by omega)
              have e2 : (n != seq - sq + 1) = true := by simpa using x2
              refine wp_region_quiet_lit (by as_aux_lemma => kernel_rfl) (by as_aux_lemma => kernel_rfl) ?_
              repeat (go_big_quiet_step (fail))
              refine wpQuiet_nil ?_
              intro _ hw'
              obtain ⟨nq, hw''⟩ := hw'
              subst hw''
              replace o := o.trans (⟨rfl, rfl, rfl, Nat.le_refl _, fun _ _ => rfl⟩ : Below _ w3 (w3.drewN nq))
              generalize w3.drewN nq = w4 at  o ⊢
              go_wp2_with fail
              go_ret
              exact ⟨ret_bool E.out.symm, o⟩
            · skip
              by_cases x3 : cap < n
              · skip
                have E := Lib.hid (mvalid_bad (l := l) (seq := seq) (cap := cap) (now := now) (wd := wd) (least := least) (i := 0) (by rw [HL.out]; exact hlt) (fun a => absurd (AT.out.1 a).1.2.2.2.1 (by omega)))
                have wn1 : IntKind.i64.wrap (seq - sq) = seq - sq := IntWalk.i64_in _ (by omega)
                have wn2 : IntKind.i64.wrap (seq - sq + 1) = seq - sq + 1 := IntWalk.i64_in _ (by omega)
                have e0 : decide (sq < 1) = false := decide_eq_false (by omega)
                have e1 : decide (seq < sq) = false := decide_eq_false (by omega)
                have e2 : (n != seq - sq + 1) = false := by simp; omega
                have e3 : decide (cap < n) = true := decide_eq_true (by omega)
                refine wp_region_quiet_lit (by as_aux_lemma => kernel_rfl) (by as_aux_lemma => kernel_rfl) ?_
                repeat (go_big_quiet_step (fail))
                refine wpQuiet_nil ?_
                intro _ hw'
                obtain ⟨nq, hw''⟩ := hw'
                subst hw''
                replace o := o.trans (⟨rfl, rfl, rfl, Nat.le_refl _, fun _ _ => rfl⟩ : Below _ w3 (w3.drewN nq))
                generalize w3.drewN nq = w4 at  o ⊢
                go_wp2_with fail
                go_ret
                exact ⟨ret_bool E.out.symm, o⟩
              · skip
                have wn1 : IntKind.i64.wrap (seq - sq) = seq - sq := IntWalk.i64_in _ (by omega)
                have wn2 : IntKind.i64.wrap (seq - sq + 1) = seq - sq + 1 := IntWalk.i64_in _ (by omega)
                have e0 : decide (sq < 1) = false := decide_eq_false (by omega)
                have e1 : decide (seq < sq) = false := decide_eq_false (by omega)
                have e2 : (n != seq - sq + 1) = false := by simp; omega
                have e3 : decide (cap < n) = false := decide_eq_false (by omega)
                refine wp_region_quiet_lit (by as_aux_lemma => kernel_rfl) (by as_aux_lemma => kernel_rfl) ?_
                repeat (go_big_quiet_step (fail))
                refine wpQuiet_nil ?_
                intro _ hw'
                obtain ⟨nq, hw''⟩ := hw'
                subst hw''
                replace K : Row (w3.drewN nq) mb 33 #[.int .i64 sq, .int .i64 tk, .int .i64 n, .int .i64 s, .int .i64 q, .int .i64 lo, .int .i64 hi] := K
                replace o := o.trans (⟨rfl, rfl, rfl, Nat.le_refl _, fun _ _ => rfl⟩ : Below _ w3 (w3.drewN nq))
                generalize w3.drewN nq = w4 at K o ⊢
                have x2a : n + sq ≤ seq + 1 := by omega
                have x2b : seq + 1 ≤ n + sq := by omega
                clear wn1 wn2 x2 e0 e1 e2 e3 K0 K1 K2 K3 K4 K5 K6 Kf0 Kf1 Kf2 Kf3 Kf4 Kf5 Kf6
                go_upto_region 8 with (fail)
                obtain ⟨K0, K1, K2, K3, K4, K5, K6, Kf0, Kf1, Kf2, Kf3, Kf4, Kf5, Kf6⟩ := row_seven K
                have PT := fun w => rtick tk w
                have PL := fun (w : World) (h0 : 0 ≤ tk) (h1 : tk ≤ now) => rlive now wd tk w n0 n1 d0 d1 h0 h1
                by_cases y0 : ¬ (0 ≤ tk ∧ tk ≤ 16777216)
                · skip
                  have E := Lib.hid (mvalid_bad (l := l) (seq := seq) (cap := cap) (now := now) (wd := wd) (least := least) (i := 0) (by rw [HL.out]; exact hlt) (fun a => absurd (AT.out.1 a).1.2.2.2.2 (by omega)))
                  rw [decide_eq_false y0] at PT
                  replace PT := Lib.hid PT
                  refine wp_region_quiet_lit (by as_aux_lemma => kernel_rfl) (by as_aux_lemma => kernel_rfl) ?_
                  repeat (go_big_quiet_step ((go_at_call 83; exact Calls.quiet_of_same (PT.out _))))
                  refine wpQuiet_nil ?_
                  intro _ hw'
                  obtain ⟨nq, hw''⟩ := hw'
                  subst hw''
                  replace o := o.trans (⟨rfl, rfl, rfl, Nat.le_refl _, fun _ _ => rfl⟩ : Below _ w4 (w4.drewN nq))
                  generalize w4.drewN nq = w5 at  o ⊢
                  go_wp2_with fail
                  go_ret
                  exact ⟨ret_bool E.out.symm, o⟩
                · skip
                  replace y0 : 0 ≤ tk ∧ tk ≤ 16777216 := Decidable.not_not.1 y0
                  rw [decide_eq_true y0] at PT
                  replace PT := Lib.hid PT
                  obtain ⟨y0, y0b⟩ := y0
                  by_cases y1 : now < tk
                  · skip
                    have E := Lib.hid (mvalid_bad (l := l) (seq := seq) (cap := cap) (now := now) (wd := wd) (least := least) (i := 0) (by rw [HL.out]; exact hlt) (fun a => absurd (AT.out.1 a).1.2.2.2.2.2 (by omega)))
                    have e1 : decide (now < tk) = true := decide_eq_true (by omega)
                    refine wp_region_quiet_lit (by as_aux_lemma => kernel_rfl) (by as_aux_lemma => kernel_rfl) ?_
                    repeat (go_big_quiet_step ((go_at_call 83; exact Calls.quiet_of_same (PT.out _))))
                    refine wpQuiet_nil ?_
                    intro _ hw'
                    obtain ⟨nq, hw''⟩ := hw'
                    subst hw''
                    replace o := o.trans (⟨rfl, rfl, rfl, Nat.le_refl _, fun _ _ => rfl⟩ : Below _ w4 (w4.drewN nq))
                    generalize w4.drewN nq = w5 at  o ⊢
                    go_wp2_with fail
                    go_ret
                    exact ⟨ret_bool E.out.symm, o⟩
                  · skip
                    have e1 : decide (now < tk) = false := decide_eq_false (by omega)
                    have m1b : ((m : Int) == 1) = false := by simp; omega
                    refine wp_region_quiet_lit (by as_aux_lemma => kernel_rfl) (by as_aux_lemma => kernel_rfl) ?_
                    repeat (go_big_quiet_step ((go_at_call 83; exact Calls.quiet_of_same (PT.out _))))
                    refine wpQuiet_nil ?_
                    intro _ hw'
                    obtain ⟨nq, hw''⟩ := hw'
                    subst hw''
                    replace K : Row (w4.drewN nq) mb 33 #[.int .i64 sq, .int .i64 tk, .int .i64 n, .int .i64 s, .int .i64 q, .int .i64 lo, .int .i64 hi] := K
                    replace o := o.trans (⟨rfl, rfl, rfl, Nat.le_refl _, fun _ _ => rfl⟩ : Below _ w4 (w4.drewN nq))
                    generalize w4.drewN nq = w5 at K o ⊢
                    clear PT PL
                    clear e1 K0 K1 K2 K3 K4 K5 K6 Kf0 Kf1 Kf2 Kf3 Kf4 Kf5 Kf6
                    go_upto_region 10 with (fail)
                    obtain ⟨K0, K1, K2, K3, K4, K5, K6, Kf0, Kf1, Kf2, Kf3, Kf4, Kf5, Kf6⟩ := row_seven K
                    have PV1 := fun w => rvalue agg lo w a0 a1
                    have PV2 := fun w => rvalue agg hi w a0 a1
                    have LE := LEQ.out
                    by_cases v0 : ¬ (leastV agg ≤ lo ∧ lo ≤ 4096)
                    · skip
                      have E := Lib.hid (mvalid_bad (l := l) (seq := seq) (cap := cap) (now := now) (wd := wd) (least := least) (i := 0) (by rw [HL.out]; exact hlt) (fun a => v0 (by have h := (AT.out.1 a).2.1; have h1 := h.1; have h2 := h.2.1; have h3 := h.2.2.1; omega)))
                      rw [decide_eq_false v0] at PV1
                      replace PV1 := Lib.hid PV1
                      clear LE v0
                      refine wp_region_quietF ?_
                      repeat (go_big_quiet_step ((go_at_call 101; with_reducible exact Calls.quiet_of_same (PV1.out _))))
                      refine wpQuiet_nil ?_
                      intro _ hw'
                      obtain ⟨nq, hw''⟩ := hw'
                      subst hw''
                      replace o := o.trans (⟨rfl, rfl, rfl, Nat.le_refl _, fun _ _ => rfl⟩ : Below _ w5 (w5.drewN nq))
                      generalize w5.drewN nq = w6 at  o ⊢
                      go_wp2_with fail
                      go_ret
                      exact ⟨ret_bool E.out.symm, o⟩
                    · skip
                      replace v0 := Decidable.not_not.1 v0
                      rw [decide_eq_true v0] at PV1
                      replace PV1 := Lib.hid PV1
                      by_cases v1 : ¬ (leastV agg ≤ hi ∧ hi ≤ 4096)
                      · skip
                        have E := Lib.hid (mvalid_bad (l := l) (seq := seq) (cap := cap) (now := now) (wd := wd) (least := least) (i := 0) (by rw [HL.out]; exact hlt) (fun a => v1 (by have h := (AT.out.1 a).2.1; have h1 := h.1; have h2 := h.2.1; have h3 := h.2.2.1; omega)))
                        rw [decide_eq_false v1] at PV2
                        replace PV2 := Lib.hid PV2
                        clear LE v0 v1
                        refine wp_region_quietF ?_
                        repeat (go_big_quiet_step ((first | (go_at_call 101; with_reducible exact Calls.quiet_of_same (PV1.out _)) | (go_at_call 101; with_reducible exact Calls.quiet_of_same (PV2.out _)))))
                        refine wpQuiet_nil ?_
                        intro _ hw'
                        obtain ⟨nq, hw''⟩ := hw'
                        subst hw''
                        replace o := o.trans (⟨rfl, rfl, rfl, Nat.le_refl _, fun _ _ => rfl⟩ : Below _ w5 (w5.drewN nq))
                        generalize w5.drewN nq = w6 at  o ⊢
                        go_wp2_with fail
                        go_ret
                        exact ⟨ret_bool E.out.symm, o⟩
                      · skip
                        replace v1 := Decidable.not_not.1 v1
                        rw [decide_eq_true v1] at PV2
                        replace PV2 := Lib.hid PV2
                        have lo0 : least ≤ lo := by omega
                        have lo1 : -4096 ≤ lo := by omega
                        have lo2 : lo ≤ 4096 := v0.2
                        have hi1 : -4096 ≤ hi := by omega
                        have hi2 : hi ≤ 4096 := v1.2
                        clear LE v0 v1
                        by_cases u0 : hi < lo
                        · skip
                          have E := Lib.hid (mvalid_bad (l := l) (seq := seq) (cap := cap) (now := now) (wd := wd) (least := least) (i := 0) (by rw [HL.out]; exact hlt) (fun a => absurd (AT.out.1 a).2.1.2.2.1 (by omega)))
                          have e0 : decide (hi < lo) = true := decide_eq_true (by omega)
                          refine wp_region_quietF ?_
                          repeat (go_big_quiet_step ((first | (go_at_call 101; with_reducible exact Calls.quiet_of_same (PV1.out _)) | (go_at_call 101; with_reducible exact Calls.quiet_of_same (PV2.out _)))))
                          refine wpQuiet_nil ?_
                          intro _ hw'
                          obtain ⟨nq, hw''⟩ := hw'
                          subst hw''
                          replace o := o.trans (⟨rfl, rfl, rfl, Nat.le_refl _, fun _ _ => rfl⟩ : Below _ w5 (w5.drewN nq))
                          generalize w5.drewN nq = w6 at  o ⊢
                          go_wp2_with fail
                          go_ret
                          exact ⟨ret_bool E.out.symm, o⟩
                        · skip
                          by_cases u1 : s < -n * 4096
                          · skip
                            have E := Lib.hid (mvalid_bad (l := l) (seq := seq) (cap := cap) (now := now) (wd := wd) (least := least) (i := 0) (by rw [HL.out]; exact hlt) (fun a => absurd (part_lo (by omega) (AT.out.1 a).2.1.2.2.2 lo1 hi2).1 (by omega)))
                            have e0 : decide (hi < lo) = false := decide_eq_false (by omega)
                            have e1 : decide (s < -n * 4096) = true := decide_eq_true (by omega)
                            have wn : IntKind.i64.wrap (-n) = -n := IntWalk.i64_in _ (by omega)
                            have wnm : IntKind.i64.wrap (-n * 4096) = -n * 4096 := IntWalk.i64_in _ (by omega)
                            have wn2 : IntKind.i64.wrap (n * 4096) = n * 4096 := IntWalk.i64_in _ (by omega)
                            have wn3 : IntKind.i64.wrap (n * 4096 * 4096) = n * 4096 * 4096 := IntWalk.i64_in _ (by omega)
                            refine wp_region_quietF ?_
                            repeat (go_big_quiet_step ((first | (go_at_call 101; with_reducible exact Calls.quiet_of_same (PV1.out _)) | (go_at_call 101; with_reducible exact Calls.quiet_of_same (PV2.out _)))))
                            refine wpQuiet_nil ?_
                            intro _ hw'
                            obtain ⟨nq, hw''⟩ := hw'
                            subst hw''
                            replace o := o.trans (⟨rfl, rfl, rfl, Nat.le_refl _, fun _ _ => rfl⟩ : Below _ w5 (w5.drewN nq))
                            generalize w5.drewN nq = w6 at  o ⊢
                            go_wp2_with fail
                            go_ret
                            exact ⟨ret_bool E.out.symm, o⟩
                          · skip
                            by_cases u2 : n * 4096 < s
                            · skip
                              have E := Lib.hid (mvalid_bad (l := l) (seq := seq) (cap := cap) (now := now) (wd := wd) (least := least) (i := 0) (by rw [HL.out]; exact hlt) (fun a => absurd (part_lo (by omega) (AT.out.1 a).2.1.2.2.2 lo1 hi2).2 (by omega)))
                              have e0 : decide (hi < lo) = false := decide_eq_false (by omega)
                              have e1 : decide (s < -n * 4096) = false := decide_eq_false (by omega)
                              have e2 : decide (n * 4096 < s) = true := decide_eq_true (by omega)
                              have wn : IntKind.i64.wrap (-n) = -n := IntWalk.i64_in _ (by omega)
                              have wnm : IntKind.i64.wrap (-n * 4096) = -n * 4096 := IntWalk.i64_in _ (by omega)
                              have wn2 : IntKind.i64.wrap (n * 4096) = n * 4096 := IntWalk.i64_in _ (by omega)
                              have wn3 : IntKind.i64.wrap (n * 4096 * 4096) = n * 4096 * 4096 := IntWalk.i64_in _ (by omega)
                              refine wp_region_quietF ?_
                              repeat (go_big_quiet_step ((first | (go_at_call 101; with_reducible exact Calls.quiet_of_same (PV1.out _)) | (go_at_call 101; with_reducible exact Calls.quiet_of_same (PV2.out _)))))
                              refine wpQuiet_nil ?_
                              intro _ hw'
                              obtain ⟨nq, hw''⟩ := hw'
                              subst hw''
                              replace o := o.trans (⟨rfl, rfl, rfl, Nat.le_refl _, fun _ _ => rfl⟩ : Below _ w5 (w5.drewN nq))
                              generalize w5.drewN nq = w6 at  o ⊢
                              go_wp2_with fail
                              go_ret
                              exact ⟨ret_bool E.out.symm, o⟩
                            · skip
                              by_cases u3 : q < 0
                              · skip
                                have E := Lib.hid (mvalid_bad (l := l) (seq := seq) (cap := cap) (now := now) (wd := wd) (least := least) (i := 0) (by rw [HL.out]; exact hlt) (fun a => absurd (AT.out.1 a).2.1.2.2.2.2.2.1 (by omega)))
                                have e0 : decide (hi < lo) = false := decide_eq_false (by omega)
                                have e1 : decide (s < -n * 4096) = false := decide_eq_false (by omega)
                                have e2 : decide (n * 4096 < s) = false := decide_eq_false (by omega)
                                have e3 : decide (q < 0) = true := decide_eq_true (by omega)
                                have wn : IntKind.i64.wrap (-n) = -n := IntWalk.i64_in _ (by omega)
                                have wnm : IntKind.i64.wrap (-n * 4096) = -n * 4096 := IntWalk.i64_in _ (by omega)
                                have wn2 : IntKind.i64.wrap (n * 4096) = n * 4096 := IntWalk.i64_in _ (by omega)
                                have wn3 : IntKind.i64.wrap (n * 4096 * 4096) = n * 4096 * 4096 := IntWalk.i64_in _ (by omega)
                                refine wp_region_quietF ?_
                                repeat (go_big_quiet_step ((first | (go_at_call 101; with_reducible exact Calls.quiet_of_same (PV1.out _)) | (go_at_call 101; with_reducible exact Calls.quiet_of_same (PV2.out _)))))
                                refine wpQuiet_nil ?_
                                intro _ hw'
                                obtain ⟨nq, hw''⟩ := hw'
                                subst hw''
                                replace o := o.trans (⟨rfl, rfl, rfl, Nat.le_refl _, fun _ _ => rfl⟩ : Below _ w5 (w5.drewN nq))
                                generalize w5.drewN nq = w6 at  o ⊢
                                go_wp2_with fail
                                go_ret
                                exact ⟨ret_bool E.out.symm, o⟩
                              · skip
                                by_cases u4 : n * 4096 * 4096 < q
                                · skip
                                  have E := Lib.hid (mvalid_bad (l := l) (seq := seq) (cap := cap) (now := now) (wd := wd) (least := least) (i := 0) (by rw [HL.out]; exact hlt) (fun a => absurd (AT.out.1 a).2.1.2.2.2.2.2.2.1 (by omega)))
                                  have e0 : decide (hi < lo) = false := decide_eq_false (by omega)
                                  have e1 : decide (s < -n * 4096) = false := decide_eq_false (by omega)
                                  have e2 : decide (n * 4096 < s) = false := decide_eq_false (by omega)
                                  have e3 : decide (q < 0) = false := decide_eq_false (by omega)
                                  have e4 : decide (n * 4096 * 4096 < q) = true := decide_eq_true (by omega)
                                  have wn : IntKind.i64.wrap (-n) = -n := IntWalk.i64_in _ (by omega)
                                  have wnm : IntKind.i64.wrap (-n * 4096) = -n * 4096 := IntWalk.i64_in _ (by omega)
                                  have wn2 : IntKind.i64.wrap (n * 4096) = n * 4096 := IntWalk.i64_in _ (by omega)
                                  have wn3 : IntKind.i64.wrap (n * 4096 * 4096) = n * 4096 * 4096 := IntWalk.i64_in _ (by omega)
                                  refine wp_region_quietF ?_
                                  repeat (go_big_quiet_step ((first | (go_at_call 101; with_reducible exact Calls.quiet_of_same (PV1.out _)) | (go_at_call 101; with_reducible exact Calls.quiet_of_same (PV2.out _)))))
                                  refine wpQuiet_nil ?_
                                  intro _ hw'
                                  obtain ⟨nq, hw''⟩ := hw'
                                  subst hw''
                                  replace o := o.trans (⟨rfl, rfl, rfl, Nat.le_refl _, fun _ _ => rfl⟩ : Below _ w5 (w5.drewN nq))
                                  generalize w5.drewN nq = w6 at  o ⊢
                                  go_wp2_with fail
                                  go_ret
                                  exact ⟨ret_bool E.out.symm, o⟩
                                · skip
                                  have PF := fun w => rpartP n lo hi s q w (by omega) (by omega) lo1 lo2 hi1 hi2
                                  by_cases u5 : ¬ partP n lo hi s q
                                  · skip
                                    have E := Lib.hid (mvalid_bad (l := l) (seq := seq) (cap := cap) (now := now) (wd := wd) (least := least) (i := 0) (by rw [HL.out]; exact hlt) (fun a => u5 (AT.out.1 a).2.1.2.2.2))
                                    have e0 : decide (hi < lo) = false := decide_eq_false (by omega)
                                    have e1 : decide (s < -n * 4096) = false := decide_eq_false (by omega)
                                    have e2 : decide (n * 4096 < s) = false := decide_eq_false (by omega)
                                    have e3 : decide (q < 0) = false := decide_eq_false (by omega)
                                    have e4 : decide (n * 4096 * 4096 < q) = false := decide_eq_false (by omega)
                                    have wn : IntKind.i64.wrap (-n) = -n := IntWalk.i64_in _ (by omega)
                                    have wnm : IntKind.i64.wrap (-n * 4096) = -n * 4096 := IntWalk.i64_in _ (by omega)
                                    have wn2 : IntKind.i64.wrap (n * 4096) = n * 4096 := IntWalk.i64_in _ (by omega)
                                    have wn3 : IntKind.i64.wrap (n * 4096 * 4096) = n * 4096 * 4096 := IntWalk.i64_in _ (by omega)
                                    rw [decide_eq_false u5] at PF
                                    replace PF := Lib.hid PF
                                    refine wp_region_quietF ?_
                                    repeat (go_big_quiet_step ((first | (go_at_call 101; with_reducible exact Calls.quiet_of_same (PV1.out _)) | (go_at_call 101; with_reducible exact Calls.quiet_of_same (PV2.out _)) | (go_at_call 102; with_reducible exact Calls.quiet_of_same (PF.out _)))))
                                    refine wpQuiet_nil ?_
                                    intro _ hw'
                                    obtain ⟨nq, hw''⟩ := hw'
                                    subst hw''
                                    replace o := o.trans (⟨rfl, rfl, rfl, Nat.le_refl _, fun _ _ => rfl⟩ : Below _ w5 (w5.drewN nq))
                                    generalize w5.drewN nq = w6 at  o ⊢
                                    go_wp2_with fail
                                    go_ret
                                    exact ⟨ret_bool E.out.symm, o⟩
                                  · skip
                                    have e0 : decide (hi < lo) = false := decide_eq_false (by omega)
                                    have e1 : decide (s < -n * 4096) = false := decide_eq_false (by omega)
                                    have e2 : decide (n * 4096 < s) = false := decide_eq_false (by omega)
                                    have e3 : decide (q < 0) = false := decide_eq_false (by omega)
                                    have e4 : decide (n * 4096 * 4096 < q) = false := decide_eq_false (by omega)
                                    have wn : IntKind.i64.wrap (-n) = -n := IntWalk.i64_in _ (by omega)
                                    have wnm : IntKind.i64.wrap (-n * 4096) = -n * 4096 := IntWalk.i64_in _ (by omega)
                                    have wn2 : IntKind.i64.wrap (n * 4096) = n * 4096 := IntWalk.i64_in _ (by omega)
                                    have wn3 : IntKind.i64.wrap (n * 4096 * 4096) = n * 4096 * 4096 := IntWalk.i64_in _ (by omega)
                                    replace u5 := Decidable.not_not.1 u5
                                    rw [decide_eq_true u5] at PF
                                    replace PF := Lib.hid PF
                                    have Y3 : RowKit.Hid (partP n lo hi s q) := Lib.hid u5
                                    clear u5
                                    refine wp_region_quietF ?_
                                    repeat (go_big_quiet_step ((first | (go_at_call 101; with_reducible exact Calls.quiet_of_same (PV1.out _)) | (go_at_call 101; with_reducible exact Calls.quiet_of_same (PV2.out _)) | (go_at_call 102; with_reducible exact Calls.quiet_of_same (PF.out _)))))
                                    refine wpQuiet_nil ?_
                                    intro _ hw'
                                    obtain ⟨nq, hw''⟩ := hw'
                                    subst hw''
                                    replace K : Row (w5.drewN nq) mb 33 #[.int .i64 sq, .int .i64 tk, .int .i64 n, .int .i64 s, .int .i64 q, .int .i64 lo, .int .i64 hi] := K
                                    replace o := o.trans (⟨rfl, rfl, rfl, Nat.le_refl _, fun _ _ => rfl⟩ : Below _ w5 (w5.drewN nq))
                                    generalize w5.drewN nq = w6 at K o ⊢
                                    clear K0 K1 K2 K3 K4 K5 K6 Kf0 Kf1 Kf2 Kf3 Kf4 Kf5 Kf6
                                    clear PF PV1 PV2 wn wnm wn2 wn3 e0 e1 e2 e3 e4
                                    go_upto_region 12 with (fail)
                                    obtain ⟨K0, K1, K2, K3, K4, K5, K6, Kf0, Kf1, Kf2, Kf3, Kf4, Kf5, Kf6⟩ := row_seven K
                                    have mb1 : ((0 : Int) == (m : Int) - 1) = false := by simp; omega
                                    have wm : IntKind.i64.wrap ((m : Int) - 1) = (m : Int) - 1 := IntWalk.i64_in _ (by omega)
                                    have wm2 : ¬ (m : Int) = 1 := by omega
                                    have HA2 : RowKit.Hid (∀ e, e < 0 + 1 → atP l seq cap now wd least e) := Lib.hid (fun e he => by
                                      rcases Nat.lt_or_ge e 0 with g | g
                                      · exact HA.out e g
                                      · rw [show e = 0 by omega]
                                        exact (AT.out.2 ⟨⟨by omega, by omega, by omega, by omega, by omega, by omega⟩, ⟨by omega, by omega, by omega, Y3.out⟩, (fun h => absurd h (by rw [HL.out]; omega)), (fun h => absurd h (by omega))⟩))
                                    have HZ2 : RowKit.Hid (0 + 1 = m → 0 + 1 ≠ 0 → lastP seq (mkAt l (0 + 1 - 1))) := Lib.hid (fun h => absurd h (by omega))
                                    go_wp2
                                    go_roundw
                                    case rel => exact ⟨0 + 1, by omega, (by first | go_num | exact congrArg (Value.int .i64) (by omega)), HA2, HZ2, o⟩
                                    case measure => simp [intOf]; omega
      · as_aux_lemma =>
        obtain ⟨ad, rfl, hadb, ht0⟩ := HR.out.reads.mk hlt
        have hB := HR.out.mB j
        generalize hM : mkAt l j = mj at ht0 hB
        obtain ⟨sq, tk, n, s, q, lo, hi⟩ := mj
        obtain ⟨q0, q1, q2, q3, q4, q5, q6⟩ := ht0.below o (by rw [block_of_add]; exact hadb)
        have AT := Lib.hid (at_flat (seq := seq) (cap := cap) (now := now) (wd := wd) (least := least) hM)
        have HM := Lib.hid hM
        obtain ⟨hB0, hB1, hB2, hB3, hB4, hB5, hB6⟩ := hB
        unfold I64 at hB0 hB1 hB2 hB3 hB4 hB5 hB6
        dsimp only at q0 q1 q2 q3 q4 q5 q6 hB0 hB1 hB2 hB3 hB4 hB5 hB6
        clear hM ht0
        have i1 : (j : Int) < (m : Int) := by omega
        have i2 : (0 : Int) ≤ (j : Int) := by omega
        go_upto_region 6 with (fail)
        have K : Row (wr.alloc (.cells #[.int .i64 sq, .int .i64 tk, .int .i64 n, .int .i64 s, .int .i64 q, .int .i64 lo, .int .i64 hi] 33)) wr.heap.size 33 #[.int .i64 sq, .int .i64 tk, .int .i64 n, .int .i64 s, .int .i64 q, .int .i64 lo, .int .i64 hi] := row_new rfl
        have z0 := o.size
        replace o := o.alloc o.size (.cells #[.int .i64 sq, .int .i64 tk, .int .i64 n, .int .i64 s, .int .i64 q, .int .i64 lo, .int .i64 hi] 33)
        generalize (wr.alloc (.cells #[.int .i64 sq, .int .i64 tk, .int .i64 n, .int .i64 s, .int .i64 q, .int .i64 lo, .int .i64 hi] 33)) = w3 at K o ⊢
        generalize wr.heap.size = mb at K z0 ⊢
        clear q0 q1 q2 q3 q4 q5 q6
        obtain ⟨K0, K1, K2, K3, K4, K5, K6, Kf0, Kf1, Kf2, Kf3, Kf4, Kf5, Kf6⟩ := row_seven K
        obtain ⟨p, hp⟩ : ∃ p : Nat, j = p + 1 := ⟨j - 1, by omega⟩
        obtain ⟨ad', ea, _, ht1⟩ := HR.out.reads.mk (i := p) (by omega)
        obtain rfl : ad = ad' := by injection ea
        have hOP := HA.out p (by omega)
        generalize hO : mkAt l p = mo at ht1
        obtain ⟨osq, otk, on, os, oq, olo, ohi⟩ := mo
        obtain ⟨⟨b1, b2, b3, b4, b5, b6⟩, ⟨b7, b8, b9, B10⟩, _⟩ := (at_flat hO).1 hOP
        have HT1 := Lib.hid ht1
        have hp1 : mkAt l (j - 1) = ⟨osq, otk, on, os, oq, olo, ohi⟩ := by rw [hp]; exact hO
        have hp2 : mkAt l j = ⟨sq, tk, n, s, q, lo, hi⟩ := HM.out
        have TW : RowKit.Hid (twoP (mkAt l (j - 1)) (mkAt l j) ↔ osq < sq ∧ otk ≤ tk ∧ olo ≤ lo ∧ hi ≤ ohi ∧ partP (on - n) olo ohi (os - s) (oq - q)) := Lib.hid (by rw [hp1, hp2]; exact two_flat)
        have b3a : on + osq ≤ seq + 1 := by omega
        have b3b : seq + 1 ≤ on + osq := by omega
        have HP := Lib.hid hp
        have wj : IntKind.i64.wrap ((j : Int) - 1) = (p : Int) := by rw [IntWalk.i64_in _ (by omega)]; omega
        have p1 : (p : Int) < (m : Int) := by omega
        have p0 : (0 : Int) ≤ (p : Int) := by omega
        have jp : (0 : Int) < (j : Int) := by omega
        have jn : 0 < j := by omega
        have jd : decide (0 < j) = true := decide_eq_true jn
        clear hO ht1 ea hp1 hp2 hp hOP b3
        obtain ⟨q0, q1, q2, q3, q4, q5, q6⟩ := HT1.out.below o (by rw [block_of_add]; exact hadb)
        dsimp only at q0 q1 q2 q3 q4 q5 q6
        by_cases x0 : sq < 1
        · skip
          have E := Lib.hid (mvalid_bad (l := l) (seq := seq) (cap := cap) (now := now) (wd := wd) (least := least) (i := j) (by rw [HL.out]; exact hlt) (fun a => absurd (AT.out.1 a).1.1 (by omega)))
          have e0 : decide (sq < 1) = true := decide_eq_true (by omega)
          refine wp_region_quiet_lit (by as_aux_lemma => kernel_rfl) (by as_aux_lemma => kernel_rfl) ?_
          repeat (go_big_quiet_step (fail))
          refine wpQuiet_nil ?_
          intro _ hw'
          obtain ⟨nq, hw''⟩ := hw'
          subst hw''
          replace o := o.trans (⟨rfl, rfl, rfl, Nat.le_refl _, fun _ _ => rfl⟩ : Below _ w3 (w3.drewN nq))
          generalize w3.drewN nq = w4 at  o ⊢
          go_wp2_with fail
          go_ret
          exact ⟨ret_bool E.out.symm, o⟩
        · skip
          by_cases x1 : seq < sq
          · skip
            have E := Lib.hid (mvalid_bad (l := l) (seq := seq) (cap := cap) (now := now) (wd := wd) (least := least) (i := j) (by rw [HL.out]; exact hlt) (fun a => absurd (AT.out.1 a).1.2.1 (by omega)))
            have e0 : decide (sq < 1) = false := decide_eq_false (by omega)
            have e1 : decide (seq < sq) = true := decide_eq_true (by omega)
            refine wp_region_quiet_lit (by as_aux_lemma => kernel_rfl) (by as_aux_lemma => kernel_rfl) ?_
            repeat (go_big_quiet_step (fail))
            refine wpQuiet_nil ?_
            intro _ hw'
            obtain ⟨nq, hw''⟩ := hw'
            subst hw''
            replace o := o.trans (⟨rfl, rfl, rfl, Nat.le_refl _, fun _ _ => rfl⟩ : Below _ w3 (w3.drewN nq))
            generalize w3.drewN nq = w4 at  o ⊢
            go_wp2_with fail
            go_ret
            exact ⟨ret_bool E.out.symm, o⟩
          · skip
            by_cases x2 : n ≠ seq - sq + 1
            · skip
              have E := Lib.hid (mvalid_bad (l := l) (seq := seq) (cap := cap) (now := now) (wd := wd) (least := least) (i := j) (by rw [HL.out]; exact hlt) (fun a => absurd (AT.out.1 a).1.2.2.1 (by omega)))
              have wn1 : IntKind.i64.wrap (seq - sq) = seq - sq := IntWalk.i64_in _ (by omega)
              have wn2 : IntKind.i64.wrap (seq - sq + 1) = seq - sq + 1 := IntWalk.i64_in _ (by omega)
              have e0 : decide (sq < 1) = false := decide_eq_false (by omega)
              have e1 : decide (seq < sq) = false := decide_eq_false (by omega)
              have e2 : (n != seq - sq + 1) = true := by simpa using x2
              refine wp_region_quiet_lit (by as_aux_lemma => kernel_rfl) (by as_aux_lemma => kernel_rfl) ?_
              repeat (go_big_quiet_step (fail))
              refine wpQuiet_nil ?_
              intro _ hw'
              obtain ⟨nq, hw''⟩ := hw'
              subst hw''
              replace o := o.trans (⟨rfl, rfl, rfl, Nat.le_refl _, fun _ _ => rfl⟩ : Below _ w3 (w3.drewN nq))
              generalize w3.drewN nq = w4 at  o ⊢
              go_wp2_with fail
              go_ret
              exact ⟨ret_bool E.out.symm, o⟩
            · skip
              by_cases x3 : cap < n
              · skip
                have E := Lib.hid (mvalid_bad (l := l) (seq := seq) (cap := cap) (now := now) (wd := wd) (least := least) (i := j) (by rw [HL.out]; exact hlt) (fun a => absurd (AT.out.1 a).1.2.2.2.1 (by omega)))
                have wn1 : IntKind.i64.wrap (seq - sq) = seq - sq := IntWalk.i64_in _ (by omega)
                have wn2 : IntKind.i64.wrap (seq - sq + 1) = seq - sq + 1 := IntWalk.i64_in _ (by omega)
                have e0 : decide (sq < 1) = false := decide_eq_false (by omega)
                have e1 : decide (seq < sq) = false := decide_eq_false (by omega)
                have e2 : (n != seq - sq + 1) = false := by simp; omega
                have e3 : decide (cap < n) = true := decide_eq_true (by omega)
                refine wp_region_quiet_lit (by as_aux_lemma => kernel_rfl) (by as_aux_lemma => kernel_rfl) ?_
                repeat (go_big_quiet_step (fail))
                refine wpQuiet_nil ?_
                intro _ hw'
                obtain ⟨nq, hw''⟩ := hw'
                subst hw''
                replace o := o.trans (⟨rfl, rfl, rfl, Nat.le_refl _, fun _ _ => rfl⟩ : Below _ w3 (w3.drewN nq))
                generalize w3.drewN nq = w4 at  o ⊢
                go_wp2_with fail
                go_ret
                exact ⟨ret_bool E.out.symm, o⟩
              · skip
                by_cases x4 : sq ≤ osq
                · skip
                  have E := Lib.hid (mvalid_bad (l := l) (seq := seq) (cap := cap) (now := now) (wd := wd) (least := least) (i := j) (by rw [HL.out]; exact hlt) (fun a => absurd (TW.out.1 ((AT.out.1 a).2.2.2 (by omega))).1 (by omega)))
                  have wn1 : IntKind.i64.wrap (seq - sq) = seq - sq := IntWalk.i64_in _ (by omega)
                  have wn2 : IntKind.i64.wrap (seq - sq + 1) = seq - sq + 1 := IntWalk.i64_in _ (by omega)
                  have e0 : decide (sq < 1) = false := decide_eq_false (by omega)
                  have e1 : decide (seq < sq) = false := decide_eq_false (by omega)
                  have e2 : (n != seq - sq + 1) = false := by simp; omega
                  have e3 : decide (cap < n) = false := decide_eq_false (by omega)
                  have e4 : decide (sq ≤ osq) = true := decide_eq_true (by omega)
                  refine wp_region_quiet_lit (by as_aux_lemma => kernel_rfl) (by as_aux_lemma => kernel_rfl) ?_
                  repeat (go_big_quiet_step (fail))
                  refine wpQuiet_nil ?_
                  intro _ hw'
                  obtain ⟨nq, hw''⟩ := hw'
                  subst hw''
                  replace o := o.trans (⟨rfl, rfl, rfl, Nat.le_refl _, fun _ _ => rfl⟩ : Below _ w3 (w3.drewN nq))
                  generalize w3.drewN nq = w4 at  o ⊢
                  go_wp2_with fail
                  go_ret
                  exact ⟨ret_bool E.out.symm, o⟩
                · skip
                  have wn1 : IntKind.i64.wrap (seq - sq) = seq - sq := IntWalk.i64_in _ (by omega)
                  have wn2 : IntKind.i64.wrap (seq - sq + 1) = seq - sq + 1 := IntWalk.i64_in _ (by omega)
                  have e0 : decide (sq < 1) = false := decide_eq_false (by omega)
                  have e1 : decide (seq < sq) = false := decide_eq_false (by omega)
                  have e2 : (n != seq - sq + 1) = false := by simp; omega
                  have e3 : decide (cap < n) = false := decide_eq_false (by omega)
                  have e4 : decide (sq ≤ osq) = false := decide_eq_false (by omega)
                  refine wp_region_quiet_lit (by as_aux_lemma => kernel_rfl) (by as_aux_lemma => kernel_rfl) ?_
                  repeat (go_big_quiet_step (fail))
                  refine wpQuiet_nil ?_
                  intro _ hw'
                  obtain ⟨nq, hw''⟩ := hw'
                  subst hw''
                  replace K : Row (w3.drewN nq) mb 33 #[.int .i64 sq, .int .i64 tk, .int .i64 n, .int .i64 s, .int .i64 q, .int .i64 lo, .int .i64 hi] := K
                  replace o := o.trans (⟨rfl, rfl, rfl, Nat.le_refl _, fun _ _ => rfl⟩ : Below _ w3 (w3.drewN nq))
                  generalize w3.drewN nq = w4 at K o ⊢
                  have x2a : n + sq ≤ seq + 1 := by omega
                  have x2b : seq + 1 ≤ n + sq := by omega
                  clear wn1 wn2 x2 e0 e1 e2 e3 e4 K0 K1 K2 K3 K4 K5 K6 Kf0 Kf1 Kf2 Kf3 Kf4 Kf5 Kf6 q0 q1 q2 q3 q4 q5 q6
                  go_upto_region 8 with (fail)
                  obtain ⟨K0, K1, K2, K3, K4, K5, K6, Kf0, Kf1, Kf2, Kf3, Kf4, Kf5, Kf6⟩ := row_seven K
                  obtain ⟨q0, q1, q2, q3, q4, q5, q6⟩ := HT1.out.below o (by rw [block_of_add]; exact hadb)
                  dsimp only at q0 q1 q2 q3 q4 q5 q6
                  have PT := fun w => rtick tk w
                  have PL := fun (w : World) (h0 : 0 ≤ tk) (h1 : tk ≤ now) => rlive now wd tk w n0 n1 d0 d1 h0 h1
                  by_cases y0 : ¬ (0 ≤ tk ∧ tk ≤ 16777216)
                  · skip
                    have E := Lib.hid (mvalid_bad (l := l) (seq := seq) (cap := cap) (now := now) (wd := wd) (least := least) (i := j) (by rw [HL.out]; exact hlt) (fun a => absurd (AT.out.1 a).1.2.2.2.2 (by omega)))
                    rw [decide_eq_false y0] at PT
                    replace PT := Lib.hid PT
                    refine wp_region_quiet_lit (by as_aux_lemma => kernel_rfl) (by as_aux_lemma => kernel_rfl) ?_
                    repeat (go_big_quiet_step ((go_at_call 83; exact Calls.quiet_of_same (PT.out _))))
                    refine wpQuiet_nil ?_
                    intro _ hw'
                    obtain ⟨nq, hw''⟩ := hw'
                    subst hw''
                    replace o := o.trans (⟨rfl, rfl, rfl, Nat.le_refl _, fun _ _ => rfl⟩ : Below _ w4 (w4.drewN nq))
                    generalize w4.drewN nq = w5 at  o ⊢
                    go_wp2_with fail
                    go_ret
                    exact ⟨ret_bool E.out.symm, o⟩
                  · skip
                    replace y0 : 0 ≤ tk ∧ tk ≤ 16777216 := Decidable.not_not.1 y0
                    rw [decide_eq_true y0] at PT
                    replace PT := Lib.hid PT
                    obtain ⟨y0, y0b⟩ := y0
                    by_cases y1 : now < tk
                    · skip
                      have E := Lib.hid (mvalid_bad (l := l) (seq := seq) (cap := cap) (now := now) (wd := wd) (least := least) (i := j) (by rw [HL.out]; exact hlt) (fun a => absurd (AT.out.1 a).1.2.2.2.2.2 (by omega)))
                      have e1 : decide (now < tk) = true := decide_eq_true (by omega)
                      refine wp_region_quiet_lit (by as_aux_lemma => kernel_rfl) (by as_aux_lemma => kernel_rfl) ?_
                      repeat (go_big_quiet_step ((go_at_call 83; exact Calls.quiet_of_same (PT.out _))))
                      refine wpQuiet_nil ?_
                      intro _ hw'
                      obtain ⟨nq, hw''⟩ := hw'
                      subst hw''
                      replace o := o.trans (⟨rfl, rfl, rfl, Nat.le_refl _, fun _ _ => rfl⟩ : Below _ w4 (w4.drewN nq))
                      generalize w4.drewN nq = w5 at  o ⊢
                      go_wp2_with fail
                      go_ret
                      exact ⟨ret_bool E.out.symm, o⟩
                    · skip
                      have e1 : decide (now < tk) = false := decide_eq_false (by omega)
                      by_cases y2 : tk < otk
                      · skip
                        have E := Lib.hid (mvalid_bad (l := l) (seq := seq) (cap := cap) (now := now) (wd := wd) (least := least) (i := j) (by rw [HL.out]; exact hlt) (fun a => absurd (TW.out.1 ((AT.out.1 a).2.2.2 (by omega))).2.1 (by omega)))
                        have e2 : decide (tk < otk) = true := decide_eq_true (by omega)
                        refine wp_region_quiet_lit (by as_aux_lemma => kernel_rfl) (by as_aux_lemma => kernel_rfl) ?_
                        repeat (go_big_quiet_step ((go_at_call 83; exact Calls.quiet_of_same (PT.out _))))
                        refine wpQuiet_nil ?_
                        intro _ hw'
                        obtain ⟨nq, hw''⟩ := hw'
                        subst hw''
                        replace o := o.trans (⟨rfl, rfl, rfl, Nat.le_refl _, fun _ _ => rfl⟩ : Below _ w4 (w4.drewN nq))
                        generalize w4.drewN nq = w5 at  o ⊢
                        go_wp2_with fail
                        go_ret
                        exact ⟨ret_bool E.out.symm, o⟩
                      · skip
                        have e2 : decide (tk < otk) = false := decide_eq_false (by omega)
                        replace PL := fun w => PL w (by omega) (by omega)
                        by_cases y3 : ¬ now - wd < tk
                        · skip
                          have E := Lib.hid (mvalid_bad (l := l) (seq := seq) (cap := cap) (now := now) (wd := wd) (least := least) (i := j) (by rw [HL.out]; exact hlt) (fun a => y3 ((AT.out.1 a).2.2.1 (.inl (by omega)))))
                          rw [decide_eq_false y3] at PL
                          replace PL := Lib.hid PL
                          refine wp_region_quiet_lit (by as_aux_lemma => kernel_rfl) (by as_aux_lemma => kernel_rfl) ?_
                          repeat (go_big_quiet_step ((first | (go_at_call 83; exact Calls.quiet_of_same (PT.out _)) | (go_at_call 79; exact Calls.quiet_of_same (PL.out _)))))
                          refine wpQuiet_nil ?_
                          intro _ hw'
                          obtain ⟨nq, hw''⟩ := hw'
                          subst hw''
                          replace o := o.trans (⟨rfl, rfl, rfl, Nat.le_refl _, fun _ _ => rfl⟩ : Below _ w4 (w4.drewN nq))
                          generalize w4.drewN nq = w5 at  o ⊢
                          go_wp2_with fail
                          go_ret
                          exact ⟨ret_bool E.out.symm, o⟩
                        · skip
                          replace y3 : now - wd < tk := Decidable.not_not.1 y3
                          rw [decide_eq_true y3] at PL
                          replace PL := Lib.hid PL
                          have LV := Lib.hid y3
                          clear y3
                          refine wp_region_quiet_lit (by as_aux_lemma => kernel_rfl) (by as_aux_lemma => kernel_rfl) ?_
                          repeat (go_big_quiet_step ((first | (go_at_call 83; exact Calls.quiet_of_same (PT.out _)) | (go_at_call 79; exact Calls.quiet_of_same (PL.out _)))))
                          refine wpQuiet_nil ?_
                          intro _ hw'
                          obtain ⟨nq, hw''⟩ := hw'
                          subst hw''
                          replace K : Row (w4.drewN nq) mb 33 #[.int .i64 sq, .int .i64 tk, .int .i64 n, .int .i64 s, .int .i64 q, .int .i64 lo, .int .i64 hi] := K
                          replace o := o.trans (⟨rfl, rfl, rfl, Nat.le_refl _, fun _ _ => rfl⟩ : Below _ w4 (w4.drewN nq))
                          generalize w4.drewN nq = w5 at K o ⊢
                          clear PT PL
                          clear e1 e2 K0 K1 K2 K3 K4 K5 K6 Kf0 Kf1 Kf2 Kf3 Kf4 Kf5 Kf6 q0 q1 q2 q3 q4 q5 q6
                          go_upto_region 10 with (fail)
                          obtain ⟨K0, K1, K2, K3, K4, K5, K6, Kf0, Kf1, Kf2, Kf3, Kf4, Kf5, Kf6⟩ := row_seven K
                          have PV1 := fun w => rvalue agg lo w a0 a1
                          have PV2 := fun w => rvalue agg hi w a0 a1
                          have LE := LEQ.out
                          by_cases v0 : ¬ (leastV agg ≤ lo ∧ lo ≤ 4096)
                          · skip
                            have E := Lib.hid (mvalid_bad (l := l) (seq := seq) (cap := cap) (now := now) (wd := wd) (least := least) (i := j) (by rw [HL.out]; exact hlt) (fun a => v0 (by have h := (AT.out.1 a).2.1; have h1 := h.1; have h2 := h.2.1; have h3 := h.2.2.1; omega)))
                            rw [decide_eq_false v0] at PV1
                            replace PV1 := Lib.hid PV1
                            clear LE v0
                            refine wp_region_quietF ?_
                            repeat (go_big_quiet_step ((go_at_call 101; with_reducible exact Calls.quiet_of_same (PV1.out _))))
                            refine wpQuiet_nil ?_
                            intro _ hw'
                            obtain ⟨nq, hw''⟩ := hw'
                            subst hw''
                            replace o := o.trans (⟨rfl, rfl, rfl, Nat.le_refl _, fun _ _ => rfl⟩ : Below _ w5 (w5.drewN nq))
                            generalize w5.drewN nq = w6 at  o ⊢
                            go_wp2_with fail
                            go_ret
                            exact ⟨ret_bool E.out.symm, o⟩
                          · skip
                            replace v0 := Decidable.not_not.1 v0
                            rw [decide_eq_true v0] at PV1
                            replace PV1 := Lib.hid PV1
                            by_cases v1 : ¬ (leastV agg ≤ hi ∧ hi ≤ 4096)
                            · skip
                              have E := Lib.hid (mvalid_bad (l := l) (seq := seq) (cap := cap) (now := now) (wd := wd) (least := least) (i := j) (by rw [HL.out]; exact hlt) (fun a => v1 (by have h := (AT.out.1 a).2.1; have h1 := h.1; have h2 := h.2.1; have h3 := h.2.2.1; omega)))
                              rw [decide_eq_false v1] at PV2
                              replace PV2 := Lib.hid PV2
                              clear LE v0 v1
                              refine wp_region_quietF ?_
                              repeat (go_big_quiet_step ((first | (go_at_call 101; with_reducible exact Calls.quiet_of_same (PV1.out _)) | (go_at_call 101; with_reducible exact Calls.quiet_of_same (PV2.out _)))))
                              refine wpQuiet_nil ?_
                              intro _ hw'
                              obtain ⟨nq, hw''⟩ := hw'
                              subst hw''
                              replace o := o.trans (⟨rfl, rfl, rfl, Nat.le_refl _, fun _ _ => rfl⟩ : Below _ w5 (w5.drewN nq))
                              generalize w5.drewN nq = w6 at  o ⊢
                              go_wp2_with fail
                              go_ret
                              exact ⟨ret_bool E.out.symm, o⟩
                            · skip
                              replace v1 := Decidable.not_not.1 v1
                              rw [decide_eq_true v1] at PV2
                              replace PV2 := Lib.hid PV2
                              have lo0 : least ≤ lo := by omega
                              have lo1 : -4096 ≤ lo := by omega
                              have lo2 : lo ≤ 4096 := v0.2
                              have hi1 : -4096 ≤ hi := by omega
                              have hi2 : hi ≤ 4096 := v1.2
                              clear LE v0 v1
                              by_cases u0 : hi < lo
                              · skip
                                have E := Lib.hid (mvalid_bad (l := l) (seq := seq) (cap := cap) (now := now) (wd := wd) (least := least) (i := j) (by rw [HL.out]; exact hlt) (fun a => absurd (AT.out.1 a).2.1.2.2.1 (by omega)))
                                have e0 : decide (hi < lo) = true := decide_eq_true (by omega)
                                refine wp_region_quietF ?_
                                repeat (go_big_quiet_step ((first | (go_at_call 101; with_reducible exact Calls.quiet_of_same (PV1.out _)) | (go_at_call 101; with_reducible exact Calls.quiet_of_same (PV2.out _)))))
                                refine wpQuiet_nil ?_
                                intro _ hw'
                                obtain ⟨nq, hw''⟩ := hw'
                                subst hw''
                                replace o := o.trans (⟨rfl, rfl, rfl, Nat.le_refl _, fun _ _ => rfl⟩ : Below _ w5 (w5.drewN nq))
                                generalize w5.drewN nq = w6 at  o ⊢
                                go_wp2_with fail
                                go_ret
                                exact ⟨ret_bool E.out.symm, o⟩
                              · skip
                                by_cases u1 : s < -n * 4096
                                · skip
                                  have E := Lib.hid (mvalid_bad (l := l) (seq := seq) (cap := cap) (now := now) (wd := wd) (least := least) (i := j) (by rw [HL.out]; exact hlt) (fun a => absurd (part_lo (by omega) (AT.out.1 a).2.1.2.2.2 lo1 hi2).1 (by omega)))
                                  have e0 : decide (hi < lo) = false := decide_eq_false (by omega)
                                  have e1 : decide (s < -n * 4096) = true := decide_eq_true (by omega)
                                  have wn : IntKind.i64.wrap (-n) = -n := IntWalk.i64_in _ (by omega)
                                  have wnm : IntKind.i64.wrap (-n * 4096) = -n * 4096 := IntWalk.i64_in _ (by omega)
                                  have wn2 : IntKind.i64.wrap (n * 4096) = n * 4096 := IntWalk.i64_in _ (by omega)
                                  have wn3 : IntKind.i64.wrap (n * 4096 * 4096) = n * 4096 * 4096 := IntWalk.i64_in _ (by omega)
                                  refine wp_region_quietF ?_
                                  repeat (go_big_quiet_step ((first | (go_at_call 101; with_reducible exact Calls.quiet_of_same (PV1.out _)) | (go_at_call 101; with_reducible exact Calls.quiet_of_same (PV2.out _)))))
                                  refine wpQuiet_nil ?_
                                  intro _ hw'
                                  obtain ⟨nq, hw''⟩ := hw'
                                  subst hw''
                                  replace o := o.trans (⟨rfl, rfl, rfl, Nat.le_refl _, fun _ _ => rfl⟩ : Below _ w5 (w5.drewN nq))
                                  generalize w5.drewN nq = w6 at  o ⊢
                                  go_wp2_with fail
                                  go_ret
                                  exact ⟨ret_bool E.out.symm, o⟩
                                · skip
                                  by_cases u2 : n * 4096 < s
                                  · skip
                                    have E := Lib.hid (mvalid_bad (l := l) (seq := seq) (cap := cap) (now := now) (wd := wd) (least := least) (i := j) (by rw [HL.out]; exact hlt) (fun a => absurd (part_lo (by omega) (AT.out.1 a).2.1.2.2.2 lo1 hi2).2 (by omega)))
                                    have e0 : decide (hi < lo) = false := decide_eq_false (by omega)
                                    have e1 : decide (s < -n * 4096) = false := decide_eq_false (by omega)
                                    have e2 : decide (n * 4096 < s) = true := decide_eq_true (by omega)
                                    have wn : IntKind.i64.wrap (-n) = -n := IntWalk.i64_in _ (by omega)
                                    have wnm : IntKind.i64.wrap (-n * 4096) = -n * 4096 := IntWalk.i64_in _ (by omega)
                                    have wn2 : IntKind.i64.wrap (n * 4096) = n * 4096 := IntWalk.i64_in _ (by omega)
                                    have wn3 : IntKind.i64.wrap (n * 4096 * 4096) = n * 4096 * 4096 := IntWalk.i64_in _ (by omega)
                                    refine wp_region_quietF ?_
                                    repeat (go_big_quiet_step ((first | (go_at_call 101; with_reducible exact Calls.quiet_of_same (PV1.out _)) | (go_at_call 101; with_reducible exact Calls.quiet_of_same (PV2.out _)))))
                                    refine wpQuiet_nil ?_
                                    intro _ hw'
                                    obtain ⟨nq, hw''⟩ := hw'
                                    subst hw''
                                    replace o := o.trans (⟨rfl, rfl, rfl, Nat.le_refl _, fun _ _ => rfl⟩ : Below _ w5 (w5.drewN nq))
                                    generalize w5.drewN nq = w6 at  o ⊢
                                    go_wp2_with fail
                                    go_ret
                                    exact ⟨ret_bool E.out.symm, o⟩
                                  · skip
                                    by_cases u3 : q < 0
                                    · skip
                                      have E := Lib.hid (mvalid_bad (l := l) (seq := seq) (cap := cap) (now := now) (wd := wd) (least := least) (i := j) (by rw [HL.out]; exact hlt) (fun a => absurd (AT.out.1 a).2.1.2.2.2.2.2.1 (by omega)))
                                      have e0 : decide (hi < lo) = false := decide_eq_false (by omega)
                                      have e1 : decide (s < -n * 4096) = false := decide_eq_false (by omega)
                                      have e2 : decide (n * 4096 < s) = false := decide_eq_false (by omega)
                                      have e3 : decide (q < 0) = true := decide_eq_true (by omega)
                                      have wn : IntKind.i64.wrap (-n) = -n := IntWalk.i64_in _ (by omega)
                                      have wnm : IntKind.i64.wrap (-n * 4096) = -n * 4096 := IntWalk.i64_in _ (by omega)
                                      have wn2 : IntKind.i64.wrap (n * 4096) = n * 4096 := IntWalk.i64_in _ (by omega)
                                      have wn3 : IntKind.i64.wrap (n * 4096 * 4096) = n * 4096 * 4096 := IntWalk.i64_in _ (by omega)
                                      refine wp_region_quietF ?_
                                      repeat (go_big_quiet_step ((first | (go_at_call 101; with_reducible exact Calls.quiet_of_same (PV1.out _)) | (go_at_call 101; with_reducible exact Calls.quiet_of_same (PV2.out _)))))
                                      refine wpQuiet_nil ?_
                                      intro _ hw'
                                      obtain ⟨nq, hw''⟩ := hw'
                                      subst hw''
                                      replace o := o.trans (⟨rfl, rfl, rfl, Nat.le_refl _, fun _ _ => rfl⟩ : Below _ w5 (w5.drewN nq))
                                      generalize w5.drewN nq = w6 at  o ⊢
                                      go_wp2_with fail
                                      go_ret
                                      exact ⟨ret_bool E.out.symm, o⟩
                                    · skip
                                      by_cases u4 : n * 4096 * 4096 < q
                                      · skip
                                        have E := Lib.hid (mvalid_bad (l := l) (seq := seq) (cap := cap) (now := now) (wd := wd) (least := least) (i := j) (by rw [HL.out]; exact hlt) (fun a => absurd (AT.out.1 a).2.1.2.2.2.2.2.2.1 (by omega)))
                                        have e0 : decide (hi < lo) = false := decide_eq_false (by omega)
                                        have e1 : decide (s < -n * 4096) = false := decide_eq_false (by omega)
                                        have e2 : decide (n * 4096 < s) = false := decide_eq_false (by omega)
                                        have e3 : decide (q < 0) = false := decide_eq_false (by omega)
                                        have e4 : decide (n * 4096 * 4096 < q) = true := decide_eq_true (by omega)
                                        have wn : IntKind.i64.wrap (-n) = -n := IntWalk.i64_in _ (by omega)
                                        have wnm : IntKind.i64.wrap (-n * 4096) = -n * 4096 := IntWalk.i64_in _ (by omega)
                                        have wn2 : IntKind.i64.wrap (n * 4096) = n * 4096 := IntWalk.i64_in _ (by omega)
                                        have wn3 : IntKind.i64.wrap (n * 4096 * 4096) = n * 4096 * 4096 := IntWalk.i64_in _ (by omega)
                                        refine wp_region_quietF ?_
                                        repeat (go_big_quiet_step ((first | (go_at_call 101; with_reducible exact Calls.quiet_of_same (PV1.out _)) | (go_at_call 101; with_reducible exact Calls.quiet_of_same (PV2.out _)))))
                                        refine wpQuiet_nil ?_
                                        intro _ hw'
                                        obtain ⟨nq, hw''⟩ := hw'
                                        subst hw''
                                        replace o := o.trans (⟨rfl, rfl, rfl, Nat.le_refl _, fun _ _ => rfl⟩ : Below _ w5 (w5.drewN nq))
                                        generalize w5.drewN nq = w6 at  o ⊢
                                        go_wp2_with fail
                                        go_ret
                                        exact ⟨ret_bool E.out.symm, o⟩
                                      · skip
                                        have PF := fun w => rpartP n lo hi s q w (by omega) (by omega) lo1 lo2 hi1 hi2
                                        by_cases u5 : ¬ partP n lo hi s q
                                        · skip
                                          have E := Lib.hid (mvalid_bad (l := l) (seq := seq) (cap := cap) (now := now) (wd := wd) (least := least) (i := j) (by rw [HL.out]; exact hlt) (fun a => u5 (AT.out.1 a).2.1.2.2.2))
                                          have e0 : decide (hi < lo) = false := decide_eq_false (by omega)
                                          have e1 : decide (s < -n * 4096) = false := decide_eq_false (by omega)
                                          have e2 : decide (n * 4096 < s) = false := decide_eq_false (by omega)
                                          have e3 : decide (q < 0) = false := decide_eq_false (by omega)
                                          have e4 : decide (n * 4096 * 4096 < q) = false := decide_eq_false (by omega)
                                          have wn : IntKind.i64.wrap (-n) = -n := IntWalk.i64_in _ (by omega)
                                          have wnm : IntKind.i64.wrap (-n * 4096) = -n * 4096 := IntWalk.i64_in _ (by omega)
                                          have wn2 : IntKind.i64.wrap (n * 4096) = n * 4096 := IntWalk.i64_in _ (by omega)
                                          have wn3 : IntKind.i64.wrap (n * 4096 * 4096) = n * 4096 * 4096 := IntWalk.i64_in _ (by omega)
                                          rw [decide_eq_false u5] at PF
                                          replace PF := Lib.hid PF
                                          refine wp_region_quietF ?_
                                          repeat (go_big_quiet_step ((first | (go_at_call 101; with_reducible exact Calls.quiet_of_same (PV1.out _)) | (go_at_call 101; with_reducible exact Calls.quiet_of_same (PV2.out _)) | (go_at_call 102; with_reducible exact Calls.quiet_of_same (PF.out _)))))
                                          refine wpQuiet_nil ?_
                                          intro _ hw'
                                          obtain ⟨nq, hw''⟩ := hw'
                                          subst hw''
                                          replace o := o.trans (⟨rfl, rfl, rfl, Nat.le_refl _, fun _ _ => rfl⟩ : Below _ w5 (w5.drewN nq))
                                          generalize w5.drewN nq = w6 at  o ⊢
                                          go_wp2_with fail
                                          go_ret
                                          exact ⟨ret_bool E.out.symm, o⟩
                                        · skip
                                          have e0 : decide (hi < lo) = false := decide_eq_false (by omega)
                                          have e1 : decide (s < -n * 4096) = false := decide_eq_false (by omega)
                                          have e2 : decide (n * 4096 < s) = false := decide_eq_false (by omega)
                                          have e3 : decide (q < 0) = false := decide_eq_false (by omega)
                                          have e4 : decide (n * 4096 * 4096 < q) = false := decide_eq_false (by omega)
                                          have wn : IntKind.i64.wrap (-n) = -n := IntWalk.i64_in _ (by omega)
                                          have wnm : IntKind.i64.wrap (-n * 4096) = -n * 4096 := IntWalk.i64_in _ (by omega)
                                          have wn2 : IntKind.i64.wrap (n * 4096) = n * 4096 := IntWalk.i64_in _ (by omega)
                                          have wn3 : IntKind.i64.wrap (n * 4096 * 4096) = n * 4096 * 4096 := IntWalk.i64_in _ (by omega)
                                          replace u5 := Decidable.not_not.1 u5
                                          rw [decide_eq_true u5] at PF
                                          replace PF := Lib.hid PF
                                          have Y3 : RowKit.Hid (partP n lo hi s q) := Lib.hid u5
                                          clear u5
                                          refine wp_region_quietF ?_
                                          repeat (go_big_quiet_step ((first | (go_at_call 101; with_reducible exact Calls.quiet_of_same (PV1.out _)) | (go_at_call 101; with_reducible exact Calls.quiet_of_same (PV2.out _)) | (go_at_call 102; with_reducible exact Calls.quiet_of_same (PF.out _)))))
                                          refine wpQuiet_nil ?_
                                          intro _ hw'
                                          obtain ⟨nq, hw''⟩ := hw'
                                          subst hw''
                                          replace K : Row (w5.drewN nq) mb 33 #[.int .i64 sq, .int .i64 tk, .int .i64 n, .int .i64 s, .int .i64 q, .int .i64 lo, .int .i64 hi] := K
                                          replace o := o.trans (⟨rfl, rfl, rfl, Nat.le_refl _, fun _ _ => rfl⟩ : Below _ w5 (w5.drewN nq))
                                          generalize w5.drewN nq = w6 at K o ⊢
                                          clear K0 K1 K2 K3 K4 K5 K6 Kf0 Kf1 Kf2 Kf3 Kf4 Kf5 Kf6
                                          clear PF PV1 PV2 wn wnm wn2 wn3 e0 e1 e2 e3 e4
                                          go_upto_region 12 with (fail)
                                          obtain ⟨K0, K1, K2, K3, K4, K5, K6, Kf0, Kf1, Kf2, Kf3, Kf4, Kf5, Kf6⟩ := row_seven K
                                          have wm : IntKind.i64.wrap ((m : Int) - 1) = (m : Int) - 1 := IntWalk.i64_in _ (by omega)
                                          have bm1 := mul_small (n := n) (x := lo) (by omega) (by omega) lo1 lo2
                                          have bm2 := mul_small (n := n) (x := hi) (by omega) (by omega) hi1 hi2
                                          have G1 := Y3.out.1
                                          have G2 := Y3.out.2.1
                                          have bss := sq_bound (s := s) (B := 268435456) (by omega) (by omega)
                                          have wss : IntKind.i64.wrap (s * s) = s * s := IntWalk.i64_in _ (by omega)
                                          clear G1 G2 bm1 bm2 bss
                                          by_cases jl : j + 1 < m
                                          · as_aux_lemma =>
                                            have jl1 : ((j : Int) == (m : Int) - 1) = false := by simp; omega
                                            have jl2 : ¬ (j : Int) = (m : Int) - 1 := by omega
                                            go_upto_region 15 with (fail)
                                            clear jl1
                                            obtain ⟨q0, q1, q2, q3, q4, q5, q6⟩ := HT1.out.below o (by rw [block_of_add]; exact hadb)
                                            dsimp only at q0 q1 q2 q3 q4 q5 q6
                                            go_upto_region 16 with (fail)
                                            have O : Row (w6.alloc (.cells #[.int .i64 osq, .int .i64 otk, .int .i64 on, .int .i64 os, .int .i64 oq, .int .i64 olo, .int .i64 ohi] 33)) w6.heap.size 33 #[.int .i64 osq, .int .i64 otk, .int .i64 on, .int .i64 os, .int .i64 oq, .int .i64 olo, .int .i64 ohi] := row_new rfl
                                            replace K := row_alloc K (.cells #[.int .i64 osq, .int .i64 otk, .int .i64 on, .int .i64 os, .int .i64 oq, .int .i64 olo, .int .i64 ohi] 33)
                                            have z1 := o.size
                                            replace o := o.alloc o.size (.cells #[.int .i64 osq, .int .i64 otk, .int .i64 on, .int .i64 os, .int .i64 oq, .int .i64 olo, .int .i64 ohi] 33)
                                            generalize (w6.alloc (.cells #[.int .i64 osq, .int .i64 otk, .int .i64 on, .int .i64 os, .int .i64 oq, .int .i64 olo, .int .i64 ohi] 33)) = w7 at O K o ⊢
                                            generalize w6.heap.size = ob at O z1 ⊢
                                            clear q0 q1 q2 q3 q4 q5 q6 K0 K1 K2 K3 K4 K5 K6 Kf0 Kf1 Kf2 Kf3 Kf4 Kf5 Kf6
                                            obtain ⟨K0, K1, K2, K3, K4, K5, K6, Kf0, Kf1, Kf2, Kf3, Kf4, Kf5, Kf6⟩ := row_seven K
                                            obtain ⟨O0, O1, O2, O3, O4, O5, O6, Of0, Of1, Of2, Of3, Of4, Of5, Of6⟩ := row_seven O
                                            obtain ⟨f1, f2, f3, f4, f5⟩ := B10
                                            obtain ⟨g1, g2, g3, g4, g5⟩ := Y3.out
                                            have bo1 := mul_small (n := on) (x := olo) (by omega) (by omega) (by omega) (by omega)
                                            have bo2 := mul_small (n := on) (x := ohi) (by omega) (by omega) (by omega) (by omega)
                                            have bm1 := mul_small (n := n) (x := lo) (by omega) (by omega) (by omega) (by omega)
                                            have bm2 := mul_small (n := n) (x := hi) (by omega) (by omega) (by omega) (by omega)
                                            have wd1 : IntKind.i64.wrap (on - n) = on - n := IntWalk.i64_in _ (by omega)
                                            have wd2 : IntKind.i64.wrap (os - s) = os - s := IntWalk.i64_in _ (by omega)
                                            have wd3 : IntKind.i64.wrap (oq - q) = oq - q := IntWalk.i64_in _ (by omega)
                                            clear f1 f2 f3 f4 f5 g1 g2 g3 g4 g5 bo1 bo2 bm1 bm2
                                            by_cases r0 : lo < olo
                                            · skip
                                              have E := Lib.hid (mvalid_bad (l := l) (seq := seq) (cap := cap) (now := now) (wd := wd) (least := least) (i := j) (by rw [HL.out]; exact hlt) (fun a => absurd (TW.out.1 ((AT.out.1 a).2.2.2 (by omega))).2.2.1 (by omega)))
                                              go_wp2_with fail
                                              go_ret
                                              exact ⟨ret_bool E.out.symm, o⟩
                                            · skip
                                              by_cases r1 : ohi < hi
                                              · skip
                                                have E := Lib.hid (mvalid_bad (l := l) (seq := seq) (cap := cap) (now := now) (wd := wd) (least := least) (i := j) (by rw [HL.out]; exact hlt) (fun a => absurd (TW.out.1 ((AT.out.1 a).2.2.2 (by omega))).2.2.2.1 (by omega)))
                                                go_wp2_with fail
                                                go_ret
                                                exact ⟨ret_bool E.out.symm, o⟩
                                              · skip
                                                have PF := fun w => rpartP (on - n) olo ohi (os - s) (oq - q) w (by omega) (by omega) (by omega) (by omega) (by omega) (by omega)
                                                by_cases r2 : ¬ partP (on - n) olo ohi (os - s) (oq - q)
                                                · skip
                                                  have E := Lib.hid (mvalid_bad (l := l) (seq := seq) (cap := cap) (now := now) (wd := wd) (least := least) (i := j) (by rw [HL.out]; exact hlt) (fun a => r2 (TW.out.1 ((AT.out.1 a).2.2.2 (by omega))).2.2.2.2))
                                                  rw [decide_eq_false r2] at PF
                                                  replace PF := Lib.hid PF
                                                  go_wp2_with (go_at_call 102; with_reducible refine (PF.out _).mono ?_; rintro e w9 ⟨rfl, h9⟩; obtain rfl := h9.symm)
                                                  go_ret
                                                  exact ⟨ret_bool E.out.symm, o⟩
                                                · skip
                                                  replace r2 := Decidable.not_not.1 r2
                                                  rw [decide_eq_true r2] at PF
                                                  replace PF := Lib.hid PF
                                                  have V4 : RowKit.Hid (partP (on - n) olo ohi (os - s) (oq - q)) := Lib.hid r2
                                                  clear r2
                                                  go_upto_region 18 with (go_at_call 102; with_reducible refine (PF.out _).mono ?_; rintro e w9 ⟨rfl, h9⟩; obtain rfl := h9.symm)
                                                  clear PF
                                                  have HA2 : RowKit.Hid (∀ e, e < j + 1 → atP l seq cap now wd least e) := Lib.hid (fun e he => by
                                                    rcases Nat.lt_or_ge e j with g | g
                                                    · exact HA.out e g
                                                    · rw [show e = j by omega]
                                                      exact (AT.out.2 ⟨⟨by omega, by omega, by omega, by omega, by omega, by omega⟩, ⟨by omega, by omega, by omega, Y3.out⟩, (fun _ => LV.out), (fun _ => TW.out.2 ⟨by omega, by omega, by omega, by omega, V4.out⟩)⟩))
                                                  have HZ2 : RowKit.Hid (j + 1 = m → j + 1 ≠ 0 → lastP seq (mkAt l (j + 1 - 1))) := Lib.hid (fun h => absurd h (by omega))
                                                  go_wp2
                                                  go_roundw
                                                  case rel => exact ⟨j + 1, by omega, (by first | go_num | exact congrArg (Value.int .i64) (by omega)), HA2, HZ2, o⟩
                                                  case measure => simp [intOf]; omega
                                          · as_aux_lemma =>
                                            have jl1 : ((j : Int) == (m : Int) - 1) = true := by simp; omega
                                            have LS : RowKit.Hid (mvalid l seq cap now wd least → sq = seq ∧ lo = s ∧ hi = s ∧ q = s * s) := Lib.hid (fun a => by
                                              have h := a.2.2.2 (by rw [HL.out]; omega)
                                              rw [show l.length - 1 = j by have := HL.out; omega, HM.out] at h
                                              exact h)
                                            have JL := Lib.hid jl
                                            clear jl
                                            by_cases t0 : sq ≠ seq
                                            · skip
                                              have tb0 : (sq != seq) = true := by simpa using t0
                                              have E := Lib.hid (show decide (mvalid l seq cap now wd least) = false from decide_eq_false (fun a => t0 (LS.out a).1))
                                              clear t0
                                              go_wp2_with fail
                                              go_ret
                                              exact ⟨ret_bool E.out.symm, o⟩
                                            · skip
                                              have tb0 : (sq != seq) = false := by simp; omega
                                              have T0 := Lib.hid (Decidable.not_not.1 t0)
                                              clear t0
                                              by_cases t1 : lo ≠ s
                                              · skip
                                                have tb1 : (lo != s) = true := by simpa using t1
                                                have E := Lib.hid (show decide (mvalid l seq cap now wd least) = false from decide_eq_false (fun a => t1 (LS.out a).2.1))
                                                clear t1
                                                go_wp2_with fail
                                                go_ret
                                                exact ⟨ret_bool E.out.symm, o⟩
                                              · skip
                                                have tb1 : (lo != s) = false := by simp; omega
                                                have T1 := Lib.hid (Decidable.not_not.1 t1)
                                                clear t1
                                                by_cases t2 : hi ≠ s
                                                · skip
                                                  have tb2 : (hi != s) = true := by simpa using t2
                                                  have E := Lib.hid (show decide (mvalid l seq cap now wd least) = false from decide_eq_false (fun a => t2 (LS.out a).2.2.1))
                                                  clear t2
                                                  go_wp2_with fail
                                                  go_ret
                                                  exact ⟨ret_bool E.out.symm, o⟩
                                                · skip
                                                  have tb2 : (hi != s) = false := by simp; omega
                                                  have T2 := Lib.hid (Decidable.not_not.1 t2)
                                                  clear t2
                                                  by_cases t3 : q ≠ s * s
                                                  · skip
                                                    have tb3 : (q != s * s) = true := by simpa using t3
                                                    have E := Lib.hid (show decide (mvalid l seq cap now wd least) = false from decide_eq_false (fun a => t3 (LS.out a).2.2.2))
                                                    clear t3
                                                    go_wp2_with fail
                                                    go_ret
                                                    exact ⟨ret_bool E.out.symm, o⟩
                                                  · skip
                                                    have tb3 : (q != s * s) = false := by simp; omega
                                                    have T3 := Lib.hid (Decidable.not_not.1 t3)
                                                    clear t3
                                                    go_upto_region 15 with (fail)
                                                    clear jl1
                                                    obtain ⟨q0, q1, q2, q3, q4, q5, q6⟩ := HT1.out.below o (by rw [block_of_add]; exact hadb)
                                                    dsimp only at q0 q1 q2 q3 q4 q5 q6
                                                    go_upto_region 16 with (fail)
                                                    have O : Row (w6.alloc (.cells #[.int .i64 osq, .int .i64 otk, .int .i64 on, .int .i64 os, .int .i64 oq, .int .i64 olo, .int .i64 ohi] 33)) w6.heap.size 33 #[.int .i64 osq, .int .i64 otk, .int .i64 on, .int .i64 os, .int .i64 oq, .int .i64 olo, .int .i64 ohi] := row_new rfl
                                                    replace K := row_alloc K (.cells #[.int .i64 osq, .int .i64 otk, .int .i64 on, .int .i64 os, .int .i64 oq, .int .i64 olo, .int .i64 ohi] 33)
                                                    have z1 := o.size
                                                    replace o := o.alloc o.size (.cells #[.int .i64 osq, .int .i64 otk, .int .i64 on, .int .i64 os, .int .i64 oq, .int .i64 olo, .int .i64 ohi] 33)
                                                    generalize (w6.alloc (.cells #[.int .i64 osq, .int .i64 otk, .int .i64 on, .int .i64 os, .int .i64 oq, .int .i64 olo, .int .i64 ohi] 33)) = w7 at O K o ⊢
                                                    generalize w6.heap.size = ob at O z1 ⊢
                                                    clear q0 q1 q2 q3 q4 q5 q6 K0 K1 K2 K3 K4 K5 K6 Kf0 Kf1 Kf2 Kf3 Kf4 Kf5 Kf6
                                                    obtain ⟨K0, K1, K2, K3, K4, K5, K6, Kf0, Kf1, Kf2, Kf3, Kf4, Kf5, Kf6⟩ := row_seven K
                                                    obtain ⟨O0, O1, O2, O3, O4, O5, O6, Of0, Of1, Of2, Of3, Of4, Of5, Of6⟩ := row_seven O
                                                    obtain ⟨f1, f2, f3, f4, f5⟩ := B10
                                                    obtain ⟨g1, g2, g3, g4, g5⟩ := Y3.out
                                                    have bo1 := mul_small (n := on) (x := olo) (by omega) (by omega) (by omega) (by omega)
                                                    have bo2 := mul_small (n := on) (x := ohi) (by omega) (by omega) (by omega) (by omega)
                                                    have bm1 := mul_small (n := n) (x := lo) (by omega) (by omega) (by omega) (by omega)
                                                    have bm2 := mul_small (n := n) (x := hi) (by omega) (by omega) (by omega) (by omega)
                                                    have wd1 : IntKind.i64.wrap (on - n) = on - n := IntWalk.i64_in _ (by omega)
                                                    have wd2 : IntKind.i64.wrap (os - s) = os - s := IntWalk.i64_in _ (by omega)
                                                    have wd3 : IntKind.i64.wrap (oq - q) = oq - q := IntWalk.i64_in _ (by omega)
                                                    clear f1 f2 f3 f4 f5 g1 g2 g3 g4 g5 bo1 bo2 bm1 bm2
                                                    by_cases r0 : lo < olo
                                                    · skip
                                                      have E := Lib.hid (mvalid_bad (l := l) (seq := seq) (cap := cap) (now := now) (wd := wd) (least := least) (i := j) (by rw [HL.out]; exact hlt) (fun a => absurd (TW.out.1 ((AT.out.1 a).2.2.2 (by omega))).2.2.1 (by omega)))
                                                      go_wp2_with fail
                                                      go_ret
                                                      exact ⟨ret_bool E.out.symm, o⟩
                                                    · skip
                                                      by_cases r1 : ohi < hi
                                                      · skip
                                                        have E := Lib.hid (mvalid_bad (l := l) (seq := seq) (cap := cap) (now := now) (wd := wd) (least := least) (i := j) (by rw [HL.out]; exact hlt) (fun a => absurd (TW.out.1 ((AT.out.1 a).2.2.2 (by omega))).2.2.2.1 (by omega)))
                                                        go_wp2_with fail
                                                        go_ret
                                                        exact ⟨ret_bool E.out.symm, o⟩
                                                      · skip
                                                        have PF := fun w => rpartP (on - n) olo ohi (os - s) (oq - q) w (by omega) (by omega) (by omega) (by omega) (by omega) (by omega)
                                                        by_cases r2 : ¬ partP (on - n) olo ohi (os - s) (oq - q)
                                                        · skip
                                                          have E := Lib.hid (mvalid_bad (l := l) (seq := seq) (cap := cap) (now := now) (wd := wd) (least := least) (i := j) (by rw [HL.out]; exact hlt) (fun a => r2 (TW.out.1 ((AT.out.1 a).2.2.2 (by omega))).2.2.2.2))
                                                          rw [decide_eq_false r2] at PF
                                                          replace PF := Lib.hid PF
                                                          go_wp2_with (go_at_call 102; with_reducible refine (PF.out _).mono ?_; rintro e w9 ⟨rfl, h9⟩; obtain rfl := h9.symm)
                                                          go_ret
                                                          exact ⟨ret_bool E.out.symm, o⟩
                                                        · skip
                                                          replace r2 := Decidable.not_not.1 r2
                                                          rw [decide_eq_true r2] at PF
                                                          replace PF := Lib.hid PF
                                                          have V4 : RowKit.Hid (partP (on - n) olo ohi (os - s) (oq - q)) := Lib.hid r2
                                                          clear r2
                                                          go_upto_region 18 with (go_at_call 102; with_reducible refine (PF.out _).mono ?_; rintro e w9 ⟨rfl, h9⟩; obtain rfl := h9.symm)
                                                          clear PF
                                                          have HA2 : RowKit.Hid (∀ e, e < j + 1 → atP l seq cap now wd least e) := Lib.hid (fun e he => by
                                                            rcases Nat.lt_or_ge e j with g | g
                                                            · exact HA.out e g
                                                            · rw [show e = j by omega]
                                                              exact (AT.out.2 ⟨⟨by omega, by omega, by omega, by omega, by omega, by omega⟩, ⟨by omega, by omega, by omega, Y3.out⟩, (fun _ => LV.out), (fun _ => TW.out.2 ⟨by omega, by omega, by omega, by omega, V4.out⟩)⟩))
                                                          have HZ2 : RowKit.Hid (j + 1 = m → j + 1 ≠ 0 → lastP seq (mkAt l (j + 1 - 1))) := Lib.hid (fun _ _ => (by rw [show j + 1 - 1 = j by omega, HM.out]; exact ⟨T0.out, T1.out, T2.out, T3.out⟩))
                                                          go_wp2
                                                          go_roundw
                                                          case rel => exact ⟨j + 1, by omega, (by first | go_num | exact congrArg (Value.int .i64) (by omega)), HA2, HZ2, o⟩
                                                          case measure => simp [intOf]; omega
    · have i1 : ¬ (j : Int) < (m : Int) := by omega
      obtain rfl : j = m := by omega
      have E := Lib.hid (show decide (mvalid l seq cap now wd least) = true from decide_eq_true ⟨s0, s1, fun i hi => HA.out i (by rw [HL.out] at hi; exact hi), fun h => by rw [HL.out] at h ⊢; exact HZ.out rfl h⟩)
      clear HA HZ
      go_wp2
      go_ret
      exact ⟨ret_bool E.out.symm, o⟩
theorem rmarks (A : Option Addr) (m c : Nat) (l : List Mk) (agg wd cap now seq : Int) (w : World) (hin : MIn A m c l w) (a0 : 1 ≤ agg) (a1 : agg ≤ 4) (sB : I64 seq) (c0 : 1 ≤ cap) (c1 : cap ≤ 65536) (n0 : 0 ≤ now) (n1 : now ≤ 16777216) (d0 : 1 ≤ wd) (d1 : wd ≤ 1048576) : Calls Try.prog 67 #[.slice A m c, .int .i64 agg, .int .i64 wd, .int .i64 cap, .int .i64 now, .int .i64 seq] w fun e w' => e = .returned (.bool (decide (mvalid l seq cap now wd (leastV agg)))) ∧ Below w.heap.size w w' := by
  by_cases h : seq < 0
  · exact rmarks_a A m c l agg wd cap now seq w h
  · by_cases h1 : 1099511627776 < seq
    · exact rmarks_b A m c l agg wd cap now seq w (by omega) h1
    · by_cases m1 : m = 1
      · subst m1
        exact rmarks_one A c l agg wd cap now seq w hin a0 a1 sB c0 c1 n0 n1 d0 d1 (by omega) (by omega)
      · exact rmarks_main A m c l agg wd cap now seq w hin a0 a1 sB c0 c1 n0 n1 d0 d1 (by omega) (by omega) m1
end Go.Proofs.Ytaiepjcnncajcaa
end
section
/- Spread histograms: the checks of a histogram of the variance, walked. -/
set_option linter.unusedVariables false
set_option linter.unusedSimpArgs false
set_option linter.unusedSectionVars false
set_option linter.unnecessarySimpa false
namespace Go.Proofs.Ytaiepjcnncajcaa
open Go.RowKit
theorem pgoodD (wd k cap now : Int) (w : World) : Calls Try.prog 38 #[.int .i64 wd, .int .i64 k, .int .i64 cap, .int .i64 now] w fun e w' => e = .returned (.bool (decide (spGood wd k cap now))) ∧ w' = w := by
  have h := pgood wd k cap now w
  rw [show decide (1 ≤ wd ∧ wd ≤ 1048576 ∧ 1 ≤ k ∧ k ≤ 64 ∧ 1 ≤ cap ∧ cap ≤ 65536 ∧ 0 ≤ now ∧ now ≤ 16777216) = decide (spGood wd k cap now) from decide_eq_decide.2 Iff.rfl] at h
  exact h
set_option maxRecDepth 100000 in
theorem pvalP_a (A : Option Addr) (m c : Nat) (l : List Mk) (wd k cap now seq : Int) (w : World) (h : ¬ spGood wd k cap now) : Calls Try.prog 27 #[.agg #[.int .i64 wd, .int .i64 k, .int .i64 cap, .int .i64 now, .int .i64 seq, .slice A m c]] w fun e w' => e = .returned (.int .i64 (spvalE wd k cap now seq l)) ∧ Below w.heap.size w w' := by
  have E := Lib.hid (spvalE_no (wd := wd) (k := k) (cap := cap) (now := now) (seq := seq) (l := l) (fun a => h a.1))
  have PG := fun w => pgoodD wd k cap now w
  rw [decide_eq_false h] at PG
  replace PG := Lib.hid PG
  clear h
  go_enter Try.func27, Try.ntmps27
  go_upto_region 1 with (fail)
  have X : Row (w.alloc (.cells #[.int .i64 wd, .int .i64 k, .int .i64 cap, .int .i64 now, .int .i64 seq, .slice A m c] 24)) w.heap.size 24 #[.int .i64 wd, .int .i64 k, .int .i64 cap, .int .i64 now, .int .i64 seq, .slice A m c] := row_new rfl
  have o : Below w.heap.size w (w.alloc (.cells #[.int .i64 wd, .int .i64 k, .int .i64 cap, .int .i64 now, .int .i64 seq, .slice A m c] 24)) := by (repeat (first | exact Below.refl _ _ | refine Below.setCell ?_ (by first | (simp; done) | (simp; omega) | omega) _ | refine Below.alloc ?_ (by first | (simp; done) | (simp; omega) | omega) _ | refine Below.drew ?_ | refine Below.trans ?_ (Below.mono (by assumption) (by first | (simp; done) | (simp; omega) | omega))))
  generalize (w.alloc (.cells #[.int .i64 wd, .int .i64 k, .int .i64 cap, .int .i64 now, .int .i64 seq, .slice A m c] 24)) = w1 at X o ⊢
  obtain ⟨X0, X1, X2, X3, X4, X5, Xf0, Xf1, Xf2, Xf3, Xf4, Xf5⟩ := row_six X
  go_wp2_with (go_at_call 38; with_reducible refine (PG.out _).mono ?_; rintro e w9 ⟨rfl, h9⟩; obtain rfl := h9.symm)
  go_ret
  exact ⟨ret_i64 E.out.symm, o⟩
set_option maxRecDepth 100000 in
theorem pvalP_b (A : Option Addr) (m c : Nat) (l : List Mk) (wd k cap now seq : Int) (w : World) (hin : MIn A m c l w) (sB : I64 seq) (hG : spGood wd k cap now) (hV : ¬ mvalid l seq cap now wd (-4096)) : Calls Try.prog 27 #[.agg #[.int .i64 wd, .int .i64 k, .int .i64 cap, .int .i64 now, .int .i64 seq, .slice A m c]] w fun e w' => e = .returned (.int .i64 (spvalE wd k cap now seq l)) ∧ Below w.heap.size w w' := by
  have E := Lib.hid (spvalE_no (wd := wd) (k := k) (cap := cap) (now := now) (seq := seq) (l := l) (fun a => hV a.2.1))
  have PG := fun w => pgoodD wd k cap now w
  rw [decide_eq_true hG] at PG
  replace PG := Lib.hid PG
  obtain ⟨d0, d1, k0, k1, c0, c1, n0, n1⟩ := hG
  have PV := fun w' (hb : Below w.heap.size w w') => pmvalid A m c l seq cap now wd (-4096) w' (hin.below hb) sB c0 c1 n0 n1 d0 d1 (Int.le_refl _)
  rw [decide_eq_false hV] at PV
  replace PV := Lib.hid PV
  clear hV hin sB
  go_enter Try.func27, Try.ntmps27
  go_upto_region 1 with (fail)
  have X : Row (w.alloc (.cells #[.int .i64 wd, .int .i64 k, .int .i64 cap, .int .i64 now, .int .i64 seq, .slice A m c] 24)) w.heap.size 24 #[.int .i64 wd, .int .i64 k, .int .i64 cap, .int .i64 now, .int .i64 seq, .slice A m c] := row_new rfl
  have o : Below w.heap.size w (w.alloc (.cells #[.int .i64 wd, .int .i64 k, .int .i64 cap, .int .i64 now, .int .i64 seq, .slice A m c] 24)) := by (repeat (first | exact Below.refl _ _ | refine Below.setCell ?_ (by first | (simp; done) | (simp; omega) | omega) _ | refine Below.alloc ?_ (by first | (simp; done) | (simp; omega) | omega) _ | refine Below.drew ?_ | refine Below.trans ?_ (Below.mono (by assumption) (by first | (simp; done) | (simp; omega) | omega))))
  generalize (w.alloc (.cells #[.int .i64 wd, .int .i64 k, .int .i64 cap, .int .i64 now, .int .i64 seq, .slice A m c] 24)) = w1 at X o ⊢
  obtain ⟨X0, X1, X2, X3, X4, X5, Xf0, Xf1, Xf2, Xf3, Xf4, Xf5⟩ := row_six X
  have PV1 := Lib.hid (PV.out w1 o)
  clear PV
  go_wp2_with (first | (go_at_call 38; with_reducible refine (PG.out _).mono ?_; rintro e w9 ⟨rfl, h9⟩; obtain rfl := h9.symm) | (go_at_call 66; with_reducible refine (PV1.out).mono ?_; rintro e w2 ⟨rfl, hb2⟩; replace X := row_call X hb2; replace o := o.trans (hb2.mono o.size); clear X0 Xf0 X1 Xf1 X2 Xf2 X3 Xf3 X4 Xf4 X5 Xf5 hb2; obtain ⟨X0, X1, X2, X3, X4, X5, Xf0, Xf1, Xf2, Xf3, Xf4, Xf5⟩ := row_six X))
  go_ret
  exact ⟨ret_i64 E.out.symm, o⟩
set_option maxRecDepth 100000 in
set_option maxHeartbeats 8000000 in
theorem pvalP_c (A : Option Addr) (m c : Nat) (l : List Mk) (wd k cap now seq : Int) (w : World) (hin : MIn A m c l w) (sB : I64 seq) (hG : spGood wd k cap now) (hV : mvalid l seq cap now wd (-4096)) : Calls Try.prog 27 #[.agg #[.int .i64 wd, .int .i64 k, .int .i64 cap, .int .i64 now, .int .i64 seq, .slice A m c]] w fun e w' => e = .returned (.int .i64 (spvalE wd k cap now seq l)) ∧ Below w.heap.size w w' := by
  have HG := Lib.hid hG
  have HV := Lib.hid hV
  have HR := Lib.hid hin
  have HL := Lib.hid hin.len
  have mB := hin.max
  have PG := fun w => pgoodD wd k cap now w
  rw [decide_eq_true hG] at PG
  replace PG := Lib.hid PG
  obtain ⟨d0, d1, k0, k1, c0, c1, n0, n1⟩ := hG
  have PV := fun w' (hb : Below w.heap.size w w') => pmvalid A m c l seq cap now wd (-4096) w' (hin.below hb) sB c0 c1 n0 n1 d0 d1 (Int.le_refl _)
  rw [decide_eq_true hV] at PV
  replace PV := Lib.hid PV
  clear hV hin sB
  go_enter Try.func27, Try.ntmps27
  go_upto_region 1 with (fail)
  have X : Row (w.alloc (.cells #[.int .i64 wd, .int .i64 k, .int .i64 cap, .int .i64 now, .int .i64 seq, .slice A m c] 24)) w.heap.size 24 #[.int .i64 wd, .int .i64 k, .int .i64 cap, .int .i64 now, .int .i64 seq, .slice A m c] := row_new rfl
  have o : Below w.heap.size w (w.alloc (.cells #[.int .i64 wd, .int .i64 k, .int .i64 cap, .int .i64 now, .int .i64 seq, .slice A m c] 24)) := by (repeat (first | exact Below.refl _ _ | refine Below.setCell ?_ (by first | (simp; done) | (simp; omega) | omega) _ | refine Below.alloc ?_ (by first | (simp; done) | (simp; omega) | omega) _ | refine Below.drew ?_ | refine Below.trans ?_ (Below.mono (by assumption) (by first | (simp; done) | (simp; omega) | omega))))
  generalize (w.alloc (.cells #[.int .i64 wd, .int .i64 k, .int .i64 cap, .int .i64 now, .int .i64 seq, .slice A m c] 24)) = w1 at X o ⊢
  obtain ⟨X0, X1, X2, X3, X4, X5, Xf0, Xf1, Xf2, Xf3, Xf4, Xf5⟩ := row_six X
  have PV1 := Lib.hid (PV.out w1 o)
  clear PV
  go_upto_region 4 with (first | (go_at_call 38; with_reducible refine (PG.out _).mono ?_; rintro e w9 ⟨rfl, h9⟩; obtain rfl := h9.symm) | (go_at_call 66; with_reducible refine (PV1.out).mono ?_; rintro e w2 ⟨rfl, hb2⟩; replace X := row_call X hb2; replace o := o.trans (hb2.mono o.size); clear X0 Xf0 X1 Xf1 X2 Xf2 X3 Xf3 X4 Xf4 X5 Xf5 hb2; obtain ⟨X0, X1, X2, X3, X4, X5, Xf0, Xf1, Xf2, Xf3, Xf4, Xf5⟩ := row_six X))
  clear PG PV1
  obtain ⟨xb, hxb⟩ : ∃ x, x = w.heap.size := ⟨_, rfl⟩
  have zx : w.heap.size ≤ xb := by omega
  rw [← hxb] at X X0 Xf0 X1 Xf1 X2 Xf2 X3 Xf3 X4 Xf4 X5 Xf5 ⊢
  clear hxb X0 Xf0 X1 Xf1 X2 Xf2 X3 Xf3 X4 Xf4 X5 Xf5
  go_loopw [3] (fun i wr => ∃ j : Nat, 2 ≤ j ∧ (j ≤ m ∨ j = 2) ∧ i = .int .i64 (j : Nat) ∧ RowKit.Hid (∀ e, e < j → spAt k l e) ∧ Row wr xb 24 #[.int .i64 wd, .int .i64 k, .int .i64 cap, .int .i64 now, .int .i64 seq, .slice A m c] ∧ Below w.heap.size w wr) (fun i _ => m - (intOf i).toNat)
  case atStart => exact ⟨2, by omega, .inr rfl, rfl, Lib.hid (fun e h h2 => absurd h2 (by omega)), X, o⟩
  case round =>
    clear X o
    obtain ⟨j, hj2, hj, rfl, HA, X, o⟩ := hrel
    by_cases hlt : j < m
    · obtain ⟨ad, rfl, hadb, ht0⟩ := HR.out.reads.mk hlt
      obtain ⟨ad', ea, _, htz⟩ := HR.out.reads.mk (i := j - 2) (by omega)
      obtain rfl : ad = ad' := by injection ea
      obtain ⟨p, hp⟩ : ∃ p : Nat, j = p + 2 := ⟨j - 2, by omega⟩
      have wj : IntKind.i64.wrap ((j : Int) - 2) = (p : Int) := by rw [IntWalk.i64_in _ (by omega)]; omega
      have p1 : (p : Int) < (m : Int) := by omega
      have p0' : (0 : Int) ≤ (p : Int) := by omega
      rw [show j - 2 = p by omega] at htz
      have hb0 : (ad.add (j * 7)).block < w.heap.size := by rw [block_of_add]; exact hadb
      have hbz : (ad.add (p * 7)).block < w.heap.size := by rw [block_of_add]; exact hadb
      have HSP := Lib.hid (show spAt k l j ↔ ¬ closeM k (mkAt l p) (mkAt l j) by unfold spAt; rw [show j - 2 = p by omega]; exact ⟨fun h => h hj2, fun h _ => h⟩)
      have PC := fun w => pclose (mkAt l p).seq (mkAt l p).t (mkAt l p).n (mkAt l p).s (mkAt l p).q (mkAt l p).lo (mkAt l p).hi (mkAt l j).seq (mkAt l j).t (mkAt l j).n (mkAt l j).s (mkAt l j).q (mkAt l j).lo (mkAt l j).hi k w
      obtain ⟨nv, hnv⟩ : ∃ nv, decide (closeP (mkAt l p).n (mkAt l p).s (mkAt l p).q (mkAt l j).n (mkAt l j).s (mkAt l j).q k) = nv := ⟨_, rfl⟩
      rw [hnv] at PC
      have HNV := Lib.hid (show decide (closeM k (mkAt l p) (mkAt l j)) = nv from hnv)
      have HNX := Lib.hid (fun (h : spAt k l j) => (show ∀ e, e < j + 1 → spAt k l e from fun e he => by
        rcases Nat.lt_or_ge e j with g | g
        · exact HA.out e g
        · rw [show e = j by omega]; exact h))
      generalize hmz : mkAt l p = mz at htz PC hnv
      generalize hm0 : mkAt l j = m0 at ht0 PC hnv
      obtain ⟨zsq, ztk, zn, zs, zq, zlo, zhi⟩ := mz
      obtain ⟨sq, tk, n, s, q, lo, hi⟩ := m0
      dsimp only at PC
      replace PC := Lib.hid PC
      have HTz := Lib.hid htz
      have HT0 := Lib.hid ht0
      have i1 : (j : Int) < (m : Int) := by omega
      have i2 : (0 : Int) ≤ (j : Int) := by omega
      clear hmz hm0 hnv htz ht0 ea hp
      obtain ⟨X0, X1, X2, X3, X4, X5, Xf0, Xf1, Xf2, Xf3, Xf4, Xf5⟩ := row_six X
      go_upto_region 6 with (fail)
      clear X0 Xf0 X1 Xf1 X2 Xf2 X3 Xf3 X4 Xf4 X5 Xf5
      cases nv
      · skip
        refine wp_region_free0 [0, 1, 2, 3, 4, 6, 7, 8, 9, 11, 5, 10, 12] [] [0, 1, 2, 3, 4, 5, 6, 7, 8, 9, 10, 11, 12] 13 (fun w' => Row w' (xb) 24 #[.int .i64 wd, .int .i64 k, .int .i64 cap, .int .i64 now, .int .i64 seq, .slice (some ad) m c] ∧ Below w.heap.size w w') (by kernel_rfl) (by kernel_rfl) (fun _ _ d _ _ h => by cases d <;> exact h) ?_ ?_
        · exact ⟨X, o.drew⟩
        (refine plan_pure ?_ rfl rfl (fun w' => ?_) ?_; rotate_left; (go_simp; try with_reducible rfl); simp only [Act.put, List.setIfInBounds_toArray, List.set_cons_zero, List.set_cons_succ])
        (refine plan_val ?_ rfl rfl rfl (fun w' hS => ?_) ?_; rotate_left; (obtain ⟨X0, X1, X2, X3, X4, X5, Xf0, Xf1, Xf2, Xf3, Xf4, Xf5⟩ := row_six hS.1; obtain ⟨q0, q1, q2, q3, q4, q5, q6⟩ := HTz.out.below hS.2 hbz; dsimp only at q0 q1 q2 q3 q4 q5 q6; obtain ⟨p0, p1, p2, p3, p4, p5, p6⟩ := HT0.out.below hS.2 hb0; dsimp only at p0 p1 p2 p3 p4 p5 p6; go_simp; try with_reducible rfl); simp only [Act.put, List.setIfInBounds_toArray, List.set_cons_zero, List.set_cons_succ])
        (refine plan_pure ?_ rfl rfl (fun w' => ?_) ?_; rotate_left; (go_simp; try with_reducible rfl); simp only [Act.put, List.setIfInBounds_toArray, List.set_cons_zero, List.set_cons_succ])
        (refine plan_pure ?_ rfl rfl (fun w' => ?_) ?_; rotate_left; (go_simp; try with_reducible rfl); simp only [Act.put, List.setIfInBounds_toArray, List.set_cons_zero, List.set_cons_succ])
        (refine plan_pure ?_ rfl rfl (fun w' => ?_) ?_; rotate_left; (go_simp; try with_reducible rfl); simp only [Act.put, List.setIfInBounds_toArray, List.set_cons_zero, List.set_cons_succ])
        (refine plan_pure ?_ rfl rfl (fun w' => ?_) ?_; rotate_left; (go_simp; try with_reducible rfl); simp only [Act.put, List.setIfInBounds_toArray, List.set_cons_zero, List.set_cons_succ])
        (refine plan_val ?_ rfl rfl rfl (fun w' hS => ?_) ?_; rotate_left; (obtain ⟨X0, X1, X2, X3, X4, X5, Xf0, Xf1, Xf2, Xf3, Xf4, Xf5⟩ := row_six hS.1; obtain ⟨q0, q1, q2, q3, q4, q5, q6⟩ := HTz.out.below hS.2 hbz; dsimp only at q0 q1 q2 q3 q4 q5 q6; obtain ⟨p0, p1, p2, p3, p4, p5, p6⟩ := HT0.out.below hS.2 hb0; dsimp only at p0 p1 p2 p3 p4 p5 p6; go_simp; try with_reducible rfl); simp only [Act.put, List.setIfInBounds_toArray, List.set_cons_zero, List.set_cons_succ])
        (refine plan_pure ?_ rfl rfl (fun w' => ?_) ?_; rotate_left; (go_simp; try with_reducible rfl); simp only [Act.put, List.setIfInBounds_toArray, List.set_cons_zero, List.set_cons_succ])
        (refine plan_pure ?_ rfl rfl (fun w' => ?_) ?_; rotate_left; (go_simp; try with_reducible rfl); simp only [Act.put, List.setIfInBounds_toArray, List.set_cons_zero, List.set_cons_succ])
        (refine plan_pure ?_ rfl rfl (fun w' => ?_) ?_; rotate_left; (go_simp; try with_reducible rfl); simp only [Act.put, List.setIfInBounds_toArray, List.set_cons_zero, List.set_cons_succ])
        (refine plan_val ?_ rfl rfl rfl (fun w' hS => ?_) ?_; rotate_left; (obtain ⟨X0, X1, X2, X3, X4, X5, Xf0, Xf1, Xf2, Xf3, Xf4, Xf5⟩ := row_six hS.1; obtain ⟨q0, q1, q2, q3, q4, q5, q6⟩ := HTz.out.below hS.2 hbz; dsimp only at q0 q1 q2 q3 q4 q5 q6; obtain ⟨p0, p1, p2, p3, p4, p5, p6⟩ := HT0.out.below hS.2 hb0; dsimp only at p0 p1 p2 p3 p4 p5 p6; go_simp; try with_reducible rfl); simp only [Act.put, List.setIfInBounds_toArray, List.set_cons_zero, List.set_cons_succ])
        (refine plan_val ?_ rfl rfl rfl (fun w' hS => ?_) ?_; rotate_left; (obtain ⟨X0, X1, X2, X3, X4, X5, Xf0, Xf1, Xf2, Xf3, Xf4, Xf5⟩ := row_six hS.1; obtain ⟨q0, q1, q2, q3, q4, q5, q6⟩ := HTz.out.below hS.2 hbz; dsimp only at q0 q1 q2 q3 q4 q5 q6; obtain ⟨p0, p1, p2, p3, p4, p5, p6⟩ := HT0.out.below hS.2 hb0; dsimp only at p0 p1 p2 p3 p4 p5 p6; go_simp; try with_reducible rfl); simp only [Act.put, List.setIfInBounds_toArray, List.set_cons_zero, List.set_cons_succ])
        (refine plan_val ?_ rfl rfl rfl (fun w' hS => ?_) ?_; rotate_left; (obtain ⟨X0, X1, X2, X3, X4, X5, Xf0, Xf1, Xf2, Xf3, Xf4, Xf5⟩ := row_six hS.1; obtain ⟨q0, q1, q2, q3, q4, q5, q6⟩ := HTz.out.below hS.2 hbz; dsimp only at q0 q1 q2 q3 q4 q5 q6; obtain ⟨p0, p1, p2, p3, p4, p5, p6⟩ := HT0.out.below hS.2 hb0; dsimp only at p0 p1 p2 p3 p4 p5 p6; go_simp; try with_reducible rfl); simp only [Act.put, List.setIfInBounds_toArray, List.set_cons_zero, List.set_cons_succ])
        refine plan_nil ?_
        intro w4 L
        simp only [List.drop_succ_cons, List.drop_zero]
        try simp only [Act.put, List.setIfInBounds_toArray, List.set_cons_zero, List.set_cons_succ]
        obtain ⟨X, o⟩ := L
        go_wp2_with fail
        refine (PC.out _).mono ?_
        rintro e w5 ⟨rfl, hb5⟩
        replace X := row_call X hb5
        replace o := o.trans (hb5.mono o.size)
        clear hb5 PC
        have HA2 := Lib.hid (HNX.out (HSP.out.2 (of_decide_eq_false HNV.out)))
        go_wp2
        go_roundw
        case rel => exact ⟨j + 1, by omega, .inl (by omega), (by first | go_num | exact congrArg (Value.int .i64) (by omega)), HA2, X, o⟩
        case measure => simp [intOf]; omega
      · skip
        refine wp_region_free0 [0, 1, 2, 3, 4, 6, 7, 8, 9, 11, 5, 10, 12] [] [0, 1, 2, 3, 4, 5, 6, 7, 8, 9, 10, 11, 12] 13 (fun w' => Row w' (xb) 24 #[.int .i64 wd, .int .i64 k, .int .i64 cap, .int .i64 now, .int .i64 seq, .slice (some ad) m c] ∧ Below w.heap.size w w') (by kernel_rfl) (by kernel_rfl) (fun _ _ d _ _ h => by cases d <;> exact h) ?_ ?_
        · exact ⟨X, o.drew⟩
        (refine plan_pure ?_ rfl rfl (fun w' => ?_) ?_; rotate_left; (go_simp; try with_reducible rfl); simp only [Act.put, List.setIfInBounds_toArray, List.set_cons_zero, List.set_cons_succ])
        (refine plan_val ?_ rfl rfl rfl (fun w' hS => ?_) ?_; rotate_left; (obtain ⟨X0, X1, X2, X3, X4, X5, Xf0, Xf1, Xf2, Xf3, Xf4, Xf5⟩ := row_six hS.1; obtain ⟨q0, q1, q2, q3, q4, q5, q6⟩ := HTz.out.below hS.2 hbz; dsimp only at q0 q1 q2 q3 q4 q5 q6; obtain ⟨p0, p1, p2, p3, p4, p5, p6⟩ := HT0.out.below hS.2 hb0; dsimp only at p0 p1 p2 p3 p4 p5 p6; go_simp; try with_reducible rfl); simp only [Act.put, List.setIfInBounds_toArray, List.set_cons_zero, List.set_cons_succ])
        (refine plan_pure ?_ rfl rfl (fun w' => ?_) ?_; rotate_left; (go_simp; try with_reducible rfl); simp only [Act.put, List.setIfInBounds_toArray, List.set_cons_zero, List.set_cons_succ])
        (refine plan_pure ?_ rfl rfl (fun w' => ?_) ?_; rotate_left; (go_simp; try with_reducible rfl); simp only [Act.put, List.setIfInBounds_toArray, List.set_cons_zero, List.set_cons_succ])
        (refine plan_pure ?_ rfl rfl (fun w' => ?_) ?_; rotate_left; (go_simp; try with_reducible rfl); simp only [Act.put, List.setIfInBounds_toArray, List.set_cons_zero, List.set_cons_succ])
        (refine plan_pure ?_ rfl rfl (fun w' => ?_) ?_; rotate_left; (go_simp; try with_reducible rfl); simp only [Act.put, List.setIfInBounds_toArray, List.set_cons_zero, List.set_cons_succ])
        (refine plan_val ?_ rfl rfl rfl (fun w' hS => ?_) ?_; rotate_left; (obtain ⟨X0, X1, X2, X3, X4, X5, Xf0, Xf1, Xf2, Xf3, Xf4, Xf5⟩ := row_six hS.1; obtain ⟨q0, q1, q2, q3, q4, q5, q6⟩ := HTz.out.below hS.2 hbz; dsimp only at q0 q1 q2 q3 q4 q5 q6; obtain ⟨p0, p1, p2, p3, p4, p5, p6⟩ := HT0.out.below hS.2 hb0; dsimp only at p0 p1 p2 p3 p4 p5 p6; go_simp; try with_reducible rfl); simp only [Act.put, List.setIfInBounds_toArray, List.set_cons_zero, List.set_cons_succ])
        (refine plan_pure ?_ rfl rfl (fun w' => ?_) ?_; rotate_left; (go_simp; try with_reducible rfl); simp only [Act.put, List.setIfInBounds_toArray, List.set_cons_zero, List.set_cons_succ])
        (refine plan_pure ?_ rfl rfl (fun w' => ?_) ?_; rotate_left; (go_simp; try with_reducible rfl); simp only [Act.put, List.setIfInBounds_toArray, List.set_cons_zero, List.set_cons_succ])
        (refine plan_pure ?_ rfl rfl (fun w' => ?_) ?_; rotate_left; (go_simp; try with_reducible rfl); simp only [Act.put, List.setIfInBounds_toArray, List.set_cons_zero, List.set_cons_succ])
        (refine plan_val ?_ rfl rfl rfl (fun w' hS => ?_) ?_; rotate_left; (obtain ⟨X0, X1, X2, X3, X4, X5, Xf0, Xf1, Xf2, Xf3, Xf4, Xf5⟩ := row_six hS.1; obtain ⟨q0, q1, q2, q3, q4, q5, q6⟩ := HTz.out.below hS.2 hbz; dsimp only at q0 q1 q2 q3 q4 q5 q6; obtain ⟨p0, p1, p2, p3, p4, p5, p6⟩ := HT0.out.below hS.2 hb0; dsimp only at p0 p1 p2 p3 p4 p5 p6; go_simp; try with_reducible rfl); simp only [Act.put, List.setIfInBounds_toArray, List.set_cons_zero, List.set_cons_succ])
        (refine plan_val ?_ rfl rfl rfl (fun w' hS => ?_) ?_; rotate_left; (obtain ⟨X0, X1, X2, X3, X4, X5, Xf0, Xf1, Xf2, Xf3, Xf4, Xf5⟩ := row_six hS.1; obtain ⟨q0, q1, q2, q3, q4, q5, q6⟩ := HTz.out.below hS.2 hbz; dsimp only at q0 q1 q2 q3 q4 q5 q6; obtain ⟨p0, p1, p2, p3, p4, p5, p6⟩ := HT0.out.below hS.2 hb0; dsimp only at p0 p1 p2 p3 p4 p5 p6; go_simp; try with_reducible rfl); simp only [Act.put, List.setIfInBounds_toArray, List.set_cons_zero, List.set_cons_succ])
        (refine plan_val ?_ rfl rfl rfl (fun w' hS => ?_) ?_; rotate_left; (obtain ⟨X0, X1, X2, X3, X4, X5, Xf0, Xf1, Xf2, Xf3, Xf4, Xf5⟩ := row_six hS.1; obtain ⟨q0, q1, q2, q3, q4, q5, q6⟩ := HTz.out.below hS.2 hbz; dsimp only at q0 q1 q2 q3 q4 q5 q6; obtain ⟨p0, p1, p2, p3, p4, p5, p6⟩ := HT0.out.below hS.2 hb0; dsimp only at p0 p1 p2 p3 p4 p5 p6; go_simp; try with_reducible rfl); simp only [Act.put, List.setIfInBounds_toArray, List.set_cons_zero, List.set_cons_succ])
        refine plan_nil ?_
        intro w4 L
        simp only [List.drop_succ_cons, List.drop_zero]
        try simp only [Act.put, List.setIfInBounds_toArray, List.set_cons_zero, List.set_cons_succ]
        obtain ⟨X, o⟩ := L
        go_wp2_with fail
        refine (PC.out _).mono ?_
        rintro e w5 ⟨rfl, hb5⟩
        replace X := row_call X hb5
        replace o := o.trans (hb5.mono o.size)
        clear hb5 PC
        have E := Lib.hid (spvalE_no (wd := wd) (k := k) (cap := cap) (now := now) (seq := seq) (l := l) (fun a => (HSP.out.1 (a.2.2 j (by rw [HL.out]; exact hlt))) (of_decide_eq_true HNV.out)))
        go_wp2
        go_ret
        exact ⟨ret_i64 E.out.symm, o⟩
    · have i1 : ¬ (j : Int) < (m : Int) := by omega
      have E := Lib.hid (spvalE_yes (wd := wd) (k := k) (cap := cap) (now := now) (seq := seq) (l := l) ⟨HG.out, HV.out, fun i hi => by
        by_cases h2 : 2 ≤ i
        · exact HA.out i (by rw [HL.out] at hi; omega)
        · exact fun h => absurd h h2⟩)
      obtain ⟨X0, X1, X2, X3, X4, X5, Xf0, Xf1, Xf2, Xf3, Xf4, Xf5⟩ := row_six X
      go_wp2
      go_ret
      exact ⟨ret_i64 E.out.symm, o⟩
theorem pvalP (A : Option Addr) (m c : Nat) (l : List Mk) (wd k cap now seq : Int) (w : World) (hin : MIn A m c l w) (sB : I64 seq) : Calls Try.prog 27 #[.agg #[.int .i64 wd, .int .i64 k, .int .i64 cap, .int .i64 now, .int .i64 seq, .slice A m c]] w fun e w' => e = .returned (.int .i64 (spvalE wd k cap now seq l)) ∧ Below w.heap.size w w' := by
  by_cases hG : spGood wd k cap now
  · by_cases hV : mvalid l seq cap now wd (-4096)
    · exact pvalP_c A m c l wd k cap now seq w hin sB hG hV
    · exact pvalP_b A m c l wd k cap now seq w hin sB hG hV
  · exact pvalP_a A m c l wd k cap now seq w hG
set_option maxRecDepth 100000 in
theorem rvalP_a (A : Option Addr) (m c : Nat) (l : List Mk) (wd k cap now seq : Int) (w : World) (h : ¬ (1 ≤ wd ∧ wd ≤ 1048576 ∧ 1 ≤ cap ∧ cap ≤ 65536 ∧ 0 ≤ now ∧ now ≤ 16777216)) : Calls Try.prog 28 #[.agg #[.int .i64 wd, .int .i64 k, .int .i64 cap, .int .i64 now, .int .i64 seq, .slice A m c]] w fun e w' => e = .returned (.int .i64 (spvalE wd k cap now seq l)) ∧ Below w.heap.size w w' := by
  have E := Lib.hid (spvalE_no (wd := wd) (k := k) (cap := cap) (now := now) (seq := seq) (l := l) (fun a => h ⟨a.1.1, a.1.2.1, a.1.2.2.2.2.1, a.1.2.2.2.2.2.1, a.1.2.2.2.2.2.2⟩))
  have PB := fun w => rmay wd cap now w
  rw [decide_eq_false h] at PB
  replace PB := Lib.hid PB
  clear h
  go_enter Try.func28, Try.ntmps28
  go_upto_region 1 with (fail)
  have X : Row (w.alloc (.cells #[.int .i64 wd, .int .i64 k, .int .i64 cap, .int .i64 now, .int .i64 seq, .slice A m c] 24)) w.heap.size 24 #[.int .i64 wd, .int .i64 k, .int .i64 cap, .int .i64 now, .int .i64 seq, .slice A m c] := row_new rfl
  have o : Below w.heap.size w (w.alloc (.cells #[.int .i64 wd, .int .i64 k, .int .i64 cap, .int .i64 now, .int .i64 seq, .slice A m c] 24)) := by (repeat (first | exact Below.refl _ _ | refine Below.setCell ?_ (by first | (simp; done) | (simp; omega) | omega) _ | refine Below.alloc ?_ (by first | (simp; done) | (simp; omega) | omega) _ | refine Below.drew ?_ | refine Below.trans ?_ (Below.mono (by assumption) (by first | (simp; done) | (simp; omega) | omega))))
  generalize (w.alloc (.cells #[.int .i64 wd, .int .i64 k, .int .i64 cap, .int .i64 now, .int .i64 seq, .slice A m c] 24)) = w1 at X o ⊢
  obtain ⟨X0, X1, X2, X3, X4, X5, Xf0, Xf1, Xf2, Xf3, Xf4, Xf5⟩ := row_six X
  go_wp2_with (go_at_call 39; with_reducible refine (PB.out _).mono ?_; rintro e w9 ⟨rfl, h9⟩; obtain rfl := h9.symm)
  go_ret
  exact ⟨ret_i64 E.out.symm, o⟩
set_option maxRecDepth 100000 in
theorem rvalP_b (A : Option Addr) (m c : Nat) (l : List Mk) (wd k cap now seq : Int) (w : World) (hB : 1 ≤ wd ∧ wd ≤ 1048576 ∧ 1 ≤ cap ∧ cap ≤ 65536 ∧ 0 ≤ now ∧ now ≤ 16777216) (h : ¬ (1 ≤ k ∧ k ≤ 64)) : Calls Try.prog 28 #[.agg #[.int .i64 wd, .int .i64 k, .int .i64 cap, .int .i64 now, .int .i64 seq, .slice A m c]] w fun e w' => e = .returned (.int .i64 (spvalE wd k cap now seq l)) ∧ Below w.heap.size w w' := by
  have E := Lib.hid (spvalE_no (wd := wd) (k := k) (cap := cap) (now := now) (seq := seq) (l := l) (fun a => h ⟨a.1.2.2.1, a.1.2.2.2.1⟩))
  have PB := fun w => rmay wd cap now w
  have PG := fun w => rmayk k w
  rw [decide_eq_true hB] at PB
  replace PB := Lib.hid PB
  rw [decide_eq_false h] at PG
  replace PG := Lib.hid PG
  clear h hB
  go_enter Try.func28, Try.ntmps28
  go_upto_region 1 with (fail)
  have X : Row (w.alloc (.cells #[.int .i64 wd, .int .i64 k, .int .i64 cap, .int .i64 now, .int .i64 seq, .slice A m c] 24)) w.heap.size 24 #[.int .i64 wd, .int .i64 k, .int .i64 cap, .int .i64 now, .int .i64 seq, .slice A m c] := row_new rfl
  have o : Below w.heap.size w (w.alloc (.cells #[.int .i64 wd, .int .i64 k, .int .i64 cap, .int .i64 now, .int .i64 seq, .slice A m c] 24)) := by (repeat (first | exact Below.refl _ _ | refine Below.setCell ?_ (by first | (simp; done) | (simp; omega) | omega) _ | refine Below.alloc ?_ (by first | (simp; done) | (simp; omega) | omega) _ | refine Below.drew ?_ | refine Below.trans ?_ (Below.mono (by assumption) (by first | (simp; done) | (simp; omega) | omega))))
  generalize (w.alloc (.cells #[.int .i64 wd, .int .i64 k, .int .i64 cap, .int .i64 now, .int .i64 seq, .slice A m c] 24)) = w1 at X o ⊢
  obtain ⟨X0, X1, X2, X3, X4, X5, Xf0, Xf1, Xf2, Xf3, Xf4, Xf5⟩ := row_six X
  go_wp2_with (first | (go_at_call 39; with_reducible refine (PB.out _).mono ?_; rintro e w9 ⟨rfl, h9⟩; obtain rfl := h9.symm) | (go_at_call 40; with_reducible refine (PG.out _).mono ?_; rintro e w9 ⟨rfl, h9⟩; obtain rfl := h9.symm))
  go_ret
  exact ⟨ret_i64 E.out.symm, o⟩
set_option maxRecDepth 100000 in
theorem rvalP_c (A : Option Addr) (m c : Nat) (l : List Mk) (wd k cap now seq : Int) (w : World) (hin : MIn A m c l w) (sB : I64 seq) (hG : spGood wd k cap now) (hV : ¬ mvalid l seq cap now wd (-4096)) : Calls Try.prog 28 #[.agg #[.int .i64 wd, .int .i64 k, .int .i64 cap, .int .i64 now, .int .i64 seq, .slice A m c]] w fun e w' => e = .returned (.int .i64 (spvalE wd k cap now seq l)) ∧ Below w.heap.size w w' := by
  have E := Lib.hid (spvalE_no (wd := wd) (k := k) (cap := cap) (now := now) (seq := seq) (l := l) (fun a => hV a.2.1))
  obtain ⟨d0, d1, k0, k1, c0, c1, n0, n1⟩ := hG
  have PB := fun w => rmay wd cap now w
  have PG := fun w => rmayk k w
  rw [decide_eq_true ⟨d0, d1, c0, c1, n0, n1⟩] at PB
  replace PB := Lib.hid PB
  rw [decide_eq_true ⟨k0, k1⟩] at PG
  replace PG := Lib.hid PG
  have PV := fun w' (hb : Below w.heap.size w w') => rmarks A m c l 4 wd cap now seq w' (hin.below hb) (by decide) (by decide) sB c0 c1 n0 n1 d0 d1
  rw [show leastV 4 = -4096 by decide] at PV
  rw [decide_eq_false hV] at PV
  replace PV := Lib.hid PV
  clear hV hin sB
  go_enter Try.func28, Try.ntmps28
  go_upto_region 1 with (fail)
  have X : Row (w.alloc (.cells #[.int .i64 wd, .int .i64 k, .int .i64 cap, .int .i64 now, .int .i64 seq, .slice A m c] 24)) w.heap.size 24 #[.int .i64 wd, .int .i64 k, .int .i64 cap, .int .i64 now, .int .i64 seq, .slice A m c] := row_new rfl
  have o : Below w.heap.size w (w.alloc (.cells #[.int .i64 wd, .int .i64 k, .int .i64 cap, .int .i64 now, .int .i64 seq, .slice A m c] 24)) := by (repeat (first | exact Below.refl _ _ | refine Below.setCell ?_ (by first | (simp; done) | (simp; omega) | omega) _ | refine Below.alloc ?_ (by first | (simp; done) | (simp; omega) | omega) _ | refine Below.drew ?_ | refine Below.trans ?_ (Below.mono (by assumption) (by first | (simp; done) | (simp; omega) | omega))))
  generalize (w.alloc (.cells #[.int .i64 wd, .int .i64 k, .int .i64 cap, .int .i64 now, .int .i64 seq, .slice A m c] 24)) = w1 at X o ⊢
  obtain ⟨X0, X1, X2, X3, X4, X5, Xf0, Xf1, Xf2, Xf3, Xf4, Xf5⟩ := row_six X
  have PV1 := Lib.hid (PV.out w1 o)
  clear PV
  go_wp2_with (first | (go_at_call 39; with_reducible refine (PB.out _).mono ?_; rintro e w9 ⟨rfl, h9⟩; obtain rfl := h9.symm) | (go_at_call 40; with_reducible refine (PG.out _).mono ?_; rintro e w9 ⟨rfl, h9⟩; obtain rfl := h9.symm) | (go_at_call 67; with_reducible refine (PV1.out).mono ?_; rintro e w2 ⟨rfl, hb2⟩; replace X := row_call X hb2; replace o := o.trans (hb2.mono o.size); clear X0 Xf0 X1 Xf1 X2 Xf2 X3 Xf3 X4 Xf4 X5 Xf5 hb2; obtain ⟨X0, X1, X2, X3, X4, X5, Xf0, Xf1, Xf2, Xf3, Xf4, Xf5⟩ := row_six X))
  go_ret
  exact ⟨ret_i64 E.out.symm, o⟩
set_option maxRecDepth 100000 in
set_option maxHeartbeats 8000000 in
theorem rvalP_d (A : Option Addr) (m c : Nat) (l : List Mk) (wd k cap now seq : Int) (w : World) (hin : MIn A m c l w) (sB : I64 seq) (hG : spGood wd k cap now) (hV : mvalid l seq cap now wd (-4096)) : Calls Try.prog 28 #[.agg #[.int .i64 wd, .int .i64 k, .int .i64 cap, .int .i64 now, .int .i64 seq, .slice A m c]] w fun e w' => e = .returned (.int .i64 (spvalE wd k cap now seq l)) ∧ Below w.heap.size w w' := by
  have HG := Lib.hid hG
  have HV := Lib.hid hV
  have HR := Lib.hid hin
  have HL := Lib.hid hin.len
  have mB := hin.max
  obtain ⟨d0, d1, k0, k1, c0, c1, n0, n1⟩ := hG
  have PB := fun w => rmay wd cap now w
  have PG := fun w => rmayk k w
  rw [decide_eq_true ⟨d0, d1, c0, c1, n0, n1⟩] at PB
  replace PB := Lib.hid PB
  rw [decide_eq_true ⟨k0, k1⟩] at PG
  replace PG := Lib.hid PG
  have PV := fun w' (hb : Below w.heap.size w w') => rmarks A m c l 4 wd cap now seq w' (hin.below hb) (by decide) (by decide) sB c0 c1 n0 n1 d0 d1
  rw [show leastV 4 = -4096 by decide] at PV
  rw [decide_eq_true hV] at PV
  replace PV := Lib.hid PV
  clear hV hin sB
  go_enter Try.func28, Try.ntmps28
  go_upto_region 1 with (fail)
  have X : Row (w.alloc (.cells #[.int .i64 wd, .int .i64 k, .int .i64 cap, .int .i64 now, .int .i64 seq, .slice A m c] 24)) w.heap.size 24 #[.int .i64 wd, .int .i64 k, .int .i64 cap, .int .i64 now, .int .i64 seq, .slice A m c] := row_new rfl
  have o : Below w.heap.size w (w.alloc (.cells #[.int .i64 wd, .int .i64 k, .int .i64 cap, .int .i64 now, .int .i64 seq, .slice A m c] 24)) := by (repeat (first | exact Below.refl _ _ | refine Below.setCell ?_ (by first | (simp; done) | (simp; omega) | omega) _ | refine Below.alloc ?_ (by first | (simp; done) | (simp; omega) | omega) _ | refine Below.drew ?_ | refine Below.trans ?_ (Below.mono (by assumption) (by first | (simp; done) | (simp; omega) | omega))))
  generalize (w.alloc (.cells #[.int .i64 wd, .int .i64 k, .int .i64 cap, .int .i64 now, .int .i64 seq, .slice A m c] 24)) = w1 at X o ⊢
  obtain ⟨X0, X1, X2, X3, X4, X5, Xf0, Xf1, Xf2, Xf3, Xf4, Xf5⟩ := row_six X
  have PV1 := Lib.hid (PV.out w1 o)
  clear PV
  go_upto_region 4 with (first | (go_at_call 39; with_reducible refine (PB.out _).mono ?_; rintro e w9 ⟨rfl, h9⟩; obtain rfl := h9.symm) | (go_at_call 40; with_reducible refine (PG.out _).mono ?_; rintro e w9 ⟨rfl, h9⟩; obtain rfl := h9.symm) | (go_at_call 67; with_reducible refine (PV1.out).mono ?_; rintro e w2 ⟨rfl, hb2⟩; replace X := row_call X hb2; replace o := o.trans (hb2.mono o.size); clear X0 Xf0 X1 Xf1 X2 Xf2 X3 Xf3 X4 Xf4 X5 Xf5 hb2; obtain ⟨X0, X1, X2, X3, X4, X5, Xf0, Xf1, Xf2, Xf3, Xf4, Xf5⟩ := row_six X))
  clear PG PV1
  obtain ⟨xb, hxb⟩ : ∃ x, x = w.heap.size := ⟨_, rfl⟩
  have zx : w.heap.size ≤ xb := by omega
  rw [← hxb] at X X0 Xf0 X1 Xf1 X2 Xf2 X3 Xf3 X4 Xf4 X5 Xf5 ⊢
  clear hxb X0 Xf0 X1 Xf1 X2 Xf2 X3 Xf3 X4 Xf4 X5 Xf5
  go_loopw [3] (fun i wr => ∃ j : Nat, 2 ≤ j ∧ (j ≤ m ∨ j = 2) ∧ i = .int .i64 (j : Nat) ∧ RowKit.Hid (∀ e, e < j → spAt k l e) ∧ Row wr xb 24 #[.int .i64 wd, .int .i64 k, .int .i64 cap, .int .i64 now, .int .i64 seq, .slice A m c] ∧ Below w.heap.size w wr) (fun i _ => m - (intOf i).toNat)
  case atStart => exact ⟨2, by omega, .inr rfl, rfl, Lib.hid (fun e h h2 => absurd h2 (by omega)), X, o⟩
  case round =>
    clear X o
    obtain ⟨j, hj2, hj, rfl, HA, X, o⟩ := hrel
    by_cases hlt : j < m
    · obtain ⟨ad, rfl, hadb, ht0⟩ := HR.out.reads.mk hlt
      obtain ⟨ad', ea, _, htz⟩ := HR.out.reads.mk (i := j - 2) (by omega)
      obtain rfl : ad = ad' := by injection ea
      obtain ⟨p, hp⟩ : ∃ p : Nat, j = p + 2 := ⟨j - 2, by omega⟩
      have wj : IntKind.i64.wrap ((j : Int) - 2) = (p : Int) := by rw [IntWalk.i64_in _ (by omega)]; omega
      have p1 : (p : Int) < (m : Int) := by omega
      have p0' : (0 : Int) ≤ (p : Int) := by omega
      rw [show j - 2 = p by omega] at htz
      have hb0 : (ad.add (j * 7)).block < w.heap.size := by rw [block_of_add]; exact hadb
      have hbz : (ad.add (p * 7)).block < w.heap.size := by rw [block_of_add]; exact hadb
      have HSP := Lib.hid (show spAt k l j ↔ ¬ closeM k (mkAt l p) (mkAt l j) by unfold spAt; rw [show j - 2 = p by omega]; exact ⟨fun h => h hj2, fun h _ => h⟩)
      have PC := fun w => rclose (mkAt l p).seq (mkAt l p).t (mkAt l p).n (mkAt l p).s (mkAt l p).q (mkAt l p).lo (mkAt l p).hi (mkAt l j).seq (mkAt l j).t (mkAt l j).n (mkAt l j).s (mkAt l j).q (mkAt l j).lo (mkAt l j).hi k w
      obtain ⟨nv, hnv⟩ : ∃ nv, decide (closeP (mkAt l p).n (mkAt l p).s (mkAt l p).q (mkAt l j).n (mkAt l j).s (mkAt l j).q k) = nv := ⟨_, rfl⟩
      rw [hnv] at PC
      have HNV := Lib.hid (show decide (closeM k (mkAt l p) (mkAt l j)) = nv from hnv)
      have HNX := Lib.hid (fun (h : spAt k l j) => (show ∀ e, e < j + 1 → spAt k l e from fun e he => by
        rcases Nat.lt_or_ge e j with g | g
        · exact HA.out e g
        · rw [show e = j by omega]; exact h))
      generalize hmz : mkAt l p = mz at htz PC hnv
      generalize hm0 : mkAt l j = m0 at ht0 PC hnv
      obtain ⟨zsq, ztk, zn, zs, zq, zlo, zhi⟩ := mz
      obtain ⟨sq, tk, n, s, q, lo, hi⟩ := m0
      dsimp only at PC
      replace PC := Lib.hid PC
      have HTz := Lib.hid htz
      have HT0 := Lib.hid ht0
      have i1 : (j : Int) < (m : Int) := by omega
      have i2 : (0 : Int) ≤ (j : Int) := by omega
      clear hmz hm0 hnv htz ht0 ea hp
      obtain ⟨X0, X1, X2, X3, X4, X5, Xf0, Xf1, Xf2, Xf3, Xf4, Xf5⟩ := row_six X
      go_upto_region 6 with (fail)
      clear X0 Xf0 X1 Xf1 X2 Xf2 X3 Xf3 X4 Xf4 X5 Xf5
      cases nv
      · skip
        refine wp_region_free0 [0, 1, 2, 3, 4, 6, 7, 8, 9, 11, 5, 10, 12] [] [0, 1, 2, 3, 4, 5, 6, 7, 8, 9, 10, 11, 12] 13 (fun w' => Row w' (xb) 24 #[.int .i64 wd, .int .i64 k, .int .i64 cap, .int .i64 now, .int .i64 seq, .slice (some ad) m c] ∧ Below w.heap.size w w') (by kernel_rfl) (by kernel_rfl) (fun _ _ d _ _ h => by cases d <;> exact h) ?_ ?_
        · exact ⟨X, o.drew⟩
        (refine plan_pure ?_ rfl rfl (fun w' => ?_) ?_; rotate_left; (go_simp; try with_reducible rfl); simp only [Act.put, List.setIfInBounds_toArray, List.set_cons_zero, List.set_cons_succ])
        (refine plan_val ?_ rfl rfl rfl (fun w' hS => ?_) ?_; rotate_left; (obtain ⟨X0, X1, X2, X3, X4, X5, Xf0, Xf1, Xf2, Xf3, Xf4, Xf5⟩ := row_six hS.1; obtain ⟨q0, q1, q2, q3, q4, q5, q6⟩ := HTz.out.below hS.2 hbz; dsimp only at q0 q1 q2 q3 q4 q5 q6; obtain ⟨p0, p1, p2, p3, p4, p5, p6⟩ := HT0.out.below hS.2 hb0; dsimp only at p0 p1 p2 p3 p4 p5 p6; go_simp; try with_reducible rfl); simp only [Act.put, List.setIfInBounds_toArray, List.set_cons_zero, List.set_cons_succ])
        (refine plan_pure ?_ rfl rfl (fun w' => ?_) ?_; rotate_left; (go_simp; try with_reducible rfl); simp only [Act.put, List.setIfInBounds_toArray, List.set_cons_zero, List.set_cons_succ])
        (refine plan_pure ?_ rfl rfl (fun w' => ?_) ?_; rotate_left; (go_simp; try with_reducible rfl); simp only [Act.put, List.setIfInBounds_toArray, List.set_cons_zero, List.set_cons_succ])
        (refine plan_pure ?_ rfl rfl (fun w' => ?_) ?_; rotate_left; (go_simp; try with_reducible rfl); simp only [Act.put, List.setIfInBounds_toArray, List.set_cons_zero, List.set_cons_succ])
        (refine plan_pure ?_ rfl rfl (fun w' => ?_) ?_; rotate_left; (go_simp; try with_reducible rfl); simp only [Act.put, List.setIfInBounds_toArray, List.set_cons_zero, List.set_cons_succ])
        (refine plan_val ?_ rfl rfl rfl (fun w' hS => ?_) ?_; rotate_left; (obtain ⟨X0, X1, X2, X3, X4, X5, Xf0, Xf1, Xf2, Xf3, Xf4, Xf5⟩ := row_six hS.1; obtain ⟨q0, q1, q2, q3, q4, q5, q6⟩ := HTz.out.below hS.2 hbz; dsimp only at q0 q1 q2 q3 q4 q5 q6; obtain ⟨p0, p1, p2, p3, p4, p5, p6⟩ := HT0.out.below hS.2 hb0; dsimp only at p0 p1 p2 p3 p4 p5 p6; go_simp; try with_reducible rfl); simp only [Act.put, List.setIfInBounds_toArray, List.set_cons_zero, List.set_cons_succ])
        (refine plan_pure ?_ rfl rfl (fun w' => ?_) ?_; rotate_left; (go_simp; try with_reducible rfl); simp only [Act.put, List.setIfInBounds_toArray, List.set_cons_zero, List.set_cons_succ])
        (refine plan_pure ?_ rfl rfl (fun w' => ?_) ?_; rotate_left; (go_simp; try with_reducible rfl); simp only [Act.put, List.setIfInBounds_toArray, List.set_cons_zero, List.set_cons_succ])
        (refine plan_pure ?_ rfl rfl (fun w' => ?_) ?_; rotate_left; (go_simp; try with_reducible rfl); simp only [Act.put, List.setIfInBounds_toArray, List.set_cons_zero, List.set_cons_succ])
        (refine plan_val ?_ rfl rfl rfl (fun w' hS => ?_) ?_; rotate_left; (obtain ⟨X0, X1, X2, X3, X4, X5, Xf0, Xf1, Xf2, Xf3, Xf4, Xf5⟩ := row_six hS.1; obtain ⟨q0, q1, q2, q3, q4, q5, q6⟩ := HTz.out.below hS.2 hbz; dsimp only at q0 q1 q2 q3 q4 q5 q6; obtain ⟨p0, p1, p2, p3, p4, p5, p6⟩ := HT0.out.below hS.2 hb0; dsimp only at p0 p1 p2 p3 p4 p5 p6; go_simp; try with_reducible rfl); simp only [Act.put, List.setIfInBounds_toArray, List.set_cons_zero, List.set_cons_succ])
        (refine plan_val ?_ rfl rfl rfl (fun w' hS => ?_) ?_; rotate_left; (obtain ⟨X0, X1, X2, X3, X4, X5, Xf0, Xf1, Xf2, Xf3, Xf4, Xf5⟩ := row_six hS.1; obtain ⟨q0, q1, q2, q3, q4, q5, q6⟩ := HTz.out.below hS.2 hbz; dsimp only at q0 q1 q2 q3 q4 q5 q6; obtain ⟨p0, p1, p2, p3, p4, p5, p6⟩ := HT0.out.below hS.2 hb0; dsimp only at p0 p1 p2 p3 p4 p5 p6; go_simp; try with_reducible rfl); simp only [Act.put, List.setIfInBounds_toArray, List.set_cons_zero, List.set_cons_succ])
        (refine plan_val ?_ rfl rfl rfl (fun w' hS => ?_) ?_; rotate_left; (obtain ⟨X0, X1, X2, X3, X4, X5, Xf0, Xf1, Xf2, Xf3, Xf4, Xf5⟩ := row_six hS.1; obtain ⟨q0, q1, q2, q3, q4, q5, q6⟩ := HTz.out.below hS.2 hbz; dsimp only at q0 q1 q2 q3 q4 q5 q6; obtain ⟨p0, p1, p2, p3, p4, p5, p6⟩ := HT0.out.below hS.2 hb0; dsimp only at p0 p1 p2 p3 p4 p5 p6; go_simp; try with_reducible rfl); simp only [Act.put, List.setIfInBounds_toArray, List.set_cons_zero, List.set_cons_succ])
        refine plan_nil ?_
        intro w4 L
        simp only [List.drop_succ_cons, List.drop_zero]
        try simp only [Act.put, List.setIfInBounds_toArray, List.set_cons_zero, List.set_cons_succ]
        obtain ⟨X, o⟩ := L
        go_wp2_with fail
        refine (PC.out _).mono ?_
        rintro e w5 ⟨rfl, hb5⟩
        replace X := row_call X hb5
        replace o := o.trans (hb5.mono o.size)
        clear hb5 PC
        have HA2 := Lib.hid (HNX.out (HSP.out.2 (of_decide_eq_false HNV.out)))
        go_wp2
        go_roundw
        case rel => exact ⟨j + 1, by omega, .inl (by omega), (by first | go_num | exact congrArg (Value.int .i64) (by omega)), HA2, X, o⟩
        case measure => simp [intOf]; omega
      · skip
        refine wp_region_free0 [0, 1, 2, 3, 4, 6, 7, 8, 9, 11, 5, 10, 12] [] [0, 1, 2, 3, 4, 5, 6, 7, 8, 9, 10, 11, 12] 13 (fun w' => Row w' (xb) 24 #[.int .i64 wd, .int .i64 k, .int .i64 cap, .int .i64 now, .int .i64 seq, .slice (some ad) m c] ∧ Below w.heap.size w w') (by kernel_rfl) (by kernel_rfl) (fun _ _ d _ _ h => by cases d <;> exact h) ?_ ?_
        · exact ⟨X, o.drew⟩
        (refine plan_pure ?_ rfl rfl (fun w' => ?_) ?_; rotate_left; (go_simp; try with_reducible rfl); simp only [Act.put, List.setIfInBounds_toArray, List.set_cons_zero, List.set_cons_succ])
        (refine plan_val ?_ rfl rfl rfl (fun w' hS => ?_) ?_; rotate_left; (obtain ⟨X0, X1, X2, X3, X4, X5, Xf0, Xf1, Xf2, Xf3, Xf4, Xf5⟩ := row_six hS.1; obtain ⟨q0, q1, q2, q3, q4, q5, q6⟩ := HTz.out.below hS.2 hbz; dsimp only at q0 q1 q2 q3 q4 q5 q6; obtain ⟨p0, p1, p2, p3, p4, p5, p6⟩ := HT0.out.below hS.2 hb0; dsimp only at p0 p1 p2 p3 p4 p5 p6; go_simp; try with_reducible rfl); simp only [Act.put, List.setIfInBounds_toArray, List.set_cons_zero, List.set_cons_succ])
        (refine plan_pure ?_ rfl rfl (fun w' => ?_) ?_; rotate_left; (go_simp; try with_reducible rfl); simp only [Act.put, List.setIfInBounds_toArray, List.set_cons_zero, List.set_cons_succ])
        (refine plan_pure ?_ rfl rfl (fun w' => ?_) ?_; rotate_left; (go_simp; try with_reducible rfl); simp only [Act.put, List.setIfInBounds_toArray, List.set_cons_zero, List.set_cons_succ])
        (refine plan_pure ?_ rfl rfl (fun w' => ?_) ?_; rotate_left; (go_simp; try with_reducible rfl); simp only [Act.put, List.setIfInBounds_toArray, List.set_cons_zero, List.set_cons_succ])
        (refine plan_pure ?_ rfl rfl (fun w' => ?_) ?_; rotate_left; (go_simp; try with_reducible rfl); simp only [Act.put, List.setIfInBounds_toArray, List.set_cons_zero, List.set_cons_succ])
        (refine plan_val ?_ rfl rfl rfl (fun w' hS => ?_) ?_; rotate_left; (obtain ⟨X0, X1, X2, X3, X4, X5, Xf0, Xf1, Xf2, Xf3, Xf4, Xf5⟩ := row_six hS.1; obtain ⟨q0, q1, q2, q3, q4, q5, q6⟩ := HTz.out.below hS.2 hbz; dsimp only at q0 q1 q2 q3 q4 q5 q6; obtain ⟨p0, p1, p2, p3, p4, p5, p6⟩ := HT0.out.below hS.2 hb0; dsimp only at p0 p1 p2 p3 p4 p5 p6; go_simp; try with_reducible rfl); simp only [Act.put, List.setIfInBounds_toArray, List.set_cons_zero, List.set_cons_succ])
        (refine plan_pure ?_ rfl rfl (fun w' => ?_) ?_; rotate_left; (go_simp; try with_reducible rfl); simp only [Act.put, List.setIfInBounds_toArray, List.set_cons_zero, List.set_cons_succ])
        (refine plan_pure ?_ rfl rfl (fun w' => ?_) ?_; rotate_left; (go_simp; try with_reducible rfl); simp only [Act.put, List.setIfInBounds_toArray, List.set_cons_zero, List.set_cons_succ])
        (refine plan_pure ?_ rfl rfl (fun w' => ?_) ?_; rotate_left; (go_simp; try with_reducible rfl); simp only [Act.put, List.setIfInBounds_toArray, List.set_cons_zero, List.set_cons_succ])
        (refine plan_val ?_ rfl rfl rfl (fun w' hS => ?_) ?_; rotate_left; (obtain ⟨X0, X1, X2, X3, X4, X5, Xf0, Xf1, Xf2, Xf3, Xf4, Xf5⟩ := row_six hS.1; obtain ⟨q0, q1, q2, q3, q4, q5, q6⟩ := HTz.out.below hS.2 hbz; dsimp only at q0 q1 q2 q3 q4 q5 q6; obtain ⟨p0, p1, p2, p3, p4, p5, p6⟩ := HT0.out.below hS.2 hb0; dsimp only at p0 p1 p2 p3 p4 p5 p6; go_simp; try with_reducible rfl); simp only [Act.put, List.setIfInBounds_toArray, List.set_cons_zero, List.set_cons_succ])
        (refine plan_val ?_ rfl rfl rfl (fun w' hS => ?_) ?_; rotate_left; (obtain ⟨X0, X1, X2, X3, X4, X5, Xf0, Xf1, Xf2, Xf3, Xf4, Xf5⟩ := row_six hS.1; obtain ⟨q0, q1, q2, q3, q4, q5, q6⟩ := HTz.out.below hS.2 hbz; dsimp only at q0 q1 q2 q3 q4 q5 q6; obtain ⟨p0, p1, p2, p3, p4, p5, p6⟩ := HT0.out.below hS.2 hb0; dsimp only at p0 p1 p2 p3 p4 p5 p6; go_simp; try with_reducible rfl); simp only [Act.put, List.setIfInBounds_toArray, List.set_cons_zero, List.set_cons_succ])
        (refine plan_val ?_ rfl rfl rfl (fun w' hS => ?_) ?_; rotate_left; (obtain ⟨X0, X1, X2, X3, X4, X5, Xf0, Xf1, Xf2, Xf3, Xf4, Xf5⟩ := row_six hS.1; obtain ⟨q0, q1, q2, q3, q4, q5, q6⟩ := HTz.out.below hS.2 hbz; dsimp only at q0 q1 q2 q3 q4 q5 q6; obtain ⟨p0, p1, p2, p3, p4, p5, p6⟩ := HT0.out.below hS.2 hb0; dsimp only at p0 p1 p2 p3 p4 p5 p6; go_simp; try with_reducible rfl); simp only [Act.put, List.setIfInBounds_toArray, List.set_cons_zero, List.set_cons_succ])
        refine plan_nil ?_
        intro w4 L
        simp only [List.drop_succ_cons, List.drop_zero]
        try simp only [Act.put, List.setIfInBounds_toArray, List.set_cons_zero, List.set_cons_succ]
        obtain ⟨X, o⟩ := L
        go_wp2_with fail
        refine (PC.out _).mono ?_
        rintro e w5 ⟨rfl, hb5⟩
        replace X := row_call X hb5
        replace o := o.trans (hb5.mono o.size)
        clear hb5 PC
        have E := Lib.hid (spvalE_no (wd := wd) (k := k) (cap := cap) (now := now) (seq := seq) (l := l) (fun a => (HSP.out.1 (a.2.2 j (by rw [HL.out]; exact hlt))) (of_decide_eq_true HNV.out)))
        go_wp2
        go_ret
        exact ⟨ret_i64 E.out.symm, o⟩
    · have i1 : ¬ (j : Int) < (m : Int) := by omega
      have E := Lib.hid (spvalE_yes (wd := wd) (k := k) (cap := cap) (now := now) (seq := seq) (l := l) ⟨HG.out, HV.out, fun i hi => by
        by_cases h2 : 2 ≤ i
        · exact HA.out i (by rw [HL.out] at hi; omega)
        · exact fun h => absurd h h2⟩)
      obtain ⟨X0, X1, X2, X3, X4, X5, Xf0, Xf1, Xf2, Xf3, Xf4, Xf5⟩ := row_six X
      go_wp2
      go_ret
      exact ⟨ret_i64 E.out.symm, o⟩
theorem rvalP (A : Option Addr) (m c : Nat) (l : List Mk) (wd k cap now seq : Int) (w : World) (hin : MIn A m c l w) (sB : I64 seq) : Calls Try.prog 28 #[.agg #[.int .i64 wd, .int .i64 k, .int .i64 cap, .int .i64 now, .int .i64 seq, .slice A m c]] w fun e w' => e = .returned (.int .i64 (spvalE wd k cap now seq l)) ∧ Below w.heap.size w w' := by
  by_cases hB : 1 ≤ wd ∧ wd ≤ 1048576 ∧ 1 ≤ cap ∧ cap ≤ 65536 ∧ 0 ≤ now ∧ now ≤ 16777216
  · by_cases hC : 1 ≤ k ∧ k ≤ 64
    · have hG : spGood wd k cap now := ⟨hB.1, hB.2.1, hC.1, hC.2, hB.2.2.1, hB.2.2.2.1, hB.2.2.2.2.1, hB.2.2.2.2.2⟩
      by_cases hV : mvalid l seq cap now wd (-4096)
      · exact rvalP_d A m c l wd k cap now seq w hin sB hG hV
      · exact rvalP_c A m c l wd k cap now seq w hin sB hG hV
    · exact rvalP_b A m c l wd k cap now seq w hB hC
  · exact rvalP_a A m c l wd k cap now seq w hB
end Go.Proofs.Ytaiepjcnncajcaa
end
section
/- Rows of the call's own that ownsRow tells of: what keeps them; what an argument reads behind a store elsewhere. -/
set_option linter.unusedVariables false
set_option linter.unusedSimpArgs false
set_option linter.unusedSectionVars false
set_option linter.unnecessarySimpa false
namespace Go.Proofs.Ytaiepjcnncajcaa
open Go.RowKit
theorem orow_keep {w w' : World} {base : Nat} {e : TypeId} {size : Nat} {v : Value} {n : Nat} {xs : List Value} (h : w.ownsRow base e size v n xs) (hg : ∀ g, v.ownBlock = some g → w'.heap[g]? = w.heap[g]?) : w'.ownsRow base e size v n xs := by
  refine ⟨h.1, ?_⟩
  rcases h.2 with hn | ⟨g, cap, cur, rfl, hb, hgg, rest⟩
  · exact .inl hn
  · exact .inr ⟨g, cap, cur, rfl, hb, by rw [hg g rfl]; exact hgg, rest⟩
theorem orow_other {w : World} {base : Nat} {e : TypeId} {size : Nat} {v : Value} {n : Nat} {xs : List Value} (h : w.ownsRow base e size v n xs) {p : Addr} (hne : v.ownBlock ≠ some p.block) (u : Value) : (w.setCell p u).ownsRow base e size v n xs :=
  orow_keep h fun g he => Below.heap_setCell w p u g (fun x => hne (x ▸ he))
theorem orow_new {w : World} {base : Nat} {e : TypeId} {size : Nat} {v : Value} {n b : Nat} {xs : List Value} (h : w.ownsRow base e size v n xs) (hb : w.heap.size ≤ b) : v.ownBlock ≠ some b := fun e => by
  have := (h.lt b e).2
  omega
theorem orow_forms {w : World} {base : Nat} {e : TypeId} {size : Nat} {v : Value} {n : Nat} {xs : List Value} (h : w.ownsRow base e size v n xs) :
    ∃ A c, v = .slice A n c ∧ Reads w w.heap.size size A n xs ∧ n ≤ c ∧ c ≤ maxLen ∧ ∀ a, A = some a → base ≤ a.block ∧ a.block < w.heap.size := by
  rcases h.2 with ⟨rfl, rfl⟩ | ⟨g, cap, cur, rfl, hb, hgg, h1, h2, _⟩
  · exact ⟨none, 0, rfl, Reads.of_own h, Nat.le_refl _, Nat.zero_le _, fun a e => by cases e⟩
  · exact ⟨_, cap, rfl, Reads.of_own h, h1, h2, fun a e => by cases e; exact h.lt _ rfl⟩
end Go.Proofs.Ytaiepjcnncajcaa
end
section
/- Marks of smooth histograms: a value more in all marks, walked. -/
set_option linter.unusedVariables false
set_option linter.unusedSimpArgs false
set_option linter.unusedSectionVars false
set_option linter.unnecessarySimpa false
namespace Go.Proofs.Ytaiepjcnncajcaa
open Go.RowKit
/-- What a call that answers marks of its own leaves. -/
def MRet (n : Nat) (l : List Mk) (w : World) (e : Ending) (w' : World) : Prop := ∃ v, e = .returned v ∧ w'.ownsRow w.heap.size 33 7 v n (mcells l) ∧ Below w.heap.size w w'
/-- Small numbers. -/
def SmallM (m : Mk) : Prop := (0 ≤ m.n ∧ m.n ≤ 65536) ∧ (-268435456 ≤ m.s ∧ m.s ≤ 268435456) ∧ 0 ≤ m.q ∧ m.q ≤ 1099511627776
theorem mk_take {l : List Mk} {j : Nat} (h : j < l.length) : l.take (j + 1) = l.take j ++ [mkAt l j] := by
  rw [List.take_succ_eq_append_getElem h]
  unfold mkAt
  rw [List.getD_eq_getElem?_getD, List.getElem?_eq_getElem h]
  rfl
theorem SmallM.of_one {seq cap now w least : Int} {m : Mk} (h : oneP seq cap now w least m) (hc : cap ≤ 65536) (hl : -4096 ≤ least) : SmallM m := by
  obtain ⟨h1, h2, h3, h4, h5, h6, h7, h8, h9, p1, p2, p3, p4, p5⟩ := h
  have b1 := mul_small (n := m.n) (x := m.lo) (by omega) (by omega) (by omega) (by omega)
  have b2 := mul_small (n := m.n) (x := m.hi) (by omega) (by omega) (by omega) (by omega)
  exact ⟨by omega, by omega, by omega, by omega⟩
set_option maxRecDepth 100000 in
set_option maxHeartbeats 4000000 in
theorem pmadd (A : Option Addr) (m c : Nat) (l : List Mk) (seq t v : Int) (w : World) (hin : MIn A m c l w) (hm : m ≤ 1000000) (hS : ∀ i, i < m → SmallM (mkAt l i)) (v0 : -4096 ≤ v) (v1 : v ≤ 4096) :
    Calls Try.prog 69 #[.slice A m c, .int .i64 seq, .int .i64 t, .int .i64 v] w fun e w' => MRet (m + 1) (incl l seq t v) w e w' := by
  have HR := Lib.hid hin
  have HL := Lib.hid hin.len
  have HS := Lib.hid hS
  have hvv := vv_small v0 v1
  have wvv : IntKind.i64.wrap (v * v) = v * v := IntWalk.i64_in _ (by omega)
  obtain ⟨i0, hi0, iz0, iz1, iz2⟩ := info_parts info_mk
  clear hin hS
  go_enter Try.func69, Try.ntmps69
  go_wp2
  go_loopw [9, 14] (fun u i wr => ∃ j : Nat, j ≤ m ∧ i = .int .i64 (j : Nat) ∧ wr.ownsRow w.heap.size 33 7 u j (mcells ((l.take j).map (inc v))) ∧ Below w.heap.size w wr) (fun _ i _ => m - (intOf i).toNat)
  case atStart => exact ⟨0, by omega, rfl, World.ownsRow_nil _ _ _ _, Below.refl _ _⟩
  case round =>
    obtain ⟨j, hj, rfl, own, o⟩ := hrel
    by_cases hlt : j < m
    · obtain ⟨ad, rfl, hadb, ht0⟩ := HR.out.reads.mk hlt
      have hS1 := HS.out j hlt
      have HE : RowKit.Hid (mcells ((l.take (j + 1)).map (inc v)) = mcells ((l.take j).map (inc v)) ++ mcells [inc v (mkAt l j)]) := Lib.hid (by rw [mk_take (by rw [HL.out]; exact hlt), List.map_append, mcells_append]; rfl)
      generalize mkAt l j = mj at ht0 hS1 HE
      obtain ⟨sq, tk, n, s, q, lo, hi⟩ := mj
      obtain ⟨p0, p1, p2, p3, p4, p5, p6⟩ := ht0.below o (by rw [block_of_add]; exact hadb)
      obtain ⟨⟨n0, n1⟩, ⟨s0, s1⟩, q0, q1⟩ := hS1
      dsimp only at p0 p1 p2 p3 p4 p5 p6 n0 n1 s0 s1 q0 q1
      have HX : RowKit.Hid (mcells [inc v (⟨sq, tk, n, s, q, lo, hi⟩ : Mk)] = (#[.int .i64 sq, .int .i64 tk, .int .i64 (n + 1), .int .i64 (s + v), .int .i64 (q + v * v), .int .i64 (min lo v), .int .i64 (max hi v)] : Array Value).toList) := Lib.hid rfl
      have wn : IntKind.i64.wrap (n + 1) = n + 1 := IntWalk.i64_in _ (by omega)
      have ws : IntKind.i64.wrap (s + v) = s + v := IntWalk.i64_in _ (by omega)
      have wq : IntKind.i64.wrap (q + v * v) = q + v * v := IntWalk.i64_in _ (by omega)
      clear ht0 n0 n1 s0 s1 q0 q1 hvv
      have i1 : (j : Int) < (m : Int) := by omega
      have i2 : (0 : Int) ≤ (j : Int) := by omega
      go_upto_region 5 with (fail)
      have K : Row (wr.alloc (.cells #[.int .i64 sq, .int .i64 tk, .int .i64 n, .int .i64 s, .int .i64 q, .int .i64 lo, .int .i64 hi] 33)) wr.heap.size 33 #[.int .i64 sq, .int .i64 tk, .int .i64 n, .int .i64 s, .int .i64 q, .int .i64 lo, .int .i64 hi] := row_new rfl
      have zo := o.size
      have kn : u9.ownBlock ≠ some wr.heap.size := orow_new own (Nat.le_refl _)
      replace own := own.alloc (.cells #[.int .i64 sq, .int .i64 tk, .int .i64 n, .int .i64 s, .int .i64 q, .int .i64 lo, .int .i64 hi] 33)
      replace o := o.alloc o.size (.cells #[.int .i64 sq, .int .i64 tk, .int .i64 n, .int .i64 s, .int .i64 q, .int .i64 lo, .int .i64 hi] 33)
      generalize wr.alloc (.cells #[.int .i64 sq, .int .i64 tk, .int .i64 n, .int .i64 s, .int .i64 q, .int .i64 lo, .int .i64 hi] 33) = w3 at own o K ⊢
      generalize wr.heap.size = mb at K kn zo ⊢
      clear p0 p1 p2 p3 p4 p5 p6
      obtain ⟨K0, K1, K2, K3, K4, K5, K6, Kf0, Kf1, Kf2, Kf3, Kf4, Kf5, Kf6⟩ := row_seven K
      have KR := Lib.hid K
      clear K
      go_upto_region 9 with (fail)
      replace own := orow_other (p := ⟨mb, 2, none⟩) own kn (.int .i64 (n + 1))
      replace o := o.setCell (p := ⟨mb, 2, none⟩) (by show w.heap.size ≤ mb; omega) (.int .i64 (n + 1))
      replace own := orow_other (p := ⟨mb, 3, none⟩) own kn (.int .i64 (s + v))
      replace o := o.setCell (p := ⟨mb, 3, none⟩) (by show w.heap.size ≤ mb; omega) (.int .i64 (s + v))
      replace own := orow_other (p := ⟨mb, 4, none⟩) own kn (.int .i64 (q + v * v))
      replace o := o.setCell (p := ⟨mb, 4, none⟩) (by show w.heap.size ≤ mb; omega) (.int .i64 (q + v * v))
      replace own := orow_other (p := ⟨mb, 5, none⟩) own kn (.int .i64 (min lo v))
      replace o := o.setCell (p := ⟨mb, 5, none⟩) (by show w.heap.size ≤ mb; omega) (.int .i64 (min lo v))
      replace own := orow_other (p := ⟨mb, 6, none⟩) own kn (.int .i64 (max hi v))
      replace o := o.setCell (p := ⟨mb, 6, none⟩) (by show w.heap.size ≤ mb; omega) (.int .i64 (max hi v))
      have K : Row (((((w3.setCell ⟨mb, 2, none⟩ (.int .i64 (n + 1))).setCell ⟨mb, 3, none⟩ (.int .i64 (s + v))).setCell ⟨mb, 4, none⟩ (.int .i64 (q + v * v))).setCell ⟨mb, 5, none⟩ (.int .i64 (min lo v))).setCell ⟨mb, 6, none⟩ (.int .i64 (max hi v))) mb 33 #[.int .i64 sq, .int .i64 tk, .int .i64 (n + 1), .int .i64 (s + v), .int .i64 (q + v * v), .int .i64 (min lo v), .int .i64 (max hi v)] := (row_set (row_set (row_set (row_set (row_set KR.out 2 (.int .i64 (n + 1))) 3 (.int .i64 (s + v))) 4 (.int .i64 (q + v * v))) 5 (.int .i64 (min lo v))) 6 (.int .i64 (max hi v)))
      generalize (((((w3.setCell ⟨mb, 2, none⟩ (.int .i64 (n + 1))).setCell ⟨mb, 3, none⟩ (.int .i64 (s + v))).setCell ⟨mb, 4, none⟩ (.int .i64 (q + v * v))).setCell ⟨mb, 5, none⟩ (.int .i64 (min lo v))).setCell ⟨mb, 6, none⟩ (.int .i64 (max hi v))) = w4 at own o K ⊢
      clear K0 K1 K2 K3 K4 K5 K6 Kf0 Kf1 Kf2 Kf3 Kf4 Kf5 Kf6 KR
      obtain ⟨K0, K1, K2, K3, K4, K5, K6, Kf0, Kf1, Kf2, Kf3, Kf4, Kf5, Kf6⟩ := row_seven K
      have hbl := own.lt
      have OWN := Lib.hid own
      have zo := o.size
      clear own
      go_wp2_with (at_builtin; refine wpList_push rfl _ _ 22 rfl 33 i0 (.agg #[.int .i64 0, .int .i64 0, .int .i64 0, .int .i64 0, .int .i64 0, .int .i64 0, .int .i64 0]) 7 56 Try.underlying22 hi0 iz0 iz1 iz2 rfl (by decide) w.heap.size u9 j (mcells ((l.take j).map (inc v))) rfl OWN.out #[.int .i64 sq, .int .i64 tk, .int .i64 (n + 1), .int .i64 (s + v), .int .i64 (q + v * v), .int .i64 (min lo v), .int .i64 (max hi v)] rfl rfl (by simp [Value.oneCell']) (by unfold maxLen; omega) (by omega) (by omega) ?_; intro g' c4 w9 own9 hg9 hat9 hgr9)
      have own : w9.ownsRow w.heap.size 33 7 (.slice (some ⟨g', 0, none⟩) (j + 1) c4) (j + 1) (mcells ((l.take (j + 1)).map (inc v))) := by
        rw [HE.out, HX.out]
        exact own9.row hg9
      replace o := below_grown (o.alloc o.size (.cells #[.int .i64 sq, .int .i64 tk, .int .i64 (n + 1), .int .i64 (s + v), .int .i64 (q + v * v), .int .i64 (min lo v), .int .i64 (max hi v)] 33)) hgr9 (fun b e => (hbl b e).1) (by simp; omega)
      clear own9 hgr9 hat9 OWN zo
      go_wp2
      go_roundw
      case rel => exact ⟨j + 1, by omega, by go_num, own, o⟩
      case measure => simp [intOf]; omega
    · have i1 : ¬ (j : Int) < (m : Int) := by omega
      obtain rfl : j = m := by omega
      have HE : RowKit.Hid (mcells (incl l seq t v) = mcells ((l.take j).map (inc v)) ++ (#[.int .i64 seq, .int .i64 t, .int .i64 1, .int .i64 v, .int .i64 (v * v), .int .i64 v, .int .i64 v] : Array Value).toList) := Lib.hid (by
        unfold incl
        rw [mcells_append, List.take_of_length_le (by rw [HL.out]; exact Nat.le_refl _)]
        rfl)
      have hbl := own.lt
      have OWN := Lib.hid own
      have zo := o.size
      clear own hvv
      go_wp2_with (at_builtin; refine wpList_push rfl _ _ 22 rfl 33 i0 (.agg #[.int .i64 0, .int .i64 0, .int .i64 0, .int .i64 0, .int .i64 0, .int .i64 0, .int .i64 0]) 7 56 Try.underlying22 hi0 iz0 iz1 iz2 rfl (by decide) w.heap.size u9 j (mcells ((l.take j).map (inc v))) rfl OWN.out #[.int .i64 seq, .int .i64 t, .int .i64 1, .int .i64 v, .int .i64 (v * v), .int .i64 v, .int .i64 v] rfl rfl (by simp [Value.oneCell']) (by unfold maxLen; omega) (by omega) (by omega) ?_; intro g' c4 w9 own9 hg9 hat9 hgr9)
      have own : w9.ownsRow w.heap.size 33 7 (.slice (some ⟨g', 0, none⟩) (j + 1) c4) (j + 1) (mcells (incl l seq t v)) := by
        rw [HE.out]
        exact own9.row hg9
      replace o := below_grown (o.alloc o.size (.cells #[.int .i64 seq, .int .i64 t, .int .i64 1, .int .i64 v, .int .i64 (v * v), .int .i64 v, .int .i64 v] 33)) hgr9 (fun b e => (hbl b e).1) (by simp; omega)
      clear own9 hgr9 hat9 OWN zo
      go_wp2
      go_ret
      exact ⟨_, rfl, own, o⟩
set_option maxRecDepth 100000 in
set_option maxHeartbeats 4000000 in
theorem rmadd (A : Option Addr) (m c : Nat) (l : List Mk) (seq t v : Int) (w : World) (hin : MIn A m c l w) (hm : m ≤ 1000000) (hS : ∀ i, i < m → SmallM (mkAt l i)) (v0 : -4096 ≤ v) (v1 : v ≤ 4096) :
    Calls Try.prog 74 #[.slice A m c, .int .i64 seq, .int .i64 t, .int .i64 v] w fun e w' => MRet (m + 1) (incl l seq t v) w e w' := by
  have HR := Lib.hid hin
  have HL := Lib.hid hin.len
  have HS := Lib.hid hS
  have hvv := vv_small v0 v1
  have wvv : IntKind.i64.wrap (v * v) = v * v := IntWalk.i64_in _ (by omega)
  obtain ⟨i0, hi0, iz0, iz1, iz2⟩ := info_parts info_mk
  clear hin hS
  go_enter Try.func74, Try.ntmps74
  go_wp2
  go_loopw [9, 14] (fun u i wr => ∃ j : Nat, j ≤ m ∧ i = .int .i64 (j : Nat) ∧ wr.ownsRow w.heap.size 33 7 u j (mcells ((l.take j).map (inc v))) ∧ Below w.heap.size w wr) (fun _ i _ => m - (intOf i).toNat)
  case atStart => exact ⟨0, by omega, rfl, World.ownsRow_nil _ _ _ _, Below.refl _ _⟩
  case round =>
    obtain ⟨j, hj, rfl, own, o⟩ := hrel
    by_cases hlt : j < m
    · obtain ⟨ad, rfl, hadb, ht0⟩ := HR.out.reads.mk hlt
      have hS1 := HS.out j hlt
      have HE : RowKit.Hid (mcells ((l.take (j + 1)).map (inc v)) = mcells ((l.take j).map (inc v)) ++ mcells [inc v (mkAt l j)]) := Lib.hid (by rw [mk_take (by rw [HL.out]; exact hlt), List.map_append, mcells_append]; rfl)
      generalize mkAt l j = mj at ht0 hS1 HE
      obtain ⟨sq, tk, n, s, q, lo, hi⟩ := mj
      obtain ⟨p0, p1, p2, p3, p4, p5, p6⟩ := ht0.below o (by rw [block_of_add]; exact hadb)
      obtain ⟨⟨n0, n1⟩, ⟨s0, s1⟩, q0, q1⟩ := hS1
      dsimp only at p0 p1 p2 p3 p4 p5 p6 n0 n1 s0 s1 q0 q1
      have HX : RowKit.Hid (mcells [inc v (⟨sq, tk, n, s, q, lo, hi⟩ : Mk)] = (#[.int .i64 sq, .int .i64 tk, .int .i64 (n + 1), .int .i64 (s + v), .int .i64 (q + v * v), .int .i64 (min lo v), .int .i64 (max hi v)] : Array Value).toList) := Lib.hid rfl
      have wn : IntKind.i64.wrap (n + 1) = n + 1 := IntWalk.i64_in _ (by omega)
      have ws : IntKind.i64.wrap (s + v) = s + v := IntWalk.i64_in _ (by omega)
      have wq : IntKind.i64.wrap (q + v * v) = q + v * v := IntWalk.i64_in _ (by omega)
      clear ht0 n0 n1 s0 s1 q0 q1 hvv
      have i1 : (j : Int) < (m : Int) := by omega
      have i2 : (0 : Int) ≤ (j : Int) := by omega
      go_upto_region 5 with (fail)
      have K : Row (wr.alloc (.cells #[.int .i64 sq, .int .i64 tk, .int .i64 n, .int .i64 s, .int .i64 q, .int .i64 lo, .int .i64 hi] 33)) wr.heap.size 33 #[.int .i64 sq, .int .i64 tk, .int .i64 n, .int .i64 s, .int .i64 q, .int .i64 lo, .int .i64 hi] := row_new rfl
      have zo := o.size
      have kn : u9.ownBlock ≠ some wr.heap.size := orow_new own (Nat.le_refl _)
      replace own := own.alloc (.cells #[.int .i64 sq, .int .i64 tk, .int .i64 n, .int .i64 s, .int .i64 q, .int .i64 lo, .int .i64 hi] 33)
      replace o := o.alloc o.size (.cells #[.int .i64 sq, .int .i64 tk, .int .i64 n, .int .i64 s, .int .i64 q, .int .i64 lo, .int .i64 hi] 33)
      generalize wr.alloc (.cells #[.int .i64 sq, .int .i64 tk, .int .i64 n, .int .i64 s, .int .i64 q, .int .i64 lo, .int .i64 hi] 33) = w3 at own o K ⊢
      generalize wr.heap.size = mb at K kn zo ⊢
      clear p0 p1 p2 p3 p4 p5 p6
      obtain ⟨K0, K1, K2, K3, K4, K5, K6, Kf0, Kf1, Kf2, Kf3, Kf4, Kf5, Kf6⟩ := row_seven K
      clear K
      have hbl := own.lt
      have OWN := Lib.hid own
      have zo := o.size
      clear own
      go_wp2_with (at_builtin; refine wpList_push rfl _ _ 22 rfl 33 i0 (.agg #[.int .i64 0, .int .i64 0, .int .i64 0, .int .i64 0, .int .i64 0, .int .i64 0, .int .i64 0]) 7 56 Try.underlying22 hi0 iz0 iz1 iz2 rfl (by decide) w.heap.size u9 j (mcells ((l.take j).map (inc v))) rfl OWN.out #[.int .i64 sq, .int .i64 tk, .int .i64 (n + 1), .int .i64 (s + v), .int .i64 (q + v * v), .int .i64 (min lo v), .int .i64 (max hi v)] rfl rfl (by simp [Value.oneCell']) (by unfold maxLen; omega) (by omega) (by omega) ?_; intro g' c4 w9 own9 hg9 hat9 hgr9)
      have own : w9.ownsRow w.heap.size 33 7 (.slice (some ⟨g', 0, none⟩) (j + 1) c4) (j + 1) (mcells ((l.take (j + 1)).map (inc v))) := by
        rw [HE.out, HX.out]
        exact own9.row hg9
      replace o := below_grown (o.alloc o.size (.cells #[.int .i64 sq, .int .i64 tk, .int .i64 (n + 1), .int .i64 (s + v), .int .i64 (q + v * v), .int .i64 (min lo v), .int .i64 (max hi v)] 33)) hgr9 (fun b e => (hbl b e).1) (by simp; omega)
      clear own9 hgr9 hat9 OWN zo
      go_wp2
      go_roundw
      case rel => exact ⟨j + 1, by omega, by go_num, own, o⟩
      case measure => simp [intOf]; omega
    · have i1 : ¬ (j : Int) < (m : Int) := by omega
      obtain rfl : j = m := by omega
      have HE : RowKit.Hid (mcells (incl l seq t v) = mcells ((l.take j).map (inc v)) ++ (#[.int .i64 seq, .int .i64 t, .int .i64 1, .int .i64 v, .int .i64 (v * v), .int .i64 v, .int .i64 v] : Array Value).toList) := Lib.hid (by
        unfold incl
        rw [mcells_append, List.take_of_length_le (by rw [HL.out]; exact Nat.le_refl _)]
        rfl)
      have hbl := own.lt
      have OWN := Lib.hid own
      have zo := o.size
      clear own hvv
      go_wp2_with (at_builtin; refine wpList_push rfl _ _ 22 rfl 33 i0 (.agg #[.int .i64 0, .int .i64 0, .int .i64 0, .int .i64 0, .int .i64 0, .int .i64 0, .int .i64 0]) 7 56 Try.underlying22 hi0 iz0 iz1 iz2 rfl (by decide) w.heap.size u9 j (mcells ((l.take j).map (inc v))) rfl OWN.out #[.int .i64 seq, .int .i64 t, .int .i64 1, .int .i64 v, .int .i64 (v * v), .int .i64 v, .int .i64 v] rfl rfl (by simp [Value.oneCell']) (by unfold maxLen; omega) (by omega) (by omega) ?_; intro g' c4 w9 own9 hg9 hat9 hgr9)
      have own : w9.ownsRow w.heap.size 33 7 (.slice (some ⟨g', 0, none⟩) (j + 1) c4) (j + 1) (mcells (incl l seq t v)) := by
        rw [HE.out]
        exact own9.row hg9
      replace o := below_grown (o.alloc o.size (.cells #[.int .i64 seq, .int .i64 t, .int .i64 1, .int .i64 v, .int .i64 (v * v), .int .i64 v, .int .i64 v] 33)) hgr9 (fun b e => (hbl b e).1) (by simp; omega)
      clear own9 hgr9 hat9 OWN zo
      go_wp2
      go_ret
      exact ⟨_, rfl, own, o⟩
end Go.Proofs.Ytaiepjcnncajcaa
end
section
/- Marks of smooth histograms: the marks between each mark and the last one behind it that is close to it fall away, walked. -/
set_option linter.unusedVariables false
set_option linter.unusedSimpArgs false
set_option linter.unusedSectionVars false
set_option linter.unnecessarySimpa false
namespace Go.Proofs.Ytaiepjcnncajcaa
open Go.RowKit
set_option maxRecDepth 100000 in
set_option maxHeartbeats 4000000 in
theorem pprune (near : Mk → Mk → Bool) (fc : FuncId) (xb : Nat) (A : Option Addr) (m c : Nat) (l : List Mk) (w : World) (hin : MIn A m c l w) (hm : m ≤ 1000000)
    (hfc : ∀ (args : Array Value) (w : World), Sem.run Try.prog (callFunc fc args) w = .ok (.enter fc args) w)
    (HN : ∀ (i j : Nat) (w' : World), i < j → j < m → Below w.heap.size w w' → Calls Try.prog fc #[.agg #[.int .i64 (mkAt l i).seq, .int .i64 (mkAt l i).t, .int .i64 (mkAt l i).n, .int .i64 (mkAt l i).s, .int .i64 (mkAt l i).q, .int .i64 (mkAt l i).lo, .int .i64 (mkAt l i).hi], .agg #[.int .i64 (mkAt l j).seq, .int .i64 (mkAt l j).t, .int .i64 (mkAt l j).n, .int .i64 (mkAt l j).s, .int .i64 (mkAt l j).q, .int .i64 (mkAt l j).lo, .int .i64 (mkAt l j).hi], .pointer (some ⟨xb, 0, none⟩)] w' fun e w'' => e = .returned (.bool (near (mkAt l i) (mkAt l j))) ∧ Below w'.heap.size w' w'') :
    Calls Try.prog 68 #[.slice A m c, .func (.func fc) #[] #[.pointer (some ⟨xb, 0, none⟩)]] w fun e w' => MRet (prune near l).length (prune near l) w e w' := by
  have HR := Lib.hid hin
  have HL := Lib.hid hin.len
  replace HN := Lib.hid HN
  have HFC := Lib.hid hfc
  clear hfc
  obtain ⟨i0, hi0, iz0, iz1, iz2⟩ := info_parts info_mk
  clear hin
  go_enter Try.func68, Try.ntmps68
  go_wp2
  go_loopw [5, 6] (fun u i wr => ∃ (k : Nat) (p : List Mk), k ≤ m ∧ i = .int .i64 (k : Nat) ∧ wr.ownsRow w.heap.size 33 7 u p.length (mcells p) ∧ RowKit.Hid (p ++ prune near (l.drop k) = prune near l) ∧ p.length ≤ k ∧ Below w.heap.size w wr) (fun _ i _ => m - (intOf i).toNat)
  case atStart => exact ⟨0, [], by omega, rfl, World.ownsRow_nil _ _ _ _, Lib.hid rfl, by simp, Below.refl _ _⟩
  case round =>
    obtain ⟨k, p, hk, rfl, own, HP, hpl, o⟩ := hrel
    by_cases hlt : k < m
    · obtain ⟨ad, rfl, hadb, hta⟩ := HR.out.reads.mk hlt
      have HE : RowKit.Hid (mcells (p ++ [mkAt l k]) = mcells p ++ mcells [mkAt l k]) := Lib.hid (mcells_append _ _)
      have HD : RowKit.Hid (prune near (l.drop k) = mkAt l k :: prune near (l.drop (k + 1 + lastN (near (mkAt l k)) (l.drop (k + 1))))) := Lib.hid (by
        rw [drop_mk (by rw [HL.out]; exact hlt), prune_cons, List.drop_drop])
      obtain ⟨N, hN⟩ : ∃ N, N = k + 1 + lastN (near (mkAt l k)) (l.drop (k + 1)) := ⟨_, rfl⟩
      have HNx := Lib.hid hN
      have hN0 : k + 1 ≤ N := by omega
      have hN1 : N ≤ m := by
        have := HL.out
        by_cases e : l.drop (k + 1) = []
        · rw [hN, e]
          have : lastN (near (mkAt l k)) [] = 0 := rfl
          omega
        · have := lastN_le (near (mkAt l k)) _ e
          rw [List.length_drop] at this
          omega
      generalize hA : mkAt l k = ma at hta HE
      have HAm := Lib.hid hA
      obtain ⟨sq, tk, n, s, q, lo, hi⟩ := ma
      have HA0 := Lib.hid hta
      obtain ⟨p0, p1, p2, p3, p4, p5, p6⟩ := hta.below o (by rw [block_of_add]; exact hadb)
      dsimp only at p0 p1 p2 p3 p4 p5 p6
      have HX : RowKit.Hid (mcells [(⟨sq, tk, n, s, q, lo, hi⟩ : Mk)] = (#[.int .i64 sq, .int .i64 tk, .int .i64 n, .int .i64 s, .int .i64 q, .int .i64 lo, .int .i64 hi] : Array Value).toList) := Lib.hid rfl
      have i1 : (k : Int) < (m : Int) := by omega
      have i2 : (0 : Int) ≤ (k : Int) := by omega
      have hbl := own.lt
      have OWN := Lib.hid own
      have zo := o.size
      have wm : IntKind.i64.wrap ((m : Int) - 1) = (m : Int) - 1 := IntWalk.i64_in _ (by omega)
      have wk : IntKind.i64.wrap ((k : Int) + 1) = (k : Int) + 1 := IntWalk.i64_in _ (by omega)
      clear own hA hta hN
      go_upto_block 2 with (at_builtin; refine wpList_push rfl _ _ 22 rfl 33 i0 (.agg #[.int .i64 0, .int .i64 0, .int .i64 0, .int .i64 0, .int .i64 0, .int .i64 0, .int .i64 0]) 7 56 Try.underlying22 hi0 iz0 iz1 iz2 rfl (by decide) w.heap.size u5 p.length (mcells p) rfl OWN.out #[.int .i64 sq, .int .i64 tk, .int .i64 n, .int .i64 s, .int .i64 q, .int .i64 lo, .int .i64 hi] rfl rfl (by simp [Value.oneCell']) (by unfold maxLen; omega) (by omega) (by omega) ?_; intro g' c4 w9 own9 hg9 hat9 hgr9)
      have own : w9.ownsRow w.heap.size 33 7 (.slice (some ⟨g', 0, none⟩) (p.length + 1) c4) (p.length + 1) (mcells (p ++ [mkAt l k])) := by
        rw [HAm.out, HE.out, HX.out]
        exact own9.row hg9
      replace o := below_grown (o.alloc o.size (.cells #[.int .i64 sq, .int .i64 tk, .int .i64 n, .int .i64 s, .int .i64 q, .int .i64 lo, .int .i64 hi] 33)) hgr9 (fun b e => (hbl b e).1) (by simp; omega)
      clear own9 hgr9 hat9 OWN zo p0 p1 p2 p3 p4 p5 p6 hbl
      go_cut [7] (fun nx wx => nx = .int .i64 (N : Nat) ∧ wx.ownsRow w.heap.size 33 7 (.slice (some ⟨g', 0, none⟩) (p.length + 1) c4) (p.length + 1) (mcells (p ++ [mkAt l k])) ∧ Below w.heap.size w wx)
      case first =>
        go_wp2_with fail
        go_loopw [7, 8] (fun nx j wr => ∃ J : Nat, k ≤ J ∧ J < m ∧ nx = .int .i64 ((k : Int) + 1) ∧ j = .int .i64 (J : Nat) ∧ RowKit.Hid (∀ e, J < e → e < m → near (mkAt l k) (mkAt l e) = false) ∧ wr.ownsRow w.heap.size 33 7 (.slice (some ⟨g', 0, none⟩) (p.length + 1) c4) (p.length + 1) (mcells (p ++ [mkAt l k])) ∧ Below w.heap.size w wr) (fun _ j _ => (intOf j).toNat)
        case atStart => exact ⟨m - 1, by omega, by omega, rfl, congrArg (Value.int .i64) (by omega), Lib.hid (fun e h h' => absurd h (by omega)), own, o⟩
        case round =>
          clear own o
          obtain ⟨J, hJ0, hJ1, rfl, rfl, HF, own, o⟩ := hrel
          by_cases hjk : k < J
          · have g1 : (k : Int) < (J : Int) := by omega
            obtain ⟨ad', ea, _, htb⟩ := HR.out.reads.mk hJ1
            obtain rfl : ad = ad' := by injection ea
            have PN := fun w' hb => HN.out k J w' hjk hJ1 hb
            obtain ⟨nv, hnv⟩ : ∃ b, near (mkAt l k) (mkAt l J) = b := ⟨_, rfl⟩
            rw [hnv] at PN
            have HV := Lib.hid hnv
            rw [HAm.out] at PN
            generalize hB : mkAt l J = mb at htb PN
            obtain ⟨osq, otk, on, os, oq, olo, ohi⟩ := mb
            dsimp only at PN
            replace PN := Lib.hid PN
            have HB0 := Lib.hid htb
            clear hB htb ea hnv
            have j1 : (J : Int) < (m : Int) := by omega
            have j0 : (0 : Int) ≤ (J : Int) := by omega
            have wJ : IntKind.i64.wrap ((J : Int) - 1) = (J : Int) - 1 := IntWalk.i64_in _ (by omega)
            have own5 := own
            go_upto_region 9 with (fail)
            refine wp_region_free0 [1, 2, 3, 5, 6, 7, 0, 4, 8] [] [0, 1, 2, 3, 4, 5, 6, 7, 8] 9 (fun w' => World.ownsRow w' w.heap.size 33 7 (.slice (some ⟨g', 0, none⟩) (p.length + 1) c4) (p.length + 1) (mcells (p ++ [mkAt l k])) ∧ Below w.heap.size w w') (by kernel_rfl) (by kernel_rfl) (fun _ _ d _ _ h => by cases d <;> exact h) ?_ ?_
            · exact ⟨own, o.drew⟩
            (refine plan_pure ?_ rfl rfl (fun w' => ?_) ?_; rotate_left; (go_simp; try with_reducible rfl); simp only [Act.put, List.setIfInBounds_toArray, List.set_cons_zero, List.set_cons_succ])
            (refine plan_pure ?_ rfl rfl (fun w' => ?_) ?_; rotate_left; (go_simp; try with_reducible rfl); simp only [Act.put, List.setIfInBounds_toArray, List.set_cons_zero, List.set_cons_succ])
            (refine plan_pure ?_ rfl rfl (fun w' => ?_) ?_; rotate_left; (go_simp; try with_reducible rfl); simp only [Act.put, List.setIfInBounds_toArray, List.set_cons_zero, List.set_cons_succ])
            (refine plan_pure ?_ rfl rfl (fun w' => ?_) ?_; rotate_left; (go_simp; try with_reducible rfl); simp only [Act.put, List.setIfInBounds_toArray, List.set_cons_zero, List.set_cons_succ])
            (refine plan_pure ?_ rfl rfl (fun w' => ?_) ?_; rotate_left; (go_simp; try with_reducible rfl); simp only [Act.put, List.setIfInBounds_toArray, List.set_cons_zero, List.set_cons_succ])
            (refine plan_pure ?_ rfl rfl (fun w' => ?_) ?_; rotate_left; (go_simp; try with_reducible rfl); simp only [Act.put, List.setIfInBounds_toArray, List.set_cons_zero, List.set_cons_succ])
            (refine plan_pure ?_ rfl rfl (fun w' => ?_) ?_; rotate_left; (go_simp; try with_reducible rfl); simp only [Act.put, List.setIfInBounds_toArray, List.set_cons_zero, List.set_cons_succ])
            (refine plan_val ?_ rfl rfl rfl (fun w' hS => ?_) ?_; rotate_left; (obtain ⟨p0, p1, p2, p3, p4, p5, p6⟩ := HA0.out.below hS.2 (by rw [block_of_add]; exact hadb); obtain ⟨q0, q1, q2, q3, q4, q5, q6⟩ := HB0.out.below hS.2 (by rw [block_of_add]; exact hadb); dsimp only at p0 p1 p2 p3 p4 p5 p6 q0 q1 q2 q3 q4 q5 q6; go_simp; try with_reducible rfl); simp only [Act.put, List.setIfInBounds_toArray, List.set_cons_zero, List.set_cons_succ])
            (refine plan_val ?_ rfl rfl rfl (fun w' hS => ?_) ?_; rotate_left; (obtain ⟨p0, p1, p2, p3, p4, p5, p6⟩ := HA0.out.below hS.2 (by rw [block_of_add]; exact hadb); obtain ⟨q0, q1, q2, q3, q4, q5, q6⟩ := HB0.out.below hS.2 (by rw [block_of_add]; exact hadb); dsimp only at p0 p1 p2 p3 p4 p5 p6 q0 q1 q2 q3 q4 q5 q6; go_simp; try with_reducible rfl); simp only [Act.put, List.setIfInBounds_toArray, List.set_cons_zero, List.set_cons_succ])
            refine plan_nil ?_
            intro w5 L5
            simp only [List.drop_succ_cons, List.drop_zero]
            try simp only [Act.put, List.setIfInBounds_toArray, List.set_cons_zero, List.set_cons_succ]
            obtain ⟨own, o⟩ := L5
            clear own5
            go_wp2_with fail
            rw [HFC.out]
            simp only [Oper.upon]
            refine (PN.out _ o).mono ?_
            rintro e w6 ⟨rfl, hb6⟩
            replace own := orow_keep own (fun g e => hb6.block g (own.lt g e).2)
            replace o := o.trans (hb6.mono o.size)
            cases nv
            · go_wp2
              go_roundw
              case rel =>
                refine ⟨J - 1, by omega, by omega, rfl, congrArg (Value.int .i64) (by omega), Lib.hid (fun e h h' => ?_), own, o⟩
                rcases Nat.lt_or_ge J e with g | g
                · exact HF.out e g h'
                · rw [show e = J by omega]
                  exact HV.out
              case measure => simp [intOf]; omega
            · have HJ : RowKit.Hid (N = J) := Lib.hid (by
                rw [HNx.out, lastN_is (p := J - (k + 1)) (by rw [List.length_drop, HL.out]; omega) (by rw [mkAt_drop, show k + 1 + (J - (k + 1)) = J by omega]; exact HV.out) (fun i h1 h2 => by
                  rw [List.length_drop, HL.out] at h2
                  rw [mkAt_drop]
                  exact HF.out _ (by omega) (by omega))]
                omega)
              go_wp2
              go_meet
              exact ⟨by rw [HJ.out], own, o⟩
          · obtain rfl : J = k := by omega
            have g1 : ¬ (J : Int) < (J : Int) := by omega
            have HJ : RowKit.Hid ((N : Int) = (J : Int) + 1) := Lib.hid (by
              have e := HNx.out
              rw [lastN_none (fun i hi => by
                rw [List.length_drop, HL.out] at hi
                rw [mkAt_drop]
                exact HF.out _ (by omega) (by omega))] at e
              omega)
            go_wp2
            go_meet
            exact ⟨by rw [HJ.out], own, o⟩
      case rest =>
        clear own o
        obtain ⟨rfl, own, o⟩ := hcut
        go_wp2
        go_roundw
        case rel => exact ⟨N, p ++ [mkAt l k], hN1, rfl, by rw [List.length_append]; exact own, Lib.hid (by rw [← HP.out, HD.out, HNx.out]; simp), by rw [List.length_append]; simp; omega, o⟩
        case measure => simp [intOf]; omega
    · have i1 : ¬ (k : Int) < (m : Int) := by omega
      obtain rfl : k = m := by omega
      have HE : RowKit.Hid (p = prune near l) := Lib.hid (by
        rw [← HP.out, List.drop_of_length_le (by rw [HL.out]; exact Nat.le_refl _), prune_nil, List.append_nil])
      go_wp2
      go_ret
      exact ⟨_, rfl, by rw [← HE.out]; exact own, o⟩
end Go.Proofs.Ytaiepjcnncajcaa
end
section
/- Spread histograms: what a call that answers a state leaves; New. -/
set_option linter.unusedVariables false
set_option linter.unusedSimpArgs false
set_option linter.unusedSectionVars false
set_option linter.unnecessarySimpa false
namespace Go.Proofs.Ytaiepjcnncajcaa
open Go.RowKit
theorem M64.of_one {seq cap now w least : Int} {m : Mk} (h : oneP seq cap now w least m) (hs : seq ≤ 1099511627777) (hc : cap ≤ 65536) (hn : now ≤ 16777216) (hl : -4096 ≤ least) : M64 m := by
  obtain ⟨⟨n0, n1⟩, ⟨s0, s1⟩, q0, q1⟩ := SmallM.of_one h hc hl
  obtain ⟨h1, h2, h3, h4, h5, h6, h7, h8, h9, _⟩ := h
  unfold M64 I64
  omega
theorem mkAt_out {l : List Mk} {i : Nat} (h : l.length ≤ i) : mkAt l i = Mk.zero := by
  unfold mkAt
  rw [List.getD_eq_getElem?_getD, List.getElem?_eq_none h]
  rfl
theorem M64.all {l : List Mk} (h : ∀ m ∈ l, M64 m) (i : Nat) : M64 (mkAt l i) := by
  by_cases hi : i < l.length
  · exact h _ (mkAt_mem hi)
  · rw [mkAt_out (by omega)]
    exact M64_zero
/-- Marks of the call's own, as an argument. -/
theorem MIn.of_row {w : World} {base n : Nat} {v : Value} {l : List Mk} (h : w.ownsRow base 33 7 v n (mcells l)) (hB : ∀ i, M64 (mkAt l i)) : ∃ A c, v = .slice A n c ∧ MIn A n c l w ∧ ∀ a, A = some a → base ≤ a.block ∧ a.block < w.heap.size := by
  obtain ⟨A, c, rfl, hr, h1, h2, h3⟩ := orow_forms h
  exact ⟨A, c, rfl, ⟨hr, hB, h1, h2⟩, h3⟩
theorem MIn.keep {A : Option Addr} {m c : Nat} {l : List Mk} {w w' : World} (h : MIn A m c l w) (hs : w.heap.size ≤ w'.heap.size) (hk : ∀ a, A = some a → w'.heap[a.block]? = w.heap[a.block]?) : MIn A m c l w' := by
  refine ⟨⟨h.reads.1, fun hn => ?_⟩, h.mB, h.mc, h.cB⟩
  obtain ⟨ad, e, hb, hc⟩ := h.reads.2 hn
  exact ⟨ad, e, Nat.lt_of_lt_of_le hb hs, fun j u hu => (World.cell?_of_block (by rw [block_of_add]; exact hk ad e)).trans (hc j u hu)⟩
/-- What a call of an operation leaves: a state and an error. -/
def SpRet (A0 : Option Addr) (r : SpOut) (w : World) (e : Ending) (w' : World) : Prop :=
  ∃ (A : Option Addr) (m c : Nat), e = .returned (.tuple #[.agg #[.int .i64 r.wd, .int .i64 r.k, .int .i64 r.cap, .int .i64 r.now, .int .i64 r.seq, .slice A m c], .int .i64 r.f]) ∧ MIn A m c r.ms w' ∧ Below w.heap.size w w' ∧ ∀ a, A = some a → (w.heap.size ≤ a.block ∧ a.block < w'.heap.size) ∨ ∃ b, A0 = some b ∧ a.block = b.block
theorem min_nil {w : World} : MIn none 0 0 [] w := ⟨by simpa [mcells_nil] using Reads.none_, fun i => by rw [mkAt_out (by simp)]; exact M64_zero, Nat.le_refl _, Nat.zero_le _⟩
theorem spret_new {A0 : Option Addr} {w w' : World} {wd k cap now f : Int} (hb : Below w.heap.size w w') : SpRet A0 ⟨wd, k, cap, now, 0, [], f⟩ w (.returned (.tuple #[.agg #[.int .i64 wd, .int .i64 k, .int .i64 cap, .int .i64 now, .int .i64 0, .slice none 0 0], .int .i64 f])) w' :=
  ⟨none, 0, 0, rfl, min_nil, hb, fun a h => by cases h⟩
theorem spret_zero {A0 : Option Addr} {w w' : World} {f : Int} (hb : Below w.heap.size w w') : SpRet A0 (spZero f) w (.returned (.tuple #[.agg #[.int .i64 0, .int .i64 0, .int .i64 0, .int .i64 0, .int .i64 0, .slice none 0 0], .int .i64 f])) w' := spret_new hb
theorem spret_ok {A0 A : Option Addr} {m c : Nat} {w w' : World} {wd k cap now seq f : Int} {ms : List Mk} (h : MIn A m c ms w') (hb : Below w.heap.size w w') (hf : ∀ a, A = some a → (w.heap.size ≤ a.block ∧ a.block < w'.heap.size) ∨ ∃ b, A0 = some b ∧ a.block = b.block) :
    SpRet A0 ⟨wd, k, cap, now, seq, ms, f⟩ w (.returned (.tuple #[.agg #[.int .i64 wd, .int .i64 k, .int .i64 cap, .int .i64 now, .int .i64 seq, .slice A m c], .int .i64 f])) w' := ⟨A, m, c, rfl, h, hb, hf⟩
end Go.Proofs.Ytaiepjcnncajcaa
end
section
/- Marks of smooth histograms: marks that a later tick makes superfluous, walked. -/
set_option linter.unusedVariables false
set_option linter.unusedSimpArgs false
set_option linter.unusedSectionVars false
set_option linter.unnecessarySimpa false
namespace Go.Proofs.Ytaiepjcnncajcaa
open Go.RowKit
/-- What a call leaves that answers the marks that stay: its argument's rear part, or marks of its own. -/
def MDrop (A0 : Option Addr) (l : List Mk) (w : World) (e : Ending) (w' : World) : Prop := ∃ (A : Option Addr) (m c : Nat), e = .returned (.slice A m c) ∧ MIn A m c l w' ∧ Below w.heap.size w w' ∧ ∀ a, A = some a → (w.heap.size ≤ a.block ∧ a.block < w'.heap.size) ∨ ∃ b, A0 = some b ∧ a.block = b.block
def lenV : Value → Nat
  | .slice _ n _ => n
  | _ => 0
theorem MIn.tail {ad : Addr} {m c : Nat} {a : Mk} {l : List Mk} {w : World} (h : MIn (some ad) m c (a :: l) w) : MIn (some ⟨ad.block, ad.off + 7, none⟩) (m - 1) (c - 1) l w := by
  rw [← mk_lit ad 7 (by decide)]
  have hl := h.len
  simp at hl
  refine ⟨⟨by have := h.reads.1; rw [mcells_cons] at this; simp at this; omega, fun hn => ?_⟩, fun i => h.mB (i + 1), by have := h.mc; omega, by have := h.cB; omega⟩
  obtain ⟨ad', e', hb, hc⟩ := h.reads.2 (by omega)
  obtain rfl : ad = ad' := by injection e'
  refine ⟨_, rfl, by rw [block_of_add]; exact hb, fun j u hu => ?_⟩
  rw [add_of_add]
  exact hc (7 + j) u (by rw [mcells_cons, show 7 + j = j + 1 + 1 + 1 + 1 + 1 + 1 + 1 by omega]; simpa using hu)
theorem MIn.zero {w : World} : MIn none 0 0 [] w := ⟨by simpa [mcells_nil] using Reads.none_, fun i => by unfold mkAt; simp; exact M64_zero, Nat.le_refl _, Nat.zero_le _⟩
theorem MIn.maxL {A : Option Addr} {m c : Nat} {l : List Mk} {w : World} (h : MIn A m c l w) : m ≤ maxLen := Nat.le_trans h.mc h.cB
theorem MIn.of_own {g m c : Nat} {l : List Mk} {w : World} (h : Own w 33 7 g m c (mcells l)) (hB : ∀ i, M64 (mkAt l i)) : MIn (some ⟨g, 0, none⟩) m c l w := ⟨h.reads, hB, h.cap.1, h.cap.2⟩
set_option maxHeartbeats 2000000 in
theorem pmdrop (A : Option Addr) (m c : Nat) (l : List Mk) (now wd : Int) (w : World) (hin : MIn A m c l w) (hmm : m ≤ 1000000) (n0 : 0 ≤ now) (n1 : now ≤ 16777216) (d0 : 1 ≤ wd) (d1 : wd ≤ 1048576) (hT : ∀ x ∈ l, 0 ≤ x.t ∧ x.t ≤ now) :
    Calls Try.prog 65 #[.slice A m c, .int .i64 now, .int .i64 wd] w fun e w' => MDrop A (dropM now wd l) w e w' := by
  have HT := Lib.hid hT
  clear hT
  obtain ⟨i0, hi0, iz0, iz1, iz2⟩ := info_parts info_mk
  go_enter Try.func65, Try.ntmps65
  go_wp2
  go_loopw [0] (fun s wr => ∃ (A' : Option Addr) (m' c' : Nat) (l' : List Mk), s = .slice A' m' c' ∧ MIn A' m' c' l' w ∧ m' ≤ m ∧ RowKit.Hid (dropM now wd l' = dropM now wd l ∧ (∀ x ∈ l', x ∈ l) ∧ ∀ a, A' = some a → ∃ b, A = some b ∧ a.block = b.block) ∧ w = wr) (fun s _ => lenV s)
  case atStart => exact ⟨A, m, c, l, rfl, hin, Nat.le_refl _, Lib.hid ⟨rfl, fun x h => h, fun a e => ⟨a, e, rfl⟩⟩, rfl⟩
  case round =>
    clear hin
    obtain ⟨A', m', c', l', rfl, hin', hm', HD, rfl⟩ := hrel
    have HI := Lib.hid hin'
    have HL := Lib.hid hin'.len
    have hcm := hin'.mc
    by_cases g2 : 2 ≤ m'
    · obtain ⟨ad, rfl, hadb, ht1⟩ := hin'.reads.mk (i := 1) (by omega)
      obtain ⟨a, b, r, rfl⟩ : ∃ a b r, l' = a :: b :: r := by
        have := hin'.len
        match l', this with
        | a :: b :: r, _ => exact ⟨a, b, r, rfl⟩
        | [], h => simp at h; omega
        | [a], h => simp at h; omega
      have q1 : w.cell? ⟨ad.block, ad.off + 7 + 1, none⟩ = some (.int .i64 b.t) := by
        have h := ht1.2.1
        rw [show ad.add (1 * 7) = ⟨ad.block, ad.off + 7, none⟩ from mk_lit ad 7 (by decide)] at h
        exact h
      have htb := HT.out b (HD.out.2.1 b (by simp))
      have PL := fun w => plive now wd b.t w n0 n1 d0 d1 htb.1 htb.2
      obtain ⟨tb, hb⟩ : ∃ x, x = b.t := ⟨_, rfl⟩
      rw [← hb] at q1 PL
      have HB := Lib.hid hb
      clear hb htb ht1 hin'
      have i1 : (1 : Int) < (m' : Int) := by omega
      have i3 : (1 : Int) ≤ (m' : Int) := by omega
      have i4 : (1 : Int) ≤ (c' : Int) := by omega
      have i5 : (m' : Int) ≤ (c' : Int) := by omega
      have i2 : ((m' : Int) == 1) = false := by simp; omega
      by_cases lv : now - wd < tb
      · rw [decide_eq_true lv] at PL
        replace PL := Lib.hid PL
        have HDr : RowKit.Hid (dropM now wd (a :: b :: r) = a :: b :: r) := Lib.hid (by rw [dropM_two, if_pos (by rw [← HB.out]; exact lv)])
        clear lv
        go_wp2_with (first | (go_at_call 77; with_reducible refine (PL.out _).mono ?_; rintro e w9 ⟨rfl, h9⟩; obtain rfl := h9.symm) | (at_builtin; refine wpList_clone rfl _ _ 22 rfl 33 i0 (.agg #[.int .i64 0, .int .i64 0, .int .i64 0, .int .i64 0, .int .i64 0, .int .i64 0, .int .i64 0]) 7 56 Try.underlying22 hi0 iz0 iz1 iz2 rfl (by decide) rfl w.heap.size (some ad) m' c' (mcells (a :: b :: r)) rfl HI.out.reads (Nat.le_refl _) (mcells_one _) HI.out.maxL (by omega) ?_; intro g c2 w2 own2 hg2 hb2 hz2))
        go_ret
        exact ⟨_, _, _, rfl, by rw [← HD.out.1, HDr.out]; exact MIn.of_own own2 HI.out.mB, hb2, fun a e => .inl (by cases e; exact ⟨hg2, own2.lt⟩)⟩
      · rw [decide_eq_false lv] at PL
        replace PL := Lib.hid PL
        have HDr : RowKit.Hid (dropM now wd (a :: b :: r) = dropM now wd (b :: r)) := Lib.hid (by rw [dropM_two, if_neg (by rw [← HB.out]; exact lv)])
        clear lv
        go_wp2_with (go_at_call 77; with_reducible refine (PL.out _).mono ?_; rintro e w9 ⟨rfl, h9⟩; obtain rfl := h9.symm)
        go_roundw
        case rel => exact ⟨_, m' - 1, c' - 1, b :: r, rfl, HI.out.tail, by omega, Lib.hid ⟨HDr.out ▸ HD.out.1, fun x hx => HD.out.2.1 x (by simp [hx]), fun x e => by cases e; exact HD.out.2.2 ad rfl⟩, by trivial⟩
        case measure => simp [lenV]; omega
    · by_cases g1 : m' = 1
      · subst g1
        obtain ⟨ad, rfl, hadb, ht0⟩ := hin'.reads.mk (i := 0) (by omega)
        obtain ⟨a, rfl⟩ : ∃ a, l' = [a] := by
          have := hin'.len
          match l', this with
          | [a], _ => exact ⟨a, rfl⟩
          | [], h => exact absurd h (by simp)
          | a :: b :: r, h => exact absurd h (by simp)
        have q1 : w.cell? ⟨ad.block, ad.off + 1, none⟩ = some (.int .i64 a.t) := ht0.2.1
        have hta := HT.out a (HD.out.2.1 a (by simp))
        have PL := fun w => plive now wd a.t w n0 n1 d0 d1 hta.1 hta.2
        obtain ⟨ta, hb⟩ : ∃ x, x = a.t := ⟨_, rfl⟩
        rw [← hb] at q1 PL
        have HB := Lib.hid hb
        clear hb hta ht0 hin'
        clear g2
        by_cases lv : now - wd < ta
        · rw [decide_eq_true lv] at PL
          replace PL := Lib.hid PL
          have HDr : RowKit.Hid (dropM now wd [a] = [a]) := Lib.hid (by rw [dropM_one, if_pos (by rw [← HB.out]; exact lv)])
          clear lv
          go_wp2_with (first | (go_at_call 77; with_reducible refine (PL.out _).mono ?_; rintro e w9 ⟨rfl, h9⟩; obtain rfl := h9.symm) | (at_builtin; refine wpList_clone rfl _ _ 22 rfl 33 i0 (.agg #[.int .i64 0, .int .i64 0, .int .i64 0, .int .i64 0, .int .i64 0, .int .i64 0, .int .i64 0]) 7 56 Try.underlying22 hi0 iz0 iz1 iz2 rfl (by decide) rfl w.heap.size (some ad) 1 c' (mcells [a]) rfl HI.out.reads (Nat.le_refl _) (mcells_one _) HI.out.maxL (by omega) ?_; intro g c2 w2 own2 hg2 hb2 hz2))
          go_ret
          exact ⟨_, _, _, rfl, by rw [← HD.out.1, HDr.out]; exact MIn.of_own own2 HI.out.mB, hb2, fun a e => .inl (by cases e; exact ⟨hg2, own2.lt⟩)⟩
        · rw [decide_eq_false lv] at PL
          replace PL := Lib.hid PL
          have HDr : RowKit.Hid (dropM now wd [a] = []) := Lib.hid (by rw [dropM_one, if_neg (by rw [← HB.out]; exact lv)])
          clear lv
          go_wp2_with (go_at_call 77; with_reducible refine (PL.out _).mono ?_; rintro e w9 ⟨rfl, h9⟩; obtain rfl := h9.symm)
          go_ret
          exact ⟨_, _, _, rfl, by rw [← HD.out.1, HDr.out]; exact MIn.zero, Below.refl _ _, fun a e => by cases e⟩
      · have i1 : ¬ (1 : Int) < (m' : Int) := by omega
        have i2 : ((m' : Int) == 1) = false := by simp; omega
        obtain rfl : l' = [] := by
          have := hin'.len
          match l', this with
          | [], _ => rfl
          | a :: r, h => simp at h; omega
        have HDr : RowKit.Hid (dropM now wd [] = []) := Lib.hid (dropM_nil _ _)
        clear hin' g1 g2
        go_wp2_with (first | (at_builtin; refine wpList_clone rfl _ _ 22 rfl 33 i0 (.agg #[.int .i64 0, .int .i64 0, .int .i64 0, .int .i64 0, .int .i64 0, .int .i64 0, .int .i64 0]) 7 56 Try.underlying22 hi0 iz0 iz1 iz2 rfl (by decide) rfl w.heap.size A' m' c' (mcells []) rfl HI.out.reads (Nat.le_refl _) (mcells_one _) HI.out.maxL (by omega) ?_; intro g c2 w2 own2 hg2 hb2 hz2))
        go_ret
        exact ⟨_, _, _, rfl, by rw [← HD.out.1, HDr.out]; exact MIn.of_own own2 HI.out.mB, hb2, fun a e => .inl (by cases e; exact ⟨hg2, own2.lt⟩)⟩
set_option maxHeartbeats 2000000 in
theorem rmdrop (A : Option Addr) (m c : Nat) (l : List Mk) (now wd : Int) (w : World) (hin : MIn A m c l w) (hmm : m ≤ 1000000) (n0 : 0 ≤ now) (n1 : now ≤ 16777216) (d0 : 1 ≤ wd) (d1 : wd ≤ 1048576) (hT : ∀ x ∈ l, 0 ≤ x.t ∧ x.t ≤ now) :
    Calls Try.prog 72 #[.slice A m c, .int .i64 now, .int .i64 wd] w fun e w' => MDrop A (dropM now wd l) w e w' := by
  have HT := Lib.hid hT
  clear hT
  obtain ⟨i0, hi0, iz0, iz1, iz2⟩ := info_parts info_mk
  go_enter Try.func72, Try.ntmps72
  go_wp2
  go_loopw [0] (fun s wr => ∃ (A' : Option Addr) (m' c' : Nat) (l' : List Mk), s = .slice A' m' c' ∧ MIn A' m' c' l' w ∧ m' ≤ m ∧ RowKit.Hid (dropM now wd l' = dropM now wd l ∧ (∀ x ∈ l', x ∈ l) ∧ ∀ a, A' = some a → ∃ b, A = some b ∧ a.block = b.block) ∧ w = wr) (fun s _ => lenV s)
  case atStart => exact ⟨A, m, c, l, rfl, hin, Nat.le_refl _, Lib.hid ⟨rfl, fun x h => h, fun a e => ⟨a, e, rfl⟩⟩, rfl⟩
  case round =>
    clear hin
    obtain ⟨A', m', c', l', rfl, hin', hm', HD, rfl⟩ := hrel
    have HI := Lib.hid hin'
    have HL := Lib.hid hin'.len
    have hcm := hin'.mc
    by_cases g2 : 2 ≤ m'
    · obtain ⟨ad, rfl, hadb, ht1⟩ := hin'.reads.mk (i := 1) (by omega)
      obtain ⟨a, b, r, rfl⟩ : ∃ a b r, l' = a :: b :: r := by
        have := hin'.len
        match l', this with
        | a :: b :: r, _ => exact ⟨a, b, r, rfl⟩
        | [], h => simp at h; omega
        | [a], h => simp at h; omega
      have q1 : w.cell? ⟨ad.block, ad.off + 7 + 1, none⟩ = some (.int .i64 b.t) := by
        have h := ht1.2.1
        rw [show ad.add (1 * 7) = ⟨ad.block, ad.off + 7, none⟩ from mk_lit ad 7 (by decide)] at h
        exact h
      have htb := HT.out b (HD.out.2.1 b (by simp))
      have PL := fun w => rlive now wd b.t w n0 n1 d0 d1 htb.1 htb.2
      obtain ⟨tb, hb⟩ : ∃ x, x = b.t := ⟨_, rfl⟩
      rw [← hb] at q1 PL
      have HB := Lib.hid hb
      clear hb htb ht1 hin'
      have i1 : (1 : Int) < (m' : Int) := by omega
      have i3 : (1 : Int) ≤ (m' : Int) := by omega
      have i4 : (1 : Int) ≤ (c' : Int) := by omega
      have i5 : (m' : Int) ≤ (c' : Int) := by omega
      have i2 : ((m' : Int) == 1) = false := by simp; omega
      by_cases lv : now - wd < tb
      · rw [decide_eq_true lv] at PL
        replace PL := Lib.hid PL
        have HDr : RowKit.Hid (dropM now wd (a :: b :: r) = a :: b :: r) := Lib.hid (by rw [dropM_two, if_pos (by rw [← HB.out]; exact lv)])
        clear lv
        go_wp2_with (go_at_call 79; with_reducible refine (PL.out _).mono ?_; rintro e w9 ⟨rfl, h9⟩; obtain rfl := h9.symm)
        go_ret
        exact ⟨_, _, _, rfl, by rw [← HD.out.1, HDr.out]; exact HI.out, Below.refl _ _, fun a e => .inr (HD.out.2.2 a e)⟩
      · rw [decide_eq_false lv] at PL
        replace PL := Lib.hid PL
        have HDr : RowKit.Hid (dropM now wd (a :: b :: r) = dropM now wd (b :: r)) := Lib.hid (by rw [dropM_two, if_neg (by rw [← HB.out]; exact lv)])
        clear lv
        go_wp2_with (go_at_call 79; with_reducible refine (PL.out _).mono ?_; rintro e w9 ⟨rfl, h9⟩; obtain rfl := h9.symm)
        go_roundw
        case rel => exact ⟨_, m' - 1, c' - 1, b :: r, rfl, HI.out.tail, by omega, Lib.hid ⟨HDr.out ▸ HD.out.1, fun x hx => HD.out.2.1 x (by simp [hx]), fun x e => by cases e; exact HD.out.2.2 ad rfl⟩, by trivial⟩
        case measure => simp [lenV]; omega
    · by_cases g1 : m' = 1
      · subst g1
        obtain ⟨ad, rfl, hadb, ht0⟩ := hin'.reads.mk (i := 0) (by omega)
        obtain ⟨a, rfl⟩ : ∃ a, l' = [a] := by
          have := hin'.len
          match l', this with
          | [a], _ => exact ⟨a, rfl⟩
          | [], h => exact absurd h (by simp)
          | a :: b :: r, h => exact absurd h (by simp)
        have q1 : w.cell? ⟨ad.block, ad.off + 1, none⟩ = some (.int .i64 a.t) := ht0.2.1
        have hta := HT.out a (HD.out.2.1 a (by simp))
        have PL := fun w => rlive now wd a.t w n0 n1 d0 d1 hta.1 hta.2
        obtain ⟨ta, hb⟩ : ∃ x, x = a.t := ⟨_, rfl⟩
        rw [← hb] at q1 PL
        have HB := Lib.hid hb
        clear hb hta ht0 hin'
        clear g2
        by_cases lv : now - wd < ta
        · rw [decide_eq_true lv] at PL
          replace PL := Lib.hid PL
          have HDr : RowKit.Hid (dropM now wd [a] = [a]) := Lib.hid (by rw [dropM_one, if_pos (by rw [← HB.out]; exact lv)])
          clear lv
          go_wp2_with (go_at_call 79; with_reducible refine (PL.out _).mono ?_; rintro e w9 ⟨rfl, h9⟩; obtain rfl := h9.symm)
          go_ret
          exact ⟨_, _, _, rfl, by rw [← HD.out.1, HDr.out]; exact HI.out, Below.refl _ _, fun a e => .inr (HD.out.2.2 a e)⟩
        · rw [decide_eq_false lv] at PL
          replace PL := Lib.hid PL
          have HDr : RowKit.Hid (dropM now wd [a] = []) := Lib.hid (by rw [dropM_one, if_neg (by rw [← HB.out]; exact lv)])
          clear lv
          go_wp2_with (go_at_call 79; with_reducible refine (PL.out _).mono ?_; rintro e w9 ⟨rfl, h9⟩; obtain rfl := h9.symm)
          go_ret
          exact ⟨_, _, _, rfl, by rw [← HD.out.1, HDr.out]; exact MIn.zero, Below.refl _ _, fun a e => by cases e⟩
      · have i1 : ¬ (1 : Int) < (m' : Int) := by omega
        have i2 : ((m' : Int) == 1) = false := by simp; omega
        obtain rfl : l' = [] := by
          have := hin'.len
          match l', this with
          | [], _ => rfl
          | a :: r, h => simp at h; omega
        have HDr : RowKit.Hid (dropM now wd [] = []) := Lib.hid (dropM_nil _ _)
        clear hin' g1 g2
        go_wp2_with (fail)
        go_ret
        exact ⟨_, _, _, rfl, by rw [← HD.out.1, HDr.out]; exact HI.out, Below.refl _ _, fun a e => .inr (HD.out.2.2 a e)⟩
end Go.Proofs.Ytaiepjcnncajcaa
end
