/- Marks of smooth histograms: the reference's check, walked. -/
import Derived.Test.YtaiepjcnncajcaaMkV
import Derived.Test.YtaiepjcnncajcaaQuietF
set_option linter.unusedVariables false
set_option linter.unusedSimpArgs false
set_option linter.unusedSectionVars false
set_option linter.unnecessarySimpa false
namespace Go.Proofs.Ytaiepjcnncajcaa
open Go.RowKit
theorem part_lo {n lo hi s q : Int} (hn : 0 ≤ n) (h : partP n lo hi s q) (hl : -4096 ≤ lo) (hh : hi ≤ 4096) : -n * 4096 ≤ s ∧ s ≤ n * 4096 := by
  obtain ⟨h1, h2, _⟩ := part_wide hn h hl hh
  omega
theorem rval9_0 (v : Int) (w : World)   (h : v < -4096) : Calls Try.prog 73 #[.int .i64 v] w fun e w' => e = .returned (.bool false) ∧ w' = w := by
  go_enter Try.func73, Try.ntmps73
  go_wp2_with fail
  go_ret
  exact ⟨by first | rfl | exact ret_bool (by simp; omega), rfl⟩
theorem rval9_1 (v : Int) (w : World)  (h0 : -4096 ≤ v) (h : 4096 < v) : Calls Try.prog 73 #[.int .i64 v] w fun e w' => e = .returned (.bool false) ∧ w' = w := by
  go_enter Try.func73, Try.ntmps73
  go_wp2_with fail
  go_ret
  exact ⟨by first | rfl | exact ret_bool (by simp; omega), rfl⟩
theorem rval9_2 (v : Int) (w : World)  (h0 : -4096 ≤ v) (h1 : v ≤ 4096) : Calls Try.prog 73 #[.int .i64 v] w fun e w' => e = .returned (.bool true) ∧ w' = w := by
  go_enter Try.func73, Try.ntmps73
  go_wp2_with fail
  go_ret
  exact ⟨by first | rfl | exact ret_bool (by simp; omega), rfl⟩
theorem rval9 (v : Int) (w : World)  : Calls Try.prog 73 #[.int .i64 v] w fun e w' => e = .returned (.bool (decide (-4096 ≤ v ∧ v ≤ 4096))) ∧ w' = w := by
  by_cases h0 : -4096 ≤ v
  · skip
    by_cases h1 : v ≤ 4096
    · skip
      rw [show decide (-4096 ≤ v ∧ v ≤ 4096) = true from decide_eq_true ⟨h0, h1⟩]
      exact rval9_2 v w  h0 h1
    · rw [show decide (-4096 ≤ v ∧ v ≤ 4096) = false from decide_eq_false (fun a => h1 a.2)]
      exact rval9_1 v w  h0 (Int.not_le.1 h1)
  · rw [show decide (-4096 ≤ v ∧ v ≤ 4096) = false from decide_eq_false (fun a => h0 a.1)]
    exact rval9_0 v w   (Int.not_le.1 h0)
theorem rvalue_a (agg v : Int) (w : World) (h : v < -4096) : Calls Try.prog 101 #[.int .i64 agg, .int .i64 v] w fun e w' => e = .returned (.bool false) ∧ w' = w := by
  have P := Lib.hid (fun w => rval9_0 v w h)
  go_enter Try.func101, Try.ntmps101
  go_wp2_with (go_at_call 73; with_reducible refine (P.out _).mono ?_; rintro e w9 ⟨rfl, h9⟩; obtain rfl := h9.symm)
  go_ret
  exact ⟨by first | rfl | exact ret_bool (by simp; omega), rfl⟩
theorem rvalue_b (agg v : Int) (w : World) (h0 : -4096 ≤ v) (h : 4096 < v) : Calls Try.prog 101 #[.int .i64 agg, .int .i64 v] w fun e w' => e = .returned (.bool false) ∧ w' = w := by
  have P := Lib.hid (fun w => rval9_1 v w h0 h)
  go_enter Try.func101, Try.ntmps101
  go_wp2_with (go_at_call 73; with_reducible refine (P.out _).mono ?_; rintro e w9 ⟨rfl, h9⟩; obtain rfl := h9.symm)
  go_ret
  exact ⟨by first | rfl | exact ret_bool (by simp; omega), rfl⟩
theorem rvalue_c (agg v : Int) (w : World) (h0 : 0 ≤ v) (h1 : v ≤ 4096) : Calls Try.prog 101 #[.int .i64 agg, .int .i64 v] w fun e w' => e = .returned (.bool true) ∧ w' = w := by
  have P := Lib.hid (fun w => rval9_2 v w (by omega) h1)
  go_enter Try.func101, Try.ntmps101
  go_wp2_with (go_at_call 73; with_reducible refine (P.out _).mono ?_; rintro e w9 ⟨rfl, h9⟩; obtain rfl := h9.symm)
  go_ret
  exact ⟨by first | rfl | exact ret_bool (by simp; omega), rfl⟩
theorem rvalue_d (agg v : Int) (w : World) (h0 : -4096 ≤ v) (h1 : v < 0) (h : agg = 1) : Calls Try.prog 101 #[.int .i64 agg, .int .i64 v] w fun e w' => e = .returned (.bool true) ∧ w' = w := by
  have P := Lib.hid (fun w => rval9_2 v w h0 (by omega))
  subst h
  go_enter Try.func101, Try.ntmps101
  go_wp2_with (go_at_call 73; with_reducible refine (P.out _).mono ?_; rintro e w9 ⟨rfl, h9⟩; obtain rfl := h9.symm)
  go_ret
  exact ⟨by first | rfl | exact ret_bool (by simp; omega), rfl⟩
theorem rvalue_e (agg v : Int) (w : World) (h0 : -4096 ≤ v) (h1 : v < 0) (h : agg = 4) : Calls Try.prog 101 #[.int .i64 agg, .int .i64 v] w fun e w' => e = .returned (.bool true) ∧ w' = w := by
  have P := Lib.hid (fun w => rval9_2 v w h0 (by omega))
  subst h
  go_enter Try.func101, Try.ntmps101
  go_wp2_with (go_at_call 73; with_reducible refine (P.out _).mono ?_; rintro e w9 ⟨rfl, h9⟩; obtain rfl := h9.symm)
  go_ret
  exact ⟨by first | rfl | exact ret_bool (by simp; omega), rfl⟩
theorem rvalue_f (agg v : Int) (w : World) (h0 : -4096 ≤ v) (h1 : v < 0) (h : agg ≠ 1) (h2 : agg ≠ 4) : Calls Try.prog 101 #[.int .i64 agg, .int .i64 v] w fun e w' => e = .returned (.bool false) ∧ w' = w := by
  have P := Lib.hid (fun w => rval9_2 v w h0 (by omega))
  have b1 : (agg == 1) = false := by simpa using h
  have b2 : (agg == 4) = false := by simpa using h2
  go_enter Try.func101, Try.ntmps101
  go_wp2_with (go_at_call 73; with_reducible refine (P.out _).mono ?_; rintro e w9 ⟨rfl, h9⟩; obtain rfl := h9.symm)
  go_ret
  exact ⟨by first | rfl | exact ret_bool (by simp; omega), rfl⟩
theorem rvalue (agg v : Int) (w : World) (a0 : 1 ≤ agg) (a1 : agg ≤ 4) : Calls Try.prog 101 #[.int .i64 agg, .int .i64 v] w fun e w' => e = .returned (.bool (decide (leastV agg ≤ v ∧ v ≤ 4096))) ∧ w' = w := by
  by_cases h : v < -4096
  · rw [decide_eq_false (fun a => absurd a.1 (by have := leastV_ge agg; omega))]
    exact rvalue_a agg v w h
  · by_cases h1 : 4096 < v
    · rw [decide_eq_false (fun a => absurd a.2 (by omega))]
      exact rvalue_b agg v w (by omega) h1
    · by_cases h2 : 0 ≤ v
      · rw [decide_eq_true ⟨by have := leastV_le agg; omega, by omega⟩]
        exact rvalue_c agg v w h2 (by omega)
      · by_cases e1 : agg = 1
        · rw [decide_eq_true ⟨by subst e1; show (-4096 : Int) ≤ v; omega, by omega⟩]
          exact rvalue_d agg v w (by omega) (by omega) e1
        · by_cases e4 : agg = 4
          · rw [decide_eq_true ⟨by subst e4; show (-4096 : Int) ≤ v; omega, by omega⟩]
            exact rvalue_e agg v w (by omega) (by omega) e4
          · rw [decide_eq_false (fun a => absurd a.1 (by unfold leastV; rw [if_pos (by omega)]; omega))]
            exact rvalue_f agg v w (by omega) (by omega) e1 e4
set_option maxRecDepth 100000 in
theorem rmarks_a (A : Option Addr) (m c : Nat) (l : List Mk) (agg wd cap now seq : Int) (w : World) (h : seq < 0) : Calls Try.prog 67 #[.slice A m c, .int .i64 agg, .int .i64 wd, .int .i64 cap, .int .i64 now, .int .i64 seq] w fun e w' => e = .returned (.bool (decide (mvalid l seq cap now wd (leastV agg)))) ∧ Below w.heap.size w w' := by
  have E := Lib.hid (show decide (mvalid l seq cap now wd (leastV agg)) = false from decide_eq_false (fun a => absurd a.1 (by omega)))
  go_enter Try.func67, Try.ntmps67
  go_wp2
  go_ret
  exact ⟨ret_bool E.out.symm, Below.refl _ _⟩
set_option maxRecDepth 100000 in
theorem rmarks_b (A : Option Addr) (m c : Nat) (l : List Mk) (agg wd cap now seq : Int) (w : World) (h0 : 0 ≤ seq) (h : 1099511627776 < seq) : Calls Try.prog 67 #[.slice A m c, .int .i64 agg, .int .i64 wd, .int .i64 cap, .int .i64 now, .int .i64 seq] w fun e w' => e = .returned (.bool (decide (mvalid l seq cap now wd (leastV agg)))) ∧ Below w.heap.size w w' := by
  have E := Lib.hid (show decide (mvalid l seq cap now wd (leastV agg)) = false from decide_eq_false (fun a => absurd a.2.1 (by omega)))
  go_enter Try.func67, Try.ntmps67
  go_wp2
  go_ret
  exact ⟨ret_bool E.out.symm, Below.refl _ _⟩
set_option maxRecDepth 100000 in
set_option maxHeartbeats 16000000 in
theorem rmarks_one (A : Option Addr) (c : Nat) (l : List Mk) (agg wd cap now seq : Int) (w : World) (hin : MIn A 1 c l w) (a0 : 1 ≤ agg) (a1 : agg ≤ 4) (sB : I64 seq) (c0 : 1 ≤ cap) (c1 : cap ≤ 65536) (n0 : 0 ≤ now) (n1 : now ≤ 16777216) (d0 : 1 ≤ wd) (d1 : wd ≤ 1048576) (s0 : 0 ≤ seq) (s1 : seq ≤ 1099511627776) : Calls Try.prog 67 #[.slice A 1 c, .int .i64 agg, .int .i64 wd, .int .i64 cap, .int .i64 now, .int .i64 seq] w fun e w' => e = .returned (.bool (decide (mvalid l seq cap now wd (leastV agg)))) ∧ Below w.heap.size w w' := by
  have HR := Lib.hid hin
  have HL := Lib.hid hin.len
  have mB := hin.max
  have t0 : ¬ seq < 0 := by omega
  have t1 : ¬ 1099511627776 < seq := by omega
  obtain ⟨least, hl⟩ : ∃ x, x = leastV agg := ⟨_, rfl⟩
  have e0 : -4096 ≤ least := by rw [hl]; exact leastV_ge agg
  rw [← hl]
  have LEQ := Lib.hid hl
  clear hin sB hl
  go_enter Try.func67, Try.ntmps67
  go_wp2
  clear t0 t1
  go_loopw [24] (fun i wr => ∃ j : Nat, j ≤ 1 ∧ i = .int .i64 (j : Nat) ∧ RowKit.Hid (∀ e, e < j → atP l seq cap now wd least e) ∧ RowKit.Hid (j = 1 → j ≠ 0 → lastP seq (mkAt l (j - 1))) ∧ Below w.heap.size w wr) (fun i _ => 1 - (intOf i).toNat)
  case atStart => exact ⟨0, by omega, rfl, Lib.hid (fun e h => absurd h (by omega)), Lib.hid (fun _ h => absurd rfl h), Below.refl _ _⟩
  case round =>
    obtain ⟨j, hj, rfl, HA, HZ, o⟩ := hrel
    by_cases hlt : j < 1
    · obtain rfl : j = 0 := by omega
      obtain ⟨ad, rfl, hadb, ht0⟩ := HR.out.reads.mk hlt
      have ht0 : MkCells w ad (mkAt l 0) := ht0
      have hB := HR.out.mB 0
      generalize hM : mkAt l 0 = mj at ht0 hB
      obtain ⟨sq, tk, n, s, q, lo, hi⟩ := mj
      obtain ⟨q0, q1, q2, q3, q4, q5, q6⟩ := ht0.below o hadb
      have AT := Lib.hid (at_flat (seq := seq) (cap := cap) (now := now) (wd := wd) (least := least) hM)
      have HM := Lib.hid hM
      obtain ⟨hB0, hB1, hB2, hB3, hB4, hB5, hB6⟩ := hB
      unfold I64 at hB0 hB1 hB2 hB3 hB4 hB5 hB6
      dsimp only at q0 q1 q2 q3 q4 q5 q6 hB0 hB1 hB2 hB3 hB4 hB5 hB6
      clear hM ht0
      have i1 : (0 : Int) < 1 := by omega
      go_upto_region 6 with (fail)
      have K : Row (wr.alloc (.cells #[.int .i64 sq, .int .i64 tk, .int .i64 n, .int .i64 s, .int .i64 q, .int .i64 lo, .int .i64 hi] 33)) wr.heap.size 33 #[.int .i64 sq, .int .i64 tk, .int .i64 n, .int .i64 s, .int .i64 q, .int .i64 lo, .int .i64 hi] := row_new rfl
      have z0 := o.size
      replace o := o.alloc o.size (.cells #[.int .i64 sq, .int .i64 tk, .int .i64 n, .int .i64 s, .int .i64 q, .int .i64 lo, .int .i64 hi] 33)
      generalize (wr.alloc (.cells #[.int .i64 sq, .int .i64 tk, .int .i64 n, .int .i64 s, .int .i64 q, .int .i64 lo, .int .i64 hi] 33)) = w3 at K o ⊢
      generalize wr.heap.size = mb at K z0 ⊢
      clear q0 q1 q2 q3 q4 q5 q6
      obtain ⟨K0, K1, K2, K3, K4, K5, K6, Kf0, Kf1, Kf2, Kf3, Kf4, Kf5, Kf6⟩ := row_seven K
      by_cases x0 : sq < 1
      · skip
        have E := Lib.hid (mvalid_bad (l := l) (seq := seq) (cap := cap) (now := now) (wd := wd) (least := least) (i := 0) (by rw [HL.out]; exact hlt) (fun a => absurd (AT.out.1 a).1.1 (by omega)))
        have e0 : decide (sq < 1) = true := decide_eq_true (by omega)
        refine wp_region_quiet_lit (by as_aux_lemma => kernel_rfl) (by as_aux_lemma => kernel_rfl) ?_
        repeat (go_big_quiet_step (fail))
        refine wpQuiet_nil ?_
        intro _ hw'
        obtain ⟨nq, hw''⟩ := hw'
        subst hw''
        replace o := o.trans (⟨rfl, rfl, rfl, Nat.le_refl _, fun _ _ => rfl⟩ : Below _ w3 (w3.drewN nq))
        generalize w3.drewN nq = w4 at  o ⊢
        go_wp2_with fail
        go_ret
        exact ⟨ret_bool E.out.symm, o⟩
      · skip
        by_cases x1 : seq < sq
        · skip
          have E := Lib.hid (mvalid_bad (l := l) (seq := seq) (cap := cap) (now := now) (wd := wd) (least := least) (i := 0) (by rw [HL.out]; exact hlt) (fun a => absurd (AT.out.1 a).1.2.1 (by omega)))
          have e0 : decide (sq < 1) = false := decide_eq_false (by omega)
          have e1 : decide (seq < sq) = true := decide_eq_true (by omega)
          refine wp_region_quiet_lit (by as_aux_lemma => kernel_rfl) (by as_aux_lemma => kernel_rfl) ?_
          repeat (go_big_quiet_step (fail))
          refine wpQuiet_nil ?_
          intro _ hw'
          obtain ⟨nq, hw''⟩ := hw'
          subst hw''
          replace o := o.trans (⟨rfl, rfl, rfl, Nat.le_refl _, fun _ _ => rfl⟩ : Below _ w3 (w3.drewN nq))
          generalize w3.drewN nq = w4 at  o ⊢
          go_wp2_with fail
          go_ret
          exact ⟨ret_bool E.out.symm, o⟩
        · skip
          by_cases x2 : n ≠ seq - sq + 1
          · skip
            have E := Lib.hid (mvalid_bad (l := l) (seq := seq) (cap := cap) (now := now) (wd := wd) (least := least) (i := 0) (by rw [HL.out]; exact hlt) (fun a => absurd (AT.out.1 a).1.2.2.1 (by omega)))
            have wn1 : IntKind.i64.wrap (seq - sq) = seq - sq := IntWalk.i64_in _ (by omega)
            have wn2 : IntKind.i64.wrap (seq - sq + 1) = seq - sq + 1 := IntWalk.i64_in _ (by omega)
            have e0 : decide (sq < 1) = false := decide_eq_false (by omega)
            have e1 : decide (seq < sq) = false := decide_eq_false (by omega)
            have e2 : (n != seq - sq + 1) = true := by simpa using x2
            refine wp_region_quiet_lit (by as_aux_lemma => kernel_rfl) (by as_aux_lemma => kernel_rfl) ?_
            repeat (go_big_quiet_step (fail))
            refine wpQuiet_nil ?_
            intro _ hw'
            obtain ⟨nq, hw''⟩ := hw'
            subst hw''
            replace o := o.trans (⟨rfl, rfl, rfl, Nat.le_refl _, fun _ _ => rfl⟩ : Below _ w3 (w3.drewN nq))
            generalize w3.drewN nq = w4 at  o ⊢
            go_wp2_with fail
            go_ret
            exact ⟨ret_bool E.out.symm, o⟩
          · skip
            by_cases x3 : cap < n
            · skip
              have E := Lib.hid (mvalid_bad (l := l) (seq := seq) (cap := cap) (now := now) (wd := wd) (least := least) (i := 0) (by rw [HL.out]; exact hlt) (fun a => absurd (AT.out.1 a).1.2.2.2.1 (by omega)))
              have wn1 : IntKind.i64.wrap (seq - sq) = seq - sq := IntWalk.i64_in _ (by omega)
              have wn2 : IntKind.i64.wrap (seq - sq + 1) = seq - sq + 1 := IntWalk.i64_in _ (by omega)
              have e0 : decide (sq < 1) = false := decide_eq_false (by omega)
              have e1 : decide (seq < sq) = false := decide_eq_false (by omega)
              have e2 : (n != seq - sq + 1) = false := by simp; omega
              have e3 : decide (cap < n) = true := decide_eq_true (by omega)
              refine wp_region_quiet_lit (by as_aux_lemma => kernel_rfl) (by as_aux_lemma => kernel_rfl) ?_
              repeat (go_big_quiet_step (fail))
              refine wpQuiet_nil ?_
              intro _ hw'
              obtain ⟨nq, hw''⟩ := hw'
              subst hw''
              replace o := o.trans (⟨rfl, rfl, rfl, Nat.le_refl _, fun _ _ => rfl⟩ : Below _ w3 (w3.drewN nq))
              generalize w3.drewN nq = w4 at  o ⊢
              go_wp2_with fail
              go_ret
              exact ⟨ret_bool E.out.symm, o⟩
            · skip
              have wn1 : IntKind.i64.wrap (seq - sq) = seq - sq := IntWalk.i64_in _ (by omega)
              have wn2 : IntKind.i64.wrap (seq - sq + 1) = seq - sq + 1 := IntWalk.i64_in _ (by omega)
              have e0 : decide (sq < 1) = false := decide_eq_false (by omega)
              have e1 : decide (seq < sq) = false := decide_eq_false (by omega)
              have e2 : (n != seq - sq + 1) = false := by simp; omega
              have e3 : decide (cap < n) = false := decide_eq_false (by omega)
              refine wp_region_quiet_lit (by as_aux_lemma => kernel_rfl) (by as_aux_lemma => kernel_rfl) ?_
              repeat (go_big_quiet_step (fail))
              refine wpQuiet_nil ?_
              intro _ hw'
              obtain ⟨nq, hw''⟩ := hw'
              subst hw''
              replace K : Row (w3.drewN nq) mb 33 #[.int .i64 sq, .int .i64 tk, .int .i64 n, .int .i64 s, .int .i64 q, .int .i64 lo, .int .i64 hi] := K
              replace o := o.trans (⟨rfl, rfl, rfl, Nat.le_refl _, fun _ _ => rfl⟩ : Below _ w3 (w3.drewN nq))
              generalize w3.drewN nq = w4 at K o ⊢
              have x2a : n + sq ≤ seq + 1 := by omega
              have x2b : seq + 1 ≤ n + sq := by omega
              clear wn1 wn2 x2 e0 e1 e2 e3 K0 K1 K2 K3 K4 K5 K6 Kf0 Kf1 Kf2 Kf3 Kf4 Kf5 Kf6
              go_upto_region 8 with (fail)
              obtain ⟨K0, K1, K2, K3, K4, K5, K6, Kf0, Kf1, Kf2, Kf3, Kf4, Kf5, Kf6⟩ := row_seven K
              have PT := fun w => rtick tk w
              have PL := fun (w : World) (h0 : 0 ≤ tk) (h1 : tk ≤ now) => rlive now wd tk w n0 n1 d0 d1 h0 h1
              by_cases y0 : ¬ (0 ≤ tk ∧ tk ≤ 16777216)
              · skip
                have E := Lib.hid (mvalid_bad (l := l) (seq := seq) (cap := cap) (now := now) (wd := wd) (least := least) (i := 0) (by rw [HL.out]; exact hlt) (fun a => absurd (AT.out.1 a).1.2.2.2.2 (by omega)))
                rw [decide_eq_false y0] at PT
                replace PT := Lib.hid PT
                refine wp_region_quiet_lit (by as_aux_lemma => kernel_rfl) (by as_aux_lemma => kernel_rfl) ?_
                repeat (go_big_quiet_step ((go_at_call 83; exact Calls.quiet_of_same (PT.out _))))
                refine wpQuiet_nil ?_
                intro _ hw'
                obtain ⟨nq, hw''⟩ := hw'
                subst hw''
                replace o := o.trans (⟨rfl, rfl, rfl, Nat.le_refl _, fun _ _ => rfl⟩ : Below _ w4 (w4.drewN nq))
                generalize w4.drewN nq = w5 at  o ⊢
                go_wp2_with fail
                go_ret
                exact ⟨ret_bool E.out.symm, o⟩
              · skip
                replace y0 : 0 ≤ tk ∧ tk ≤ 16777216 := Decidable.not_not.1 y0
                rw [decide_eq_true y0] at PT
                replace PT := Lib.hid PT
                obtain ⟨y0, y0b⟩ := y0
                by_cases y1 : now < tk
                · skip
                  have E := Lib.hid (mvalid_bad (l := l) (seq := seq) (cap := cap) (now := now) (wd := wd) (least := least) (i := 0) (by rw [HL.out]; exact hlt) (fun a => absurd (AT.out.1 a).1.2.2.2.2.2 (by omega)))
                  have e1 : decide (now < tk) = true := decide_eq_true (by omega)
                  refine wp_region_quiet_lit (by as_aux_lemma => kernel_rfl) (by as_aux_lemma => kernel_rfl) ?_
                  repeat (go_big_quiet_step ((go_at_call 83; exact Calls.quiet_of_same (PT.out _))))
                  refine wpQuiet_nil ?_
                  intro _ hw'
                  obtain ⟨nq, hw''⟩ := hw'
                  subst hw''
                  replace o := o.trans (⟨rfl, rfl, rfl, Nat.le_refl _, fun _ _ => rfl⟩ : Below _ w4 (w4.drewN nq))
                  generalize w4.drewN nq = w5 at  o ⊢
                  go_wp2_with fail
                  go_ret
                  exact ⟨ret_bool E.out.symm, o⟩
                · skip
                  have e1 : decide (now < tk) = false := decide_eq_false (by omega)
                  replace PL := fun w => PL w (by omega) (by omega)
                  by_cases y3 : ¬ now - wd < tk
                  · skip
                    have E := Lib.hid (mvalid_bad (l := l) (seq := seq) (cap := cap) (now := now) (wd := wd) (least := least) (i := 0) (by rw [HL.out]; exact hlt) (fun a => y3 ((AT.out.1 a).2.2.1 (.inr HL.out))))
                    rw [decide_eq_false y3] at PL
                    replace PL := Lib.hid PL
                    refine wp_region_quiet_lit (by as_aux_lemma => kernel_rfl) (by as_aux_lemma => kernel_rfl) ?_
                    repeat (go_big_quiet_step ((first | (go_at_call 83; exact Calls.quiet_of_same (PT.out _)) | (go_at_call 79; exact Calls.quiet_of_same (PL.out _)))))
                    refine wpQuiet_nil ?_
                    intro _ hw'
                    obtain ⟨nq, hw''⟩ := hw'
                    subst hw''
                    replace o := o.trans (⟨rfl, rfl, rfl, Nat.le_refl _, fun _ _ => rfl⟩ : Below _ w4 (w4.drewN nq))
                    generalize w4.drewN nq = w5 at  o ⊢
                    go_wp2_with fail
                    go_ret
                    exact ⟨ret_bool E.out.symm, o⟩
                  · skip
                    replace y3 : now - wd < tk := Decidable.not_not.1 y3
                    rw [decide_eq_true y3] at PL
                    replace PL := Lib.hid PL
                    have LV := Lib.hid y3
                    clear y3
                    refine wp_region_quiet_lit (by as_aux_lemma => kernel_rfl) (by as_aux_lemma => kernel_rfl) ?_
                    repeat (go_big_quiet_step ((first | (go_at_call 83; exact Calls.quiet_of_same (PT.out _)) | (go_at_call 79; exact Calls.quiet_of_same (PL.out _)))))
                    refine wpQuiet_nil ?_
                    intro _ hw'
                    obtain ⟨nq, hw''⟩ := hw'
                    subst hw''
                    replace K : Row (w4.drewN nq) mb 33 #[.int .i64 sq, .int .i64 tk, .int .i64 n, .int .i64 s, .int .i64 q, .int .i64 lo, .int .i64 hi] := K
                    replace o := o.trans (⟨rfl, rfl, rfl, Nat.le_refl _, fun _ _ => rfl⟩ : Below _ w4 (w4.drewN nq))
                    generalize w4.drewN nq = w5 at K o ⊢
                    clear PT PL
                    clear e1 K0 K1 K2 K3 K4 K5 K6 Kf0 Kf1 Kf2 Kf3 Kf4 Kf5 Kf6
                    go_upto_region 10 with (fail)
                    obtain ⟨K0, K1, K2, K3, K4, K5, K6, Kf0, Kf1, Kf2, Kf3, Kf4, Kf5, Kf6⟩ := row_seven K
                    have PV1 := fun w => rvalue agg lo w a0 a1
                    have PV2 := fun w => rvalue agg hi w a0 a1
                    have LE := LEQ.out
                    by_cases v0 : ¬ (leastV agg ≤ lo ∧ lo ≤ 4096)
                    · skip
                      have E := Lib.hid (mvalid_bad (l := l) (seq := seq) (cap := cap) (now := now) (wd := wd) (least := least) (i := 0) (by rw [HL.out]; exact hlt) (fun a => v0 (by have h := (AT.out.1 a).2.1; have h1 := h.1; have h2 := h.2.1; have h3 := h.2.2.1; omega)))
                      rw [decide_eq_false v0] at PV1
                      replace PV1 := Lib.hid PV1
                      clear LE v0
                      refine wp_region_quietF ?_
                      repeat (go_big_quiet_step ((go_at_call 101; with_reducible exact Calls.quiet_of_same (PV1.out _))))
                      refine wpQuiet_nil ?_
                      intro _ hw'
                      obtain ⟨nq, hw''⟩ := hw'
                      subst hw''
                      replace o := o.trans (⟨rfl, rfl, rfl, Nat.le_refl _, fun _ _ => rfl⟩ : Below _ w5 (w5.drewN nq))
                      generalize w5.drewN nq = w6 at  o ⊢
                      go_wp2_with fail
                      go_ret
                      exact ⟨ret_bool E.out.symm, o⟩
                    · skip
                      replace v0 := Decidable.not_not.1 v0
                      rw [decide_eq_true v0] at PV1
                      replace PV1 := Lib.hid PV1
                      by_cases v1 : ¬ (leastV agg ≤ hi ∧ hi ≤ 4096)
                      · skip
                        have E := Lib.hid (mvalid_bad (l := l) (seq := seq) (cap := cap) (now := now) (wd := wd) (least := least) (i := 0) (by rw [HL.out]; exact hlt) (fun a => v1 (by have h := (AT.out.1 a).2.1; have h1 := h.1; have h2 := h.2.1; have h3 := h.2.2.1; omega)))
                        rw [decide_eq_false v1] at PV2
                        replace PV2 := Lib.hid PV2
                        clear LE v0 v1
                        refine wp_region_quietF ?_
                        repeat (go_big_quiet_step ((first | (go_at_call 101; with_reducible exact Calls.quiet_of_same (PV1.out _)) | (go_at_call 101; with_reducible exact Calls.quiet_of_same (PV2.out _)))))
                        refine wpQuiet_nil ?_
                        intro _ hw'
                        obtain ⟨nq, hw''⟩ := hw'
                        subst hw''
                        replace o := o.trans (⟨rfl, rfl, rfl, Nat.le_refl _, fun _ _ => rfl⟩ : Below _ w5 (w5.drewN nq))
                        generalize w5.drewN nq = w6 at  o ⊢
                        go_wp2_with fail
                        go_ret
                        exact ⟨ret_bool E.out.symm, o⟩
                      · skip
                        replace v1 := Decidable.not_not.1 v1
                        rw [decide_eq_true v1] at PV2
                        replace PV2 := Lib.hid PV2
                        have lo0 : least ≤ lo := by omega
                        have lo1 : -4096 ≤ lo := by omega
                        have lo2 : lo ≤ 4096 := v0.2
                        have hi1 : -4096 ≤ hi := by omega
                        have hi2 : hi ≤ 4096 := v1.2
                        clear LE v0 v1
                        by_cases u0 : hi < lo
                        · skip
                          have E := Lib.hid (mvalid_bad (l := l) (seq := seq) (cap := cap) (now := now) (wd := wd) (least := least) (i := 0) (by rw [HL.out]; exact hlt) (fun a => absurd (AT.out.1 a).2.1.2.2.1 (by omega)))
                          have e0 : decide (hi < lo) = true := decide_eq_true (by omega)
                          refine wp_region_quietF ?_
                          repeat (go_big_quiet_step ((first | (go_at_call 101; with_reducible exact Calls.quiet_of_same (PV1.out _)) | (go_at_call 101; with_reducible exact Calls.quiet_of_same (PV2.out _)))))
                          refine wpQuiet_nil ?_
                          intro _ hw'
                          obtain ⟨nq, hw''⟩ := hw'
                          subst hw''
                          replace o := o.trans (⟨rfl, rfl, rfl, Nat.le_refl _, fun _ _ => rfl⟩ : Below _ w5 (w5.drewN nq))
                          generalize w5.drewN nq = w6 at  o ⊢
                          go_wp2_with fail
                          go_ret
                          exact ⟨ret_bool E.out.symm, o⟩
                        · skip
                          by_cases u1 : s < -n * 4096
                          · skip
                            have E := Lib.hid (mvalid_bad (l := l) (seq := seq) (cap := cap) (now := now) (wd := wd) (least := least) (i := 0) (by rw [HL.out]; exact hlt) (fun a => absurd (part_lo (by omega) (AT.out.1 a).2.1.2.2.2 lo1 hi2).1 (by omega)))
                            have e0 : decide (hi < lo) = false := decide_eq_false (by omega)
                            have e1 : decide (s < -n * 4096) = true := decide_eq_true (by omega)
                            have wn : IntKind.i64.wrap (-n) = -n := IntWalk.i64_in _ (by omega)
                            have wnm : IntKind.i64.wrap (-n * 4096) = -n * 4096 := IntWalk.i64_in _ (by omega)
                            have wn2 : IntKind.i64.wrap (n * 4096) = n * 4096 := IntWalk.i64_in _ (by omega)
                            have wn3 : IntKind.i64.wrap (n * 4096 * 4096) = n * 4096 * 4096 := IntWalk.i64_in _ (by omega)
                            refine wp_region_quietF ?_
                            repeat (go_big_quiet_step ((first | (go_at_call 101; with_reducible exact Calls.quiet_of_same (PV1.out _)) | (go_at_call 101; with_reducible exact Calls.quiet_of_same (PV2.out _)))))
                            refine wpQuiet_nil ?_
                            intro _ hw'
                            obtain ⟨nq, hw''⟩ := hw'
                            subst hw''
                            replace o := o.trans (⟨rfl, rfl, rfl, Nat.le_refl _, fun _ _ => rfl⟩ : Below _ w5 (w5.drewN nq))
                            generalize w5.drewN nq = w6 at  o ⊢
                            go_wp2_with fail
                            go_ret
                            exact ⟨ret_bool E.out.symm, o⟩
                          · skip
                            by_cases u2 : n * 4096 < s
                            · skip
                              have E := Lib.hid (mvalid_bad (l := l) (seq := seq) (cap := cap) (now := now) (wd := wd) (least := least) (i := 0) (by rw [HL.out]; exact hlt) (fun a => absurd (part_lo (by omega) (AT.out.1 a).2.1.2.2.2 lo1 hi2).2 (by omega)))
                              have e0 : decide (hi < lo) = false := decide_eq_false (by omega)
                              have e1 : decide (s < -n * 4096) = false := decide_eq_false (by omega)
                              have e2 : decide (n * 4096 < s) = true := decide_eq_true (by omega)
                              have wn : IntKind.i64.wrap (-n) = -n := IntWalk.i64_in _ (by omega)
                              have wnm : IntKind.i64.wrap (-n * 4096) = -n * 4096 := IntWalk.i64_in _ (by omega)
                              have wn2 : IntKind.i64.wrap (n * 4096) = n * 4096 := IntWalk.i64_in _ (by omega)
                              have wn3 : IntKind.i64.wrap (n * 4096 * 4096) = n * 4096 * 4096 := IntWalk.i64_in _ (by omega)
                              refine wp_region_quietF ?_
                              repeat (go_big_quiet_step ((first | (go_at_call 101; with_reducible exact Calls.quiet_of_same (PV1.out _)) | (go_at_call 101; with_reducible exact Calls.quiet_of_same (PV2.out _)))))
                              refine wpQuiet_nil ?_
                              intro _ hw'
                              obtain ⟨nq, hw''⟩ := hw'
                              subst hw''
                              replace o := o.trans (⟨rfl, rfl, rfl, Nat.le_refl _, fun _ _ => rfl⟩ : Below _ w5 (w5.drewN nq))
                              generalize w5.drewN nq = w6 at  o ⊢
                              go_wp2_with fail
                              go_ret
                              exact ⟨ret_bool E.out.symm, o⟩
                            · skip
                              by_cases u3 : q < 0
                              · skip
                                have E := Lib.hid (mvalid_bad (l := l) (seq := seq) (cap := cap) (now := now) (wd := wd) (least := least) (i := 0) (by rw [HL.out]; exact hlt) (fun a => absurd (AT.out.1 a).2.1.2.2.2.2.2.1 (by omega)))
                                have e0 : decide (hi < lo) = false := decide_eq_false (by omega)
                                have e1 : decide (s < -n * 4096) = false := decide_eq_false (by omega)
                                have e2 : decide (n * 4096 < s) = false := decide_eq_false (by omega)
                                have e3 : decide (q < 0) = true := decide_eq_true (by omega)
                                have wn : IntKind.i64.wrap (-n) = -n := IntWalk.i64_in _ (by omega)
                                have wnm : IntKind.i64.wrap (-n * 4096) = -n * 4096 := IntWalk.i64_in _ (by omega)
                                have wn2 : IntKind.i64.wrap (n * 4096) = n * 4096 := IntWalk.i64_in _ (by omega)
                                have wn3 : IntKind.i64.wrap (n * 4096 * 4096) = n * 4096 * 4096 := IntWalk.i64_in _ (by omega)
                                refine wp_region_quietF ?_
                                repeat (go_big_quiet_step ((first | (go_at_call 101; with_reducible exact Calls.quiet_of_same (PV1.out _)) | (go_at_call 101; with_reducible exact Calls.quiet_of_same (PV2.out _)))))
                                refine wpQuiet_nil ?_
                                intro _ hw'
                                obtain ⟨nq, hw''⟩ := hw'
                                subst hw''
                                replace o := o.trans (⟨rfl, rfl, rfl, Nat.le_refl _, fun _ _ => rfl⟩ : Below _ w5 (w5.drewN nq))
                                generalize w5.drewN nq = w6 at  o ⊢
                                go_wp2_with fail
                                go_ret
                                exact ⟨ret_bool E.out.symm, o⟩
                              · skip
                                by_cases u4 : n * 4096 * 4096 < q
                                · skip
                                  have E := Lib.hid (mvalid_bad (l := l) (seq := seq) (cap := cap) (now := now) (wd := wd) (least := least) (i := 0) (by rw [HL.out]; exact hlt) (fun a => absurd (AT.out.1 a).2.1.2.2.2.2.2.2.1 (by omega)))
                                  have e0 : decide (hi < lo) = false := decide_eq_false (by omega)
                                  have e1 : decide (s < -n * 4096) = false := decide_eq_false (by omega)
                                  have e2 : decide (n * 4096 < s) = false := decide_eq_false (by omega)
                                  have e3 : decide (q < 0) = false := decide_eq_false (by omega)
                                  have e4 : decide (n * 4096 * 4096 < q) = true := decide_eq_true (by omega)
                                  have wn : IntKind.i64.wrap (-n) = -n := IntWalk.i64_in _ (by omega)
                                  have wnm : IntKind.i64.wrap (-n * 4096) = -n * 4096 := IntWalk.i64_in _ (by omega)
                                  have wn2 : IntKind.i64.wrap (n * 4096) = n * 4096 := IntWalk.i64_in _ (by omega)
                                  have wn3 : IntKind.i64.wrap (n * 4096 * 4096) = n * 4096 * 4096 := IntWalk.i64_in _ (by omega)
                                  refine wp_region_quietF ?_
                                  repeat (go_big_quiet_step ((first | (go_at_call 101; with_reducible exact Calls.quiet_of_same (PV1.out _)) | (go_at_call 101; with_reducible exact Calls.quiet_of_same (PV2.out _)))))
                                  refine wpQuiet_nil ?_
                                  intro _ hw'
                                  obtain ⟨nq, hw''⟩ := hw'
                                  subst hw''
                                  replace o := o.trans (⟨rfl, rfl, rfl, Nat.le_refl _, fun _ _ => rfl⟩ : Below _ w5 (w5.drewN nq))
                                  generalize w5.drewN nq = w6 at  o ⊢
                                  go_wp2_with fail
                                  go_ret
                                  exact ⟨ret_bool E.out.symm, o⟩
                                · skip
                                  have PF := fun w => rpartP n lo hi s q w (by omega) (by omega) lo1 lo2 hi1 hi2
                                  by_cases u5 : ¬ partP n lo hi s q
                                  · skip
                                    have E := Lib.hid (mvalid_bad (l := l) (seq := seq) (cap := cap) (now := now) (wd := wd) (least := least) (i := 0) (by rw [HL.out]; exact hlt) (fun a => u5 (AT.out.1 a).2.1.2.2.2))
                                    have e0 : decide (hi < lo) = false := decide_eq_false (by omega)
                                    have e1 : decide (s < -n * 4096) = false := decide_eq_false (by omega)
                                    have e2 : decide (n * 4096 < s) = false := decide_eq_false (by omega)
                                    have e3 : decide (q < 0) = false := decide_eq_false (by omega)
                                    have e4 : decide (n * 4096 * 4096 < q) = false := decide_eq_false (by omega)
                                    have wn : IntKind.i64.wrap (-n) = -n := IntWalk.i64_in _ (by omega)
                                    have wnm : IntKind.i64.wrap (-n * 4096) = -n * 4096 := IntWalk.i64_in _ (by omega)
                                    have wn2 : IntKind.i64.wrap (n * 4096) = n * 4096 := IntWalk.i64_in _ (by omega)
                                    have wn3 : IntKind.i64.wrap (n * 4096 * 4096) = n * 4096 * 4096 := IntWalk.i64_in _ (by omega)
                                    rw [decide_eq_false u5] at PF
                                    replace PF := Lib.hid PF
                                    refine wp_region_quietF ?_
                                    repeat (go_big_quiet_step ((first | (go_at_call 101; with_reducible exact Calls.quiet_of_same (PV1.out _)) | (go_at_call 101; with_reducible exact Calls.quiet_of_same (PV2.out _)) | (go_at_call 102; with_reducible exact Calls.quiet_of_same (PF.out _)))))
                                    refine wpQuiet_nil ?_
                                    intro _ hw'
                                    obtain ⟨nq, hw''⟩ := hw'
                                    subst hw''
                                    replace o := o.trans (⟨rfl, rfl, rfl, Nat.le_refl _, fun _ _ => rfl⟩ : Below _ w5 (w5.drewN nq))
                                    generalize w5.drewN nq = w6 at  o ⊢
                                    go_wp2_with fail
                                    go_ret
                                    exact ⟨ret_bool E.out.symm, o⟩
                                  · skip
                                    have e0 : decide (hi < lo) = false := decide_eq_false (by omega)
                                    have e1 : decide (s < -n * 4096) = false := decide_eq_false (by omega)
                                    have e2 : decide (n * 4096 < s) = false := decide_eq_false (by omega)
                                    have e3 : decide (q < 0) = false := decide_eq_false (by omega)
                                    have e4 : decide (n * 4096 * 4096 < q) = false := decide_eq_false (by omega)
                                    have wn : IntKind.i64.wrap (-n) = -n := IntWalk.i64_in _ (by omega)
                                    have wnm : IntKind.i64.wrap (-n * 4096) = -n * 4096 := IntWalk.i64_in _ (by omega)
                                    have wn2 : IntKind.i64.wrap (n * 4096) = n * 4096 := IntWalk.i64_in _ (by omega)
                                    have wn3 : IntKind.i64.wrap (n * 4096 * 4096) = n * 4096 * 4096 := IntWalk.i64_in _ (by omega)
                                    replace u5 := Decidable.not_not.1 u5
                                    rw [decide_eq_true u5] at PF
                                    replace PF := Lib.hid PF
                                    have Y3 : RowKit.Hid (partP n lo hi s q) := Lib.hid u5
                                    clear u5
                                    refine wp_region_quietF ?_
                                    repeat (go_big_quiet_step ((first | (go_at_call 101; with_reducible exact Calls.quiet_of_same (PV1.out _)) | (go_at_call 101; with_reducible exact Calls.quiet_of_same (PV2.out _)) | (go_at_call 102; with_reducible exact Calls.quiet_of_same (PF.out _)))))
                                    refine wpQuiet_nil ?_
                                    intro _ hw'
                                    obtain ⟨nq, hw''⟩ := hw'
                                    subst hw''
                                    replace K : Row (w5.drewN nq) mb 33 #[.int .i64 sq, .int .i64 tk, .int .i64 n, .int .i64 s, .int .i64 q, .int .i64 lo, .int .i64 hi] := K
                                    replace o := o.trans (⟨rfl, rfl, rfl, Nat.le_refl _, fun _ _ => rfl⟩ : Below _ w5 (w5.drewN nq))
                                    generalize w5.drewN nq = w6 at K o ⊢
                                    clear K0 K1 K2 K3 K4 K5 K6 Kf0 Kf1 Kf2 Kf3 Kf4 Kf5 Kf6
                                    clear PF PV1 PV2 wn wnm wn2 wn3 e0 e1 e2 e3 e4
                                    go_upto_region 12 with (fail)
                                    obtain ⟨K0, K1, K2, K3, K4, K5, K6, Kf0, Kf1, Kf2, Kf3, Kf4, Kf5, Kf6⟩ := row_seven K
                                    have bm1 := mul_small (n := n) (x := lo) (by omega) (by omega) lo1 lo2
                                    have bm2 := mul_small (n := n) (x := hi) (by omega) (by omega) hi1 hi2
                                    have G1 := Y3.out.1
                                    have G2 := Y3.out.2.1
                                    have bss := sq_bound (s := s) (B := 268435456) (by omega) (by omega)
                                    have wss : IntKind.i64.wrap (s * s) = s * s := IntWalk.i64_in _ (by omega)
                                    clear G1 G2 bm1 bm2 bss
                                    have LS : RowKit.Hid (mvalid l seq cap now wd least → sq = seq ∧ lo = s ∧ hi = s ∧ q = s * s) := Lib.hid (fun a => by
                                      have h := a.2.2.2 (by rw [HL.out]; omega)
                                      rw [show l.length - 1 = 0 by have := HL.out; omega, HM.out] at h
                                      exact h)
                                    by_cases t0 : sq ≠ seq
                                    · skip
                                      have tb0 : (sq != seq) = true := by simpa using t0
                                      have E := Lib.hid (show decide (mvalid l seq cap now wd least) = false from decide_eq_false (fun a => t0 (LS.out a).1))
                                      clear t0
                                      go_wp2_with fail
                                      go_ret
                                      exact ⟨ret_bool E.out.symm, o⟩
                                    · skip
                                      have tb0 : (sq != seq) = false := by simp; omega
                                      have T0 := Lib.hid (Decidable.not_not.1 t0)
                                      clear t0
                                      by_cases t1 : lo ≠ s
                                      · skip
                                        have tb1 : (lo != s) = true := by simpa using t1
                                        have E := Lib.hid (show decide (mvalid l seq cap now wd least) = false from decide_eq_false (fun a => t1 (LS.out a).2.1))
                                        clear t1
                                        go_wp2_with fail
                                        go_ret
                                        exact ⟨ret_bool E.out.symm, o⟩
                                      · skip
                                        have tb1 : (lo != s) = false := by simp; omega
                                        have T1 := Lib.hid (Decidable.not_not.1 t1)
                                        clear t1
                                        by_cases t2 : hi ≠ s
                                        · skip
                                          have tb2 : (hi != s) = true := by simpa using t2
                                          have E := Lib.hid (show decide (mvalid l seq cap now wd least) = false from decide_eq_false (fun a => t2 (LS.out a).2.2.1))
                                          clear t2
                                          go_wp2_with fail
                                          go_ret
                                          exact ⟨ret_bool E.out.symm, o⟩
                                        · skip
                                          have tb2 : (hi != s) = false := by simp; omega
                                          have T2 := Lib.hid (Decidable.not_not.1 t2)
                                          clear t2
                                          by_cases t3 : q ≠ s * s
                                          · skip
                                            have tb3 : (q != s * s) = true := by simpa using t3
                                            have E := Lib.hid (show decide (mvalid l seq cap now wd least) = false from decide_eq_false (fun a => t3 (LS.out a).2.2.2))
                                            clear t3
                                            go_wp2_with fail
                                            go_ret
                                            exact ⟨ret_bool E.out.symm, o⟩
                                          · skip
                                            have tb3 : (q != s * s) = false := by simp; omega
                                            have T3 := Lib.hid (Decidable.not_not.1 t3)
                                            clear t3
                                            have HA2 : RowKit.Hid (∀ e, e < 0 + 1 → atP l seq cap now wd least e) := Lib.hid (fun e he => by
                                              rcases Nat.lt_or_ge e 0 with g | g
                                              · exact HA.out e g
                                              · rw [show e = 0 by omega]
                                                exact (AT.out.2 ⟨⟨by omega, by omega, by omega, by omega, by omega, by omega⟩, ⟨by omega, by omega, by omega, Y3.out⟩, (fun _ => LV.out), (fun h => absurd h (by omega))⟩))
                                            have HZ2 : RowKit.Hid (0 + 1 = 1 → 0 + 1 ≠ 0 → lastP seq (mkAt l (0 + 1 - 1))) := Lib.hid (fun _ _ => (by rw [show 0 + 1 - 1 = 0 by omega, HM.out]; exact ⟨T0.out, T1.out, T2.out, T3.out⟩))
                                            go_wp2
                                            go_roundw
                                            case rel => exact ⟨0 + 1, by omega, (by first | go_num | exact congrArg (Value.int .i64) (by omega)), HA2, HZ2, o⟩
                                            case measure => simp [intOf]
    · have i1 : ¬ (j : Int) < 1 := by omega
      obtain rfl : j = 1 := by omega
      have E := Lib.hid (show decide (mvalid l seq cap now wd least) = true from decide_eq_true ⟨s0, s1, fun i hi => HA.out i (by rw [HL.out] at hi; exact hi), fun h => by rw [HL.out] at h ⊢; exact HZ.out rfl h⟩)
      clear HA HZ
      go_wp2
      go_ret
      exact ⟨ret_bool E.out.symm, o⟩
set_option maxRecDepth 100000 in
set_option maxHeartbeats 16000000 in
theorem rmarks_main (A : Option Addr) (m c : Nat) (l : List Mk) (agg wd cap now seq : Int) (w : World) (hin : MIn A m c l w) (a0 : 1 ≤ agg) (a1 : agg ≤ 4) (sB : I64 seq) (c0 : 1 ≤ cap) (c1 : cap ≤ 65536) (n0 : 0 ≤ now) (n1 : now ≤ 16777216) (d0 : 1 ≤ wd) (d1 : wd ≤ 1048576) (s0 : 0 ≤ seq) (s1 : seq ≤ 1099511627776) (m1 : m ≠ 1) : Calls Try.prog 67 #[.slice A m c, .int .i64 agg, .int .i64 wd, .int .i64 cap, .int .i64 now, .int .i64 seq] w fun e w' => e = .returned (.bool (decide (mvalid l seq cap now wd (leastV agg)))) ∧ Below w.heap.size w w' := by
  have HR := Lib.hid hin
  have HL := Lib.hid hin.len
  have mB := hin.max
  have t0 : ¬ seq < 0 := by omega
  have t1 : ¬ 1099511627776 < seq := by omega
  obtain ⟨least, hl⟩ : ∃ x, x = leastV agg := ⟨_, rfl⟩
  have e0 : -4096 ≤ least := by rw [hl]; exact leastV_ge agg
  rw [← hl]
  have LEQ := Lib.hid hl
  clear hin sB hl
  go_enter Try.func67, Try.ntmps67
  go_wp2
  clear t0 t1
  go_loopw [24] (fun i wr => ∃ j : Nat, j ≤ m ∧ i = .int .i64 (j : Nat) ∧ RowKit.Hid (∀ e, e < j → atP l seq cap now wd least e) ∧ RowKit.Hid (j = m → j ≠ 0 → lastP seq (mkAt l (j - 1))) ∧ Below w.heap.size w wr) (fun i _ => m - (intOf i).toNat)
  case atStart => exact ⟨0, by omega, rfl, Lib.hid (fun e h => absurd h (by omega)), Lib.hid (fun _ h => absurd rfl h), Below.refl _ _⟩
  case round =>
    obtain ⟨j, hj, rfl, HA, HZ, o⟩ := hrel
    by_cases hlt : j < m
    · by_cases j0 : j = 0
      · as_aux_lemma =>
        subst j0
        obtain ⟨ad, rfl, hadb, ht0⟩ := HR.out.reads.mk hlt
        have ht0 : MkCells w ad (mkAt l 0) := ht0
        have hB := HR.out.mB 0
        generalize hM : mkAt l 0 = mj at ht0 hB
        obtain ⟨sq, tk, n, s, q, lo, hi⟩ := mj
        obtain ⟨q0, q1, q2, q3, q4, q5, q6⟩ := ht0.below o hadb
        have AT := Lib.hid (at_flat (seq := seq) (cap := cap) (now := now) (wd := wd) (least := least) hM)
        have HM := Lib.hid hM
        obtain ⟨hB0, hB1, hB2, hB3, hB4, hB5, hB6⟩ := hB
        unfold I64 at hB0 hB1 hB2 hB3 hB4 hB5 hB6
        dsimp only at q0 q1 q2 q3 q4 q5 q6 hB0 hB1 hB2 hB3 hB4 hB5 hB6
        clear hM ht0
        have i1 : (0 : Int) < (m : Int) := by omega
        have i2 : (0 : Int) ≤ (0 : Int) := by omega
        go_upto_region 6 with (fail)
        have K : Row (wr.alloc (.cells #[.int .i64 sq, .int .i64 tk, .int .i64 n, .int .i64 s, .int .i64 q, .int .i64 lo, .int .i64 hi] 33)) wr.heap.size 33 #[.int .i64 sq, .int .i64 tk, .int .i64 n, .int .i64 s, .int .i64 q, .int .i64 lo, .int .i64 hi] := row_new rfl
        have z0 := o.size
        replace o := o.alloc o.size (.cells #[.int .i64 sq, .int .i64 tk, .int .i64 n, .int .i64 s, .int .i64 q, .int .i64 lo, .int .i64 hi] 33)
        generalize (wr.alloc (.cells #[.int .i64 sq, .int .i64 tk, .int .i64 n, .int .i64 s, .int .i64 q, .int .i64 lo, .int .i64 hi] 33)) = w3 at K o ⊢
        generalize wr.heap.size = mb at K z0 ⊢
        clear q0 q1 q2 q3 q4 q5 q6
        obtain ⟨K0, K1, K2, K3, K4, K5, K6, Kf0, Kf1, Kf2, Kf3, Kf4, Kf5, Kf6⟩ := row_seven K
        by_cases x0 : sq < 1
        · skip
          have E := Lib.hid (mvalid_bad (l := l) (seq := seq) (cap := cap) (now := now) (wd := wd) (least := least) (i := 0) (by rw [HL.out]; exact hlt) (fun a => absurd (AT.out.1 a).1.1 (by omega)))
          have e0 : decide (sq < 1) = true := decide_eq_true (by omega)
          refine wp_region_quiet_lit (by as_aux_lemma => kernel_rfl) (by as_aux_lemma => kernel_rfl) ?_
          repeat (go_big_quiet_step (fail))
          refine wpQuiet_nil ?_
          intro _ hw'
          obtain ⟨nq, hw''⟩ := hw'
          subst hw''
          replace o := o.trans (⟨rfl, rfl, rfl, Nat.le_refl _, fun _ _ => rfl⟩ : Below _ w3 (w3.drewN nq))
          generalize w3.drewN nq = w4 at  o ⊢
          go_wp2_with fail
          go_ret
          exact ⟨ret_bool E.out.symm, o⟩
        · skip
          by_cases x1 : seq < sq
          · skip
            have E := Lib.hid (mvalid_bad (l := l) (seq := seq) (cap := cap) (now := now) (wd := wd) (least := least) (i := 0) (by rw [HL.out]; exact hlt) (fun a => absurd (AT.out.1 a).1.2.1 (by omega)))
            have e0 : decide (sq < 1) = false := decide_eq_false (by omega)
            have e1 : decide (seq < sq) = true := decide_eq_true (by omega)
            refine wp_region_quiet_lit (by as_aux_lemma => kernel_rfl) (by as_aux_lemma => kernel_rfl) ?_
            repeat (go_big_quiet_step (fail))
            refine wpQuiet_nil ?_
            intro _ hw'
            obtain ⟨nq, hw''⟩ := hw'
            subst hw''
            replace o := o.trans (⟨rfl, rfl, rfl, Nat.le_refl _, fun _ _ => rfl⟩ : Below _ w3 (w3.drewN nq))
            generalize w3.drewN nq = w4 at  o ⊢
            go_wp2_with fail
            go_ret
            exact ⟨ret_bool E.out.symm, o⟩
          · skip
            by_cases x2 : n ≠ seq - sq + 1
            · skip
              have E := Lib.hid (mvalid_bad (l := l) (seq := seq) (cap := cap) (now := now) (wd := wd) (least := least) (i := 0) (by rw [HL.out]; exact hlt) (fun a => absurd (AT.out.1 a).1.2.2.1 (by omega)))
              have wn1 : IntKind.i64.wrap (seq - sq) = seq - sq := IntWalk.i64_in _ (by omega)
              have wn2 : IntKind.i64.wrap (seq - sq + 1) = seq - sq + 1 := IntWalk.i64_in _ (by omega)
              have e0 : decide (sq < 1) = false := decide_eq_false (by omega)
              have e1 : decide (seq < sq) = false := decide_eq_false (by omega)
              have e2 : (n != seq - sq + 1) = true := by simpa using x2
              refine wp_region_quiet_lit (by as_aux_lemma => kernel_rfl) (by as_aux_lemma => kernel_rfl) ?_
              repeat (go_big_quiet_step (fail))
              refine wpQuiet_nil ?_
              intro _ hw'
              obtain ⟨nq, hw''⟩ := hw'
              subst hw''
              replace o := o.trans (⟨rfl, rfl, rfl, Nat.le_refl _, fun _ _ => rfl⟩ : Below _ w3 (w3.drewN nq))
              generalize w3.drewN nq = w4 at  o ⊢
              go_wp2_with fail
              go_ret
              exact ⟨ret_bool E.out.symm, o⟩
            · skip
              by_cases x3 : cap < n
              · skip
                have E := Lib.hid (mvalid_bad (l := l) (seq := seq) (cap := cap) (now := now) (wd := wd) (least := least) (i := 0) (by rw [HL.out]; exact hlt) (fun a => absurd (AT.out.1 a).1.2.2.2.1 (by omega)))
                have wn1 : IntKind.i64.wrap (seq - sq) = seq - sq := IntWalk.i64_in _ (by omega)
                have wn2 : IntKind.i64.wrap (seq - sq + 1) = seq - sq + 1 := IntWalk.i64_in _ (by omega)
                have e0 : decide (sq < 1) = false := decide_eq_false (by omega)
                have e1 : decide (seq < sq) = false := decide_eq_false (by omega)
                have e2 : (n != seq - sq + 1) = false := by simp; omega
                have e3 : decide (cap < n) = true := decide_eq_true (by omega)
                refine wp_region_quiet_lit (by as_aux_lemma => kernel_rfl) (by as_aux_lemma => kernel_rfl) ?_
                repeat (go_big_quiet_step (fail))
                refine wpQuiet_nil ?_
                intro _ hw'
                obtain ⟨nq, hw''⟩ := hw'
                subst hw''
                replace o := o.trans (⟨rfl, rfl, rfl, Nat.le_refl _, fun _ _ => rfl⟩ : Below _ w3 (w3.drewN nq))
                generalize w3.drewN nq = w4 at  o ⊢
                go_wp2_with fail
                go_ret
                exact ⟨ret_bool E.out.symm, o⟩
              · skip
                have wn1 : IntKind.i64.wrap (seq - sq) = seq - sq := IntWalk.i64_in _ (by omega)
                have wn2 : IntKind.i64.wrap (seq - sq + 1) = seq - sq + 1 := IntWalk.i64_in _ (by omega)
                have e0 : decide (sq < 1) = false := decide_eq_false (by omega)
                have e1 : decide (seq < sq) = false := decide_eq_false (by omega)
                have e2 : (n != seq - sq + 1) = false := by simp; omega
                have e3 : decide (cap < n) = false := decide_eq_false (by omega)
                refine wp_region_quiet_lit (by as_aux_lemma => kernel_rfl) (by as_aux_lemma => kernel_rfl) ?_
                repeat (go_big_quiet_step (fail))
                refine wpQuiet_nil ?_
                intro _ hw'
                obtain ⟨nq, hw''⟩ := hw'
                subst hw''
                replace K : Row (w3.drewN nq) mb 33 #[.int .i64 sq, .int .i64 tk, .int .i64 n, .int .i64 s, .int .i64 q, .int .i64 lo, .int .i64 hi] := K
                replace o := o.trans (⟨rfl, rfl, rfl, Nat.le_refl _, fun _ _ => rfl⟩ : Below _ w3 (w3.drewN nq))
                generalize w3.drewN nq = w4 at K o ⊢
                have x2a : n + sq ≤ seq + 1 := by omega
                have x2b : seq + 1 ≤ n + sq := by omega
                clear wn1 wn2 x2 e0 e1 e2 e3 K0 K1 K2 K3 K4 K5 K6 Kf0 Kf1 Kf2 Kf3 Kf4 Kf5 Kf6
                go_upto_region 8 with (fail)
                obtain ⟨K0, K1, K2, K3, K4, K5, K6, Kf0, Kf1, Kf2, Kf3, Kf4, Kf5, Kf6⟩ := row_seven K
                have PT := fun w => rtick tk w
                have PL := fun (w : World) (h0 : 0 ≤ tk) (h1 : tk ≤ now) => rlive now wd tk w n0 n1 d0 d1 h0 h1
                by_cases y0 : ¬ (0 ≤ tk ∧ tk ≤ 16777216)
                · skip
                  have E := Lib.hid (mvalid_bad (l := l) (seq := seq) (cap := cap) (now := now) (wd := wd) (least := least) (i := 0) (by rw [HL.out]; exact hlt) (fun a => absurd (AT.out.1 a).1.2.2.2.2 (by omega)))
                  rw [decide_eq_false y0] at PT
                  replace PT := Lib.hid PT
                  refine wp_region_quiet_lit (by as_aux_lemma => kernel_rfl) (by as_aux_lemma => kernel_rfl) ?_
                  repeat (go_big_quiet_step ((go_at_call 83; exact Calls.quiet_of_same (PT.out _))))
                  refine wpQuiet_nil ?_
                  intro _ hw'
                  obtain ⟨nq, hw''⟩ := hw'
                  subst hw''
                  replace o := o.trans (⟨rfl, rfl, rfl, Nat.le_refl _, fun _ _ => rfl⟩ : Below _ w4 (w4.drewN nq))
                  generalize w4.drewN nq = w5 at  o ⊢
                  go_wp2_with fail
                  go_ret
                  exact ⟨ret_bool E.out.symm, o⟩
                · skip
                  replace y0 : 0 ≤ tk ∧ tk ≤ 16777216 := Decidable.not_not.1 y0
                  rw [decide_eq_true y0] at PT
                  replace PT := Lib.hid PT
                  obtain ⟨y0, y0b⟩ := y0
                  by_cases y1 : now < tk
                  · skip
                    have E := Lib.hid (mvalid_bad (l := l) (seq := seq) (cap := cap) (now := now) (wd := wd) (least := least) (i := 0) (by rw [HL.out]; exact hlt) (fun a => absurd (AT.out.1 a).1.2.2.2.2.2 (by omega)))
                    have e1 : decide (now < tk) = true := decide_eq_true (by omega)
                    refine wp_region_quiet_lit (by as_aux_lemma => kernel_rfl) (by as_aux_lemma => kernel_rfl) ?_
                    repeat (go_big_quiet_step ((go_at_call 83; exact Calls.quiet_of_same (PT.out _))))
                    refine wpQuiet_nil ?_
                    intro _ hw'
                    obtain ⟨nq, hw''⟩ := hw'
                    subst hw''
                    replace o := o.trans (⟨rfl, rfl, rfl, Nat.le_refl _, fun _ _ => rfl⟩ : Below _ w4 (w4.drewN nq))
                    generalize w4.drewN nq = w5 at  o ⊢
                    go_wp2_with fail
                    go_ret
                    exact ⟨ret_bool E.out.symm, o⟩
                  · skip
                    have e1 : decide (now < tk) = false := decide_eq_false (by omega)
                    have m1b : ((m : Int) == 1) = false := by simp; omega
                    refine wp_region_quiet_lit (by as_aux_lemma => kernel_rfl) (by as_aux_lemma => kernel_rfl) ?_
                    repeat (go_big_quiet_step ((go_at_call 83; exact Calls.quiet_of_same (PT.out _))))
                    refine wpQuiet_nil ?_
                    intro _ hw'
                    obtain ⟨nq, hw''⟩ := hw'
                    subst hw''
                    replace K : Row (w4.drewN nq) mb 33 #[.int .i64 sq, .int .i64 tk, .int .i64 n, .int .i64 s, .int .i64 q, .int .i64 lo, .int .i64 hi] := K
                    replace o := o.trans (⟨rfl, rfl, rfl, Nat.le_refl _, fun _ _ => rfl⟩ : Below _ w4 (w4.drewN nq))
                    generalize w4.drewN nq = w5 at K o ⊢
                    clear PT PL
                    clear e1 K0 K1 K2 K3 K4 K5 K6 Kf0 Kf1 Kf2 Kf3 Kf4 Kf5 Kf6
                    go_upto_region 10 with (fail)
                    obtain ⟨K0, K1, K2, K3, K4, K5, K6, Kf0, Kf1, Kf2, Kf3, Kf4, Kf5, Kf6⟩ := row_seven K
                    have PV1 := fun w => rvalue agg lo w a0 a1
                    have PV2 := fun w => rvalue agg hi w a0 a1
                    have LE := LEQ.out
                    by_cases v0 : ¬ (leastV agg ≤ lo ∧ lo ≤ 4096)
                    · skip
                      have E := Lib.hid (mvalid_bad (l := l) (seq := seq) (cap := cap) (now := now) (wd := wd) (least := least) (i := 0) (by rw [HL.out]; exact hlt) (fun a => v0 (by have h := (AT.out.1 a).2.1; have h1 := h.1; have h2 := h.2.1; have h3 := h.2.2.1; omega)))
                      rw [decide_eq_false v0] at PV1
                      replace PV1 := Lib.hid PV1
                      clear LE v0
                      refine wp_region_quietF ?_
                      repeat (go_big_quiet_step ((go_at_call 101; with_reducible exact Calls.quiet_of_same (PV1.out _))))
                      refine wpQuiet_nil ?_
                      intro _ hw'
                      obtain ⟨nq, hw''⟩ := hw'
                      subst hw''
                      replace o := o.trans (⟨rfl, rfl, rfl, Nat.le_refl _, fun _ _ => rfl⟩ : Below _ w5 (w5.drewN nq))
                      generalize w5.drewN nq = w6 at  o ⊢
                      go_wp2_with fail
                      go_ret
                      exact ⟨ret_bool E.out.symm, o⟩
                    · skip
                      replace v0 := Decidable.not_not.1 v0
                      rw [decide_eq_true v0] at PV1
                      replace PV1 := Lib.hid PV1
                      by_cases v1 : ¬ (leastV agg ≤ hi ∧ hi ≤ 4096)
                      · skip
                        have E := Lib.hid (mvalid_bad (l := l) (seq := seq) (cap := cap) (now := now) (wd := wd) (least := least) (i := 0) (by rw [HL.out]; exact hlt) (fun a => v1 (by have h := (AT.out.1 a).2.1; have h1 := h.1; have h2 := h.2.1; have h3 := h.2.2.1; omega)))
                        rw [decide_eq_false v1] at PV2
                        replace PV2 := Lib.hid PV2
                        clear LE v0 v1
                        refine wp_region_quietF ?_
                        repeat (go_big_quiet_step ((first | (go_at_call 101; with_reducible exact Calls.quiet_of_same (PV1.out _)) | (go_at_call 101; with_reducible exact Calls.quiet_of_same (PV2.out _)))))
                        refine wpQuiet_nil ?_
                        intro _ hw'
                        obtain ⟨nq, hw''⟩ := hw'
                        subst hw''
                        replace o := o.trans (⟨rfl, rfl, rfl, Nat.le_refl _, fun _ _ => rfl⟩ : Below _ w5 (w5.drewN nq))
                        generalize w5.drewN nq = w6 at  o ⊢
                        go_wp2_with fail
                        go_ret
                        exact ⟨ret_bool E.out.symm, o⟩
                      · skip
                        replace v1 := Decidable.not_not.1 v1
                        rw [decide_eq_true v1] at PV2
                        replace PV2 := Lib.hid PV2
                        have lo0 : least ≤ lo := by omega
                        have lo1 : -4096 ≤ lo := by omega
                        have lo2 : lo ≤ 4096 := v0.2
                        have hi1 : -4096 ≤ hi := by omega
                        have hi2 : hi ≤ 4096 := v1.2
                        clear LE v0 v1
                        by_cases u0 : hi < lo
                        · skip
                          have E := Lib.hid (mvalid_bad (l := l) (seq := seq) (cap := cap) (now := now) (wd := wd) (least := least) (i := 0) (by rw [HL.out]; exact hlt) (fun a => absurd (AT.out.1 a).2.1.2.2.1 (by omega)))
                          have e0 : decide (hi < lo) = true := decide_eq_true (by omega)
                          refine wp_region_quietF ?_
                          repeat (go_big_quiet_step ((first | (go_at_call 101; with_reducible exact Calls.quiet_of_same (PV1.out _)) | (go_at_call 101; with_reducible exact Calls.quiet_of_same (PV2.out _)))))
                          refine wpQuiet_nil ?_
                          intro _ hw'
                          obtain ⟨nq, hw''⟩ := hw'
                          subst hw''
                          replace o := o.trans (⟨rfl, rfl, rfl, Nat.le_refl _, fun _ _ => rfl⟩ : Below _ w5 (w5.drewN nq))
                          generalize w5.drewN nq = w6 at  o ⊢
                          go_wp2_with fail
                          go_ret
                          exact ⟨ret_bool E.out.symm, o⟩
                        · skip
                          by_cases u1 : s < -n * 4096
                          · skip
                            have E := Lib.hid (mvalid_bad (l := l) (seq := seq) (cap := cap) (now := now) (wd := wd) (least := least) (i := 0) (by rw [HL.out]; exact hlt) (fun a => absurd (part_lo (by omega) (AT.out.1 a).2.1.2.2.2 lo1 hi2).1 (by omega)))
                            have e0 : decide (hi < lo) = false := decide_eq_false (by omega)
                            have e1 : decide (s < -n * 4096) = true := decide_eq_true (by omega)
                            have wn : IntKind.i64.wrap (-n) = -n := IntWalk.i64_in _ (by omega)
                            have wnm : IntKind.i64.wrap (-n * 4096) = -n * 4096 := IntWalk.i64_in _ (by omega)
                            have wn2 : IntKind.i64.wrap (n * 4096) = n * 4096 := IntWalk.i64_in _ (by omega)
                            have wn3 : IntKind.i64.wrap (n * 4096 * 4096) = n * 4096 * 4096 := IntWalk.i64_in _ (by omega)
                            refine wp_region_quietF ?_
                            repeat (go_big_quiet_step ((first | (go_at_call 101; with_reducible exact Calls.quiet_of_same (PV1.out _)) | (go_at_call 101; with_reducible exact Calls.quiet_of_same (PV2.out _)))))
                            refine wpQuiet_nil ?_
                            intro _ hw'
                            obtain ⟨nq, hw''⟩ := hw'
                            subst hw''
                            replace o := o.trans (⟨rfl, rfl, rfl, Nat.le_refl _, fun _ _ => rfl⟩ : Below _ w5 (w5.drewN nq))
                            generalize w5.drewN nq = w6 at  o ⊢
                            go_wp2_with fail
                            go_ret
                            exact ⟨ret_bool E.out.symm, o⟩
                          · skip
                            by_cases u2 : n * 4096 < s
                            · skip
                              have E := Lib.hid (mvalid_bad (l := l) (seq := seq) (cap := cap) (now := now) (wd := wd) (least := least) (i := 0) (by rw [HL.out]; exact hlt) (fun a => absurd (part_lo (by omega) (AT.out.1 a).2.1.2.2.2 lo1 hi2).2 (by omega)))
                              have e0 : decide (hi < lo) = false := decide_eq_false (by omega)
                              have e1 : decide (s < -n * 4096) = false := decide_eq_false (by omega)
                              have e2 : decide (n * 4096 < s) = true := decide_eq_true (by omega)
                              have wn : IntKind.i64.wrap (-n) = -n := IntWalk.i64_in _ (by omega)
                              have wnm : IntKind.i64.wrap (-n * 4096) = -n * 4096 := IntWalk.i64_in _ (by omega)
                              have wn2 : IntKind.i64.wrap (n * 4096) = n * 4096 := IntWalk.i64_in _ (by omega)
                              have wn3 : IntKind.i64.wrap (n * 4096 * 4096) = n * 4096 * 4096 := IntWalk.i64_in _ (by omega)
                              refine wp_region_quietF ?_
                              repeat (go_big_quiet_step ((first | (go_at_call 101; with_reducible exact Calls.quiet_of_same (PV1.out _)) | (go_at_call 101; with_reducible exact Calls.quiet_of_same (PV2.out _)))))
                              refine wpQuiet_nil ?_
                              intro _ hw'
                              obtain ⟨nq, hw''⟩ := hw'
                              subst hw''
                              replace o := o.trans (⟨rfl, rfl, rfl, Nat.le_refl _, fun _ _ => rfl⟩ : Below _ w5 (w5.drewN nq))
                              generalize w5.drewN nq = w6 at  o ⊢
                              go_wp2_with fail
                              go_ret
                              exact ⟨ret_bool E.out.symm, o⟩
                            · skip
                              by_cases u3 : q < 0
                              · skip
                                have E := Lib.hid (mvalid_bad (l := l) (seq := seq) (cap := cap) (now := now) (wd := wd) (least := least) (i := 0) (by rw [HL.out]; exact hlt) (fun a => absurd (AT.out.1 a).2.1.2.2.2.2.2.1 (by omega)))
                                have e0 : decide (hi < lo) = false := decide_eq_false (by omega)
                                have e1 : decide (s < -n * 4096) = false := decide_eq_false (by omega)
                                have e2 : decide (n * 4096 < s) = false := decide_eq_false (by omega)
                                have e3 : decide (q < 0) = true := decide_eq_true (by omega)
                                have wn : IntKind.i64.wrap (-n) = -n := IntWalk.i64_in _ (by omega)
                                have wnm : IntKind.i64.wrap (-n * 4096) = -n * 4096 := IntWalk.i64_in _ (by omega)
                                have wn2 : IntKind.i64.wrap (n * 4096) = n * 4096 := IntWalk.i64_in _ (by omega)
                                have wn3 : IntKind.i64.wrap (n * 4096 * 4096) = n * 4096 * 4096 := IntWalk.i64_in _ (by omega)
                                refine wp_region_quietF ?_
                                repeat (go_big_quiet_step ((first | (go_at_call 101; with_reducible exact Calls.quiet_of_same (PV1.out _)) | (go_at_call 101; with_reducible exact Calls.quiet_of_same (PV2.out _)))))
                                refine wpQuiet_nil ?_
                                intro _ hw'
                                obtain ⟨nq, hw''⟩ := hw'
                                subst hw''
                                replace o := o.trans (⟨rfl, rfl, rfl, Nat.le_refl _, fun _ _ => rfl⟩ : Below _ w5 (w5.drewN nq))
                                generalize w5.drewN nq = w6 at  o ⊢
                                go_wp2_with fail
                                go_ret
                                exact ⟨ret_bool E.out.symm, o⟩
                              · skip
                                by_cases u4 : n * 4096 * 4096 < q
                                · skip
                                  have E := Lib.hid (mvalid_bad (l := l) (seq := seq) (cap := cap) (now := now) (wd := wd) (least := least) (i := 0) (by rw [HL.out]; exact hlt) (fun a => absurd (AT.out.1 a).2.1.2.2.2.2.2.2.1 (by omega)))
                                  have e0 : decide (hi < lo) = false := decide_eq_false (by omega)
                                  have e1 : decide (s < -n * 4096) = false := decide_eq_false (by omega)
                                  have e2 : decide (n * 4096 < s) = false := decide_eq_false (by omega)
                                  have e3 : decide (q < 0) = false := decide_eq_false (by omega)
                                  have e4 : decide (n * 4096 * 4096 < q) = true := decide_eq_true (by omega)
                                  have wn : IntKind.i64.wrap (-n) = -n := IntWalk.i64_in _ (by omega)
                                  have wnm : IntKind.i64.wrap (-n * 4096) = -n * 4096 := IntWalk.i64_in _ (by omega)
                                  have wn2 : IntKind.i64.wrap (n * 4096) = n * 4096 := IntWalk.i64_in _ (by omega)
                                  have wn3 : IntKind.i64.wrap (n * 4096 * 4096) = n * 4096 * 4096 := IntWalk.i64_in _ (by omega)
                                  refine wp_region_quietF ?_
                                  repeat (go_big_quiet_step ((first | (go_at_call 101; with_reducible exact Calls.quiet_of_same (PV1.out _)) | (go_at_call 101; with_reducible exact Calls.quiet_of_same (PV2.out _)))))
                                  refine wpQuiet_nil ?_
                                  intro _ hw'
                                  obtain ⟨nq, hw''⟩ := hw'
                                  subst hw''
                                  replace o := o.trans (⟨rfl, rfl, rfl, Nat.le_refl _, fun _ _ => rfl⟩ : Below _ w5 (w5.drewN nq))
                                  generalize w5.drewN nq = w6 at  o ⊢
                                  go_wp2_with fail
                                  go_ret
                                  exact ⟨ret_bool E.out.symm, o⟩
                                · skip
                                  have PF := fun w => rpartP n lo hi s q w (by omega) (by omega) lo1 lo2 hi1 hi2
                                  by_cases u5 : ¬ partP n lo hi s q
                                  · skip
                                    have E := Lib.hid (mvalid_bad (l := l) (seq := seq) (cap := cap) (now := now) (wd := wd) (least := least) (i := 0) (by rw [HL.out]; exact hlt) (fun a => u5 (AT.out.1 a).2.1.2.2.2))
                                    have e0 : decide (hi < lo) = false := decide_eq_false (by omega)
                                    have e1 : decide (s < -n * 4096) = false := decide_eq_false (by omega)
                                    have e2 : decide (n * 4096 < s) = false := decide_eq_false (by omega)
                                    have e3 : decide (q < 0) = false := decide_eq_false (by omega)
                                    have e4 : decide (n * 4096 * 4096 < q) = false := decide_eq_false (by omega)
                                    have wn : IntKind.i64.wrap (-n) = -n := IntWalk.i64_in _ (by omega)
                                    have wnm : IntKind.i64.wrap (-n * 4096) = -n * 4096 := IntWalk.i64_in _ (by omega)
                                    have wn2 : IntKind.i64.wrap (n * 4096) = n * 4096 := IntWalk.i64_in _ (by omega)
                                    have wn3 : IntKind.i64.wrap (n * 4096 * 4096) = n * 4096 * 4096 := IntWalk.i64_in _ (by omega)
                                    rw [decide_eq_false u5] at PF
                                    replace PF := Lib.hid PF
                                    refine wp_region_quietF ?_
                                    repeat (go_big_quiet_step ((first | (go_at_call 101; with_reducible exact Calls.quiet_of_same (PV1.out _)) | (go_at_call 101; with_reducible exact Calls.quiet_of_same (PV2.out _)) | (go_at_call 102; with_reducible exact Calls.quiet_of_same (PF.out _)))))
                                    refine wpQuiet_nil ?_
                                    intro _ hw'
                                    obtain ⟨nq, hw''⟩ := hw'
                                    subst hw''
                                    replace o := o.trans (⟨rfl, rfl, rfl, Nat.le_refl _, fun _ _ => rfl⟩ : Below _ w5 (w5.drewN nq))
                                    generalize w5.drewN nq = w6 at  o ⊢
                                    go_wp2_with fail
                                    go_ret
                                    exact ⟨ret_bool E.out.symm, o⟩
                                  · skip
                                    have e0 : decide (hi < lo) = false := decide_eq_false (by omega)
                                    have e1 : decide (s < -n * 4096) = false := decide_eq_false (by omega)
                                    have e2 : decide (n * 4096 < s) = false := decide_eq_false (by omega)
                                    have e3 : decide (q < 0) = false := decide_eq_false (by omega)
                                    have e4 : decide (n * 4096 * 4096 < q) = false := decide_eq_false (by omega)
                                    have wn : IntKind.i64.wrap (-n) = -n := IntWalk.i64_in _ (by omega)
                                    have wnm : IntKind.i64.wrap (-n * 4096) = -n * 4096 := IntWalk.i64_in _ (by omega)
                                    have wn2 : IntKind.i64.wrap (n * 4096) = n * 4096 := IntWalk.i64_in _ (by omega)
                                    have wn3 : IntKind.i64.wrap (n * 4096 * 4096) = n * 4096 * 4096 := IntWalk.i64_in _ (by omega)
                                    replace u5 := Decidable.not_not.1 u5
                                    rw [decide_eq_true u5] at PF
                                    replace PF := Lib.hid PF
                                    have Y3 : RowKit.Hid (partP n lo hi s q) := Lib.hid u5
                                    clear u5
                                    refine wp_region_quietF ?_
                                    repeat (go_big_quiet_step ((first | (go_at_call 101; with_reducible exact Calls.quiet_of_same (PV1.out _)) | (go_at_call 101; with_reducible exact Calls.quiet_of_same (PV2.out _)) | (go_at_call 102; with_reducible exact Calls.quiet_of_same (PF.out _)))))
                                    refine wpQuiet_nil ?_
                                    intro _ hw'
                                    obtain ⟨nq, hw''⟩ := hw'
                                    subst hw''
                                    replace K : Row (w5.drewN nq) mb 33 #[.int .i64 sq, .int .i64 tk, .int .i64 n, .int .i64 s, .int .i64 q, .int .i64 lo, .int .i64 hi] := K
                                    replace o := o.trans (⟨rfl, rfl, rfl, Nat.le_refl _, fun _ _ => rfl⟩ : Below _ w5 (w5.drewN nq))
                                    generalize w5.drewN nq = w6 at K o ⊢
                                    clear K0 K1 K2 K3 K4 K5 K6 Kf0 Kf1 Kf2 Kf3 Kf4 Kf5 Kf6
                                    clear PF PV1 PV2 wn wnm wn2 wn3 e0 e1 e2 e3 e4
                                    go_upto_region 12 with (fail)
                                    obtain ⟨K0, K1, K2, K3, K4, K5, K6, Kf0, Kf1, Kf2, Kf3, Kf4, Kf5, Kf6⟩ := row_seven K
                                    have mb1 : ((0 : Int) == (m : Int) - 1) = false := by simp; omega
                                    have wm : IntKind.i64.wrap ((m : Int) - 1) = (m : Int) - 1 := IntWalk.i64_in _ (by omega)
                                    have wm2 : ¬ (m : Int) = 1 := by omega
                                    have HA2 : RowKit.Hid (∀ e, e < 0 + 1 → atP l seq cap now wd least e) := Lib.hid (fun e he => by
                                      rcases Nat.lt_or_ge e 0 with g | g
                                      · exact HA.out e g
                                      · rw [show e = 0 by omega]
                                        exact (AT.out.2 ⟨⟨by omega, by omega, by omega, by omega, by omega, by omega⟩, ⟨by omega, by omega, by omega, Y3.out⟩, (fun h => absurd h (by rw [HL.out]; omega)), (fun h => absurd h (by omega))⟩))
                                    have HZ2 : RowKit.Hid (0 + 1 = m → 0 + 1 ≠ 0 → lastP seq (mkAt l (0 + 1 - 1))) := Lib.hid (fun h => absurd h (by omega))
                                    go_wp2
                                    go_roundw
                                    case rel => exact ⟨0 + 1, by omega, (by first | go_num | exact congrArg (Value.int .i64) (by omega)), HA2, HZ2, o⟩
                                    case measure => simp [intOf]; omega
      · as_aux_lemma =>
        obtain ⟨ad, rfl, hadb, ht0⟩ := HR.out.reads.mk hlt
        have hB := HR.out.mB j
        generalize hM : mkAt l j = mj at ht0 hB
        obtain ⟨sq, tk, n, s, q, lo, hi⟩ := mj
        obtain ⟨q0, q1, q2, q3, q4, q5, q6⟩ := ht0.below o (by rw [block_of_add]; exact hadb)
        have AT := Lib.hid (at_flat (seq := seq) (cap := cap) (now := now) (wd := wd) (least := least) hM)
        have HM := Lib.hid hM
        obtain ⟨hB0, hB1, hB2, hB3, hB4, hB5, hB6⟩ := hB
        unfold I64 at hB0 hB1 hB2 hB3 hB4 hB5 hB6
        dsimp only at q0 q1 q2 q3 q4 q5 q6 hB0 hB1 hB2 hB3 hB4 hB5 hB6
        clear hM ht0
        have i1 : (j : Int) < (m : Int) := by omega
        have i2 : (0 : Int) ≤ (j : Int) := by omega
        go_upto_region 6 with (fail)
        have K : Row (wr.alloc (.cells #[.int .i64 sq, .int .i64 tk, .int .i64 n, .int .i64 s, .int .i64 q, .int .i64 lo, .int .i64 hi] 33)) wr.heap.size 33 #[.int .i64 sq, .int .i64 tk, .int .i64 n, .int .i64 s, .int .i64 q, .int .i64 lo, .int .i64 hi] := row_new rfl
        have z0 := o.size
        replace o := o.alloc o.size (.cells #[.int .i64 sq, .int .i64 tk, .int .i64 n, .int .i64 s, .int .i64 q, .int .i64 lo, .int .i64 hi] 33)
        generalize (wr.alloc (.cells #[.int .i64 sq, .int .i64 tk, .int .i64 n, .int .i64 s, .int .i64 q, .int .i64 lo, .int .i64 hi] 33)) = w3 at K o ⊢
        generalize wr.heap.size = mb at K z0 ⊢
        clear q0 q1 q2 q3 q4 q5 q6
        obtain ⟨K0, K1, K2, K3, K4, K5, K6, Kf0, Kf1, Kf2, Kf3, Kf4, Kf5, Kf6⟩ := row_seven K
        obtain ⟨p, hp⟩ : ∃ p : Nat, j = p + 1 := ⟨j - 1, by omega⟩
        obtain ⟨ad', ea, _, ht1⟩ := HR.out.reads.mk (i := p) (by omega)
        obtain rfl : ad = ad' := by injection ea
        have hOP := HA.out p (by omega)
        generalize hO : mkAt l p = mo at ht1
        obtain ⟨osq, otk, on, os, oq, olo, ohi⟩ := mo
        obtain ⟨⟨b1, b2, b3, b4, b5, b6⟩, ⟨b7, b8, b9, B10⟩, _⟩ := (at_flat hO).1 hOP
        have HT1 := Lib.hid ht1
        have hp1 : mkAt l (j - 1) = ⟨osq, otk, on, os, oq, olo, ohi⟩ := by rw [hp]; exact hO
        have hp2 : mkAt l j = ⟨sq, tk, n, s, q, lo, hi⟩ := HM.out
        have TW : RowKit.Hid (twoP (mkAt l (j - 1)) (mkAt l j) ↔ osq < sq ∧ otk ≤ tk ∧ olo ≤ lo ∧ hi ≤ ohi ∧ partP (on - n) olo ohi (os - s) (oq - q)) := Lib.hid (by rw [hp1, hp2]; exact two_flat)
        have b3a : on + osq ≤ seq + 1 := by omega
        have b3b : seq + 1 ≤ on + osq := by omega
        have HP := Lib.hid hp
        have wj : IntKind.i64.wrap ((j : Int) - 1) = (p : Int) := by rw [IntWalk.i64_in _ (by omega)]; omega
        have p1 : (p : Int) < (m : Int) := by omega
        have p0 : (0 : Int) ≤ (p : Int) := by omega
        have jp : (0 : Int) < (j : Int) := by omega
        have jn : 0 < j := by omega
        have jd : decide (0 < j) = true := decide_eq_true jn
        clear hO ht1 ea hp1 hp2 hp hOP b3
        obtain ⟨q0, q1, q2, q3, q4, q5, q6⟩ := HT1.out.below o (by rw [block_of_add]; exact hadb)
        dsimp only at q0 q1 q2 q3 q4 q5 q6
        by_cases x0 : sq < 1
        · skip
          have E := Lib.hid (mvalid_bad (l := l) (seq := seq) (cap := cap) (now := now) (wd := wd) (least := least) (i := j) (by rw [HL.out]; exact hlt) (fun a => absurd (AT.out.1 a).1.1 (by omega)))
          have e0 : decide (sq < 1) = true := decide_eq_true (by omega)
          refine wp_region_quiet_lit (by as_aux_lemma => kernel_rfl) (by as_aux_lemma => kernel_rfl) ?_
          repeat (go_big_quiet_step (fail))
          refine wpQuiet_nil ?_
          intro _ hw'
          obtain ⟨nq, hw''⟩ := hw'
          subst hw''
          replace o := o.trans (⟨rfl, rfl, rfl, Nat.le_refl _, fun _ _ => rfl⟩ : Below _ w3 (w3.drewN nq))
          generalize w3.drewN nq = w4 at  o ⊢
          go_wp2_with fail
          go_ret
          exact ⟨ret_bool E.out.symm, o⟩
        · skip
          by_cases x1 : seq < sq
          · skip
            have E := Lib.hid (mvalid_bad (l := l) (seq := seq) (cap := cap) (now := now) (wd := wd) (least := least) (i := j) (by rw [HL.out]; exact hlt) (fun a => absurd (AT.out.1 a).1.2.1 (by omega)))
            have e0 : decide (sq < 1) = false := decide_eq_false (by omega)
            have e1 : decide (seq < sq) = true := decide_eq_true (by omega)
            refine wp_region_quiet_lit (by as_aux_lemma => kernel_rfl) (by as_aux_lemma => kernel_rfl) ?_
            repeat (go_big_quiet_step (fail))
            refine wpQuiet_nil ?_
            intro _ hw'
            obtain ⟨nq, hw''⟩ := hw'
            subst hw''
            replace o := o.trans (⟨rfl, rfl, rfl, Nat.le_refl _, fun _ _ => rfl⟩ : Below _ w3 (w3.drewN nq))
            generalize w3.drewN nq = w4 at  o ⊢
            go_wp2_with fail
            go_ret
            exact ⟨ret_bool E.out.symm, o⟩
          · skip
            by_cases x2 : n ≠ seq - sq + 1
            · skip
              have E := Lib.hid (mvalid_bad (l := l) (seq := seq) (cap := cap) (now := now) (wd := wd) (least := least) (i := j) (by rw [HL.out]; exact hlt) (fun a => absurd (AT.out.1 a).1.2.2.1 (by omega)))
              have wn1 : IntKind.i64.wrap (seq - sq) = seq - sq := IntWalk.i64_in _ (by omega)
              have wn2 : IntKind.i64.wrap (seq - sq + 1) = seq - sq + 1 := IntWalk.i64_in _ (by omega)
              have e0 : decide (sq < 1) = false := decide_eq_false (by omega)
              have e1 : decide (seq < sq) = false := decide_eq_false (by omega)
              have e2 : (n != seq - sq + 1) = true := by simpa using x2
              refine wp_region_quiet_lit (by as_aux_lemma => kernel_rfl) (by as_aux_lemma => kernel_rfl) ?_
              repeat (go_big_quiet_step (fail))
              refine wpQuiet_nil ?_
              intro _ hw'
              obtain ⟨nq, hw''⟩ := hw'
              subst hw''
              replace o := o.trans (⟨rfl, rfl, rfl, Nat.le_refl _, fun _ _ => rfl⟩ : Below _ w3 (w3.drewN nq))
              generalize w3.drewN nq = w4 at  o ⊢
              go_wp2_with fail
              go_ret
              exact ⟨ret_bool E.out.symm, o⟩
            · skip
              by_cases x3 : cap < n
              · skip
                have E := Lib.hid (mvalid_bad (l := l) (seq := seq) (cap := cap) (now := now) (wd := wd) (least := least) (i := j) (by rw [HL.out]; exact hlt) (fun a => absurd (AT.out.1 a).1.2.2.2.1 (by omega)))
                have wn1 : IntKind.i64.wrap (seq - sq) = seq - sq := IntWalk.i64_in _ (by omega)
                have wn2 : IntKind.i64.wrap (seq - sq + 1) = seq - sq + 1 := IntWalk.i64_in _ (by omega)
                have e0 : decide (sq < 1) = false := decide_eq_false (by omega)
                have e1 : decide (seq < sq) = false := decide_eq_false (by omega)
                have e2 : (n != seq - sq + 1) = false := by simp; omega
                have e3 : decide (cap < n) = true := decide_eq_true (by omega)
                refine wp_region_quiet_lit (by as_aux_lemma => kernel_rfl) (by as_aux_lemma => kernel_rfl) ?_
                repeat (go_big_quiet_step (fail))
                refine wpQuiet_nil ?_
                intro _ hw'
                obtain ⟨nq, hw''⟩ := hw'
                subst hw''
                replace o := o.trans (⟨rfl, rfl, rfl, Nat.le_refl _, fun _ _ => rfl⟩ : Below _ w3 (w3.drewN nq))
                generalize w3.drewN nq = w4 at  o ⊢
                go_wp2_with fail
                go_ret
                exact ⟨ret_bool E.out.symm, o⟩
              · skip
                by_cases x4 : sq ≤ osq
                · skip
                  have E := Lib.hid (mvalid_bad (l := l) (seq := seq) (cap := cap) (now := now) (wd := wd) (least := least) (i := j) (by rw [HL.out]; exact hlt) (fun a => absurd (TW.out.1 ((AT.out.1 a).2.2.2 (by omega))).1 (by omega)))
                  have wn1 : IntKind.i64.wrap (seq - sq) = seq - sq := IntWalk.i64_in _ (by omega)
                  have wn2 : IntKind.i64.wrap (seq - sq + 1) = seq - sq + 1 := IntWalk.i64_in _ (by omega)
                  have e0 : decide (sq < 1) = false := decide_eq_false (by omega)
                  have e1 : decide (seq < sq) = false := decide_eq_false (by omega)
                  have e2 : (n != seq - sq + 1) = false := by simp; omega
                  have e3 : decide (cap < n) = false := decide_eq_false (by omega)
                  have e4 : decide (sq ≤ osq) = true := decide_eq_true (by omega)
                  refine wp_region_quiet_lit (by as_aux_lemma => kernel_rfl) (by as_aux_lemma => kernel_rfl) ?_
                  repeat (go_big_quiet_step (fail))
                  refine wpQuiet_nil ?_
                  intro _ hw'
                  obtain ⟨nq, hw''⟩ := hw'
                  subst hw''
                  replace o := o.trans (⟨rfl, rfl, rfl, Nat.le_refl _, fun _ _ => rfl⟩ : Below _ w3 (w3.drewN nq))
                  generalize w3.drewN nq = w4 at  o ⊢
                  go_wp2_with fail
                  go_ret
                  exact ⟨ret_bool E.out.symm, o⟩
                · skip
                  have wn1 : IntKind.i64.wrap (seq - sq) = seq - sq := IntWalk.i64_in _ (by omega)
                  have wn2 : IntKind.i64.wrap (seq - sq + 1) = seq - sq + 1 := IntWalk.i64_in _ (by omega)
                  have e0 : decide (sq < 1) = false := decide_eq_false (by omega)
                  have e1 : decide (seq < sq) = false := decide_eq_false (by omega)
                  have e2 : (n != seq - sq + 1) = false := by simp; omega
                  have e3 : decide (cap < n) = false := decide_eq_false (by omega)
                  have e4 : decide (sq ≤ osq) = false := decide_eq_false (by omega)
                  refine wp_region_quiet_lit (by as_aux_lemma => kernel_rfl) (by as_aux_lemma => kernel_rfl) ?_
                  repeat (go_big_quiet_step (fail))
                  refine wpQuiet_nil ?_
                  intro _ hw'
                  obtain ⟨nq, hw''⟩ := hw'
                  subst hw''
                  replace K : Row (w3.drewN nq) mb 33 #[.int .i64 sq, .int .i64 tk, .int .i64 n, .int .i64 s, .int .i64 q, .int .i64 lo, .int .i64 hi] := K
                  replace o := o.trans (⟨rfl, rfl, rfl, Nat.le_refl _, fun _ _ => rfl⟩ : Below _ w3 (w3.drewN nq))
                  generalize w3.drewN nq = w4 at K o ⊢
                  have x2a : n + sq ≤ seq + 1 := by omega
                  have x2b : seq + 1 ≤ n + sq := by omega
                  clear wn1 wn2 x2 e0 e1 e2 e3 e4 K0 K1 K2 K3 K4 K5 K6 Kf0 Kf1 Kf2 Kf3 Kf4 Kf5 Kf6 q0 q1 q2 q3 q4 q5 q6
                  go_upto_region 8 with (fail)
                  obtain ⟨K0, K1, K2, K3, K4, K5, K6, Kf0, Kf1, Kf2, Kf3, Kf4, Kf5, Kf6⟩ := row_seven K
                  obtain ⟨q0, q1, q2, q3, q4, q5, q6⟩ := HT1.out.below o (by rw [block_of_add]; exact hadb)
                  dsimp only at q0 q1 q2 q3 q4 q5 q6
                  have PT := fun w => rtick tk w
                  have PL := fun (w : World) (h0 : 0 ≤ tk) (h1 : tk ≤ now) => rlive now wd tk w n0 n1 d0 d1 h0 h1
                  by_cases y0 : ¬ (0 ≤ tk ∧ tk ≤ 16777216)
                  · skip
                    have E := Lib.hid (mvalid_bad (l := l) (seq := seq) (cap := cap) (now := now) (wd := wd) (least := least) (i := j) (by rw [HL.out]; exact hlt) (fun a => absurd (AT.out.1 a).1.2.2.2.2 (by omega)))
                    rw [decide_eq_false y0] at PT
                    replace PT := Lib.hid PT
                    refine wp_region_quiet_lit (by as_aux_lemma => kernel_rfl) (by as_aux_lemma => kernel_rfl) ?_
                    repeat (go_big_quiet_step ((go_at_call 83; exact Calls.quiet_of_same (PT.out _))))
                    refine wpQuiet_nil ?_
                    intro _ hw'
                    obtain ⟨nq, hw''⟩ := hw'
                    subst hw''
                    replace o := o.trans (⟨rfl, rfl, rfl, Nat.le_refl _, fun _ _ => rfl⟩ : Below _ w4 (w4.drewN nq))
                    generalize w4.drewN nq = w5 at  o ⊢
                    go_wp2_with fail
                    go_ret
                    exact ⟨ret_bool E.out.symm, o⟩
                  · skip
                    replace y0 : 0 ≤ tk ∧ tk ≤ 16777216 := Decidable.not_not.1 y0
                    rw [decide_eq_true y0] at PT
                    replace PT := Lib.hid PT
                    obtain ⟨y0, y0b⟩ := y0
                    by_cases y1 : now < tk
                    · skip
                      have E := Lib.hid (mvalid_bad (l := l) (seq := seq) (cap := cap) (now := now) (wd := wd) (least := least) (i := j) (by rw [HL.out]; exact hlt) (fun a => absurd (AT.out.1 a).1.2.2.2.2.2 (by omega)))
                      have e1 : decide (now < tk) = true := decide_eq_true (by omega)
                      refine wp_region_quiet_lit (by as_aux_lemma => kernel_rfl) (by as_aux_lemma => kernel_rfl) ?_
                      repeat (go_big_quiet_step ((go_at_call 83; exact Calls.quiet_of_same (PT.out _))))
                      refine wpQuiet_nil ?_
                      intro _ hw'
                      obtain ⟨nq, hw''⟩ := hw'
                      subst hw''
                      replace o := o.trans (⟨rfl, rfl, rfl, Nat.le_refl _, fun _ _ => rfl⟩ : Below _ w4 (w4.drewN nq))
                      generalize w4.drewN nq = w5 at  o ⊢
                      go_wp2_with fail
                      go_ret
                      exact ⟨ret_bool E.out.symm, o⟩
                    · skip
                      have e1 : decide (now < tk) = false := decide_eq_false (by omega)
                      by_cases y2 : tk < otk
                      · skip
                        have E := Lib.hid (mvalid_bad (l := l) (seq := seq) (cap := cap) (now := now) (wd := wd) (least := least) (i := j) (by rw [HL.out]; exact hlt) (fun a => absurd (TW.out.1 ((AT.out.1 a).2.2.2 (by omega))).2.1 (by omega)))
                        have e2 : decide (tk < otk) = true := decide_eq_true (by omega)
                        refine wp_region_quiet_lit (by as_aux_lemma => kernel_rfl) (by as_aux_lemma => kernel_rfl) ?_
                        repeat (go_big_quiet_step ((go_at_call 83; exact Calls.quiet_of_same (PT.out _))))
                        refine wpQuiet_nil ?_
                        intro _ hw'
                        obtain ⟨nq, hw''⟩ := hw'
                        subst hw''
                        replace o := o.trans (⟨rfl, rfl, rfl, Nat.le_refl _, fun _ _ => rfl⟩ : Below _ w4 (w4.drewN nq))
                        generalize w4.drewN nq = w5 at  o ⊢
                        go_wp2_with fail
                        go_ret
                        exact ⟨ret_bool E.out.symm, o⟩
                      · skip
                        have e2 : decide (tk < otk) = false := decide_eq_false (by omega)
                        replace PL := fun w => PL w (by omega) (by omega)
                        by_cases y3 : ¬ now - wd < tk
                        · skip
                          have E := Lib.hid (mvalid_bad (l := l) (seq := seq) (cap := cap) (now := now) (wd := wd) (least := least) (i := j) (by rw [HL.out]; exact hlt) (fun a => y3 ((AT.out.1 a).2.2.1 (.inl (by omega)))))
                          rw [decide_eq_false y3] at PL
                          replace PL := Lib.hid PL
                          refine wp_region_quiet_lit (by as_aux_lemma => kernel_rfl) (by as_aux_lemma => kernel_rfl) ?_
                          repeat (go_big_quiet_step ((first | (go_at_call 83; exact Calls.quiet_of_same (PT.out _)) | (go_at_call 79; exact Calls.quiet_of_same (PL.out _)))))
                          refine wpQuiet_nil ?_
                          intro _ hw'
                          obtain ⟨nq, hw''⟩ := hw'
                          subst hw''
                          replace o := o.trans (⟨rfl, rfl, rfl, Nat.le_refl _, fun _ _ => rfl⟩ : Below _ w4 (w4.drewN nq))
                          generalize w4.drewN nq = w5 at  o ⊢
                          go_wp2_with fail
                          go_ret
                          exact ⟨ret_bool E.out.symm, o⟩
                        · skip
                          replace y3 : now - wd < tk := Decidable.not_not.1 y3
                          rw [decide_eq_true y3] at PL
                          replace PL := Lib.hid PL
                          have LV := Lib.hid y3
                          clear y3
                          refine wp_region_quiet_lit (by as_aux_lemma => kernel_rfl) (by as_aux_lemma => kernel_rfl) ?_
                          repeat (go_big_quiet_step ((first | (go_at_call 83; exact Calls.quiet_of_same (PT.out _)) | (go_at_call 79; exact Calls.quiet_of_same (PL.out _)))))
                          refine wpQuiet_nil ?_
                          intro _ hw'
                          obtain ⟨nq, hw''⟩ := hw'
                          subst hw''
                          replace K : Row (w4.drewN nq) mb 33 #[.int .i64 sq, .int .i64 tk, .int .i64 n, .int .i64 s, .int .i64 q, .int .i64 lo, .int .i64 hi] := K
                          replace o := o.trans (⟨rfl, rfl, rfl, Nat.le_refl _, fun _ _ => rfl⟩ : Below _ w4 (w4.drewN nq))
                          generalize w4.drewN nq = w5 at K o ⊢
                          clear PT PL
                          clear e1 e2 K0 K1 K2 K3 K4 K5 K6 Kf0 Kf1 Kf2 Kf3 Kf4 Kf5 Kf6 q0 q1 q2 q3 q4 q5 q6
                          go_upto_region 10 with (fail)
                          obtain ⟨K0, K1, K2, K3, K4, K5, K6, Kf0, Kf1, Kf2, Kf3, Kf4, Kf5, Kf6⟩ := row_seven K
                          have PV1 := fun w => rvalue agg lo w a0 a1
                          have PV2 := fun w => rvalue agg hi w a0 a1
                          have LE := LEQ.out
                          by_cases v0 : ¬ (leastV agg ≤ lo ∧ lo ≤ 4096)
                          · skip
                            have E := Lib.hid (mvalid_bad (l := l) (seq := seq) (cap := cap) (now := now) (wd := wd) (least := least) (i := j) (by rw [HL.out]; exact hlt) (fun a => v0 (by have h := (AT.out.1 a).2.1; have h1 := h.1; have h2 := h.2.1; have h3 := h.2.2.1; omega)))
                            rw [decide_eq_false v0] at PV1
                            replace PV1 := Lib.hid PV1
                            clear LE v0
                            refine wp_region_quietF ?_
                            repeat (go_big_quiet_step ((go_at_call 101; with_reducible exact Calls.quiet_of_same (PV1.out _))))
                            refine wpQuiet_nil ?_
                            intro _ hw'
                            obtain ⟨nq, hw''⟩ := hw'
                            subst hw''
                            replace o := o.trans (⟨rfl, rfl, rfl, Nat.le_refl _, fun _ _ => rfl⟩ : Below _ w5 (w5.drewN nq))
                            generalize w5.drewN nq = w6 at  o ⊢
                            go_wp2_with fail
                            go_ret
                            exact ⟨ret_bool E.out.symm, o⟩
                          · skip
                            replace v0 := Decidable.not_not.1 v0
                            rw [decide_eq_true v0] at PV1
                            replace PV1 := Lib.hid PV1
                            by_cases v1 : ¬ (leastV agg ≤ hi ∧ hi ≤ 4096)
                            · skip
                              have E := Lib.hid (mvalid_bad (l := l) (seq := seq) (cap := cap) (now := now) (wd := wd) (least := least) (i := j) (by rw [HL.out]; exact hlt) (fun a => v1 (by have h := (AT.out.1 a).2.1; have h1 := h.1; have h2 := h.2.1; have h3 := h.2.2.1; omega)))
                              rw [decide_eq_false v1] at PV2
                              replace PV2 := Lib.hid PV2
                              clear LE v0 v1
                              refine wp_region_quietF ?_
                              repeat (go_big_quiet_step ((first | (go_at_call 101; with_reducible exact Calls.quiet_of_same (PV1.out _)) | (go_at_call 101; with_reducible exact Calls.quiet_of_same (PV2.out _)))))
                              refine wpQuiet_nil ?_
                              intro _ hw'
                              obtain ⟨nq, hw''⟩ := hw'
                              subst hw''
                              replace o := o.trans (⟨rfl, rfl, rfl, Nat.le_refl _, fun _ _ => rfl⟩ : Below _ w5 (w5.drewN nq))
                              generalize w5.drewN nq = w6 at  o ⊢
                              go_wp2_with fail
                              go_ret
                              exact ⟨ret_bool E.out.symm, o⟩
                            · skip
                              replace v1 := Decidable.not_not.1 v1
                              rw [decide_eq_true v1] at PV2
                              replace PV2 := Lib.hid PV2
                              have lo0 : least ≤ lo := by omega
                              have lo1 : -4096 ≤ lo := by omega
                              have lo2 : lo ≤ 4096 := v0.2
                              have hi1 : -4096 ≤ hi := by omega
                              have hi2 : hi ≤ 4096 := v1.2
                              clear LE v0 v1
                              by_cases u0 : hi < lo
                              · skip
                                have E := Lib.hid (mvalid_bad (l := l) (seq := seq) (cap := cap) (now := now) (wd := wd) (least := least) (i := j) (by rw [HL.out]; exact hlt) (fun a => absurd (AT.out.1 a).2.1.2.2.1 (by omega)))
                                have e0 : decide (hi < lo) = true := decide_eq_true (by omega)
                                refine wp_region_quietF ?_
                                repeat (go_big_quiet_step ((first | (go_at_call 101; with_reducible exact Calls.quiet_of_same (PV1.out _)) | (go_at_call 101; with_reducible exact Calls.quiet_of_same (PV2.out _)))))
                                refine wpQuiet_nil ?_
                                intro _ hw'
                                obtain ⟨nq, hw''⟩ := hw'
                                subst hw''
                                replace o := o.trans (⟨rfl, rfl, rfl, Nat.le_refl _, fun _ _ => rfl⟩ : Below _ w5 (w5.drewN nq))
                                generalize w5.drewN nq = w6 at  o ⊢
                                go_wp2_with fail
                                go_ret
                                exact ⟨ret_bool E.out.symm, o⟩
                              · skip
                                by_cases u1 : s < -n * 4096
                                · skip
                                  have E := Lib.hid (mvalid_bad (l := l) (seq := seq) (cap := cap) (now := now) (wd := wd) (least := least) (i := j) (by rw [HL.out]; exact hlt) (fun a => absurd (part_lo (by omega) (AT.out.1 a).2.1.2.2.2 lo1 hi2).1 (by omega)))
                                  have e0 : decide (hi < lo) = false := decide_eq_false (by omega)
                                  have e1 : decide (s < -n * 4096) = true := decide_eq_true (by omega)
                                  have wn : IntKind.i64.wrap (-n) = -n := IntWalk.i64_in _ (by omega)
                                  have wnm : IntKind.i64.wrap (-n * 4096) = -n * 4096 := IntWalk.i64_in _ (by omega)
                                  have wn2 : IntKind.i64.wrap (n * 4096) = n * 4096 := IntWalk.i64_in _ (by omega)
                                  have wn3 : IntKind.i64.wrap (n * 4096 * 4096) = n * 4096 * 4096 := IntWalk.i64_in _ (by omega)
                                  refine wp_region_quietF ?_
                                  repeat (go_big_quiet_step ((first | (go_at_call 101; with_reducible exact Calls.quiet_of_same (PV1.out _)) | (go_at_call 101; with_reducible exact Calls.quiet_of_same (PV2.out _)))))
                                  refine wpQuiet_nil ?_
                                  intro _ hw'
                                  obtain ⟨nq, hw''⟩ := hw'
                                  subst hw''
                                  replace o := o.trans (⟨rfl, rfl, rfl, Nat.le_refl _, fun _ _ => rfl⟩ : Below _ w5 (w5.drewN nq))
                                  generalize w5.drewN nq = w6 at  o ⊢
                                  go_wp2_with fail
                                  go_ret
                                  exact ⟨ret_bool E.out.symm, o⟩
                                · skip
                                  by_cases u2 : n * 4096 < s
                                  · skip
                                    have E := Lib.hid (mvalid_bad (l := l) (seq := seq) (cap := cap) (now := now) (wd := wd) (least := least) (i := j) (by rw [HL.out]; exact hlt) (fun a => absurd (part_lo (by omega) (AT.out.1 a).2.1.2.2.2 lo1 hi2).2 (by omega)))
                                    have e0 : decide (hi < lo) = false := decide_eq_false (by omega)
                                    have e1 : decide (s < -n * 4096) = false := decide_eq_false (by omega)
                                    have e2 : decide (n * 4096 < s) = true := decide_eq_true (by omega)
                                    have wn : IntKind.i64.wrap (-n) = -n := IntWalk.i64_in _ (by omega)
                                    have wnm : IntKind.i64.wrap (-n * 4096) = -n * 4096 := IntWalk.i64_in _ (by omega)
                                    have wn2 : IntKind.i64.wrap (n * 4096) = n * 4096 := IntWalk.i64_in _ (by omega)
                                    have wn3 : IntKind.i64.wrap (n * 4096 * 4096) = n * 4096 * 4096 := IntWalk.i64_in _ (by omega)
                                    refine wp_region_quietF ?_
                                    repeat (go_big_quiet_step ((first | (go_at_call 101; with_reducible exact Calls.quiet_of_same (PV1.out _)) | (go_at_call 101; with_reducible exact Calls.quiet_of_same (PV2.out _)))))
                                    refine wpQuiet_nil ?_
                                    intro _ hw'
                                    obtain ⟨nq, hw''⟩ := hw'
                                    subst hw''
                                    replace o := o.trans (⟨rfl, rfl, rfl, Nat.le_refl _, fun _ _ => rfl⟩ : Below _ w5 (w5.drewN nq))
                                    generalize w5.drewN nq = w6 at  o ⊢
                                    go_wp2_with fail
                                    go_ret
                                    exact ⟨ret_bool E.out.symm, o⟩
                                  · skip
                                    by_cases u3 : q < 0
                                    · skip
                                      have E := Lib.hid (mvalid_bad (l := l) (seq := seq) (cap := cap) (now := now) (wd := wd) (least := least) (i := j) (by rw [HL.out]; exact hlt) (fun a => absurd (AT.out.1 a).2.1.2.2.2.2.2.1 (by omega)))
                                      have e0 : decide (hi < lo) = false := decide_eq_false (by omega)
                                      have e1 : decide (s < -n * 4096) = false := decide_eq_false (by omega)
                                      have e2 : decide (n * 4096 < s) = false := decide_eq_false (by omega)
                                      have e3 : decide (q < 0) = true := decide_eq_true (by omega)
                                      have wn : IntKind.i64.wrap (-n) = -n := IntWalk.i64_in _ (by omega)
                                      have wnm : IntKind.i64.wrap (-n * 4096) = -n * 4096 := IntWalk.i64_in _ (by omega)
                                      have wn2 : IntKind.i64.wrap (n * 4096) = n * 4096 := IntWalk.i64_in _ (by omega)
                                      have wn3 : IntKind.i64.wrap (n * 4096 * 4096) = n * 4096 * 4096 := IntWalk.i64_in _ (by omega)
                                      refine wp_region_quietF ?_
                                      repeat (go_big_quiet_step ((first | (go_at_call 101; with_reducible exact Calls.quiet_of_same (PV1.out _)) | (go_at_call 101; with_reducible exact Calls.quiet_of_same (PV2.out _)))))
                                      refine wpQuiet_nil ?_
                                      intro _ hw'
                                      obtain ⟨nq, hw''⟩ := hw'
                                      subst hw''
                                      replace o := o.trans (⟨rfl, rfl, rfl, Nat.le_refl _, fun _ _ => rfl⟩ : Below _ w5 (w5.drewN nq))
                                      generalize w5.drewN nq = w6 at  o ⊢
                                      go_wp2_with fail
                                      go_ret
                                      exact ⟨ret_bool E.out.symm, o⟩
                                    · skip
                                      by_cases u4 : n * 4096 * 4096 < q
                                      · skip
                                        have E := Lib.hid (mvalid_bad (l := l) (seq := seq) (cap := cap) (now := now) (wd := wd) (least := least) (i := j) (by rw [HL.out]; exact hlt) (fun a => absurd (AT.out.1 a).2.1.2.2.2.2.2.2.1 (by omega)))
                                        have e0 : decide (hi < lo) = false := decide_eq_false (by omega)
                                        have e1 : decide (s < -n * 4096) = false := decide_eq_false (by omega)
                                        have e2 : decide (n * 4096 < s) = false := decide_eq_false (by omega)
                                        have e3 : decide (q < 0) = false := decide_eq_false (by omega)
                                        have e4 : decide (n * 4096 * 4096 < q) = true := decide_eq_true (by omega)
                                        have wn : IntKind.i64.wrap (-n) = -n := IntWalk.i64_in _ (by omega)
                                        have wnm : IntKind.i64.wrap (-n * 4096) = -n * 4096 := IntWalk.i64_in _ (by omega)
                                        have wn2 : IntKind.i64.wrap (n * 4096) = n * 4096 := IntWalk.i64_in _ (by omega)
                                        have wn3 : IntKind.i64.wrap (n * 4096 * 4096) = n * 4096 * 4096 := IntWalk.i64_in _ (by omega)
                                        refine wp_region_quietF ?_
                                        repeat (go_big_quiet_step ((first | (go_at_call 101; with_reducible exact Calls.quiet_of_same (PV1.out _)) | (go_at_call 101; with_reducible exact Calls.quiet_of_same (PV2.out _)))))
                                        refine wpQuiet_nil ?_
                                        intro _ hw'
                                        obtain ⟨nq, hw''⟩ := hw'
                                        subst hw''
                                        replace o := o.trans (⟨rfl, rfl, rfl, Nat.le_refl _, fun _ _ => rfl⟩ : Below _ w5 (w5.drewN nq))
                                        generalize w5.drewN nq = w6 at  o ⊢
                                        go_wp2_with fail
                                        go_ret
                                        exact ⟨ret_bool E.out.symm, o⟩
                                      · skip
                                        have PF := fun w => rpartP n lo hi s q w (by omega) (by omega) lo1 lo2 hi1 hi2
                                        by_cases u5 : ¬ partP n lo hi s q
                                        · skip
                                          have E := Lib.hid (mvalid_bad (l := l) (seq := seq) (cap := cap) (now := now) (wd := wd) (least := least) (i := j) (by rw [HL.out]; exact hlt) (fun a => u5 (AT.out.1 a).2.1.2.2.2))
                                          have e0 : decide (hi < lo) = false := decide_eq_false (by omega)
                                          have e1 : decide (s < -n * 4096) = false := decide_eq_false (by omega)
                                          have e2 : decide (n * 4096 < s) = false := decide_eq_false (by omega)
                                          have e3 : decide (q < 0) = false := decide_eq_false (by omega)
                                          have e4 : decide (n * 4096 * 4096 < q) = false := decide_eq_false (by omega)
                                          have wn : IntKind.i64.wrap (-n) = -n := IntWalk.i64_in _ (by omega)
                                          have wnm : IntKind.i64.wrap (-n * 4096) = -n * 4096 := IntWalk.i64_in _ (by omega)
                                          have wn2 : IntKind.i64.wrap (n * 4096) = n * 4096 := IntWalk.i64_in _ (by omega)
                                          have wn3 : IntKind.i64.wrap (n * 4096 * 4096) = n * 4096 * 4096 := IntWalk.i64_in _ (by omega)
                                          rw [decide_eq_false u5] at PF
                                          replace PF := Lib.hid PF
                                          refine wp_region_quietF ?_
                                          repeat (go_big_quiet_step ((first | (go_at_call 101; with_reducible exact Calls.quiet_of_same (PV1.out _)) | (go_at_call 101; with_reducible exact Calls.quiet_of_same (PV2.out _)) | (go_at_call 102; with_reducible exact Calls.quiet_of_same (PF.out _)))))
                                          refine wpQuiet_nil ?_
                                          intro _ hw'
                                          obtain ⟨nq, hw''⟩ := hw'
                                          subst hw''
                                          replace o := o.trans (⟨rfl, rfl, rfl, Nat.le_refl _, fun _ _ => rfl⟩ : Below _ w5 (w5.drewN nq))
                                          generalize w5.drewN nq = w6 at  o ⊢
                                          go_wp2_with fail
                                          go_ret
                                          exact ⟨ret_bool E.out.symm, o⟩
                                        · skip
                                          have e0 : decide (hi < lo) = false := decide_eq_false (by omega)
                                          have e1 : decide (s < -n * 4096) = false := decide_eq_false (by omega)
                                          have e2 : decide (n * 4096 < s) = false := decide_eq_false (by omega)
                                          have e3 : decide (q < 0) = false := decide_eq_false (by omega)
                                          have e4 : decide (n * 4096 * 4096 < q) = false := decide_eq_false (by omega)
                                          have wn : IntKind.i64.wrap (-n) = -n := IntWalk.i64_in _ (by omega)
                                          have wnm : IntKind.i64.wrap (-n * 4096) = -n * 4096 := IntWalk.i64_in _ (by omega)
                                          have wn2 : IntKind.i64.wrap (n * 4096) = n * 4096 := IntWalk.i64_in _ (by omega)
                                          have wn3 : IntKind.i64.wrap (n * 4096 * 4096) = n * 4096 * 4096 := IntWalk.i64_in _ (by omega)
                                          replace u5 := Decidable.not_not.1 u5
                                          rw [decide_eq_true u5] at PF
                                          replace PF := Lib.hid PF
                                          have Y3 : RowKit.Hid (partP n lo hi s q) := Lib.hid u5
                                          clear u5
                                          refine wp_region_quietF ?_
                                          repeat (go_big_quiet_step ((first | (go_at_call 101; with_reducible exact Calls.quiet_of_same (PV1.out _)) | (go_at_call 101; with_reducible exact Calls.quiet_of_same (PV2.out _)) | (go_at_call 102; with_reducible exact Calls.quiet_of_same (PF.out _)))))
                                          refine wpQuiet_nil ?_
                                          intro _ hw'
                                          obtain ⟨nq, hw''⟩ := hw'
                                          subst hw''
                                          replace K : Row (w5.drewN nq) mb 33 #[.int .i64 sq, .int .i64 tk, .int .i64 n, .int .i64 s, .int .i64 q, .int .i64 lo, .int .i64 hi] := K
                                          replace o := o.trans (⟨rfl, rfl, rfl, Nat.le_refl _, fun _ _ => rfl⟩ : Below _ w5 (w5.drewN nq))
                                          generalize w5.drewN nq = w6 at K o ⊢
                                          clear K0 K1 K2 K3 K4 K5 K6 Kf0 Kf1 Kf2 Kf3 Kf4 Kf5 Kf6
                                          clear PF PV1 PV2 wn wnm wn2 wn3 e0 e1 e2 e3 e4
                                          go_upto_region 12 with (fail)
                                          obtain ⟨K0, K1, K2, K3, K4, K5, K6, Kf0, Kf1, Kf2, Kf3, Kf4, Kf5, Kf6⟩ := row_seven K
                                          have wm : IntKind.i64.wrap ((m : Int) - 1) = (m : Int) - 1 := IntWalk.i64_in _ (by omega)
                                          have bm1 := mul_small (n := n) (x := lo) (by omega) (by omega) lo1 lo2
                                          have bm2 := mul_small (n := n) (x := hi) (by omega) (by omega) hi1 hi2
                                          have G1 := Y3.out.1
                                          have G2 := Y3.out.2.1
                                          have bss := sq_bound (s := s) (B := 268435456) (by omega) (by omega)
                                          have wss : IntKind.i64.wrap (s * s) = s * s := IntWalk.i64_in _ (by omega)
                                          clear G1 G2 bm1 bm2 bss
                                          by_cases jl : j + 1 < m
                                          · as_aux_lemma =>
                                            have jl1 : ((j : Int) == (m : Int) - 1) = false := by simp; omega
                                            have jl2 : ¬ (j : Int) = (m : Int) - 1 := by omega
                                            go_upto_region 15 with (fail)
                                            clear jl1
                                            obtain ⟨q0, q1, q2, q3, q4, q5, q6⟩ := HT1.out.below o (by rw [block_of_add]; exact hadb)
                                            dsimp only at q0 q1 q2 q3 q4 q5 q6
                                            go_upto_region 16 with (fail)
                                            have O : Row (w6.alloc (.cells #[.int .i64 osq, .int .i64 otk, .int .i64 on, .int .i64 os, .int .i64 oq, .int .i64 olo, .int .i64 ohi] 33)) w6.heap.size 33 #[.int .i64 osq, .int .i64 otk, .int .i64 on, .int .i64 os, .int .i64 oq, .int .i64 olo, .int .i64 ohi] := row_new rfl
                                            replace K := row_alloc K (.cells #[.int .i64 osq, .int .i64 otk, .int .i64 on, .int .i64 os, .int .i64 oq, .int .i64 olo, .int .i64 ohi] 33)
                                            have z1 := o.size
                                            replace o := o.alloc o.size (.cells #[.int .i64 osq, .int .i64 otk, .int .i64 on, .int .i64 os, .int .i64 oq, .int .i64 olo, .int .i64 ohi] 33)
                                            generalize (w6.alloc (.cells #[.int .i64 osq, .int .i64 otk, .int .i64 on, .int .i64 os, .int .i64 oq, .int .i64 olo, .int .i64 ohi] 33)) = w7 at O K o ⊢
                                            generalize w6.heap.size = ob at O z1 ⊢
                                            clear q0 q1 q2 q3 q4 q5 q6 K0 K1 K2 K3 K4 K5 K6 Kf0 Kf1 Kf2 Kf3 Kf4 Kf5 Kf6
                                            obtain ⟨K0, K1, K2, K3, K4, K5, K6, Kf0, Kf1, Kf2, Kf3, Kf4, Kf5, Kf6⟩ := row_seven K
                                            obtain ⟨O0, O1, O2, O3, O4, O5, O6, Of0, Of1, Of2, Of3, Of4, Of5, Of6⟩ := row_seven O
                                            obtain ⟨f1, f2, f3, f4, f5⟩ := B10
                                            obtain ⟨g1, g2, g3, g4, g5⟩ := Y3.out
                                            have bo1 := mul_small (n := on) (x := olo) (by omega) (by omega) (by omega) (by omega)
                                            have bo2 := mul_small (n := on) (x := ohi) (by omega) (by omega) (by omega) (by omega)
                                            have bm1 := mul_small (n := n) (x := lo) (by omega) (by omega) (by omega) (by omega)
                                            have bm2 := mul_small (n := n) (x := hi) (by omega) (by omega) (by omega) (by omega)
                                            have wd1 : IntKind.i64.wrap (on - n) = on - n := IntWalk.i64_in _ (by omega)
                                            have wd2 : IntKind.i64.wrap (os - s) = os - s := IntWalk.i64_in _ (by omega)
                                            have wd3 : IntKind.i64.wrap (oq - q) = oq - q := IntWalk.i64_in _ (by omega)
                                            clear f1 f2 f3 f4 f5 g1 g2 g3 g4 g5 bo1 bo2 bm1 bm2
                                            by_cases r0 : lo < olo
                                            · skip
                                              have E := Lib.hid (mvalid_bad (l := l) (seq := seq) (cap := cap) (now := now) (wd := wd) (least := least) (i := j) (by rw [HL.out]; exact hlt) (fun a => absurd (TW.out.1 ((AT.out.1 a).2.2.2 (by omega))).2.2.1 (by omega)))
                                              go_wp2_with fail
                                              go_ret
                                              exact ⟨ret_bool E.out.symm, o⟩
                                            · skip
                                              by_cases r1 : ohi < hi
                                              · skip
                                                have E := Lib.hid (mvalid_bad (l := l) (seq := seq) (cap := cap) (now := now) (wd := wd) (least := least) (i := j) (by rw [HL.out]; exact hlt) (fun a => absurd (TW.out.1 ((AT.out.1 a).2.2.2 (by omega))).2.2.2.1 (by omega)))
                                                go_wp2_with fail
                                                go_ret
                                                exact ⟨ret_bool E.out.symm, o⟩
                                              · skip
                                                have PF := fun w => rpartP (on - n) olo ohi (os - s) (oq - q) w (by omega) (by omega) (by omega) (by omega) (by omega) (by omega)
                                                by_cases r2 : ¬ partP (on - n) olo ohi (os - s) (oq - q)
                                                · skip
                                                  have E := Lib.hid (mvalid_bad (l := l) (seq := seq) (cap := cap) (now := now) (wd := wd) (least := least) (i := j) (by rw [HL.out]; exact hlt) (fun a => r2 (TW.out.1 ((AT.out.1 a).2.2.2 (by omega))).2.2.2.2))
                                                  rw [decide_eq_false r2] at PF
                                                  replace PF := Lib.hid PF
                                                  go_wp2_with (go_at_call 102; with_reducible refine (PF.out _).mono ?_; rintro e w9 ⟨rfl, h9⟩; obtain rfl := h9.symm)
                                                  go_ret
                                                  exact ⟨ret_bool E.out.symm, o⟩
                                                · skip
                                                  replace r2 := Decidable.not_not.1 r2
                                                  rw [decide_eq_true r2] at PF
                                                  replace PF := Lib.hid PF
                                                  have V4 : RowKit.Hid (partP (on - n) olo ohi (os - s) (oq - q)) := Lib.hid r2
                                                  clear r2
                                                  go_upto_region 18 with (go_at_call 102; with_reducible refine (PF.out _).mono ?_; rintro e w9 ⟨rfl, h9⟩; obtain rfl := h9.symm)
                                                  clear PF
                                                  have HA2 : RowKit.Hid (∀ e, e < j + 1 → atP l seq cap now wd least e) := Lib.hid (fun e he => by
                                                    rcases Nat.lt_or_ge e j with g | g
                                                    · exact HA.out e g
                                                    · rw [show e = j by omega]
                                                      exact (AT.out.2 ⟨⟨by omega, by omega, by omega, by omega, by omega, by omega⟩, ⟨by omega, by omega, by omega, Y3.out⟩, (fun _ => LV.out), (fun _ => TW.out.2 ⟨by omega, by omega, by omega, by omega, V4.out⟩)⟩))
                                                  have HZ2 : RowKit.Hid (j + 1 = m → j + 1 ≠ 0 → lastP seq (mkAt l (j + 1 - 1))) := Lib.hid (fun h => absurd h (by omega))
                                                  go_wp2
                                                  go_roundw
                                                  case rel => exact ⟨j + 1, by omega, (by first | go_num | exact congrArg (Value.int .i64) (by omega)), HA2, HZ2, o⟩
                                                  case measure => simp [intOf]; omega
                                          · as_aux_lemma =>
                                            have jl1 : ((j : Int) == (m : Int) - 1) = true := by simp; omega
                                            have LS : RowKit.Hid (mvalid l seq cap now wd least → sq = seq ∧ lo = s ∧ hi = s ∧ q = s * s) := Lib.hid (fun a => by
                                              have h := a.2.2.2 (by rw [HL.out]; omega)
                                              rw [show l.length - 1 = j by have := HL.out; omega, HM.out] at h
                                              exact h)
                                            have JL := Lib.hid jl
                                            clear jl
                                            by_cases t0 : sq ≠ seq
                                            · skip
                                              have tb0 : (sq != seq) = true := by simpa using t0
                                              have E := Lib.hid (show decide (mvalid l seq cap now wd least) = false from decide_eq_false (fun a => t0 (LS.out a).1))
                                              clear t0
                                              go_wp2_with fail
                                              go_ret
                                              exact ⟨ret_bool E.out.symm, o⟩
                                            · skip
                                              have tb0 : (sq != seq) = false := by simp; omega
                                              have T0 := Lib.hid (Decidable.not_not.1 t0)
                                              clear t0
                                              by_cases t1 : lo ≠ s
                                              · skip
                                                have tb1 : (lo != s) = true := by simpa using t1
                                                have E := Lib.hid (show decide (mvalid l seq cap now wd least) = false from decide_eq_false (fun a => t1 (LS.out a).2.1))
                                                clear t1
                                                go_wp2_with fail
                                                go_ret
                                                exact ⟨ret_bool E.out.symm, o⟩
                                              · skip
                                                have tb1 : (lo != s) = false := by simp; omega
                                                have T1 := Lib.hid (Decidable.not_not.1 t1)
                                                clear t1
                                                by_cases t2 : hi ≠ s
                                                · skip
                                                  have tb2 : (hi != s) = true := by simpa using t2
                                                  have E := Lib.hid (show decide (mvalid l seq cap now wd least) = false from decide_eq_false (fun a => t2 (LS.out a).2.2.1))
                                                  clear t2
                                                  go_wp2_with fail
                                                  go_ret
                                                  exact ⟨ret_bool E.out.symm, o⟩
                                                · skip
                                                  have tb2 : (hi != s) = false := by simp; omega
                                                  have T2 := Lib.hid (Decidable.not_not.1 t2)
                                                  clear t2
                                                  by_cases t3 : q ≠ s * s
                                                  · skip
                                                    have tb3 : (q != s * s) = true := by simpa using t3
                                                    have E := Lib.hid (show decide (mvalid l seq cap now wd least) = false from decide_eq_false (fun a => t3 (LS.out a).2.2.2))
                                                    clear t3
                                                    go_wp2_with fail
                                                    go_ret
                                                    exact ⟨ret_bool E.out.symm, o⟩
                                                  · skip
                                                    have tb3 : (q != s * s) = false := by simp; omega
                                                    have T3 := Lib.hid (Decidable.not_not.1 t3)
                                                    clear t3
                                                    go_upto_region 15 with (fail)
                                                    clear jl1
                                                    obtain ⟨q0, q1, q2, q3, q4, q5, q6⟩ := HT1.out.below o (by rw [block_of_add]; exact hadb)
                                                    dsimp only at q0 q1 q2 q3 q4 q5 q6
                                                    go_upto_region 16 with (fail)
                                                    have O : Row (w6.alloc (.cells #[.int .i64 osq, .int .i64 otk, .int .i64 on, .int .i64 os, .int .i64 oq, .int .i64 olo, .int .i64 ohi] 33)) w6.heap.size 33 #[.int .i64 osq, .int .i64 otk, .int .i64 on, .int .i64 os, .int .i64 oq, .int .i64 olo, .int .i64 ohi] := row_new rfl
                                                    replace K := row_alloc K (.cells #[.int .i64 osq, .int .i64 otk, .int .i64 on, .int .i64 os, .int .i64 oq, .int .i64 olo, .int .i64 ohi] 33)
                                                    have z1 := o.size
                                                    replace o := o.alloc o.size (.cells #[.int .i64 osq, .int .i64 otk, .int .i64 on, .int .i64 os, .int .i64 oq, .int .i64 olo, .int .i64 ohi] 33)
                                                    generalize (w6.alloc (.cells #[.int .i64 osq, .int .i64 otk, .int .i64 on, .int .i64 os, .int .i64 oq, .int .i64 olo, .int .i64 ohi] 33)) = w7 at O K o ⊢
                                                    generalize w6.heap.size = ob at O z1 ⊢
                                                    clear q0 q1 q2 q3 q4 q5 q6 K0 K1 K2 K3 K4 K5 K6 Kf0 Kf1 Kf2 Kf3 Kf4 Kf5 Kf6
                                                    obtain ⟨K0, K1, K2, K3, K4, K5, K6, Kf0, Kf1, Kf2, Kf3, Kf4, Kf5, Kf6⟩ := row_seven K
                                                    obtain ⟨O0, O1, O2, O3, O4, O5, O6, Of0, Of1, Of2, Of3, Of4, Of5, Of6⟩ := row_seven O
                                                    obtain ⟨f1, f2, f3, f4, f5⟩ := B10
                                                    obtain ⟨g1, g2, g3, g4, g5⟩ := Y3.out
                                                    have bo1 := mul_small (n := on) (x := olo) (by omega) (by omega) (by omega) (by omega)
                                                    have bo2 := mul_small (n := on) (x := ohi) (by omega) (by omega) (by omega) (by omega)
                                                    have bm1 := mul_small (n := n) (x := lo) (by omega) (by omega) (by omega) (by omega)
                                                    have bm2 := mul_small (n := n) (x := hi) (by omega) (by omega) (by omega) (by omega)
                                                    have wd1 : IntKind.i64.wrap (on - n) = on - n := IntWalk.i64_in _ (by omega)
                                                    have wd2 : IntKind.i64.wrap (os - s) = os - s := IntWalk.i64_in _ (by omega)
                                                    have wd3 : IntKind.i64.wrap (oq - q) = oq - q := IntWalk.i64_in _ (by omega)
                                                    clear f1 f2 f3 f4 f5 g1 g2 g3 g4 g5 bo1 bo2 bm1 bm2
                                                    by_cases r0 : lo < olo
                                                    · skip
                                                      have E := Lib.hid (mvalid_bad (l := l) (seq := seq) (cap := cap) (now := now) (wd := wd) (least := least) (i := j) (by rw [HL.out]; exact hlt) (fun a => absurd (TW.out.1 ((AT.out.1 a).2.2.2 (by omega))).2.2.1 (by omega)))
                                                      go_wp2_with fail
                                                      go_ret
                                                      exact ⟨ret_bool E.out.symm, o⟩
                                                    · skip
                                                      by_cases r1 : ohi < hi
                                                      · skip
                                                        have E := Lib.hid (mvalid_bad (l := l) (seq := seq) (cap := cap) (now := now) (wd := wd) (least := least) (i := j) (by rw [HL.out]; exact hlt) (fun a => absurd (TW.out.1 ((AT.out.1 a).2.2.2 (by omega))).2.2.2.1 (by omega)))
                                                        go_wp2_with fail
                                                        go_ret
                                                        exact ⟨ret_bool E.out.symm, o⟩
                                                      · skip
                                                        have PF := fun w => rpartP (on - n) olo ohi (os - s) (oq - q) w (by omega) (by omega) (by omega) (by omega) (by omega) (by omega)
                                                        by_cases r2 : ¬ partP (on - n) olo ohi (os - s) (oq - q)
                                                        · skip
                                                          have E := Lib.hid (mvalid_bad (l := l) (seq := seq) (cap := cap) (now := now) (wd := wd) (least := least) (i := j) (by rw [HL.out]; exact hlt) (fun a => r2 (TW.out.1 ((AT.out.1 a).2.2.2 (by omega))).2.2.2.2))
                                                          rw [decide_eq_false r2] at PF
                                                          replace PF := Lib.hid PF
                                                          go_wp2_with (go_at_call 102; with_reducible refine (PF.out _).mono ?_; rintro e w9 ⟨rfl, h9⟩; obtain rfl := h9.symm)
                                                          go_ret
                                                          exact ⟨ret_bool E.out.symm, o⟩
                                                        · skip
                                                          replace r2 := Decidable.not_not.1 r2
                                                          rw [decide_eq_true r2] at PF
                                                          replace PF := Lib.hid PF
                                                          have V4 : RowKit.Hid (partP (on - n) olo ohi (os - s) (oq - q)) := Lib.hid r2
                                                          clear r2
                                                          go_upto_region 18 with (go_at_call 102; with_reducible refine (PF.out _).mono ?_; rintro e w9 ⟨rfl, h9⟩; obtain rfl := h9.symm)
                                                          clear PF
                                                          have HA2 : RowKit.Hid (∀ e, e < j + 1 → atP l seq cap now wd least e) := Lib.hid (fun e he => by
                                                            rcases Nat.lt_or_ge e j with g | g
                                                            · exact HA.out e g
                                                            · rw [show e = j by omega]
                                                              exact (AT.out.2 ⟨⟨by omega, by omega, by omega, by omega, by omega, by omega⟩, ⟨by omega, by omega, by omega, Y3.out⟩, (fun _ => LV.out), (fun _ => TW.out.2 ⟨by omega, by omega, by omega, by omega, V4.out⟩)⟩))
                                                          have HZ2 : RowKit.Hid (j + 1 = m → j + 1 ≠ 0 → lastP seq (mkAt l (j + 1 - 1))) := Lib.hid (fun _ _ => (by rw [show j + 1 - 1 = j by omega, HM.out]; exact ⟨T0.out, T1.out, T2.out, T3.out⟩))
                                                          go_wp2
                                                          go_roundw
                                                          case rel => exact ⟨j + 1, by omega, (by first | go_num | exact congrArg (Value.int .i64) (by omega)), HA2, HZ2, o⟩
                                                          case measure => simp [intOf]; omega
    · have i1 : ¬ (j : Int) < (m : Int) := by omega
      obtain rfl : j = m := by omega
      have E := Lib.hid (show decide (mvalid l seq cap now wd least) = true from decide_eq_true ⟨s0, s1, fun i hi => HA.out i (by rw [HL.out] at hi; exact hi), fun h => by rw [HL.out] at h ⊢; exact HZ.out rfl h⟩)
      clear HA HZ
      go_wp2
      go_ret
      exact ⟨ret_bool E.out.symm, o⟩
theorem rmarks (A : Option Addr) (m c : Nat) (l : List Mk) (agg wd cap now seq : Int) (w : World) (hin : MIn A m c l w) (a0 : 1 ≤ agg) (a1 : agg ≤ 4) (sB : I64 seq) (c0 : 1 ≤ cap) (c1 : cap ≤ 65536) (n0 : 0 ≤ now) (n1 : now ≤ 16777216) (d0 : 1 ≤ wd) (d1 : wd ≤ 1048576) : Calls Try.prog 67 #[.slice A m c, .int .i64 agg, .int .i64 wd, .int .i64 cap, .int .i64 now, .int .i64 seq] w fun e w' => e = .returned (.bool (decide (mvalid l seq cap now wd (leastV agg)))) ∧ Below w.heap.size w w' := by
  by_cases h : seq < 0
  · exact rmarks_a A m c l agg wd cap now seq w h
  · by_cases h1 : 1099511627776 < seq
    · exact rmarks_b A m c l agg wd cap now seq w (by omega) h1
    · by_cases m1 : m = 1
      · subst m1
        exact rmarks_one A c l agg wd cap now seq w hin a0 a1 sB c0 c1 n0 n1 d0 d1 (by omega) (by omega)
      · exact rmarks_main A m c l agg wd cap now seq w hin a0 a1 sB c0 c1 n0 n1 d0 d1 (by omega) (by omega) m1
end Go.Proofs.Ytaiepjcnncajcaa
