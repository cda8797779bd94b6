/- What the law TopTwoWays needs, joined of its texts by a program (slim.py); part 3. -/
import Derived.Test.YtdipoojjlddohaaGreatZTopTwoWays2
section
/- Marks of smooth histograms: the program's check, walked. -/
set_option linter.unusedVariables false
set_option linter.unusedSimpArgs false
set_option linter.unusedSectionVars false
set_option linter.unnecessarySimpa false
namespace Go.Proofs.YtdipoojjlddohaaGreat
open Go.RowKit
theorem mvalid_bad {l : List Mk} {seq cap now wd least : Int} {i : Nat} (hi : i < l.length) (h : ¬ atP l seq cap now wd least i) : decide (mvalid l seq cap now wd least) = false := decide_eq_false (fun a => h (a.2.2.1 i hi))
/-- What a place asks, flat. -/
theorem at_flat {l : List Mk} {seq cap now wd least : Int} {i : Nat} {sq tk n s q lo hi : Int} (hM : mkAt l i = ⟨sq, tk, n, s, q, lo, hi⟩) : atP l seq cap now wd least i ↔ (1 ≤ sq ∧ sq ≤ seq ∧ n = seq - sq + 1 ∧ n ≤ cap ∧ 0 ≤ tk ∧ tk ≤ now) ∧ (least ≤ lo ∧ hi ≤ 4096 ∧ lo ≤ hi ∧ partP n lo hi s q) ∧ ((0 < i ∨ l.length = 1) → now - wd < tk) ∧ (0 < i → twoP (mkAt l (i - 1)) (mkAt l i)) := by
  unfold atP
  rw [hM]
  constructor
  · rintro ⟨⟨a1, a2, a3, a4, a5, a6, a7, a8, a9, a10⟩, b, c⟩
    exact ⟨⟨a1, a2, a3, a4, a5, a6⟩, ⟨a7, a8, a9, a10⟩, b, c⟩
  · rintro ⟨⟨a1, a2, a3, a4, a5, a6⟩, ⟨a7, a8, a9, a10⟩, b, c⟩
    exact ⟨⟨a1, a2, a3, a4, a5, a6, a7, a8, a9, a10⟩, b, c⟩
theorem two_flat {osq otk on os oq olo ohi sq tk n s q lo hi : Int} : twoP ⟨osq, otk, on, os, oq, olo, ohi⟩ ⟨sq, tk, n, s, q, lo, hi⟩ ↔ osq < sq ∧ otk ≤ tk ∧ olo ≤ lo ∧ hi ≤ ohi ∧ partP (on - n) olo ohi (os - s) (oq - q) := Iff.rfl
set_option maxRecDepth 100000 in
theorem pmvalid_a (A : Option Addr) (m c : Nat) (l : List Mk) (seq cap now wd least : Int) (w : World) (h : seq < 0) : Calls Tryz.prog 229 #[.slice A m c, .int .i64 seq, .int .i64 cap, .int .i64 now, .int .i64 wd, .int .i64 least] w fun e w' => e = .returned (.bool (decide (mvalid l seq cap now wd least))) ∧ Below w.heap.size w w' := by
  have E := Lib.hid (show decide (mvalid l seq cap now wd least) = false from decide_eq_false (fun a => absurd a.1 (by omega)))
  go_enter Tryz.func229, Tryz.ntmps229
  go_wp2
  go_ret
  exact ⟨ret_bool E.out.symm, Below.refl _ _⟩
set_option maxRecDepth 100000 in
theorem pmvalid_b (A : Option Addr) (m c : Nat) (l : List Mk) (seq cap now wd least : Int) (w : World) (h0 : 0 ≤ seq) (h : 1099511627776 < seq) : Calls Tryz.prog 229 #[.slice A m c, .int .i64 seq, .int .i64 cap, .int .i64 now, .int .i64 wd, .int .i64 least] w fun e w' => e = .returned (.bool (decide (mvalid l seq cap now wd least))) ∧ Below w.heap.size w w' := by
  have E := Lib.hid (show decide (mvalid l seq cap now wd least) = false from decide_eq_false (fun a => absurd a.2.1 (by omega)))
  go_enter Tryz.func229, Tryz.ntmps229
  go_wp2
  go_ret
  exact ⟨ret_bool E.out.symm, Below.refl _ _⟩
set_option maxRecDepth 100000 in
set_option maxHeartbeats 8000000 in
theorem pmvalid_one (A : Option Addr) (c : Nat) (l : List Mk) (seq cap now wd least : Int) (w : World) (hin : MIn A 1 c l w) (sB : I64 seq) (c0 : 1 ≤ cap) (c1 : cap ≤ 65536) (n0 : 0 ≤ now) (n1 : now ≤ 16777216) (d0 : 1 ≤ wd) (d1 : wd ≤ 1048576) (e0 : -4096 ≤ least) (s0 : 0 ≤ seq) (s1 : seq ≤ 1099511627776) : Calls Tryz.prog 229 #[.slice A 1 c, .int .i64 seq, .int .i64 cap, .int .i64 now, .int .i64 wd, .int .i64 least] w fun e w' => e = .returned (.bool (decide (mvalid l seq cap now wd least))) ∧ Below w.heap.size w w' := by
  have HR := Lib.hid hin
  have HL := Lib.hid hin.len
  have mB := hin.max
  have t0 : ¬ seq < 0 := by omega
  have t1 : ¬ 1099511627776 < seq := by omega
  clear hin sB
  go_enter Tryz.func229, Tryz.ntmps229
  go_wp2
  clear t0 t1
  go_loopw [25] (fun i wr => ∃ j : Nat, j ≤ 1 ∧ i = .int .i64 (j : Nat) ∧ RowKit.Hid (∀ e, e < j → atP l seq cap now wd least e) ∧ Below w.heap.size w wr) (fun i _ => 1 - (intOf i).toNat)
  case atStart => exact ⟨0, by omega, rfl, Lib.hid (fun e h => absurd h (by omega)), Below.refl _ _⟩
  case round =>
    obtain ⟨j, hj, rfl, HA, o⟩ := hrel
    by_cases hlt : j < 1
    · obtain rfl : j = 0 := by omega
      obtain ⟨ad, rfl, hadb, ht0⟩ := HR.out.reads.mk hlt
      have hB := HR.out.mB 0
      have ht0 : MkCells w ad (mkAt l 0) := ht0
      generalize hM : mkAt l 0 = mj at ht0 hB
      obtain ⟨sq, tk, n, s, q, lo, hi⟩ := mj
      obtain ⟨q0, q1, q2, q3, q4, q5, q6⟩ := ht0.below o hadb
      have AT := Lib.hid (at_flat (seq := seq) (cap := cap) (now := now) (wd := wd) (least := least) hM)
      have HM := Lib.hid hM
      obtain ⟨hB0, hB1, hB2, hB3, hB4, hB5, hB6⟩ := hB
      unfold I64 at hB0 hB1 hB2 hB3 hB4 hB5 hB6
      have i1 : (0 : Int) < 1 := by omega
      dsimp only at q0 q1 q2 q3 q4 q5 q6 hB0 hB1 hB2 hB3 hB4 hB5 hB6
      clear hM ht0
      go_upto_region 6 with (fail)
      have K : Row (wr.alloc (.cells #[.int .i64 sq, .int .i64 tk, .int .i64 n, .int .i64 s, .int .i64 q, .int .i64 lo, .int .i64 hi] 228)) wr.heap.size 228 #[.int .i64 sq, .int .i64 tk, .int .i64 n, .int .i64 s, .int .i64 q, .int .i64 lo, .int .i64 hi] := row_new rfl
      have z0 := o.size
      replace o := o.alloc o.size (.cells #[.int .i64 sq, .int .i64 tk, .int .i64 n, .int .i64 s, .int .i64 q, .int .i64 lo, .int .i64 hi] 228)
      have zm : wr.heap.size < (wr.alloc (.cells #[.int .i64 sq, .int .i64 tk, .int .i64 n, .int .i64 s, .int .i64 q, .int .i64 lo, .int .i64 hi] 228)).heap.size := row_lt K
      generalize (wr.alloc (.cells #[.int .i64 sq, .int .i64 tk, .int .i64 n, .int .i64 s, .int .i64 q, .int .i64 lo, .int .i64 hi] 228)) = w3 at K o zm ⊢
      generalize wr.heap.size = mb at K z0 zm ⊢
      clear q0 q1 q2 q3 q4 q5 q6
      obtain ⟨K0, K1, K2, K3, K4, K5, K6, Kf0, Kf1, Kf2, Kf3, Kf4, Kf5, Kf6⟩ := row_seven K
      by_cases x0 : sq < 1
      · skip
        have E := Lib.hid (mvalid_bad (l := l) (seq := seq) (cap := cap) (now := now) (wd := wd) (least := least) (i := 0) (by rw [HL.out]; exact hlt) (fun a => absurd (AT.out.1 a).1.1 (by omega)))
        go_wp2_with fail
        go_ret
        exact ⟨ret_bool E.out.symm, o⟩
      · skip
        by_cases x1 : seq < sq
        · skip
          have E := Lib.hid (mvalid_bad (l := l) (seq := seq) (cap := cap) (now := now) (wd := wd) (least := least) (i := 0) (by rw [HL.out]; exact hlt) (fun a => absurd (AT.out.1 a).1.2.1 (by omega)))
          go_wp2_with fail
          go_ret
          exact ⟨ret_bool E.out.symm, o⟩
        · skip
          by_cases x2 : n ≠ seq - sq + 1
          · skip
            have wn1 : IntKind.i64.wrap (seq - sq) = seq - sq := IntWalk.i64_in _ (by omega)
            have wn2 : IntKind.i64.wrap (seq - sq + 1) = seq - sq + 1 := IntWalk.i64_in _ (by omega)
            have dn : (n != seq - sq + 1) = true := by simpa using x2
            have E := Lib.hid (mvalid_bad (l := l) (seq := seq) (cap := cap) (now := now) (wd := wd) (least := least) (i := 0) (by rw [HL.out]; exact hlt) (fun a => absurd (AT.out.1 a).1.2.2.1 (by omega)))
            go_wp2_with fail
            go_ret
            exact ⟨ret_bool E.out.symm, o⟩
          · skip
            by_cases x3 : cap < n
            · skip
              have wn1 : IntKind.i64.wrap (seq - sq) = seq - sq := IntWalk.i64_in _ (by omega)
              have wn2 : IntKind.i64.wrap (seq - sq + 1) = seq - sq + 1 := IntWalk.i64_in _ (by omega)
              have dn : (n != seq - sq + 1) = false := by simp; omega
              have E := Lib.hid (mvalid_bad (l := l) (seq := seq) (cap := cap) (now := now) (wd := wd) (least := least) (i := 0) (by rw [HL.out]; exact hlt) (fun a => absurd (AT.out.1 a).1.2.2.2.1 (by omega)))
              go_wp2_with fail
              go_ret
              exact ⟨ret_bool E.out.symm, o⟩
            · skip
              by_cases x4 : tk < 0
              · skip
                have wn1 : IntKind.i64.wrap (seq - sq) = seq - sq := IntWalk.i64_in _ (by omega)
                have wn2 : IntKind.i64.wrap (seq - sq + 1) = seq - sq + 1 := IntWalk.i64_in _ (by omega)
                have dn : (n != seq - sq + 1) = false := by simp; omega
                have E := Lib.hid (mvalid_bad (l := l) (seq := seq) (cap := cap) (now := now) (wd := wd) (least := least) (i := 0) (by rw [HL.out]; exact hlt) (fun a => absurd (AT.out.1 a).1.2.2.2.2.1 (by omega)))
                go_wp2_with fail
                go_ret
                exact ⟨ret_bool E.out.symm, o⟩
              · skip
                by_cases x5 : now < tk
                · skip
                  have wn1 : IntKind.i64.wrap (seq - sq) = seq - sq := IntWalk.i64_in _ (by omega)
                  have wn2 : IntKind.i64.wrap (seq - sq + 1) = seq - sq + 1 := IntWalk.i64_in _ (by omega)
                  have dn : (n != seq - sq + 1) = false := by simp; omega
                  have E := Lib.hid (mvalid_bad (l := l) (seq := seq) (cap := cap) (now := now) (wd := wd) (least := least) (i := 0) (by rw [HL.out]; exact hlt) (fun a => absurd (AT.out.1 a).1.2.2.2.2.2 (by omega)))
                  go_wp2_with fail
                  go_ret
                  exact ⟨ret_bool E.out.symm, o⟩
                · skip
                  have wn1 : IntKind.i64.wrap (seq - sq) = seq - sq := IntWalk.i64_in _ (by omega)
                  have wn2 : IntKind.i64.wrap (seq - sq + 1) = seq - sq + 1 := IntWalk.i64_in _ (by omega)
                  have dn : (n != seq - sq + 1) = false := by simp; omega
                  go_upto_region 8 with (fail)
                  have x2a : n + sq ≤ seq + 1 := by omega
                  have x2b : seq + 1 ≤ n + sq := by omega
                  clear dn wn1 wn2 x2
                  by_cases y0 : lo < least
                  · skip
                    have E := Lib.hid (mvalid_bad (l := l) (seq := seq) (cap := cap) (now := now) (wd := wd) (least := least) (i := 0) (by rw [HL.out]; exact hlt) (fun a => absurd (AT.out.1 a).2.1.1 (by omega)))
                    go_wp2_with fail
                    go_ret
                    exact ⟨ret_bool E.out.symm, o⟩
                  · skip
                    by_cases y1 : 4096 < hi
                    · skip
                      have E := Lib.hid (mvalid_bad (l := l) (seq := seq) (cap := cap) (now := now) (wd := wd) (least := least) (i := 0) (by rw [HL.out]; exact hlt) (fun a => absurd (AT.out.1 a).2.1.2.1 (by omega)))
                      go_wp2_with fail
                      go_ret
                      exact ⟨ret_bool E.out.symm, o⟩
                    · skip
                      by_cases y2 : hi < lo
                      · skip
                        have E := Lib.hid (mvalid_bad (l := l) (seq := seq) (cap := cap) (now := now) (wd := wd) (least := least) (i := 0) (by rw [HL.out]; exact hlt) (fun a => absurd (AT.out.1 a).2.1.2.2.1 (by omega)))
                        go_wp2_with fail
                        go_ret
                        exact ⟨ret_bool E.out.symm, o⟩
                      · skip
                        have PF := fun w => pfitsP n lo hi s q w (by omega) (by omega) (by omega) (by omega) (by omega) (by omega)
                        by_cases y3 : partP n lo hi s q
                        rotate_left
                        · rw [decide_eq_false y3] at PF
                          replace PF := Lib.hid PF
                          clear HA
                          have E := Lib.hid (mvalid_bad (l := l) (seq := seq) (cap := cap) (now := now) (wd := wd) (least := least) (i := 0) (by rw [HL.out]; exact hlt) (fun a => y3 (AT.out.1 a).2.1.2.2.2))
                          go_wp2_with (go_at_call 268; with_reducible refine (PF.out _).mono ?_; rintro e w9 ⟨rfl, h9⟩; obtain rfl := h9.symm)
                          go_ret
                          exact ⟨ret_bool E.out.symm, o⟩
                        rw [decide_eq_true y3] at PF
                        replace PF := Lib.hid PF
                        have Y3 := Lib.hid y3
                        clear y3
                        go_upto_region 10 with (go_at_call 268; with_reducible refine (PF.out _).mono ?_; rintro e w9 ⟨rfl, h9⟩; obtain rfl := h9.symm)
                        clear PF
                        have PL := fun w => plive now wd tk w n0 n1 d0 d1 (by omega) (by omega)
                        by_cases lv : now - wd < tk
                        rotate_left
                        · rw [decide_eq_false lv] at PL
                          replace PL := Lib.hid PL
                          clear HA
                          have E := Lib.hid (mvalid_bad (l := l) (seq := seq) (cap := cap) (now := now) (wd := wd) (least := least) (i := 0) (by rw [HL.out]; exact hlt) (fun a => lv ((AT.out.1 a).2.2.1 (.inr HL.out))))
                          go_wp2_with (go_at_call 137; with_reducible refine (PL.out _).mono ?_; rintro e w9 ⟨rfl, h9⟩; obtain rfl := h9.symm)
                          go_ret
                          exact ⟨ret_bool E.out.symm, o⟩
                        rw [decide_eq_true lv] at PL
                        replace PL := Lib.hid PL
                        have LV := Lib.hid lv
                        clear lv
                        go_upto_region 12 with (go_at_call 137; with_reducible refine (PL.out _).mono ?_; rintro e w9 ⟨rfl, h9⟩; obtain rfl := h9.symm)
                        clear PL
                        have HA2 : RowKit.Hid (∀ e, e < 0 + 1 → atP l seq cap now wd least e) := Lib.hid (fun e he => by
                          rcases Nat.lt_or_ge e 0 with g | g
                          · exact HA.out e g
                          · rw [show e = 0 by omega]
                            exact (AT.out.2 ⟨⟨by omega, by omega, by omega, by omega, by omega, by omega⟩, ⟨by omega, by omega, by omega, Y3.out⟩, (fun _ => LV.out), (fun h => absurd h (by omega))⟩))
                        go_wp2
                        go_roundw
                        case rel => exact ⟨0 + 1, by omega, by go_num, HA2, o⟩
                        case measure => simp [intOf]
    · have i1 : ¬ (j : Int) < 1 := by omega
      obtain rfl : j = 1 := by omega
      have m0 : (1 : Nat) ≠ 0 := by decide
      obtain ⟨ad, rfl, hadb, ht0⟩ := HR.out.reads.mk (i := 0) (by omega)
      have hOP := HA.out 0 (by omega)
      have ht0 : MkCells w ad (mkAt l 0) := ht0
      generalize hM : mkAt l 0 = mj at ht0
      obtain ⟨sq, tk, n, s, q, lo, hi⟩ := mj
      obtain ⟨⟨b1, b2, b3, b4, b5, b6⟩, ⟨b7, b8, b9, ⟨f1, f2, f3, f4, f5⟩⟩, _⟩ := (at_flat hM).1 hOP
      obtain ⟨q0, q1, q2, q3, q4, q5, q6⟩ := ht0.below o hadb
      have bm1 := mul_small (n := n) (x := lo) (by omega) (by omega) (by omega) (by omega)
      have bm2 := mul_small (n := n) (x := hi) (by omega) (by omega) (by omega) (by omega)
      have bss := sq_bound (s := s) (B := 268435456) (by omega) (by omega)
      have wss : IntKind.i64.wrap (s * s) = s * s := IntWalk.i64_in _ (by omega)
      have LS : RowKit.Hid (mvalid l seq cap now wd least ↔ sq = seq ∧ lo = s ∧ hi = s ∧ q = s * s) := Lib.hid (by
        have e1 : l.length - 1 = 0 := by rw [HL.out]
        have e2 : l.length ≠ 0 := by rw [HL.out]; exact m0
        constructor
        · intro a
          have := a.2.2.2 e2
          rw [e1, hM] at this
          exact this
        · intro a
          refine ⟨s0, s1, fun i hi => HA.out i (by rw [HL.out] at hi; exact hi), fun _ => ?_⟩
          rw [e1, hM]
          exact a)
      dsimp only at q0 q1 q2 q3 q4 q5 q6
      clear hM ht0 hOP HA f1 f2 f3 f4 f5 bm1 bm2 bss b1 b2 b3 b4 b5 b6 b7 b8 b9
      go_upto_region 20 with (fail)
      have K : Row (wr.alloc (.cells #[.int .i64 sq, .int .i64 tk, .int .i64 n, .int .i64 s, .int .i64 q, .int .i64 lo, .int .i64 hi] 228)) wr.heap.size 228 #[.int .i64 sq, .int .i64 tk, .int .i64 n, .int .i64 s, .int .i64 q, .int .i64 lo, .int .i64 hi] := row_new rfl
      have z0 := o.size
      replace o := o.alloc o.size (.cells #[.int .i64 sq, .int .i64 tk, .int .i64 n, .int .i64 s, .int .i64 q, .int .i64 lo, .int .i64 hi] 228)
      generalize (wr.alloc (.cells #[.int .i64 sq, .int .i64 tk, .int .i64 n, .int .i64 s, .int .i64 q, .int .i64 lo, .int .i64 hi] 228)) = w3 at K o ⊢
      generalize wr.heap.size = mb at K z0 ⊢
      clear q0 q1 q2 q3 q4 q5 q6
      obtain ⟨K0, K1, K2, K3, K4, K5, K6, Kf0, Kf1, Kf2, Kf3, Kf4, Kf5, Kf6⟩ := row_seven K
      by_cases x0 : sq = seq
      rotate_left
      · have u0 : (sq == seq) = false := by simpa using x0
        have E := Lib.hid (show decide (mvalid l seq cap now wd least) = false from decide_eq_false (fun a => x0 (LS.out.1 a).1))
        clear x0
        go_wp2
        go_ret
        exact ⟨ret_bool E.out.symm, o⟩
      have u0 : (sq == seq) = true := by simpa using x0
      have X0 := Lib.hid x0
      clear x0
      by_cases x1 : lo = s
      rotate_left
      · have u1 : (lo == s) = false := by simpa using x1
        have E := Lib.hid (show decide (mvalid l seq cap now wd least) = false from decide_eq_false (fun a => x1 (LS.out.1 a).2.1))
        clear x1
        go_wp2
        go_ret
        exact ⟨ret_bool E.out.symm, o⟩
      have u1 : (lo == s) = true := by simpa using x1
      have X1 := Lib.hid x1
      clear x1
      by_cases x2 : hi = s
      rotate_left
      · have u2 : (hi == s) = false := by simpa using x2
        have E := Lib.hid (show decide (mvalid l seq cap now wd least) = false from decide_eq_false (fun a => x2 (LS.out.1 a).2.2.1))
        clear x2
        go_wp2
        go_ret
        exact ⟨ret_bool E.out.symm, o⟩
      have u2 : (hi == s) = true := by simpa using x2
      have X2 := Lib.hid x2
      clear x2
      by_cases x3 : q = s * s
      rotate_left
      · have u3 : (q == s * s) = false := by simpa using x3
        have E := Lib.hid (show decide (mvalid l seq cap now wd least) = false from decide_eq_false (fun a => x3 (LS.out.1 a).2.2.2))
        clear x3
        go_wp2
        go_ret
        exact ⟨ret_bool E.out.symm, o⟩
      have u3 : (q == s * s) = true := by simpa using x3
      have X3 := Lib.hid x3
      clear x3
      have E := Lib.hid (show decide (mvalid l seq cap now wd least) = true from decide_eq_true (LS.out.2 ⟨X0.out, X1.out, X2.out, X3.out⟩))
      go_wp2
      go_ret
      exact ⟨ret_bool E.out.symm, o⟩
set_option maxRecDepth 100000 in
set_option maxHeartbeats 8000000 in
theorem pmvalid_main (A : Option Addr) (m c : Nat) (l : List Mk) (seq cap now wd least : Int) (w : World) (hin : MIn A m c l w) (sB : I64 seq) (c0 : 1 ≤ cap) (c1 : cap ≤ 65536) (n0 : 0 ≤ now) (n1 : now ≤ 16777216) (d0 : 1 ≤ wd) (d1 : wd ≤ 1048576) (e0 : -4096 ≤ least) (s0 : 0 ≤ seq) (s1 : seq ≤ 1099511627776) (m1 : m ≠ 1) : Calls Tryz.prog 229 #[.slice A m c, .int .i64 seq, .int .i64 cap, .int .i64 now, .int .i64 wd, .int .i64 least] w fun e w' => e = .returned (.bool (decide (mvalid l seq cap now wd least))) ∧ Below w.heap.size w w' := by
  have M1 := Lib.hid m1
  clear m1
  have HR := Lib.hid hin
  have HL := Lib.hid hin.len
  have mB := hin.max
  have t0 : ¬ seq < 0 := by omega
  have t1 : ¬ 1099511627776 < seq := by omega
  clear hin sB
  go_enter Tryz.func229, Tryz.ntmps229
  go_wp2
  clear t0 t1
  go_loopw [25] (fun i wr => ∃ j : Nat, j ≤ m ∧ i = .int .i64 (j : Nat) ∧ RowKit.Hid (∀ e, e < j → atP l seq cap now wd least e) ∧ Below w.heap.size w wr) (fun i _ => m - (intOf i).toNat)
  case atStart => exact ⟨0, by omega, rfl, Lib.hid (fun e h => absurd h (by omega)), Below.refl _ _⟩
  case round =>
    obtain ⟨j, hj, rfl, HA, o⟩ := hrel
    by_cases hlt : j < m
    · obtain ⟨ad, rfl, hadb, ht0⟩ := HR.out.reads.mk hlt
      have hB := HR.out.mB j
      generalize hM : mkAt l j = mj at ht0 hB
      obtain ⟨sq, tk, n, s, q, lo, hi⟩ := mj
      obtain ⟨q0, q1, q2, q3, q4, q5, q6⟩ := ht0.below o (by rw [block_of_add]; exact hadb)
      have AT := Lib.hid (at_flat (seq := seq) (cap := cap) (now := now) (wd := wd) (least := least) hM)
      have HM := Lib.hid hM
      obtain ⟨hB0, hB1, hB2, hB3, hB4, hB5, hB6⟩ := hB
      unfold I64 at hB0 hB1 hB2 hB3 hB4 hB5 hB6
      have i1 : (j : Int) < (m : Int) := by omega
      have i2 : (0 : Int) ≤ (j : Int) := by omega
      dsimp only at q0 q1 q2 q3 q4 q5 q6 hB0 hB1 hB2 hB3 hB4 hB5 hB6
      clear hM ht0
      go_upto_region 6 with (fail)
      have K : Row (wr.alloc (.cells #[.int .i64 sq, .int .i64 tk, .int .i64 n, .int .i64 s, .int .i64 q, .int .i64 lo, .int .i64 hi] 228)) wr.heap.size 228 #[.int .i64 sq, .int .i64 tk, .int .i64 n, .int .i64 s, .int .i64 q, .int .i64 lo, .int .i64 hi] := row_new rfl
      have z0 := o.size
      replace o := o.alloc o.size (.cells #[.int .i64 sq, .int .i64 tk, .int .i64 n, .int .i64 s, .int .i64 q, .int .i64 lo, .int .i64 hi] 228)
      have zm : wr.heap.size < (wr.alloc (.cells #[.int .i64 sq, .int .i64 tk, .int .i64 n, .int .i64 s, .int .i64 q, .int .i64 lo, .int .i64 hi] 228)).heap.size := row_lt K
      generalize (wr.alloc (.cells #[.int .i64 sq, .int .i64 tk, .int .i64 n, .int .i64 s, .int .i64 q, .int .i64 lo, .int .i64 hi] 228)) = w3 at K o zm ⊢
      generalize wr.heap.size = mb at K z0 zm ⊢
      clear q0 q1 q2 q3 q4 q5 q6
      obtain ⟨K0, K1, K2, K3, K4, K5, K6, Kf0, Kf1, Kf2, Kf3, Kf4, Kf5, Kf6⟩ := row_seven K
      by_cases x0 : sq < 1
      · skip
        have E := Lib.hid (mvalid_bad (l := l) (seq := seq) (cap := cap) (now := now) (wd := wd) (least := least) (i := j) (by rw [HL.out]; exact hlt) (fun a => absurd (AT.out.1 a).1.1 (by omega)))
        go_wp2_with fail
        go_ret
        exact ⟨ret_bool E.out.symm, o⟩
      · skip
        by_cases x1 : seq < sq
        · skip
          have E := Lib.hid (mvalid_bad (l := l) (seq := seq) (cap := cap) (now := now) (wd := wd) (least := least) (i := j) (by rw [HL.out]; exact hlt) (fun a => absurd (AT.out.1 a).1.2.1 (by omega)))
          go_wp2_with fail
          go_ret
          exact ⟨ret_bool E.out.symm, o⟩
        · skip
          by_cases x2 : n ≠ seq - sq + 1
          · skip
            have wn1 : IntKind.i64.wrap (seq - sq) = seq - sq := IntWalk.i64_in _ (by omega)
            have wn2 : IntKind.i64.wrap (seq - sq + 1) = seq - sq + 1 := IntWalk.i64_in _ (by omega)
            have dn : (n != seq - sq + 1) = true := by simpa using x2
            have E := Lib.hid (mvalid_bad (l := l) (seq := seq) (cap := cap) (now := now) (wd := wd) (least := least) (i := j) (by rw [HL.out]; exact hlt) (fun a => absurd (AT.out.1 a).1.2.2.1 (by omega)))
            go_wp2_with fail
            go_ret
            exact ⟨ret_bool E.out.symm, o⟩
          · skip
            by_cases x3 : cap < n
            · skip
              have wn1 : IntKind.i64.wrap (seq - sq) = seq - sq := IntWalk.i64_in _ (by omega)
              have wn2 : IntKind.i64.wrap (seq - sq + 1) = seq - sq + 1 := IntWalk.i64_in _ (by omega)
              have dn : (n != seq - sq + 1) = false := by simp; omega
              have E := Lib.hid (mvalid_bad (l := l) (seq := seq) (cap := cap) (now := now) (wd := wd) (least := least) (i := j) (by rw [HL.out]; exact hlt) (fun a => absurd (AT.out.1 a).1.2.2.2.1 (by omega)))
              go_wp2_with fail
              go_ret
              exact ⟨ret_bool E.out.symm, o⟩
            · skip
              by_cases x4 : tk < 0
              · skip
                have wn1 : IntKind.i64.wrap (seq - sq) = seq - sq := IntWalk.i64_in _ (by omega)
                have wn2 : IntKind.i64.wrap (seq - sq + 1) = seq - sq + 1 := IntWalk.i64_in _ (by omega)
                have dn : (n != seq - sq + 1) = false := by simp; omega
                have E := Lib.hid (mvalid_bad (l := l) (seq := seq) (cap := cap) (now := now) (wd := wd) (least := least) (i := j) (by rw [HL.out]; exact hlt) (fun a => absurd (AT.out.1 a).1.2.2.2.2.1 (by omega)))
                go_wp2_with fail
                go_ret
                exact ⟨ret_bool E.out.symm, o⟩
              · skip
                by_cases x5 : now < tk
                · skip
                  have wn1 : IntKind.i64.wrap (seq - sq) = seq - sq := IntWalk.i64_in _ (by omega)
                  have wn2 : IntKind.i64.wrap (seq - sq + 1) = seq - sq + 1 := IntWalk.i64_in _ (by omega)
                  have dn : (n != seq - sq + 1) = false := by simp; omega
                  have E := Lib.hid (mvalid_bad (l := l) (seq := seq) (cap := cap) (now := now) (wd := wd) (least := least) (i := j) (by rw [HL.out]; exact hlt) (fun a => absurd (AT.out.1 a).1.2.2.2.2.2 (by omega)))
                  go_wp2_with fail
                  go_ret
                  exact ⟨ret_bool E.out.symm, o⟩
                · skip
                  have wn1 : IntKind.i64.wrap (seq - sq) = seq - sq := IntWalk.i64_in _ (by omega)
                  have wn2 : IntKind.i64.wrap (seq - sq + 1) = seq - sq + 1 := IntWalk.i64_in _ (by omega)
                  have dn : (n != seq - sq + 1) = false := by simp; omega
                  go_upto_region 8 with (fail)
                  have x2a : n + sq ≤ seq + 1 := by omega
                  have x2b : seq + 1 ≤ n + sq := by omega
                  clear dn wn1 wn2 x2
                  by_cases y0 : lo < least
                  · skip
                    have E := Lib.hid (mvalid_bad (l := l) (seq := seq) (cap := cap) (now := now) (wd := wd) (least := least) (i := j) (by rw [HL.out]; exact hlt) (fun a => absurd (AT.out.1 a).2.1.1 (by omega)))
                    go_wp2_with fail
                    go_ret
                    exact ⟨ret_bool E.out.symm, o⟩
                  · skip
                    by_cases y1 : 4096 < hi
                    · skip
                      have E := Lib.hid (mvalid_bad (l := l) (seq := seq) (cap := cap) (now := now) (wd := wd) (least := least) (i := j) (by rw [HL.out]; exact hlt) (fun a => absurd (AT.out.1 a).2.1.2.1 (by omega)))
                      go_wp2_with fail
                      go_ret
                      exact ⟨ret_bool E.out.symm, o⟩
                    · skip
                      by_cases y2 : hi < lo
                      · skip
                        have E := Lib.hid (mvalid_bad (l := l) (seq := seq) (cap := cap) (now := now) (wd := wd) (least := least) (i := j) (by rw [HL.out]; exact hlt) (fun a => absurd (AT.out.1 a).2.1.2.2.1 (by omega)))
                        go_wp2_with fail
                        go_ret
                        exact ⟨ret_bool E.out.symm, o⟩
                      · skip
                        have PF := fun w => pfitsP n lo hi s q w (by omega) (by omega) (by omega) (by omega) (by omega) (by omega)
                        by_cases y3 : partP n lo hi s q
                        rotate_left
                        · rw [decide_eq_false y3] at PF
                          replace PF := Lib.hid PF
                          clear HA
                          have E := Lib.hid (mvalid_bad (l := l) (seq := seq) (cap := cap) (now := now) (wd := wd) (least := least) (i := j) (by rw [HL.out]; exact hlt) (fun a => y3 (AT.out.1 a).2.1.2.2.2))
                          go_wp2_with (go_at_call 268; with_reducible refine (PF.out _).mono ?_; rintro e w9 ⟨rfl, h9⟩; obtain rfl := h9.symm)
                          go_ret
                          exact ⟨ret_bool E.out.symm, o⟩
                        rw [decide_eq_true y3] at PF
                        replace PF := Lib.hid PF
                        have Y3 := Lib.hid y3
                        clear y3
                        go_upto_region 10 with (go_at_call 268; with_reducible refine (PF.out _).mono ?_; rintro e w9 ⟨rfl, h9⟩; obtain rfl := h9.symm)
                        clear PF
                        have PL := fun w => plive now wd tk w n0 n1 d0 d1 (by omega) (by omega)
                        by_cases j0 : j = 0
                        · skip
                          subst j0
                          by_cases m1 : m = 1
                          · skip
                            exact absurd m1 M1.out
                          · skip
                            have m1b : ((m : Int) == 1) = false := by simp; omega
                            clear PL
                            go_upto_region 12 with (fail)
                            have HA2 : RowKit.Hid (∀ e, e < 0 + 1 → atP l seq cap now wd least e) := Lib.hid (fun e he => by
                              rcases Nat.lt_or_ge e 0 with g | g
                              · exact HA.out e g
                              · rw [show e = 0 by omega]
                                exact (AT.out.2 ⟨⟨by omega, by omega, by omega, by omega, by omega, by omega⟩, ⟨by omega, by omega, by omega, Y3.out⟩, (fun h => absurd h (by rw [HL.out]; omega)), (fun h => absurd h (by omega))⟩))
                            go_wp2
                            go_roundw
                            case rel => exact ⟨0 + 1, by omega, by go_num, HA2, o⟩
                            case measure => simp [intOf]; omega
                        · skip
                          have jp : (0 : Int) < (j : Int) := by omega
                          have jb : ((j : Int) == 0) = false := by simp; omega
                          by_cases lv : now - wd < tk
                          rotate_left
                          · rw [decide_eq_false lv] at PL
                            replace PL := Lib.hid PL
                            clear HA
                            have E := Lib.hid (mvalid_bad (l := l) (seq := seq) (cap := cap) (now := now) (wd := wd) (least := least) (i := j) (by rw [HL.out]; exact hlt) (fun a => lv ((AT.out.1 a).2.2.1 (.inl (by omega)))))
                            go_wp2_with (go_at_call 137; with_reducible refine (PL.out _).mono ?_; rintro e w9 ⟨rfl, h9⟩; obtain rfl := h9.symm)
                            go_ret
                            exact ⟨ret_bool E.out.symm, o⟩
                          rw [decide_eq_true lv] at PL
                          replace PL := Lib.hid PL
                          have LV := Lib.hid lv
                          clear lv
                          go_upto_region 12 with (go_at_call 137; with_reducible refine (PL.out _).mono ?_; rintro e w9 ⟨rfl, h9⟩; obtain rfl := h9.symm)
                          clear PL
                          obtain ⟨p, hp⟩ : ∃ p : Nat, j = p + 1 := ⟨j - 1, by omega⟩
                          have HP := Lib.hid hp
                          obtain ⟨ad', ea, _, ht1⟩ := HR.out.reads.mk (i := p) (by omega)
                          obtain rfl : ad = ad' := by injection ea
                          have hOP := HA.out p (by omega)
                          generalize hO : mkAt l p = mo at ht1
                          obtain ⟨osq, otk, on, os, oq, olo, ohi⟩ := mo
                          obtain ⟨⟨b1, b2, b3, b4, b5, b6⟩, ⟨b7, b8, b9, B10⟩, _⟩ := (at_flat hO).1 hOP
                          obtain ⟨q0, q1, q2, q3, q4, q5, q6⟩ := ht1.below o (by rw [block_of_add]; exact hadb)
                          have hp1 : mkAt l (j - 1) = ⟨osq, otk, on, os, oq, olo, ohi⟩ := by rw [hp]; exact hO
                          have hp2 : mkAt l j = ⟨sq, tk, n, s, q, lo, hi⟩ := HM.out
                          have TW : RowKit.Hid (twoP (mkAt l (j - 1)) (mkAt l j) ↔ osq < sq ∧ otk ≤ tk ∧ olo ≤ lo ∧ hi ≤ ohi ∧ partP (on - n) olo ohi (os - s) (oq - q)) := Lib.hid (by rw [hp1, hp2]; exact two_flat)
                          dsimp only at q0 q1 q2 q3 q4 q5 q6
                          have wj : IntKind.i64.wrap ((j : Int) - 1) = (p : Int) := by rw [IntWalk.i64_in _ (by omega)]; omega
                          have p1 : (p : Int) < (m : Int) := by omega
                          have p0 : (0 : Int) ≤ (p : Int) := by omega
                          have b3a : on + osq ≤ seq + 1 := by omega
                          have b3b : seq + 1 ≤ on + osq := by omega
                          obtain ⟨f1, f2, f3, f4, f5⟩ := B10
                          obtain ⟨g1, g2, g3, g4, g5⟩ := Y3.out
                          have bo1 := mul_small (n := on) (x := olo) (by omega) (by omega) (by omega) (by omega)
                          have bo2 := mul_small (n := on) (x := ohi) (by omega) (by omega) (by omega) (by omega)
                          have bm1 := mul_small (n := n) (x := lo) (by omega) (by omega) (by omega) (by omega)
                          have bm2 := mul_small (n := n) (x := hi) (by omega) (by omega) (by omega) (by omega)
                          have wd1 : IntKind.i64.wrap (on - n) = on - n := IntWalk.i64_in _ (by omega)
                          have wd2 : IntKind.i64.wrap (os - s) = os - s := IntWalk.i64_in _ (by omega)
                          have wd3 : IntKind.i64.wrap (oq - q) = oq - q := IntWalk.i64_in _ (by omega)
                          clear hO ht1 ea hp1 hp2 f1 f2 f3 f4 f5 g1 g2 g3 g4 g5 bo1 bo2 bm1 bm2 hp hOP b3
                          go_upto_region 14 with (fail)
                          have O : Row (w3.alloc (.cells #[.int .i64 osq, .int .i64 otk, .int .i64 on, .int .i64 os, .int .i64 oq, .int .i64 olo, .int .i64 ohi] 228)) w3.heap.size 228 #[.int .i64 osq, .int .i64 otk, .int .i64 on, .int .i64 os, .int .i64 oq, .int .i64 olo, .int .i64 ohi] := row_new rfl
                          replace K := row_alloc K (.cells #[.int .i64 osq, .int .i64 otk, .int .i64 on, .int .i64 os, .int .i64 oq, .int .i64 olo, .int .i64 ohi] 228)
                          have z1 := o.size
                          replace o := o.alloc o.size (.cells #[.int .i64 osq, .int .i64 otk, .int .i64 on, .int .i64 os, .int .i64 oq, .int .i64 olo, .int .i64 ohi] 228)
                          generalize (w3.alloc (.cells #[.int .i64 osq, .int .i64 otk, .int .i64 on, .int .i64 os, .int .i64 oq, .int .i64 olo, .int .i64 ohi] 228)) = w4 at O K o ⊢
                          generalize w3.heap.size = ob at O z1 ⊢
                          clear q0 q1 q2 q3 q4 q5 q6 K0 K1 K2 K3 K4 K5 K6 Kf0 Kf1 Kf2 Kf3 Kf4 Kf5 Kf6
                          obtain ⟨K0, K1, K2, K3, K4, K5, K6, Kf0, Kf1, Kf2, Kf3, Kf4, Kf5, Kf6⟩ := row_seven K
                          obtain ⟨O0, O1, O2, O3, O4, O5, O6, Of0, Of1, Of2, Of3, Of4, Of5, Of6⟩ := row_seven O
                          by_cases v0 : sq ≤ osq
                          · skip
                            have E := Lib.hid (mvalid_bad (l := l) (seq := seq) (cap := cap) (now := now) (wd := wd) (least := least) (i := j) (by rw [HL.out]; exact hlt) (fun a => absurd (TW.out.1 ((AT.out.1 a).2.2.2 (by omega))).1 (by omega)))
                            go_wp2_with fail
                            go_ret
                            exact ⟨ret_bool E.out.symm, o⟩
                          · skip
                            by_cases v1 : tk < otk
                            · skip
                              have E := Lib.hid (mvalid_bad (l := l) (seq := seq) (cap := cap) (now := now) (wd := wd) (least := least) (i := j) (by rw [HL.out]; exact hlt) (fun a => absurd (TW.out.1 ((AT.out.1 a).2.2.2 (by omega))).2.1 (by omega)))
                              go_wp2_with fail
                              go_ret
                              exact ⟨ret_bool E.out.symm, o⟩
                            · skip
                              by_cases v2 : lo < olo
                              · skip
                                have E := Lib.hid (mvalid_bad (l := l) (seq := seq) (cap := cap) (now := now) (wd := wd) (least := least) (i := j) (by rw [HL.out]; exact hlt) (fun a => absurd (TW.out.1 ((AT.out.1 a).2.2.2 (by omega))).2.2.1 (by omega)))
                                go_wp2_with fail
                                go_ret
                                exact ⟨ret_bool E.out.symm, o⟩
                              · skip
                                by_cases v3 : ohi < hi
                                · skip
                                  have E := Lib.hid (mvalid_bad (l := l) (seq := seq) (cap := cap) (now := now) (wd := wd) (least := least) (i := j) (by rw [HL.out]; exact hlt) (fun a => absurd (TW.out.1 ((AT.out.1 a).2.2.2 (by omega))).2.2.2.1 (by omega)))
                                  go_wp2_with fail
                                  go_ret
                                  exact ⟨ret_bool E.out.symm, o⟩
                                · skip
                                  have PF := fun w => pfitsP (on - n) olo ohi (os - s) (oq - q) w (by omega) (by omega) (by omega) (by omega) (by omega) (by omega)
                                  by_cases v4 : partP (on - n) olo ohi (os - s) (oq - q)
                                  rotate_left
                                  · rw [decide_eq_false v4] at PF
                                    replace PF := Lib.hid PF
                                    clear HA
                                    have E := Lib.hid (mvalid_bad (l := l) (seq := seq) (cap := cap) (now := now) (wd := wd) (least := least) (i := j) (by rw [HL.out]; exact hlt) (fun a => v4 (TW.out.1 ((AT.out.1 a).2.2.2 (by omega))).2.2.2.2))
                                    go_wp2_with (go_at_call 268; with_reducible refine (PF.out _).mono ?_; rintro e w9 ⟨rfl, h9⟩; obtain rfl := h9.symm)
                                    go_ret
                                    exact ⟨ret_bool E.out.symm, o⟩
                                  rw [decide_eq_true v4] at PF
                                  replace PF := Lib.hid PF
                                  have V4 := Lib.hid v4
                                  clear v4
                                  go_upto_region 16 with (go_at_call 268; with_reducible refine (PF.out _).mono ?_; rintro e w9 ⟨rfl, h9⟩; obtain rfl := h9.symm)
                                  clear PF
                                  have HA2 : RowKit.Hid (∀ e, e < j + 1 → atP l seq cap now wd least e) := Lib.hid (fun e he => by
                                    rcases Nat.lt_or_ge e j with g | g
                                    · exact HA.out e g
                                    · rw [show e = j by omega]
                                      exact (AT.out.2 ⟨⟨by omega, by omega, by omega, by omega, by omega, by omega⟩, ⟨by omega, by omega, by omega, Y3.out⟩, (fun _ => LV.out), (fun _ => TW.out.2 ⟨by omega, by omega, by omega, by omega, V4.out⟩)⟩))
                                  go_wp2
                                  go_roundw
                                  case rel => exact ⟨j + 1, by omega, by go_num, HA2, o⟩
                                  case measure => simp [intOf]; omega
    · have i1 : ¬ (j : Int) < (m : Int) := by omega
      obtain rfl : j = m := by omega
      by_cases m0 : j = 0
      · have m0b : ((j : Int) == 0) = true := by simp; omega
        have E := Lib.hid (show decide (mvalid l seq cap now wd least) = true from decide_eq_true ⟨s0, s1, fun i hi => HA.out i (by rw [HL.out] at hi; exact hi), fun h => absurd (HL.out.trans m0) h⟩)
        clear HA
        go_wp2
        go_ret
        exact ⟨ret_bool E.out.symm, o⟩
      · have m0b : ((j : Int) == 0) = false := by simp; omega
        obtain ⟨p, hp⟩ : ∃ p : Nat, j = p + 1 := ⟨j - 1, by omega⟩
        obtain ⟨ad, rfl, hadb, ht0⟩ := HR.out.reads.mk (i := p) (by omega)
        have hOP := HA.out p (by omega)
        generalize hM : mkAt l p = mj at ht0
        obtain ⟨sq, tk, n, s, q, lo, hi⟩ := mj
        obtain ⟨⟨b1, b2, b3, b4, b5, b6⟩, ⟨b7, b8, b9, ⟨f1, f2, f3, f4, f5⟩⟩, _⟩ := (at_flat hM).1 hOP
        obtain ⟨q0, q1, q2, q3, q4, q5, q6⟩ := ht0.below o (by rw [block_of_add]; exact hadb)
        have bm1 := mul_small (n := n) (x := lo) (by omega) (by omega) (by omega) (by omega)
        have bm2 := mul_small (n := n) (x := hi) (by omega) (by omega) (by omega) (by omega)
        have bss := sq_bound (s := s) (B := 268435456) (by omega) (by omega)
        have wss : IntKind.i64.wrap (s * s) = s * s := IntWalk.i64_in _ (by omega)
        have LS : RowKit.Hid (mvalid l seq cap now wd least ↔ sq = seq ∧ lo = s ∧ hi = s ∧ q = s * s) := Lib.hid (by
          have e1 : l.length - 1 = p := by rw [HL.out, hp]; rfl
          have e2 : l.length ≠ 0 := by rw [HL.out]; exact m0
          constructor
          · intro a
            have := a.2.2.2 e2
            rw [e1, hM] at this
            exact this
          · intro a
            refine ⟨s0, s1, fun i hi => HA.out i (by rw [HL.out] at hi; exact hi), fun _ => ?_⟩
            rw [e1, hM]
            exact a)
        have wj : IntKind.i64.wrap ((j : Int) - 1) = (p : Int) := by rw [IntWalk.i64_in _ (by omega)]; omega
        have p1 : (p : Int) < (j : Int) := by omega
        have p0 : (0 : Int) ≤ (p : Int) := by omega
        dsimp only at q0 q1 q2 q3 q4 q5 q6
        clear hM ht0 hOP HA hp f1 f2 f3 f4 f5 bm1 bm2 bss b1 b2 b3 b4 b5 b6 b7 b8 b9
        go_upto_region 20 with (fail)
        have K : Row (wr.alloc (.cells #[.int .i64 sq, .int .i64 tk, .int .i64 n, .int .i64 s, .int .i64 q, .int .i64 lo, .int .i64 hi] 228)) wr.heap.size 228 #[.int .i64 sq, .int .i64 tk, .int .i64 n, .int .i64 s, .int .i64 q, .int .i64 lo, .int .i64 hi] := row_new rfl
        have z0 := o.size
        replace o := o.alloc o.size (.cells #[.int .i64 sq, .int .i64 tk, .int .i64 n, .int .i64 s, .int .i64 q, .int .i64 lo, .int .i64 hi] 228)
        generalize (wr.alloc (.cells #[.int .i64 sq, .int .i64 tk, .int .i64 n, .int .i64 s, .int .i64 q, .int .i64 lo, .int .i64 hi] 228)) = w3 at K o ⊢
        generalize wr.heap.size = mb at K z0 ⊢
        clear q0 q1 q2 q3 q4 q5 q6
        obtain ⟨K0, K1, K2, K3, K4, K5, K6, Kf0, Kf1, Kf2, Kf3, Kf4, Kf5, Kf6⟩ := row_seven K
        by_cases x0 : sq = seq
        rotate_left
        · have u0 : (sq == seq) = false := by simpa using x0
          have E := Lib.hid (show decide (mvalid l seq cap now wd least) = false from decide_eq_false (fun a => x0 (LS.out.1 a).1))
          clear x0
          go_wp2
          go_ret
          exact ⟨ret_bool E.out.symm, o⟩
        have u0 : (sq == seq) = true := by simpa using x0
        have X0 := Lib.hid x0
        clear x0
        by_cases x1 : lo = s
        rotate_left
        · have u1 : (lo == s) = false := by simpa using x1
          have E := Lib.hid (show decide (mvalid l seq cap now wd least) = false from decide_eq_false (fun a => x1 (LS.out.1 a).2.1))
          clear x1
          go_wp2
          go_ret
          exact ⟨ret_bool E.out.symm, o⟩
        have u1 : (lo == s) = true := by simpa using x1
        have X1 := Lib.hid x1
        clear x1
        by_cases x2 : hi = s
        rotate_left
        · have u2 : (hi == s) = false := by simpa using x2
          have E := Lib.hid (show decide (mvalid l seq cap now wd least) = false from decide_eq_false (fun a => x2 (LS.out.1 a).2.2.1))
          clear x2
          go_wp2
          go_ret
          exact ⟨ret_bool E.out.symm, o⟩
        have u2 : (hi == s) = true := by simpa using x2
        have X2 := Lib.hid x2
        clear x2
        by_cases x3 : q = s * s
        rotate_left
        · have u3 : (q == s * s) = false := by simpa using x3
          have E := Lib.hid (show decide (mvalid l seq cap now wd least) = false from decide_eq_false (fun a => x3 (LS.out.1 a).2.2.2))
          clear x3
          go_wp2
          go_ret
          exact ⟨ret_bool E.out.symm, o⟩
        have u3 : (q == s * s) = true := by simpa using x3
        have X3 := Lib.hid x3
        clear x3
        have E := Lib.hid (show decide (mvalid l seq cap now wd least) = true from decide_eq_true (LS.out.2 ⟨X0.out, X1.out, X2.out, X3.out⟩))
        go_wp2
        go_ret
        exact ⟨ret_bool E.out.symm, o⟩
theorem pmvalid (A : Option Addr) (m c : Nat) (l : List Mk) (seq cap now wd least : Int) (w : World) (hin : MIn A m c l w) (sB : I64 seq) (c0 : 1 ≤ cap) (c1 : cap ≤ 65536) (n0 : 0 ≤ now) (n1 : now ≤ 16777216) (d0 : 1 ≤ wd) (d1 : wd ≤ 1048576) (e0 : -4096 ≤ least) : Calls Tryz.prog 229 #[.slice A m c, .int .i64 seq, .int .i64 cap, .int .i64 now, .int .i64 wd, .int .i64 least] w fun e w' => e = .returned (.bool (decide (mvalid l seq cap now wd least))) ∧ Below w.heap.size w w' := by
  by_cases h : seq < 0
  · exact pmvalid_a A m c l seq cap now wd least w h
  · by_cases h1 : 1099511627776 < seq
    · exact pmvalid_b A m c l seq cap now wd least w (by omega) h1
    · by_cases m1 : m = 1
      · subst m1
        exact pmvalid_one A c l seq cap now wd least w hin sB c0 c1 n0 n1 d0 d1 e0 (by omega) (by omega)
      · exact pmvalid_main A m c l seq cap now wd least w hin sB c0 c1 n0 n1 d0 d1 e0 (by omega) (by omega) m1
end Go.Proofs.YtdipoojjlddohaaGreat
end
section
/- Smooth histograms: aggregates of marks, and when one is close to another, walked. -/
set_option linter.unusedVariables false
set_option linter.unusedSimpArgs false
set_option linter.unusedSectionVars false
set_option linter.unnecessarySimpa false
namespace Go.Proofs.YtdipoojjlddohaaGreat
open Go.RowKit
theorem nsub_yes (a b : Int) (w : World) (hA : I64 a) (hB : I64 b) (h : I64 (a - b)) : Calls Tryz.prog 231 #[.int .i64 a, .int .i64 b] w fun e w' => e = .returned (.tuple #[.int .i64 (a - b), .bool true]) ∧ w' = w := by
  unfold I64 at hA hB h
  have wr : IntKind.i64.wrap (a - b) = a - b := IntWalk.i64_in _ (by omega)
  by_cases h1 : 0 ≤ a <;> by_cases h2 : 0 ≤ b <;> by_cases h3 : b ≤ a
  all_goals
    first
    | (exfalso; omega)
    | (clear hA hB h; go_enter Tryz.func231, Tryz.ntmps231; go_wp2; go_ret2; exact ⟨rfl, rfl⟩)
theorem nsub_no (a b : Int) (w : World) (hA : I64 a) (hB : I64 b) (h : ¬ I64 (a - b)) : Calls Tryz.prog 231 #[.int .i64 a, .int .i64 b] w fun e w' => e = .returned (.tuple #[.int .i64 0, .bool false]) ∧ w' = w := by
  unfold I64 at hA hB h
  obtain ⟨c, hc⟩ : ∃ c, IntKind.i64.wrap (a - b) = c := ⟨_, rfl⟩
  have e : (9223372036854775807 < a - b ∧ c = a - b - 18446744073709551616) ∨ (a - b < -9223372036854775808 ∧ c = a - b + 18446744073709551616) := by
    rw [← hc]
    simp only [IntKind.wrap, IntKind.signed, IntKind.bits]
    simp
    omega
  by_cases h1 : 0 ≤ a <;> by_cases h2 : 0 ≤ b <;> by_cases h3 : 0 ≤ c
  all_goals
    first
    | (exfalso; omega)
    | (clear hA hB h e; go_enter Tryz.func231, Tryz.ntmps231; go_wp2; go_ret2; exact ⟨rfl, rfl⟩)
theorem pofm_1 (agg sq tk n s q lo hi : Int) (w : World) (h : agg = 1) : Calls Tryz.prog 138 #[.agg #[.int .i64 sq, .int .i64 tk, .int .i64 n, .int .i64 s, .int .i64 q, .int .i64 lo, .int .i64 hi], .int .i64 agg] w fun e w' => e = .returned (.int .i64 n) ∧ Below w.heap.size w w' := by
  subst h
  go_enter Tryz.func138, Tryz.ntmps138
  go_wp2_with fail
  go_ret
  exact ⟨rfl, (Below.refl _ _).alloc (Nat.le_refl _) _⟩
theorem pofm_2 (agg sq tk n s q lo hi : Int) (w : World) (h : agg = 2) : Calls Tryz.prog 138 #[.agg #[.int .i64 sq, .int .i64 tk, .int .i64 n, .int .i64 s, .int .i64 q, .int .i64 lo, .int .i64 hi], .int .i64 agg] w fun e w' => e = .returned (.int .i64 s) ∧ Below w.heap.size w w' := by
  subst h
  go_enter Tryz.func138, Tryz.ntmps138
  go_wp2_with fail
  go_ret
  exact ⟨rfl, (Below.refl _ _).alloc (Nat.le_refl _) _⟩
theorem pofm_3 (agg sq tk n s q lo hi : Int) (w : World) (h : agg = 3) : Calls Tryz.prog 138 #[.agg #[.int .i64 sq, .int .i64 tk, .int .i64 n, .int .i64 s, .int .i64 q, .int .i64 lo, .int .i64 hi], .int .i64 agg] w fun e w' => e = .returned (.int .i64 q) ∧ Below w.heap.size w w' := by
  subst h
  go_enter Tryz.func138, Tryz.ntmps138
  go_wp2_with fail
  go_ret
  exact ⟨rfl, (Below.refl _ _).alloc (Nat.le_refl _) _⟩
theorem pofm_4y (agg sq tk n s q lo hi : Int) (w : World) (h : agg = 4) (h1 : I64 hi) (h2 : I64 lo) (h3 : I64 (hi - lo)) : Calls Tryz.prog 138 #[.agg #[.int .i64 sq, .int .i64 tk, .int .i64 n, .int .i64 s, .int .i64 q, .int .i64 lo, .int .i64 hi], .int .i64 agg] w fun e w' => e = .returned (.int .i64 (hi - lo)) ∧ Below w.heap.size w w' := by
  subst h
  have PS := Lib.hid (fun w => nsub_yes hi lo w h1 h2 h3)
  clear h1 h2 h3
  go_enter Tryz.func138, Tryz.ntmps138
  go_wp2_with (go_at_call 231; with_reducible refine (PS.out _).mono ?_; rintro e w9 ⟨rfl, h9⟩; obtain rfl := h9.symm)
  go_ret
  exact ⟨rfl, (Below.refl _ _).alloc (Nat.le_refl _) _⟩
theorem pofm_4n (agg sq tk n s q lo hi : Int) (w : World) (h : agg = 4) (h1 : I64 hi) (h2 : I64 lo) (h3 : ¬ I64 (hi - lo)) : Calls Tryz.prog 138 #[.agg #[.int .i64 sq, .int .i64 tk, .int .i64 n, .int .i64 s, .int .i64 q, .int .i64 lo, .int .i64 hi], .int .i64 agg] w fun e w' => e = .returned (.int .i64 0) ∧ Below w.heap.size w w' := by
  subst h
  have PS := Lib.hid (fun w => nsub_no hi lo w h1 h2 h3)
  clear h1 h2 h3
  go_enter Tryz.func138, Tryz.ntmps138
  go_wp2_with (go_at_call 231; with_reducible refine (PS.out _).mono ?_; rintro e w9 ⟨rfl, h9⟩; obtain rfl := h9.symm)
  go_ret
  exact ⟨rfl, (Below.refl _ _).alloc (Nat.le_refl _) _⟩
theorem pofm_5 (agg sq tk n s q lo hi : Int) (w : World) (h1 : agg ≠ 1) (h2 : agg ≠ 2) (h3 : agg ≠ 3) (h4 : agg ≠ 4) : Calls Tryz.prog 138 #[.agg #[.int .i64 sq, .int .i64 tk, .int .i64 n, .int .i64 s, .int .i64 q, .int .i64 lo, .int .i64 hi], .int .i64 agg] w fun e w' => e = .returned (.int .i64 0) ∧ Below w.heap.size w w' := by
  have b1 : (agg == 1) = false := by simpa using h1
  have b2 : (agg == 2) = false := by simpa using h2
  have b3 : (agg == 3) = false := by simpa using h3
  have b4 : (agg == 4) = false := by simpa using h4
  go_enter Tryz.func138, Tryz.ntmps138
  go_wp2_with fail
  go_ret
  exact ⟨rfl, (Below.refl _ _).alloc (Nat.le_refl _) _⟩
theorem pofm (agg : Int) (m : Mk) (w : World) (hm : M64 m) : Calls Tryz.prog 138 #[.agg #[.int .i64 m.seq, .int .i64 m.t, .int .i64 m.n, .int .i64 m.s, .int .i64 m.q, .int .i64 m.lo, .int .i64 m.hi], .int .i64 agg] w fun e w' => e = .returned (.int .i64 (ofV agg m)) ∧ Below w.heap.size w w' := by
  obtain ⟨_, _, _, _, _, hlo, hhi⟩ := hm
  obtain ⟨sq, tk, n, s, q, lo, hi⟩ := m
  by_cases e1 : agg = 1
  · rw [show ofV agg (⟨sq, tk, n, s, q, lo, hi⟩ : Mk) = n by subst e1; rfl]
    exact pofm_1 agg sq tk n s q lo hi w e1
  · by_cases e2 : agg = 2
    · rw [show ofV agg (⟨sq, tk, n, s, q, lo, hi⟩ : Mk) = s by subst e2; rfl]
      exact pofm_2 agg sq tk n s q lo hi w e2
    · by_cases e3 : agg = 3
      · rw [show ofV agg (⟨sq, tk, n, s, q, lo, hi⟩ : Mk) = q by subst e3; rfl]
        exact pofm_3 agg sq tk n s q lo hi w e3
      · by_cases e4 : agg = 4
        · by_cases hd : I64 (hi - lo)
          · rw [show ofV agg (⟨sq, tk, n, s, q, lo, hi⟩ : Mk) = hi - lo by subst e4; unfold ofV; simp; unfold I64 at hd; omega]
            exact pofm_4y agg sq tk n s q lo hi w e4 hhi hlo hd
          · rw [show ofV agg (⟨sq, tk, n, s, q, lo, hi⟩ : Mk) = 0 by subst e4; unfold ofV; simp; unfold I64 at hd; omega]
            exact pofm_4n agg sq tk n s q lo hi w e4 hhi hlo hd
        · rw [show ofV agg (⟨sq, tk, n, s, q, lo, hi⟩ : Mk) = 0 by unfold ofV; rw [if_neg e1, if_neg e2, if_neg e3, if_neg e4]]
          exact pofm_5 agg sq tk n s q lo hi w e1 e2 e3 e4
theorem pnear_flat (agg k sq tk n s q lo hi bsq btk bn bs bq blo bhi x y : Int) (w : World) (k0 : 1 ≤ k) (k1 : k ≤ 64) (x0 : 0 ≤ x) (x1 : x ≤ 1099511627776) (y0 : 0 ≤ y) (y1 : y ≤ 1099511627776)
    (PX : ∀ w, Calls Tryz.prog 138 #[.agg #[.int .i64 sq, .int .i64 tk, .int .i64 n, .int .i64 s, .int .i64 q, .int .i64 lo, .int .i64 hi], .int .i64 agg] w fun e w' => e = .returned (.int .i64 x) ∧ Below w.heap.size w w') (PY : ∀ w, Calls Tryz.prog 138 #[.agg #[.int .i64 bsq, .int .i64 btk, .int .i64 bn, .int .i64 bs, .int .i64 bq, .int .i64 blo, .int .i64 bhi], .int .i64 agg] w fun e w' => e = .returned (.int .i64 y) ∧ Below w.heap.size w w') :
    Calls Tryz.prog 217 #[.agg #[.int .i64 sq, .int .i64 tk, .int .i64 n, .int .i64 s, .int .i64 q, .int .i64 lo, .int .i64 hi], .agg #[.int .i64 bsq, .int .i64 btk, .int .i64 bn, .int .i64 bs, .int .i64 bq, .int .i64 blo, .int .i64 bhi], .int .i64 agg, .int .i64 k] w fun e w' => e = .returned (.bool (decide (k * x ≤ (k + 1) * y))) ∧ Below w.heap.size w w' := by
  have PX := Lib.hid PX
  have PY := Lib.hid PY
  have b1 : 0 ≤ k * x ∧ k * x ≤ 64 * 1099511627776 := ⟨Int.mul_nonneg (by omega) x0, Int.mul_le_mul k1 x1 x0 (by decide)⟩
  have b2 : 0 ≤ (k + 1) * y ∧ (k + 1) * y ≤ 65 * 1099511627776 := ⟨Int.mul_nonneg (by omega) y0, Int.mul_le_mul (by omega) y1 y0 (by decide)⟩
  have w1 : IntKind.i64.wrap (k + 1) = k + 1 := IntWalk.i64_in _ (by omega)
  have w2 : IntKind.i64.wrap (k * x) = k * x := IntWalk.i64_in _ (by omega)
  have w3 : IntKind.i64.wrap ((k + 1) * y) = (k + 1) * y := IntWalk.i64_in _ (by omega)
  have w4 : IntKind.i64.wrap k = k := IntWalk.i64_in _ (by omega)
  clear b1 b2
  go_enter Tryz.func217, Tryz.ntmps217
  go_upto_region 1 with (fail)
  have X : Row ((w.alloc (.cells #[.int .i64 sq, .int .i64 tk, .int .i64 n, .int .i64 s, .int .i64 q, .int .i64 lo, .int .i64 hi] 228)).alloc (.cells #[.int .i64 bsq, .int .i64 btk, .int .i64 bn, .int .i64 bs, .int .i64 bq, .int .i64 blo, .int .i64 bhi] 228)) w.heap.size 228 #[.int .i64 sq, .int .i64 tk, .int .i64 n, .int .i64 s, .int .i64 q, .int .i64 lo, .int .i64 hi] := row_alloc (row_new rfl) _
  have Y : Row ((w.alloc (.cells #[.int .i64 sq, .int .i64 tk, .int .i64 n, .int .i64 s, .int .i64 q, .int .i64 lo, .int .i64 hi] 228)).alloc (.cells #[.int .i64 bsq, .int .i64 btk, .int .i64 bn, .int .i64 bs, .int .i64 bq, .int .i64 blo, .int .i64 bhi] 228)) (w.heap.size + 1) 228 #[.int .i64 bsq, .int .i64 btk, .int .i64 bn, .int .i64 bs, .int .i64 bq, .int .i64 blo, .int .i64 bhi] := row_new (by simp)
  have o : Below w.heap.size w ((w.alloc (.cells #[.int .i64 sq, .int .i64 tk, .int .i64 n, .int .i64 s, .int .i64 q, .int .i64 lo, .int .i64 hi] 228)).alloc (.cells #[.int .i64 bsq, .int .i64 btk, .int .i64 bn, .int .i64 bs, .int .i64 bq, .int .i64 blo, .int .i64 bhi] 228)) := by (repeat (first | exact Below.refl _ _ | refine Below.setCell ?_ (by first | (simp; done) | (simp; omega) | omega) _ | refine Below.alloc ?_ (by first | (simp; done) | (simp; omega) | omega) _ | refine Below.drew ?_ | refine Below.trans ?_ (Below.mono (by assumption) (by first | (simp; done) | (simp; omega) | omega))))
  generalize ((w.alloc (.cells #[.int .i64 sq, .int .i64 tk, .int .i64 n, .int .i64 s, .int .i64 q, .int .i64 lo, .int .i64 hi] 228)).alloc (.cells #[.int .i64 bsq, .int .i64 btk, .int .i64 bn, .int .i64 bs, .int .i64 bq, .int .i64 blo, .int .i64 bhi] 228)) = w5 at X Y o ⊢
  refine wp_region_free0 [0, 1, 2, 3, 4, 5, 6, 7, 8, 9, 10, 11] [] [0, 1, 2, 3, 4, 5, 6, 7, 8, 9, 10, 11] 12 (fun w' => Row w' (w.heap.size) 228 #[.int .i64 sq, .int .i64 tk, .int .i64 n, .int .i64 s, .int .i64 q, .int .i64 lo, .int .i64 hi] ∧ Row w' (w.heap.size + 1) 228 #[.int .i64 bsq, .int .i64 btk, .int .i64 bn, .int .i64 bs, .int .i64 bq, .int .i64 blo, .int .i64 bhi] ∧ Below w.heap.size w w') (by kernel_rfl) (by kernel_rfl) (fun _ _ d _ _ h => by cases d <;> exact h) ?_ ?_
  · exact ⟨X, Y, o.drew⟩
  (refine plan_pure ?_ rfl rfl (fun w' => ?_) ?_; rotate_left; (go_simp; try with_reducible rfl); simp only [Act.put, List.setIfInBounds_toArray, List.set_cons_zero, List.set_cons_succ])
  (refine plan_pure ?_ rfl rfl (fun w' => ?_) ?_; rotate_left; (go_simp; try with_reducible rfl); simp only [Act.put, List.setIfInBounds_toArray, List.set_cons_zero, List.set_cons_succ])
  (refine plan_val ?_ rfl rfl rfl (fun w' hS => ?_) ?_; rotate_left; (obtain ⟨X0, X1, X2, X3, X4, X5, X6, Xf0, Xf1, Xf2, Xf3, Xf4, Xf5, Xf6⟩ := row_seven hS.1; obtain ⟨Y0, Y1, Y2, Y3, Y4, Y5, Y6, Yf0, Yf1, Yf2, Yf3, Yf4, Yf5, Yf6⟩ := row_seven hS.2.1; go_simp; try with_reducible rfl); simp only [Act.put, List.setIfInBounds_toArray, List.set_cons_zero, List.set_cons_succ])
  (refine plan_pure ?_ rfl rfl (fun w' => ?_) ?_; rotate_left; (go_simp; try with_reducible rfl); simp only [Act.put, List.setIfInBounds_toArray, List.set_cons_zero, List.set_cons_succ])
  refine plan_call (.int .i64 y) 138 #[.agg #[.int .i64 bsq, .int .i64 btk, .int .i64 bn, .int .i64 bs, .int .i64 bq, .int .i64 blo, .int .i64 bhi], .int .i64 agg] rfl rfl rfl (fun _ _ h hb => ⟨row_call h.1 hb, row_call h.2.1 hb, h.2.2.trans (hb.mono h.2.2.size)⟩) (fun w' hS => by obtain ⟨X0, X1, X2, X3, X4, X5, X6, Xf0, Xf1, Xf2, Xf3, Xf4, Xf5, Xf6⟩ := row_seven hS.1; obtain ⟨Y0, Y1, Y2, Y3, Y4, Y5, Y6, Yf0, Yf1, Yf2, Yf3, Yf4, Yf5, Yf6⟩ := row_seven hS.2.1; go_simp) (fun w' hS => PY.out w') ?_
  simp only [Act.put, List.setIfInBounds_toArray, List.set_cons_zero, List.set_cons_succ]
  (refine plan_pure ?_ rfl rfl (fun w' => ?_) ?_; rotate_left; (go_simp; try with_reducible rfl); simp only [Act.put, List.setIfInBounds_toArray, List.set_cons_zero, List.set_cons_succ])
  (refine plan_pure ?_ rfl rfl (fun w' => ?_) ?_; rotate_left; (go_simp; try with_reducible rfl); simp only [Act.put, List.setIfInBounds_toArray, List.set_cons_zero, List.set_cons_succ])
  (refine plan_val ?_ rfl rfl rfl (fun w' hS => ?_) ?_; rotate_left; (obtain ⟨X0, X1, X2, X3, X4, X5, X6, Xf0, Xf1, Xf2, Xf3, Xf4, Xf5, Xf6⟩ := row_seven hS.1; obtain ⟨Y0, Y1, Y2, Y3, Y4, Y5, Y6, Yf0, Yf1, Yf2, Yf3, Yf4, Yf5, Yf6⟩ := row_seven hS.2.1; go_simp; try with_reducible rfl); simp only [Act.put, List.setIfInBounds_toArray, List.set_cons_zero, List.set_cons_succ])
  (refine plan_pure ?_ rfl rfl (fun w' => ?_) ?_; rotate_left; (go_simp; try with_reducible rfl); simp only [Act.put, List.setIfInBounds_toArray, List.set_cons_zero, List.set_cons_succ])
  refine plan_call (.int .i64 x) 138 #[.agg #[.int .i64 sq, .int .i64 tk, .int .i64 n, .int .i64 s, .int .i64 q, .int .i64 lo, .int .i64 hi], .int .i64 agg] rfl rfl rfl (fun _ _ h hb => ⟨row_call h.1 hb, row_call h.2.1 hb, h.2.2.trans (hb.mono h.2.2.size)⟩) (fun w' hS => by obtain ⟨X0, X1, X2, X3, X4, X5, X6, Xf0, Xf1, Xf2, Xf3, Xf4, Xf5, Xf6⟩ := row_seven hS.1; obtain ⟨Y0, Y1, Y2, Y3, Y4, Y5, Y6, Yf0, Yf1, Yf2, Yf3, Yf4, Yf5, Yf6⟩ := row_seven hS.2.1; go_simp) (fun w' hS => PX.out w') ?_
  simp only [Act.put, List.setIfInBounds_toArray, List.set_cons_zero, List.set_cons_succ]
  (refine plan_pure ?_ rfl rfl (fun w' => ?_) ?_; rotate_left; (go_simp; try with_reducible rfl); simp only [Act.put, List.setIfInBounds_toArray, List.set_cons_zero, List.set_cons_succ])
  (refine plan_pure ?_ rfl rfl (fun w' => ?_) ?_; rotate_left; (go_simp; try with_reducible rfl); simp only [Act.put, List.setIfInBounds_toArray, List.set_cons_zero, List.set_cons_succ])
  refine plan_nil ?_
  intro w6 L
  simp only [List.drop_succ_cons, List.drop_zero]
  try simp only [Act.put, List.setIfInBounds_toArray, List.set_cons_zero, List.set_cons_succ]
  have o6 := L.2.2
  clear L X Y o
  go_wp2
  go_ret
  exact ⟨rfl, o6⟩
theorem pnear (agg k : Int) (a b : Mk) (w : World) (k0 : 1 ≤ k) (k1 : k ≤ 64) (ha : M64 a) (hb : M64 b) (x0 : 0 ≤ ofV agg a) (x1 : ofV agg a ≤ 1099511627776) (y0 : 0 ≤ ofV agg b) (y1 : ofV agg b ≤ 1099511627776) :
    Calls Tryz.prog 217 #[.agg #[.int .i64 a.seq, .int .i64 a.t, .int .i64 a.n, .int .i64 a.s, .int .i64 a.q, .int .i64 a.lo, .int .i64 a.hi], .agg #[.int .i64 b.seq, .int .i64 b.t, .int .i64 b.n, .int .i64 b.s, .int .i64 b.q, .int .i64 b.lo, .int .i64 b.hi], .int .i64 agg, .int .i64 k] w fun e w' => e = .returned (.bool (nearB agg k a b)) ∧ Below w.heap.size w w' := by
  have PX := fun w => pofm agg a w ha
  have PY := fun w => pofm agg b w hb
  exact pnear_flat agg k a.seq a.t a.n a.s a.q a.lo a.hi b.seq b.t b.n b.s b.q b.lo b.hi (ofV agg a) (ofV agg b) w k0 k1 x0 x1 y0 y1 PX PY
theorem rmayagg_0 (agg : Int) (w : World)   (h : agg < 1) : Calls Tryz.prog 185 #[.int .i64 agg] w fun e w' => e = .returned (.bool false) ∧ w' = w := by
  go_enter Tryz.func185, Tryz.ntmps185
  go_wp2_with fail
  go_ret
  exact ⟨by first | rfl | exact ret_bool (by simp; omega), rfl⟩
theorem pgoodS_a (agg wd k cap now : Int) (w : World) (h : agg < 1) : Calls Tryz.prog 204 #[.int .i64 agg, .int .i64 wd, .int .i64 k, .int .i64 cap, .int .i64 now] w fun e w' => e = .returned (.bool false) ∧ w' = w := by
  go_enter Tryz.func204, Tryz.ntmps204
  go_wp2_with fail
  go_ret
  exact ⟨by first | rfl | exact ret_bool (by simp; omega), rfl⟩
theorem pgoodS_b (agg wd k cap now : Int) (w : World) (h0 : 1 ≤ agg) (h : 4 < agg) : Calls Tryz.prog 204 #[.int .i64 agg, .int .i64 wd, .int .i64 k, .int .i64 cap, .int .i64 now] w fun e w' => e = .returned (.bool false) ∧ w' = w := by
  go_enter Tryz.func204, Tryz.ntmps204
  go_wp2_with fail
  go_ret
  exact ⟨by first | rfl | exact ret_bool (by simp; omega), rfl⟩
theorem pgoodS_c (agg wd k cap now : Int) (b : Bool) (w : World) (h0 : 1 ≤ agg) (h1 : agg ≤ 4) (PG : ∀ w, Calls Tryz.prog 205 #[.int .i64 wd, .int .i64 k, .int .i64 cap, .int .i64 now] w fun e w' => e = .returned (.bool b) ∧ w' = w) : Calls Tryz.prog 204 #[.int .i64 agg, .int .i64 wd, .int .i64 k, .int .i64 cap, .int .i64 now] w fun e w' => e = .returned (.bool b) ∧ w' = w := by
  have PG := Lib.hid PG
  go_enter Tryz.func204, Tryz.ntmps204
  go_wp2_with (go_at_call 205; with_reducible refine (PG.out _).mono ?_; rintro e w9 ⟨rfl, h9⟩; obtain rfl := h9.symm)
  go_ret
  exact ⟨by first | rfl | exact ret_bool (by simp; omega), rfl⟩
theorem pleast (agg : Int) (w : World) : Calls Tryz.prog 213 #[.int .i64 agg] w fun e w' => e = .returned (.int .i64 (leastV agg)) ∧ w' = w := by
  by_cases h2 : agg = 2
  · subst h2
    go_enter Tryz.func213, Tryz.ntmps213
    go_wp2
    go_ret
    exact ⟨rfl, rfl⟩
  · by_cases h3 : agg = 3
    · subst h3
      go_enter Tryz.func213, Tryz.ntmps213
      go_wp2
      go_ret
      exact ⟨rfl, rfl⟩
    · have b2 : (agg == 2) = false := by simpa using h2
      have b3 : (agg == 3) = false := by simpa using h3
      rw [show leastV agg = -4096 by unfold leastV; rw [if_neg (by omega)]]
      clear h2 h3
      go_enter Tryz.func213, Tryz.ntmps213
      go_wp2
      go_ret
      exact ⟨rfl, rfl⟩
end Go.Proofs.YtdipoojjlddohaaGreat
end
section
/- Smooth histograms: the program's check, walked. -/
set_option linter.unusedVariables false
set_option linter.unusedSimpArgs false
set_option linter.unusedSectionVars false
set_option linter.unnecessarySimpa false
namespace Go.Proofs.YtdipoojjlddohaaGreat
open Go.RowKit
theorem below_of_same {P : Program} {f : FuncId} {args : Array Value} {w : World} {e0 : Ending} (h : Calls P f args w fun e w' => e = e0 ∧ w' = w) : Calls P f args w fun e w' => e = e0 ∧ Below w.heap.size w w' := h.mono fun _ _ ⟨a, b⟩ => ⟨a, by rw [b]; exact Below.refl _ _⟩
theorem pgoodS (agg wd k cap now : Int) (w : World) : Calls Tryz.prog 204 #[.int .i64 agg, .int .i64 wd, .int .i64 k, .int .i64 cap, .int .i64 now] w fun e w' => e = .returned (.bool (decide (smGood agg wd k cap now))) ∧ w' = w := by
  by_cases h0 : 1 ≤ agg
  · by_cases h1 : agg ≤ 4
    · have e : decide (smGood agg wd k cap now) = decide (1 ≤ wd ∧ wd ≤ 1048576 ∧ 1 ≤ k ∧ k ≤ 64 ∧ 1 ≤ cap ∧ cap ≤ 65536 ∧ 0 ≤ now ∧ now ≤ 16777216) := by
        unfold smGood
        exact decide_eq_decide.2 ⟨fun h => h.2, fun h => ⟨⟨h0, h1⟩, h⟩⟩
      rw [e]
      exact pgoodS_c agg wd k cap now _ w h0 h1 (fun w => pgood wd k cap now w)
    · rw [decide_eq_false (fun a => h1 a.1.2)]
      exact pgoodS_b agg wd k cap now w h0 (Int.not_le.1 h1)
  · rw [decide_eq_false (fun a => h0 a.1.1)]
    exact pgoodS_a agg wd k cap now w (Int.not_le.1 h0)
theorem pvalS_a (A : Option Addr) (m c : Nat) (l : List Mk) (agg wd k cap now seq : Int) (w : World) (hG : ¬ smGood agg wd k cap now) : Calls Tryz.prog 136 #[.agg #[.int .i64 agg, .int .i64 wd, .int .i64 k, .int .i64 cap, .int .i64 now, .int .i64 seq, .slice A m c]] w fun e w' => e = .returned (.int .i64 (smvalE agg wd k cap now seq l)) ∧ Below w.heap.size w w' := by
  have E := Lib.hid (smvalE_no (agg := agg) (wd := wd) (k := k) (cap := cap) (now := now) (seq := seq) (l := l) (fun a => hG a.1))
  have PG := fun w => pgoodS agg wd k cap now w
  rw [decide_eq_false hG] at PG
  replace PG := Lib.hid PG
  clear hG
  go_enter Tryz.func136, Tryz.ntmps136
  go_upto_region 1 with (fail)
  have X : Row (w.alloc (.cells #[.int .i64 agg, .int .i64 wd, .int .i64 k, .int .i64 cap, .int .i64 now, .int .i64 seq, .slice A m c] 37)) w.heap.size 37 #[.int .i64 agg, .int .i64 wd, .int .i64 k, .int .i64 cap, .int .i64 now, .int .i64 seq, .slice A m c] := row_new rfl
  have o : Below w.heap.size w (w.alloc (.cells #[.int .i64 agg, .int .i64 wd, .int .i64 k, .int .i64 cap, .int .i64 now, .int .i64 seq, .slice A m c] 37)) := by (repeat (first | exact Below.refl _ _ | refine Below.setCell ?_ (by first | (simp; done) | (simp; omega) | omega) _ | refine Below.alloc ?_ (by first | (simp; done) | (simp; omega) | omega) _ | refine Below.drew ?_ | refine Below.trans ?_ (Below.mono (by assumption) (by first | (simp; done) | (simp; omega) | omega))))
  generalize (w.alloc (.cells #[.int .i64 agg, .int .i64 wd, .int .i64 k, .int .i64 cap, .int .i64 now, .int .i64 seq, .slice A m c] 37)) = w1 at X o ⊢
  refine wp_region_free0 [0, 1, 2, 3, 4, 5, 6, 7, 8, 9, 10, 11, 12, 13, 14, 15, 16, 17, 18, 19, 20, 21, 22, 23, 24, 25, 26, 27] [] [0, 1, 2, 3, 4, 5, 6, 7, 8, 9, 10, 11, 12, 13, 14, 15, 16, 17, 18, 19, 20, 21, 22, 23, 24, 25, 26, 27] 28 (fun w' => Row w' (w.heap.size) 37 #[.int .i64 agg, .int .i64 wd, .int .i64 k, .int .i64 cap, .int .i64 now, .int .i64 seq, .slice A m c] ∧ Below w.heap.size w w') (by kernel_rfl) (by kernel_rfl) (fun _ _ d _ _ h => by cases d <;> exact h) ?_ ?_
  · exact ⟨X, o.drew⟩
  (refine plan_pure ?_ rfl rfl (fun w' => ?_) ?_; rotate_left; (go_simp; try with_reducible rfl); simp only [Act.put, List.setIfInBounds_toArray, List.set_cons_zero, List.set_cons_succ])
  (refine plan_val ?_ rfl rfl rfl (fun w' hS => ?_) ?_; rotate_left; (obtain ⟨X0, X1, X2, X3, X4, X5, X6, Xf0, Xf1, Xf2, Xf3, Xf4, Xf5, Xf6⟩ := row_seven hS.1; go_simp; try with_reducible rfl); simp only [Act.put, List.setIfInBounds_toArray, List.set_cons_zero, List.set_cons_succ])
  (refine plan_pure ?_ rfl rfl (fun w' => ?_) ?_; rotate_left; (go_simp; try with_reducible rfl); simp only [Act.put, List.setIfInBounds_toArray, List.set_cons_zero, List.set_cons_succ])
  (refine plan_val ?_ rfl rfl rfl (fun w' hS => ?_) ?_; rotate_left; (obtain ⟨X0, X1, X2, X3, X4, X5, X6, Xf0, Xf1, Xf2, Xf3, Xf4, Xf5, Xf6⟩ := row_seven hS.1; go_simp; try with_reducible rfl); simp only [Act.put, List.setIfInBounds_toArray, List.set_cons_zero, List.set_cons_succ])
  (refine plan_pure ?_ rfl rfl (fun w' => ?_) ?_; rotate_left; (go_simp; try with_reducible rfl); simp only [Act.put, List.setIfInBounds_toArray, List.set_cons_zero, List.set_cons_succ])
  (refine plan_val ?_ rfl rfl rfl (fun w' hS => ?_) ?_; rotate_left; (obtain ⟨X0, X1, X2, X3, X4, X5, X6, Xf0, Xf1, Xf2, Xf3, Xf4, Xf5, Xf6⟩ := row_seven hS.1; go_simp; try with_reducible rfl); simp only [Act.put, List.setIfInBounds_toArray, List.set_cons_zero, List.set_cons_succ])
  (refine plan_pure ?_ rfl rfl (fun w' => ?_) ?_; rotate_left; (go_simp; try with_reducible rfl); simp only [Act.put, List.setIfInBounds_toArray, List.set_cons_zero, List.set_cons_succ])
  (refine plan_val ?_ rfl rfl rfl (fun w' hS => ?_) ?_; rotate_left; (obtain ⟨X0, X1, X2, X3, X4, X5, X6, Xf0, Xf1, Xf2, Xf3, Xf4, Xf5, Xf6⟩ := row_seven hS.1; go_simp; try with_reducible rfl); simp only [Act.put, List.setIfInBounds_toArray, List.set_cons_zero, List.set_cons_succ])
  (refine plan_pure ?_ rfl rfl (fun w' => ?_) ?_; rotate_left; (go_simp; try with_reducible rfl); simp only [Act.put, List.setIfInBounds_toArray, List.set_cons_zero, List.set_cons_succ])
  (refine plan_val ?_ rfl rfl rfl (fun w' hS => ?_) ?_; rotate_left; (obtain ⟨X0, X1, X2, X3, X4, X5, X6, Xf0, Xf1, Xf2, Xf3, Xf4, Xf5, Xf6⟩ := row_seven hS.1; go_simp; try with_reducible rfl); simp only [Act.put, List.setIfInBounds_toArray, List.set_cons_zero, List.set_cons_succ])
  refine plan_call (.bool false) 204 #[.int .i64 agg, .int .i64 wd, .int .i64 k, .int .i64 cap, .int .i64 now] rfl rfl rfl (fun _ _ h hb => ⟨row_call h.1 hb, h.2.trans (hb.mono h.2.size)⟩) (fun w' hS => by obtain ⟨X0, X1, X2, X3, X4, X5, X6, Xf0, Xf1, Xf2, Xf3, Xf4, Xf5, Xf6⟩ := row_seven hS.1; go_simp) (fun w' hS => below_of_same (PG.out w')) ?_
  simp only [Act.put, List.setIfInBounds_toArray, List.set_cons_zero, List.set_cons_succ]
  (refine plan_pure ?_ rfl rfl (fun w' => ?_) ?_; rotate_left; (go_simp; try with_reducible rfl); simp only [Act.put, List.setIfInBounds_toArray, List.set_cons_zero, List.set_cons_succ])
  (refine plan_pure ?_ rfl rfl (fun w' => ?_) ?_; rotate_left; (go_simp; try with_reducible rfl); simp only [Act.put, List.setIfInBounds_toArray, List.set_cons_zero, List.set_cons_succ])
  refine plan_not rfl rfl ?_
  simp only [Act.put, List.setIfInBounds_toArray, List.set_cons_zero, List.set_cons_succ]
  refine plan_not rfl rfl ?_
  simp only [Act.put, List.setIfInBounds_toArray, List.set_cons_zero, List.set_cons_succ]
  refine plan_not rfl rfl ?_
  simp only [Act.put, List.setIfInBounds_toArray, List.set_cons_zero, List.set_cons_succ]
  refine plan_not rfl rfl ?_
  simp only [Act.put, List.setIfInBounds_toArray, List.set_cons_zero, List.set_cons_succ]
  refine plan_not rfl rfl ?_
  simp only [Act.put, List.setIfInBounds_toArray, List.set_cons_zero, List.set_cons_succ]
  refine plan_not rfl rfl ?_
  simp only [Act.put, List.setIfInBounds_toArray, List.set_cons_zero, List.set_cons_succ]
  refine plan_not rfl rfl ?_
  simp only [Act.put, List.setIfInBounds_toArray, List.set_cons_zero, List.set_cons_succ]
  refine plan_not rfl rfl ?_
  simp only [Act.put, List.setIfInBounds_toArray, List.set_cons_zero, List.set_cons_succ]
  refine plan_not rfl rfl ?_
  simp only [Act.put, List.setIfInBounds_toArray, List.set_cons_zero, List.set_cons_succ]
  refine plan_not rfl rfl ?_
  simp only [Act.put, List.setIfInBounds_toArray, List.set_cons_zero, List.set_cons_succ]
  refine plan_not rfl rfl ?_
  simp only [Act.put, List.setIfInBounds_toArray, List.set_cons_zero, List.set_cons_succ]
  refine plan_not rfl rfl ?_
  simp only [Act.put, List.setIfInBounds_toArray, List.set_cons_zero, List.set_cons_succ]
  refine plan_not rfl rfl ?_
  simp only [Act.put, List.setIfInBounds_toArray, List.set_cons_zero, List.set_cons_succ]
  refine plan_not rfl rfl ?_
  simp only [Act.put, List.setIfInBounds_toArray, List.set_cons_zero, List.set_cons_succ]
  refine plan_not rfl rfl ?_
  simp only [Act.put, List.setIfInBounds_toArray, List.set_cons_zero, List.set_cons_succ]
  refine plan_nil ?_
  intro w2 L
  simp only [List.drop_succ_cons, List.drop_zero]
  try simp only [Act.put, List.setIfInBounds_toArray, List.set_cons_zero, List.set_cons_succ]
  have o2 := L.2
  clear L X o
  go_wp2
  go_ret
  exact ⟨ret_i64 E.out.symm, o2⟩
theorem pvalS_b (A : Option Addr) (m c : Nat) (l : List Mk) (agg wd k cap now seq : Int) (w : World) (hin : MIn A m c l w) (sB : I64 seq) (hG : smGood agg wd k cap now) (hV : ¬ mvalid l seq cap now wd (leastV agg)) : Calls Tryz.prog 136 #[.agg #[.int .i64 agg, .int .i64 wd, .int .i64 k, .int .i64 cap, .int .i64 now, .int .i64 seq, .slice A m c]] w fun e w' => e = .returned (.int .i64 (smvalE agg wd k cap now seq l)) ∧ Below w.heap.size w w' := by
  have E := Lib.hid (smvalE_no (agg := agg) (wd := wd) (k := k) (cap := cap) (now := now) (seq := seq) (l := l) (fun a => hV a.2.1))
  have PG := fun w => pgoodS agg wd k cap now w
  rw [decide_eq_true hG] at PG
  replace PG := Lib.hid PG
  obtain ⟨⟨a0, a1⟩, d0, d1, k0, k1, c0, c1, n0, n1⟩ := hG
  have PL := fun w => pleast agg w
  have PV := fun w' (hb : Below w.heap.size w w') => pmvalid A m c l seq cap now wd (leastV agg) w' (hin.below hb) sB c0 c1 n0 n1 d0 d1 (leastV_ge agg)
  rw [decide_eq_false hV] at PV
  generalize leastV agg = least at PL PV
  replace PL := Lib.hid PL
  replace PV := Lib.hid PV
  clear hV hin sB
  go_enter Tryz.func136, Tryz.ntmps136
  go_upto_region 1 with (fail)
  have X : Row (w.alloc (.cells #[.int .i64 agg, .int .i64 wd, .int .i64 k, .int .i64 cap, .int .i64 now, .int .i64 seq, .slice A m c] 37)) w.heap.size 37 #[.int .i64 agg, .int .i64 wd, .int .i64 k, .int .i64 cap, .int .i64 now, .int .i64 seq, .slice A m c] := row_new rfl
  have o : Below w.heap.size w (w.alloc (.cells #[.int .i64 agg, .int .i64 wd, .int .i64 k, .int .i64 cap, .int .i64 now, .int .i64 seq, .slice A m c] 37)) := by (repeat (first | exact Below.refl _ _ | refine Below.setCell ?_ (by first | (simp; done) | (simp; omega) | omega) _ | refine Below.alloc ?_ (by first | (simp; done) | (simp; omega) | omega) _ | refine Below.drew ?_ | refine Below.trans ?_ (Below.mono (by assumption) (by first | (simp; done) | (simp; omega) | omega))))
  generalize (w.alloc (.cells #[.int .i64 agg, .int .i64 wd, .int .i64 k, .int .i64 cap, .int .i64 now, .int .i64 seq, .slice A m c] 37)) = w1 at X o ⊢
  refine wp_region_free0 [0, 1, 2, 3, 4, 5, 6, 7, 8, 9, 10, 11, 12, 13, 14, 15, 16, 17, 18, 19, 20, 21, 22, 23, 24, 25, 26, 27] [] [0, 1, 2, 3, 4, 5, 6, 7, 8, 9, 10, 11, 12, 13, 14, 15, 16, 17, 18, 19, 20, 21, 22, 23, 24, 25, 26, 27] 28 (fun w' => Row w' (w.heap.size) 37 #[.int .i64 agg, .int .i64 wd, .int .i64 k, .int .i64 cap, .int .i64 now, .int .i64 seq, .slice A m c] ∧ Below w.heap.size w w') (by kernel_rfl) (by kernel_rfl) (fun _ _ d _ _ h => by cases d <;> exact h) ?_ ?_
  · exact ⟨X, o.drew⟩
  (refine plan_pure ?_ rfl rfl (fun w' => ?_) ?_; rotate_left; (go_simp; try with_reducible rfl); simp only [Act.put, List.setIfInBounds_toArray, List.set_cons_zero, List.set_cons_succ])
  (refine plan_val ?_ rfl rfl rfl (fun w' hS => ?_) ?_; rotate_left; (obtain ⟨X0, X1, X2, X3, X4, X5, X6, Xf0, Xf1, Xf2, Xf3, Xf4, Xf5, Xf6⟩ := row_seven hS.1; go_simp; try with_reducible rfl); simp only [Act.put, List.setIfInBounds_toArray, List.set_cons_zero, List.set_cons_succ])
  (refine plan_pure ?_ rfl rfl (fun w' => ?_) ?_; rotate_left; (go_simp; try with_reducible rfl); simp only [Act.put, List.setIfInBounds_toArray, List.set_cons_zero, List.set_cons_succ])
  (refine plan_val ?_ rfl rfl rfl (fun w' hS => ?_) ?_; rotate_left; (obtain ⟨X0, X1, X2, X3, X4, X5, X6, Xf0, Xf1, Xf2, Xf3, Xf4, Xf5, Xf6⟩ := row_seven hS.1; go_simp; try with_reducible rfl); simp only [Act.put, List.setIfInBounds_toArray, List.set_cons_zero, List.set_cons_succ])
  (refine plan_pure ?_ rfl rfl (fun w' => ?_) ?_; rotate_left; (go_simp; try with_reducible rfl); simp only [Act.put, List.setIfInBounds_toArray, List.set_cons_zero, List.set_cons_succ])
  (refine plan_val ?_ rfl rfl rfl (fun w' hS => ?_) ?_; rotate_left; (obtain ⟨X0, X1, X2, X3, X4, X5, X6, Xf0, Xf1, Xf2, Xf3, Xf4, Xf5, Xf6⟩ := row_seven hS.1; go_simp; try with_reducible rfl); simp only [Act.put, List.setIfInBounds_toArray, List.set_cons_zero, List.set_cons_succ])
  (refine plan_pure ?_ rfl rfl (fun w' => ?_) ?_; rotate_left; (go_simp; try with_reducible rfl); simp only [Act.put, List.setIfInBounds_toArray, List.set_cons_zero, List.set_cons_succ])
  (refine plan_val ?_ rfl rfl rfl (fun w' hS => ?_) ?_; rotate_left; (obtain ⟨X0, X1, X2, X3, X4, X5, X6, Xf0, Xf1, Xf2, Xf3, Xf4, Xf5, Xf6⟩ := row_seven hS.1; go_simp; try with_reducible rfl); simp only [Act.put, List.setIfInBounds_toArray, List.set_cons_zero, List.set_cons_succ])
  (refine plan_pure ?_ rfl rfl (fun w' => ?_) ?_; rotate_left; (go_simp; try with_reducible rfl); simp only [Act.put, List.setIfInBounds_toArray, List.set_cons_zero, List.set_cons_succ])
  (refine plan_val ?_ rfl rfl rfl (fun w' hS => ?_) ?_; rotate_left; (obtain ⟨X0, X1, X2, X3, X4, X5, X6, Xf0, Xf1, Xf2, Xf3, Xf4, Xf5, Xf6⟩ := row_seven hS.1; go_simp; try with_reducible rfl); simp only [Act.put, List.setIfInBounds_toArray, List.set_cons_zero, List.set_cons_succ])
  refine plan_call (.bool true) 204 #[.int .i64 agg, .int .i64 wd, .int .i64 k, .int .i64 cap, .int .i64 now] rfl rfl rfl (fun _ _ h hb => ⟨row_call h.1 hb, h.2.trans (hb.mono h.2.size)⟩) (fun w' hS => by obtain ⟨X0, X1, X2, X3, X4, X5, X6, Xf0, Xf1, Xf2, Xf3, Xf4, Xf5, Xf6⟩ := row_seven hS.1; go_simp) (fun w' hS => below_of_same (PG.out w')) ?_
  simp only [Act.put, List.setIfInBounds_toArray, List.set_cons_zero, List.set_cons_succ]
  (refine plan_pure ?_ rfl rfl (fun w' => ?_) ?_; rotate_left; (go_simp; try with_reducible rfl); simp only [Act.put, List.setIfInBounds_toArray, List.set_cons_zero, List.set_cons_succ])
  (refine plan_pure ?_ rfl rfl (fun w' => ?_) ?_; rotate_left; (go_simp; try with_reducible rfl); simp only [Act.put, List.setIfInBounds_toArray, List.set_cons_zero, List.set_cons_succ])
  (refine plan_pure ?_ rfl rfl (fun w' => ?_) ?_; rotate_left; (go_simp; try with_reducible rfl); simp only [Act.put, List.setIfInBounds_toArray, List.set_cons_zero, List.set_cons_succ])
  (refine plan_val ?_ rfl rfl rfl (fun w' hS => ?_) ?_; rotate_left; (obtain ⟨X0, X1, X2, X3, X4, X5, X6, Xf0, Xf1, Xf2, Xf3, Xf4, Xf5, Xf6⟩ := row_seven hS.1; go_simp; try with_reducible rfl); simp only [Act.put, List.setIfInBounds_toArray, List.set_cons_zero, List.set_cons_succ])
  (refine plan_pure ?_ rfl rfl (fun w' => ?_) ?_; rotate_left; (go_simp; try with_reducible rfl); simp only [Act.put, List.setIfInBounds_toArray, List.set_cons_zero, List.set_cons_succ])
  (refine plan_val ?_ rfl rfl rfl (fun w' hS => ?_) ?_; rotate_left; (obtain ⟨X0, X1, X2, X3, X4, X5, X6, Xf0, Xf1, Xf2, Xf3, Xf4, Xf5, Xf6⟩ := row_seven hS.1; go_simp; try with_reducible rfl); simp only [Act.put, List.setIfInBounds_toArray, List.set_cons_zero, List.set_cons_succ])
  (refine plan_pure ?_ rfl rfl (fun w' => ?_) ?_; rotate_left; (go_simp; try with_reducible rfl); simp only [Act.put, List.setIfInBounds_toArray, List.set_cons_zero, List.set_cons_succ])
  (refine plan_val ?_ rfl rfl rfl (fun w' hS => ?_) ?_; rotate_left; (obtain ⟨X0, X1, X2, X3, X4, X5, X6, Xf0, Xf1, Xf2, Xf3, Xf4, Xf5, Xf6⟩ := row_seven hS.1; go_simp; try with_reducible rfl); simp only [Act.put, List.setIfInBounds_toArray, List.set_cons_zero, List.set_cons_succ])
  (refine plan_pure ?_ rfl rfl (fun w' => ?_) ?_; rotate_left; (go_simp; try with_reducible rfl); simp only [Act.put, List.setIfInBounds_toArray, List.set_cons_zero, List.set_cons_succ])
  (refine plan_val ?_ rfl rfl rfl (fun w' hS => ?_) ?_; rotate_left; (obtain ⟨X0, X1, X2, X3, X4, X5, X6, Xf0, Xf1, Xf2, Xf3, Xf4, Xf5, Xf6⟩ := row_seven hS.1; go_simp; try with_reducible rfl); simp only [Act.put, List.setIfInBounds_toArray, List.set_cons_zero, List.set_cons_succ])
  (refine plan_pure ?_ rfl rfl (fun w' => ?_) ?_; rotate_left; (go_simp; try with_reducible rfl); simp only [Act.put, List.setIfInBounds_toArray, List.set_cons_zero, List.set_cons_succ])
  (refine plan_val ?_ rfl rfl rfl (fun w' hS => ?_) ?_; rotate_left; (obtain ⟨X0, X1, X2, X3, X4, X5, X6, Xf0, Xf1, Xf2, Xf3, Xf4, Xf5, Xf6⟩ := row_seven hS.1; go_simp; try with_reducible rfl); simp only [Act.put, List.setIfInBounds_toArray, List.set_cons_zero, List.set_cons_succ])
  (refine plan_pure ?_ rfl rfl (fun w' => ?_) ?_; rotate_left; (go_simp; try with_reducible rfl); simp only [Act.put, List.setIfInBounds_toArray, List.set_cons_zero, List.set_cons_succ])
  (refine plan_val ?_ rfl rfl rfl (fun w' hS => ?_) ?_; rotate_left; (obtain ⟨X0, X1, X2, X3, X4, X5, X6, Xf0, Xf1, Xf2, Xf3, Xf4, Xf5, Xf6⟩ := row_seven hS.1; go_simp; try with_reducible rfl); simp only [Act.put, List.setIfInBounds_toArray, List.set_cons_zero, List.set_cons_succ])
  refine plan_call (.int .i64 least) 213 #[.int .i64 agg] rfl rfl rfl (fun _ _ h hb => ⟨row_call h.1 hb, h.2.trans (hb.mono h.2.size)⟩) (fun w' hS => by obtain ⟨X0, X1, X2, X3, X4, X5, X6, Xf0, Xf1, Xf2, Xf3, Xf4, Xf5, Xf6⟩ := row_seven hS.1; go_simp) (fun w' hS => below_of_same (PL.out w')) ?_
  simp only [Act.put, List.setIfInBounds_toArray, List.set_cons_zero, List.set_cons_succ]
  refine plan_call (.bool false) 229 #[.slice A m c, .int .i64 seq, .int .i64 cap, .int .i64 now, .int .i64 wd, .int .i64 least] rfl rfl rfl (fun _ _ h hb => ⟨row_call h.1 hb, h.2.trans (hb.mono h.2.size)⟩) (fun w' hS => by obtain ⟨X0, X1, X2, X3, X4, X5, X6, Xf0, Xf1, Xf2, Xf3, Xf4, Xf5, Xf6⟩ := row_seven hS.1; go_simp) (fun w' hS => PV.out w' (hS.2)) ?_
  simp only [Act.put, List.setIfInBounds_toArray, List.set_cons_zero, List.set_cons_succ]
  (refine plan_pure ?_ rfl rfl (fun w' => ?_) ?_; rotate_left; (go_simp; try with_reducible rfl); simp only [Act.put, List.setIfInBounds_toArray, List.set_cons_zero, List.set_cons_succ])
  refine plan_nil ?_
  intro w2 L
  simp only [List.drop_succ_cons, List.drop_zero]
  try simp only [Act.put, List.setIfInBounds_toArray, List.set_cons_zero, List.set_cons_succ]
  have o2 := L.2
  clear L X o
  go_wp2
  go_ret
  exact ⟨ret_i64 E.out.symm, o2⟩
set_option maxRecDepth 100000 in
set_option maxHeartbeats 8000000 in
theorem pvalS_c (A : Option Addr) (m c : Nat) (l : List Mk) (agg wd k cap now seq : Int) (w : World) (hin : MIn A m c l w) (sB : I64 seq) (hG : smGood agg wd k cap now) (hV : mvalid l seq cap now wd (leastV agg)) : Calls Tryz.prog 136 #[.agg #[.int .i64 agg, .int .i64 wd, .int .i64 k, .int .i64 cap, .int .i64 now, .int .i64 seq, .slice A m c]] w fun e w' => e = .returned (.int .i64 (smvalE agg wd k cap now seq l)) ∧ Below w.heap.size w w' := by
  have HG := Lib.hid hG
  have HV := Lib.hid hV
  have HR := Lib.hid hin
  have HL := Lib.hid hin.len
  have mB := hin.max
  have PG := fun w => pgoodS agg wd k cap now w
  rw [decide_eq_true hG] at PG
  replace PG := Lib.hid PG
  obtain ⟨⟨a0, a1⟩, d0, d1, k0, k1, c0, c1, n0, n1⟩ := hG
  have PL := fun w => pleast agg w
  have PV := fun w' (hb : Below w.heap.size w w') => pmvalid A m c l seq cap now wd (leastV agg) w' (hin.below hb) sB c0 c1 n0 n1 d0 d1 (leastV_ge agg)
  rw [decide_eq_true hV] at PV
  generalize leastV agg = least at PL PV
  replace PL := Lib.hid PL
  replace PV := Lib.hid PV
  clear hV hin sB
  go_enter Tryz.func136, Tryz.ntmps136
  go_upto_region 1 with (fail)
  have X : Row (w.alloc (.cells #[.int .i64 agg, .int .i64 wd, .int .i64 k, .int .i64 cap, .int .i64 now, .int .i64 seq, .slice A m c] 37)) w.heap.size 37 #[.int .i64 agg, .int .i64 wd, .int .i64 k, .int .i64 cap, .int .i64 now, .int .i64 seq, .slice A m c] := row_new rfl
  have o : Below w.heap.size w (w.alloc (.cells #[.int .i64 agg, .int .i64 wd, .int .i64 k, .int .i64 cap, .int .i64 now, .int .i64 seq, .slice A m c] 37)) := by (repeat (first | exact Below.refl _ _ | refine Below.setCell ?_ (by first | (simp; done) | (simp; omega) | omega) _ | refine Below.alloc ?_ (by first | (simp; done) | (simp; omega) | omega) _ | refine Below.drew ?_ | refine Below.trans ?_ (Below.mono (by assumption) (by first | (simp; done) | (simp; omega) | omega))))
  generalize (w.alloc (.cells #[.int .i64 agg, .int .i64 wd, .int .i64 k, .int .i64 cap, .int .i64 now, .int .i64 seq, .slice A m c] 37)) = w1 at X o ⊢
  refine wp_region_free0 [0, 1, 2, 3, 4, 5, 6, 7, 8, 9, 10, 11, 12, 13, 14, 15, 16, 17, 18, 19, 20, 21, 22, 23, 24, 25, 26, 27] [] [0, 1, 2, 3, 4, 5, 6, 7, 8, 9, 10, 11, 12, 13, 14, 15, 16, 17, 18, 19, 20, 21, 22, 23, 24, 25, 26, 27] 28 (fun w' => Row w' (w.heap.size) 37 #[.int .i64 agg, .int .i64 wd, .int .i64 k, .int .i64 cap, .int .i64 now, .int .i64 seq, .slice A m c] ∧ Below w.heap.size w w') (by kernel_rfl) (by kernel_rfl) (fun _ _ d _ _ h => by cases d <;> exact h) ?_ ?_
  · exact ⟨X, o.drew⟩
  (refine plan_pure ?_ rfl rfl (fun w' => ?_) ?_; rotate_left; (go_simp; try with_reducible rfl); simp only [Act.put, List.setIfInBounds_toArray, List.set_cons_zero, List.set_cons_succ])
  (refine plan_val ?_ rfl rfl rfl (fun w' hS => ?_) ?_; rotate_left; (obtain ⟨X0, X1, X2, X3, X4, X5, X6, Xf0, Xf1, Xf2, Xf3, Xf4, Xf5, Xf6⟩ := row_seven hS.1; go_simp; try with_reducible rfl); simp only [Act.put, List.setIfInBounds_toArray, List.set_cons_zero, List.set_cons_succ])
  (refine plan_pure ?_ rfl rfl (fun w' => ?_) ?_; rotate_left; (go_simp; try with_reducible rfl); simp only [Act.put, List.setIfInBounds_toArray, List.set_cons_zero, List.set_cons_succ])
  (refine plan_val ?_ rfl rfl rfl (fun w' hS => ?_) ?_; rotate_left; (obtain ⟨X0, X1, X2, X3, X4, X5, X6, Xf0, Xf1, Xf2, Xf3, Xf4, Xf5, Xf6⟩ := row_seven hS.1; go_simp; try with_reducible rfl); simp only [Act.put, List.setIfInBounds_toArray, List.set_cons_zero, List.set_cons_succ])
  (refine plan_pure ?_ rfl rfl (fun w' => ?_) ?_; rotate_left; (go_simp; try with_reducible rfl); simp only [Act.put, List.setIfInBounds_toArray, List.set_cons_zero, List.set_cons_succ])
  (refine plan_val ?_ rfl rfl rfl (fun w' hS => ?_) ?_; rotate_left; (obtain ⟨X0, X1, X2, X3, X4, X5, X6, Xf0, Xf1, Xf2, Xf3, Xf4, Xf5, Xf6⟩ := row_seven hS.1; go_simp; try with_reducible rfl); simp only [Act.put, List.setIfInBounds_toArray, List.set_cons_zero, List.set_cons_succ])
  (refine plan_pure ?_ rfl rfl (fun w' => ?_) ?_; rotate_left; (go_simp; try with_reducible rfl); simp only [Act.put, List.setIfInBounds_toArray, List.set_cons_zero, List.set_cons_succ])
  (refine plan_val ?_ rfl rfl rfl (fun w' hS => ?_) ?_; rotate_left; (obtain ⟨X0, X1, X2, X3, X4, X5, X6, Xf0, Xf1, Xf2, Xf3, Xf4, Xf5, Xf6⟩ := row_seven hS.1; go_simp; try with_reducible rfl); simp only [Act.put, List.setIfInBounds_toArray, List.set_cons_zero, List.set_cons_succ])
  (refine plan_pure ?_ rfl rfl (fun w' => ?_) ?_; rotate_left; (go_simp; try with_reducible rfl); simp only [Act.put, List.setIfInBounds_toArray, List.set_cons_zero, List.set_cons_succ])
  (refine plan_val ?_ rfl rfl rfl (fun w' hS => ?_) ?_; rotate_left; (obtain ⟨X0, X1, X2, X3, X4, X5, X6, Xf0, Xf1, Xf2, Xf3, Xf4, Xf5, Xf6⟩ := row_seven hS.1; go_simp; try with_reducible rfl); simp only [Act.put, List.setIfInBounds_toArray, List.set_cons_zero, List.set_cons_succ])
  refine plan_call (.bool true) 204 #[.int .i64 agg, .int .i64 wd, .int .i64 k, .int .i64 cap, .int .i64 now] rfl rfl rfl (fun _ _ h hb => ⟨row_call h.1 hb, h.2.trans (hb.mono h.2.size)⟩) (fun w' hS => by obtain ⟨X0, X1, X2, X3, X4, X5, X6, Xf0, Xf1, Xf2, Xf3, Xf4, Xf5, Xf6⟩ := row_seven hS.1; go_simp) (fun w' hS => below_of_same (PG.out w')) ?_
  simp only [Act.put, List.setIfInBounds_toArray, List.set_cons_zero, List.set_cons_succ]
  (refine plan_pure ?_ rfl rfl (fun w' => ?_) ?_; rotate_left; (go_simp; try with_reducible rfl); simp only [Act.put, List.setIfInBounds_toArray, List.set_cons_zero, List.set_cons_succ])
  (refine plan_pure ?_ rfl rfl (fun w' => ?_) ?_; rotate_left; (go_simp; try with_reducible rfl); simp only [Act.put, List.setIfInBounds_toArray, List.set_cons_zero, List.set_cons_succ])
  (refine plan_pure ?_ rfl rfl (fun w' => ?_) ?_; rotate_left; (go_simp; try with_reducible rfl); simp only [Act.put, List.setIfInBounds_toArray, List.set_cons_zero, List.set_cons_succ])
  (refine plan_val ?_ rfl rfl rfl (fun w' hS => ?_) ?_; rotate_left; (obtain ⟨X0, X1, X2, X3, X4, X5, X6, Xf0, Xf1, Xf2, Xf3, Xf4, Xf5, Xf6⟩ := row_seven hS.1; go_simp; try with_reducible rfl); simp only [Act.put, List.setIfInBounds_toArray, List.set_cons_zero, List.set_cons_succ])
  (refine plan_pure ?_ rfl rfl (fun w' => ?_) ?_; rotate_left; (go_simp; try with_reducible rfl); simp only [Act.put, List.setIfInBounds_toArray, List.set_cons_zero, List.set_cons_succ])
  (refine plan_val ?_ rfl rfl rfl (fun w' hS => ?_) ?_; rotate_left; (obtain ⟨X0, X1, X2, X3, X4, X5, X6, Xf0, Xf1, Xf2, Xf3, Xf4, Xf5, Xf6⟩ := row_seven hS.1; go_simp; try with_reducible rfl); simp only [Act.put, List.setIfInBounds_toArray, List.set_cons_zero, List.set_cons_succ])
  (refine plan_pure ?_ rfl rfl (fun w' => ?_) ?_; rotate_left; (go_simp; try with_reducible rfl); simp only [Act.put, List.setIfInBounds_toArray, List.set_cons_zero, List.set_cons_succ])
  (refine plan_val ?_ rfl rfl rfl (fun w' hS => ?_) ?_; rotate_left; (obtain ⟨X0, X1, X2, X3, X4, X5, X6, Xf0, Xf1, Xf2, Xf3, Xf4, Xf5, Xf6⟩ := row_seven hS.1; go_simp; try with_reducible rfl); simp only [Act.put, List.setIfInBounds_toArray, List.set_cons_zero, List.set_cons_succ])
  (refine plan_pure ?_ rfl rfl (fun w' => ?_) ?_; rotate_left; (go_simp; try with_reducible rfl); simp only [Act.put, List.setIfInBounds_toArray, List.set_cons_zero, List.set_cons_succ])
  (refine plan_val ?_ rfl rfl rfl (fun w' hS => ?_) ?_; rotate_left; (obtain ⟨X0, X1, X2, X3, X4, X5, X6, Xf0, Xf1, Xf2, Xf3, Xf4, Xf5, Xf6⟩ := row_seven hS.1; go_simp; try with_reducible rfl); simp only [Act.put, List.setIfInBounds_toArray, List.set_cons_zero, List.set_cons_succ])
  (refine plan_pure ?_ rfl rfl (fun w' => ?_) ?_; rotate_left; (go_simp; try with_reducible rfl); simp only [Act.put, List.setIfInBounds_toArray, List.set_cons_zero, List.set_cons_succ])
  (refine plan_val ?_ rfl rfl rfl (fun w' hS => ?_) ?_; rotate_left; (obtain ⟨X0, X1, X2, X3, X4, X5, X6, Xf0, Xf1, Xf2, Xf3, Xf4, Xf5, Xf6⟩ := row_seven hS.1; go_simp; try with_reducible rfl); simp only [Act.put, List.setIfInBounds_toArray, List.set_cons_zero, List.set_cons_succ])
  (refine plan_pure ?_ rfl rfl (fun w' => ?_) ?_; rotate_left; (go_simp; try with_reducible rfl); simp only [Act.put, List.setIfInBounds_toArray, List.set_cons_zero, List.set_cons_succ])
  (refine plan_val ?_ rfl rfl rfl (fun w' hS => ?_) ?_; rotate_left; (obtain ⟨X0, X1, X2, X3, X4, X5, X6, Xf0, Xf1, Xf2, Xf3, Xf4, Xf5, Xf6⟩ := row_seven hS.1; go_simp; try with_reducible rfl); simp only [Act.put, List.setIfInBounds_toArray, List.set_cons_zero, List.set_cons_succ])
  refine plan_call (.int .i64 least) 213 #[.int .i64 agg] rfl rfl rfl (fun _ _ h hb => ⟨row_call h.1 hb, h.2.trans (hb.mono h.2.size)⟩) (fun w' hS => by obtain ⟨X0, X1, X2, X3, X4, X5, X6, Xf0, Xf1, Xf2, Xf3, Xf4, Xf5, Xf6⟩ := row_seven hS.1; go_simp) (fun w' hS => below_of_same (PL.out w')) ?_
  simp only [Act.put, List.setIfInBounds_toArray, List.set_cons_zero, List.set_cons_succ]
  refine plan_call (.bool true) 229 #[.slice A m c, .int .i64 seq, .int .i64 cap, .int .i64 now, .int .i64 wd, .int .i64 least] rfl rfl rfl (fun _ _ h hb => ⟨row_call h.1 hb, h.2.trans (hb.mono h.2.size)⟩) (fun w' hS => by obtain ⟨X0, X1, X2, X3, X4, X5, X6, Xf0, Xf1, Xf2, Xf3, Xf4, Xf5, Xf6⟩ := row_seven hS.1; go_simp) (fun w' hS => PV.out w' (hS.2)) ?_
  simp only [Act.put, List.setIfInBounds_toArray, List.set_cons_zero, List.set_cons_succ]
  (refine plan_pure ?_ rfl rfl (fun w' => ?_) ?_; rotate_left; (go_simp; try with_reducible rfl); simp only [Act.put, List.setIfInBounds_toArray, List.set_cons_zero, List.set_cons_succ])
  refine plan_nil ?_
  intro w2 L
  simp only [List.drop_succ_cons, List.drop_zero]
  try simp only [Act.put, List.setIfInBounds_toArray, List.set_cons_zero, List.set_cons_succ]
  obtain ⟨X, o⟩ := L
  obtain ⟨xb, hxb⟩ : ∃ x, x = w.heap.size := ⟨_, rfl⟩
  have zx : w.heap.size ≤ xb := by omega
  rw [← hxb] at X ⊢
  clear hxb
  obtain ⟨X0, X1, X2, X3, X4, X5, X6, Xf0, Xf1, Xf2, Xf3, Xf4, Xf5, Xf6⟩ := row_seven X
  go_wp2
  go_loopw [37] (fun i wr => ∃ j : Nat, j ≤ m ∧ i = .int .i64 (j : Nat) ∧ RowKit.Hid (∀ e, e < j → smAt agg k l e) ∧ Row wr xb 37 #[.int .i64 agg, .int .i64 wd, .int .i64 k, .int .i64 cap, .int .i64 now, .int .i64 seq, .slice A m c] ∧ Below w.heap.size w wr) (fun i _ => m - (intOf i).toNat)
  case atStart => exact ⟨0, by omega, rfl, Lib.hid (fun e h => absurd h (by omega)), X, o⟩
  case round =>
    obtain ⟨j, hj, rfl, HA, X, o⟩ := hrel
    by_cases hlt : j < m
    · skip
      obtain ⟨ad, rfl, hadb, ht0⟩ := HR.out.reads.mk hlt
      have hM0 := HR.out.mB j
      have hG0 := ofV_bound (HV.out.2.2.1 j (by rw [HL.out]; exact hlt)).1 c1
      generalize hO0 : mkAt l j = mj at ht0 hM0 hG0
      have HO0 := Lib.hid hO0
      obtain ⟨sq, tk, n, s, q, lo, hi⟩ := mj
      obtain ⟨q0, q1, q2, q3, q4, q5, q6⟩ := ht0.below o (by rw [block_of_add]; exact hadb)
      dsimp only at q0 q1 q2 q3 q4 q5 q6
      clear hO0 ht0
      have i1 : (j : Int) < (m : Int) := by omega
      have i2 : (0 : Int) ≤ (j : Int) := by omega
      go_upto_region 6 with (fail)
      have K : Row (wr.alloc (.cells #[.int .i64 sq, .int .i64 tk, .int .i64 n, .int .i64 s, .int .i64 q, .int .i64 lo, .int .i64 hi] 228)) wr.heap.size 228 #[.int .i64 sq, .int .i64 tk, .int .i64 n, .int .i64 s, .int .i64 q, .int .i64 lo, .int .i64 hi] := row_new rfl
      have z0 := o.size
      replace X := row_alloc X (.cells #[.int .i64 sq, .int .i64 tk, .int .i64 n, .int .i64 s, .int .i64 q, .int .i64 lo, .int .i64 hi] 228)
      replace o := o.alloc o.size (.cells #[.int .i64 sq, .int .i64 tk, .int .i64 n, .int .i64 s, .int .i64 q, .int .i64 lo, .int .i64 hi] 228)
      generalize (wr.alloc (.cells #[.int .i64 sq, .int .i64 tk, .int .i64 n, .int .i64 s, .int .i64 q, .int .i64 lo, .int .i64 hi] 228)) = w3 at K X o ⊢
      generalize wr.heap.size = mb at K z0 ⊢
      clear q0 q1 q2 q3 q4 q5 q6
      by_cases j2 : 2 ≤ j
      · skip
        obtain ⟨adz, eaz, _, htz⟩ := HR.out.reads.mk (i := (j - 2)) (by omega)
        obtain rfl : ad = adz := by injection eaz
        have hMz := HR.out.mB (j - 2)
        have hGz := ofV_bound (HV.out.2.2.1 (j - 2) (by rw [HL.out]; omega)).1 c1
        generalize hOz : mkAt l (j - 2) = mz at htz hMz hGz
        have PN := fun w => pnear agg k mz ⟨sq, tk, n, s, q, lo, hi⟩ w k0 k1 hMz hM0 hGz.1 hGz.2 hG0.1 hG0.2
        obtain ⟨nv, hnv⟩ : ∃ b, nearB agg k mz ⟨sq, tk, n, s, q, lo, hi⟩ = b := ⟨_, rfl⟩
        rw [hnv] at PN
        have HNV := Lib.hid hnv
        clear hnv
        have HOz := Lib.hid hOz
        obtain ⟨zsq, ztk, zn, zs, zq, zlo, zhi⟩ := mz
        have HTz := Lib.hid htz
        replace PN := Lib.hid PN
        clear hOz htz eaz hMz hGz
        have g2 : (2 : Int) ≤ (j : Int) := by omega
        have g2d : decide ((2 : Int) ≤ (j : Int)) = true := decide_eq_true g2
        obtain ⟨p, hp⟩ : ∃ p : Nat, j = p + 2 := ⟨j - 2, by omega⟩
        have wj : IntKind.i64.wrap ((j : Int) - 2) = (p : Int) := by rw [IntWalk.i64_in _ (by omega)]; omega
        have p1 : (p : Int) < (m : Int) := by omega
        have p0 : (0 : Int) ≤ (p : Int) := by omega
        have HTz : RowKit.Hid (MkCells w (ad.add (p * 7)) ⟨zsq, ztk, zn, zs, zq, zlo, zhi⟩) := by rw [show p = j - 2 by omega]; exact HTz
        clear hp
        cases nv
        · skip
          refine wp_region_free0 [0, 1, 2, 3, 4, 5, 6, 7, 8, 9, 10, 11, 12, 13, 14] [] [0, 1, 2, 3, 4, 5, 6, 7, 8, 9, 10, 11, 12, 13, 14] 15 (fun w' => Row w' (xb) 37 #[.int .i64 agg, .int .i64 wd, .int .i64 k, .int .i64 cap, .int .i64 now, .int .i64 seq, .slice (some ad) m c] ∧ Row w' (mb) 228 #[.int .i64 sq, .int .i64 tk, .int .i64 n, .int .i64 s, .int .i64 q, .int .i64 lo, .int .i64 hi] ∧ Below w.heap.size w w') (by kernel_rfl) (by kernel_rfl) (fun _ _ d _ _ h => by cases d <;> exact h) ?_ ?_
          · exact ⟨X, K, o.drew⟩
          (refine plan_pure ?_ rfl rfl (fun w' => ?_) ?_; rotate_left; (go_simp; try with_reducible rfl); simp only [Act.put, List.setIfInBounds_toArray, List.set_cons_zero, List.set_cons_succ])
          (refine plan_pure ?_ rfl rfl (fun w' => ?_) ?_; rotate_left; (go_simp; try with_reducible rfl); simp only [Act.put, List.setIfInBounds_toArray, List.set_cons_zero, List.set_cons_succ])
          (refine plan_pure ?_ rfl rfl (fun w' => ?_) ?_; rotate_left; (go_simp; try with_reducible rfl); simp only [Act.put, List.setIfInBounds_toArray, List.set_cons_zero, List.set_cons_succ])
          (refine plan_pure ?_ rfl rfl (fun w' => ?_) ?_; rotate_left; (go_simp; try with_reducible rfl); simp only [Act.put, List.setIfInBounds_toArray, List.set_cons_zero, List.set_cons_succ])
          (refine plan_val ?_ rfl rfl rfl (fun w' hS => ?_) ?_; rotate_left; (obtain ⟨X0, X1, X2, X3, X4, X5, X6, Xf0, Xf1, Xf2, Xf3, Xf4, Xf5, Xf6⟩ := row_seven hS.1; obtain ⟨K0, K1, K2, K3, K4, K5, K6, Kf0, Kf1, Kf2, Kf3, Kf4, Kf5, Kf6⟩ := row_seven hS.2.1; obtain ⟨q0, q1, q2, q3, q4, q5, q6⟩ := HTz.out.below hS.2.2 (by rw [block_of_add]; exact hadb); dsimp only at q0 q1 q2 q3 q4 q5 q6; go_simp; try with_reducible rfl); simp only [Act.put, List.setIfInBounds_toArray, List.set_cons_zero, List.set_cons_succ])
          (refine plan_pure ?_ rfl rfl (fun w' => ?_) ?_; rotate_left; (go_simp; try with_reducible rfl); simp only [Act.put, List.setIfInBounds_toArray, List.set_cons_zero, List.set_cons_succ])
          (refine plan_pure ?_ rfl rfl (fun w' => ?_) ?_; rotate_left; (go_simp; try with_reducible rfl); simp only [Act.put, List.setIfInBounds_toArray, List.set_cons_zero, List.set_cons_succ])
          (refine plan_pure ?_ rfl rfl (fun w' => ?_) ?_; rotate_left; (go_simp; try with_reducible rfl); simp only [Act.put, List.setIfInBounds_toArray, List.set_cons_zero, List.set_cons_succ])
          (refine plan_val ?_ rfl rfl rfl (fun w' hS => ?_) ?_; rotate_left; (obtain ⟨X0, X1, X2, X3, X4, X5, X6, Xf0, Xf1, Xf2, Xf3, Xf4, Xf5, Xf6⟩ := row_seven hS.1; obtain ⟨K0, K1, K2, K3, K4, K5, K6, Kf0, Kf1, Kf2, Kf3, Kf4, Kf5, Kf6⟩ := row_seven hS.2.1; obtain ⟨q0, q1, q2, q3, q4, q5, q6⟩ := HTz.out.below hS.2.2 (by rw [block_of_add]; exact hadb); dsimp only at q0 q1 q2 q3 q4 q5 q6; go_simp; try with_reducible rfl); simp only [Act.put, List.setIfInBounds_toArray, List.set_cons_zero, List.set_cons_succ])
          (refine plan_val ?_ rfl rfl rfl (fun w' hS => ?_) ?_; rotate_left; (obtain ⟨X0, X1, X2, X3, X4, X5, X6, Xf0, Xf1, Xf2, Xf3, Xf4, Xf5, Xf6⟩ := row_seven hS.1; obtain ⟨K0, K1, K2, K3, K4, K5, K6, Kf0, Kf1, Kf2, Kf3, Kf4, Kf5, Kf6⟩ := row_seven hS.2.1; obtain ⟨q0, q1, q2, q3, q4, q5, q6⟩ := HTz.out.below hS.2.2 (by rw [block_of_add]; exact hadb); dsimp only at q0 q1 q2 q3 q4 q5 q6; go_simp; try with_reducible rfl); simp only [Act.put, List.setIfInBounds_toArray, List.set_cons_zero, List.set_cons_succ])
          (refine plan_pure ?_ rfl rfl (fun w' => ?_) ?_; rotate_left; (go_simp; try with_reducible rfl); simp only [Act.put, List.setIfInBounds_toArray, List.set_cons_zero, List.set_cons_succ])
          (refine plan_val ?_ rfl rfl rfl (fun w' hS => ?_) ?_; rotate_left; (obtain ⟨X0, X1, X2, X3, X4, X5, X6, Xf0, Xf1, Xf2, Xf3, Xf4, Xf5, Xf6⟩ := row_seven hS.1; obtain ⟨K0, K1, K2, K3, K4, K5, K6, Kf0, Kf1, Kf2, Kf3, Kf4, Kf5, Kf6⟩ := row_seven hS.2.1; obtain ⟨q0, q1, q2, q3, q4, q5, q6⟩ := HTz.out.below hS.2.2 (by rw [block_of_add]; exact hadb); dsimp only at q0 q1 q2 q3 q4 q5 q6; go_simp; try with_reducible rfl); simp only [Act.put, List.setIfInBounds_toArray, List.set_cons_zero, List.set_cons_succ])
          (refine plan_pure ?_ rfl rfl (fun w' => ?_) ?_; rotate_left; (go_simp; try with_reducible rfl); simp only [Act.put, List.setIfInBounds_toArray, List.set_cons_zero, List.set_cons_succ])
          (refine plan_val ?_ rfl rfl rfl (fun w' hS => ?_) ?_; rotate_left; (obtain ⟨X0, X1, X2, X3, X4, X5, X6, Xf0, Xf1, Xf2, Xf3, Xf4, Xf5, Xf6⟩ := row_seven hS.1; obtain ⟨K0, K1, K2, K3, K4, K5, K6, Kf0, Kf1, Kf2, Kf3, Kf4, Kf5, Kf6⟩ := row_seven hS.2.1; obtain ⟨q0, q1, q2, q3, q4, q5, q6⟩ := HTz.out.below hS.2.2 (by rw [block_of_add]; exact hadb); dsimp only at q0 q1 q2 q3 q4 q5 q6; go_simp; try with_reducible rfl); simp only [Act.put, List.setIfInBounds_toArray, List.set_cons_zero, List.set_cons_succ])
          refine plan_call (.bool false) 217 #[.agg #[.int .i64 zsq, .int .i64 ztk, .int .i64 zn, .int .i64 zs, .int .i64 zq, .int .i64 zlo, .int .i64 zhi], .agg #[.int .i64 sq, .int .i64 tk, .int .i64 n, .int .i64 s, .int .i64 q, .int .i64 lo, .int .i64 hi], .int .i64 agg, .int .i64 k] rfl rfl rfl (fun _ _ h hb => ⟨row_call h.1 hb, row_call h.2.1 hb, h.2.2.trans (hb.mono h.2.2.size)⟩) (fun w' hS => by obtain ⟨X0, X1, X2, X3, X4, X5, X6, Xf0, Xf1, Xf2, Xf3, Xf4, Xf5, Xf6⟩ := row_seven hS.1; obtain ⟨K0, K1, K2, K3, K4, K5, K6, Kf0, Kf1, Kf2, Kf3, Kf4, Kf5, Kf6⟩ := row_seven hS.2.1; obtain ⟨q0, q1, q2, q3, q4, q5, q6⟩ := HTz.out.below hS.2.2 (by rw [block_of_add]; exact hadb); dsimp only at q0 q1 q2 q3 q4 q5 q6; go_simp) (fun w' hS => PN.out w') ?_
          simp only [Act.put, List.setIfInBounds_toArray, List.set_cons_zero, List.set_cons_succ]
          refine plan_nil ?_
          intro w4 L
          simp only [List.drop_succ_cons, List.drop_zero]
          try simp only [Act.put, List.setIfInBounds_toArray, List.set_cons_zero, List.set_cons_succ]
          obtain ⟨X, K, o⟩ := L
          have HN := Lib.hid (show ¬ nearP agg k (mkAt l (j - 2)) (mkAt l j) by rw [HOz.out, HO0.out]; exact of_decide_eq_false HNV.out)
          clear PN HNV HTz wj p0 p1
          go_upto_region 8 with (fail)
          have g1 : (1 : Int) ≤ (j : Int) := by omega
          have g1d : decide ((1 : Int) ≤ (j : Int)) = true := decide_eq_true g1
          obtain ⟨ado, eao, _, hto⟩ := HR.out.reads.mk (i := (j - 1)) (by omega)
          obtain rfl : ad = ado := by injection eao
          have hMo := HR.out.mB (j - 1)
          have hGo := ofV_bound (HV.out.2.2.1 (j - 1) (by rw [HL.out]; omega)).1 c1
          generalize hOo : mkAt l (j - 1) = mo at hto hMo hGo
          have PN := fun w => pnear agg k mo ⟨sq, tk, n, s, q, lo, hi⟩ w k0 k1 hMo hM0 hGo.1 hGo.2 hG0.1 hG0.2
          obtain ⟨nv, hnv⟩ : ∃ b, nearB agg k mo ⟨sq, tk, n, s, q, lo, hi⟩ = b := ⟨_, rfl⟩
          rw [hnv] at PN
          have HNV := Lib.hid hnv
          clear hnv
          have HOo := Lib.hid hOo
          obtain ⟨osq, otk, on, os, oq, olo, ohi⟩ := mo
          have HTo := Lib.hid hto
          replace PN := Lib.hid PN
          clear hOo hto eao hMo hGo
          have hB0 := hM0.1
          have HS := Lib.hid (show (mkAt l j).seq - (mkAt l (j - 1)).seq = sq - osq by rw [HO0.out, HOo.out])
          obtain ⟨p, hp⟩ : ∃ p : Nat, j = p + 1 := ⟨j - 1, by omega⟩
          have wj : IntKind.i64.wrap ((j : Int) - 1) = (p : Int) := by rw [IntWalk.i64_in _ (by omega)]; omega
          have p1 : (p : Int) < (m : Int) := by omega
          have p0 : (0 : Int) ≤ (p : Int) := by omega
          have HTo : RowKit.Hid (MkCells w (ad.add (p * 7)) ⟨osq, otk, on, os, oq, olo, ohi⟩) := by rw [show p = j - 1 by omega]; exact HTo
          have S1 := (HV.out.2.2.1 j (by rw [HL.out]; exact hlt)).1
          have S2 := (HV.out.2.2.1 (j - 1) (by rw [HL.out]; omega)).1
          rw [HO0.out] at S1
          rw [HOo.out] at S2
          have ws : IntKind.i64.wrap (sq - osq) = sq - osq := IntWalk.i64_in _ (by have := S1.1; have := S1.2.1; have := S2.1; have := S2.2.1; have := HV.out.2.1; dsimp only at *; omega)
          clear hp S1 S2 hB0
          by_cases gd : 1 < sq - osq
          · cases nv
            · skip
              have gdd : decide (1 < sq - osq) = true := decide_eq_true gd
              refine wp_region_free0 [0, 1, 2, 3, 4, 5, 6, 7, 8, 9, 10, 11, 12, 13, 14, 15, 16, 17, 18, 19, 20, 21, 22, 23, 24, 25, 26, 27, 28] [] [0, 1, 2, 3, 4, 5, 6, 7, 8, 9, 10, 11, 12, 13, 14, 15, 16, 17, 18, 19, 20, 21, 22, 23, 24, 25, 26, 27, 28] 29 (fun w' => Row w' (xb) 37 #[.int .i64 agg, .int .i64 wd, .int .i64 k, .int .i64 cap, .int .i64 now, .int .i64 seq, .slice (some ad) m c] ∧ Row w' (mb) 228 #[.int .i64 sq, .int .i64 tk, .int .i64 n, .int .i64 s, .int .i64 q, .int .i64 lo, .int .i64 hi] ∧ Below w.heap.size w w') (by kernel_rfl) (by kernel_rfl) (fun _ _ d _ _ h => by cases d <;> exact h) ?_ ?_
              · exact ⟨X, K, o.drew⟩
              (refine plan_pure ?_ rfl rfl (fun w' => ?_) ?_; rotate_left; (go_simp; try with_reducible rfl); simp only [Act.put, List.setIfInBounds_toArray, List.set_cons_zero, List.set_cons_succ])
              (refine plan_pure ?_ rfl rfl (fun w' => ?_) ?_; rotate_left; (go_simp; try with_reducible rfl); simp only [Act.put, List.setIfInBounds_toArray, List.set_cons_zero, List.set_cons_succ])
              (refine plan_pure ?_ rfl rfl (fun w' => ?_) ?_; rotate_left; (go_simp; try with_reducible rfl); simp only [Act.put, List.setIfInBounds_toArray, List.set_cons_zero, List.set_cons_succ])
              (refine plan_pure ?_ rfl rfl (fun w' => ?_) ?_; rotate_left; (go_simp; try with_reducible rfl); simp only [Act.put, List.setIfInBounds_toArray, List.set_cons_zero, List.set_cons_succ])
              (refine plan_val ?_ rfl rfl rfl (fun w' hS => ?_) ?_; rotate_left; (obtain ⟨X0, X1, X2, X3, X4, X5, X6, Xf0, Xf1, Xf2, Xf3, Xf4, Xf5, Xf6⟩ := row_seven hS.1; obtain ⟨K0, K1, K2, K3, K4, K5, K6, Kf0, Kf1, Kf2, Kf3, Kf4, Kf5, Kf6⟩ := row_seven hS.2.1; obtain ⟨q0, q1, q2, q3, q4, q5, q6⟩ := HTo.out.below hS.2.2 (by rw [block_of_add]; exact hadb); dsimp only at q0 q1 q2 q3 q4 q5 q6; go_simp; try with_reducible rfl); simp only [Act.put, List.setIfInBounds_toArray, List.set_cons_zero, List.set_cons_succ])
              (refine plan_pure ?_ rfl rfl (fun w' => ?_) ?_; rotate_left; (go_simp; try with_reducible rfl); simp only [Act.put, List.setIfInBounds_toArray, List.set_cons_zero, List.set_cons_succ])
              (refine plan_val ?_ rfl rfl rfl (fun w' hS => ?_) ?_; rotate_left; (obtain ⟨X0, X1, X2, X3, X4, X5, X6, Xf0, Xf1, Xf2, Xf3, Xf4, Xf5, Xf6⟩ := row_seven hS.1; obtain ⟨K0, K1, K2, K3, K4, K5, K6, Kf0, Kf1, Kf2, Kf3, Kf4, Kf5, Kf6⟩ := row_seven hS.2.1; obtain ⟨q0, q1, q2, q3, q4, q5, q6⟩ := HTo.out.below hS.2.2 (by rw [block_of_add]; exact hadb); dsimp only at q0 q1 q2 q3 q4 q5 q6; go_simp; try with_reducible rfl); simp only [Act.put, List.setIfInBounds_toArray, List.set_cons_zero, List.set_cons_succ])
              (refine plan_pure ?_ rfl rfl (fun w' => ?_) ?_; rotate_left; (go_simp; try with_reducible rfl); simp only [Act.put, List.setIfInBounds_toArray, List.set_cons_zero, List.set_cons_succ])
              (refine plan_pure ?_ rfl rfl (fun w' => ?_) ?_; rotate_left; (go_simp; try with_reducible rfl); simp only [Act.put, List.setIfInBounds_toArray, List.set_cons_zero, List.set_cons_succ])
              (refine plan_pure ?_ rfl rfl (fun w' => ?_) ?_; rotate_left; (go_simp; try with_reducible rfl); simp only [Act.put, List.setIfInBounds_toArray, List.set_cons_zero, List.set_cons_succ])
              (refine plan_pure ?_ rfl rfl (fun w' => ?_) ?_; rotate_left; (go_simp; try with_reducible rfl); simp only [Act.put, List.setIfInBounds_toArray, List.set_cons_zero, List.set_cons_succ])
              (refine plan_val ?_ rfl rfl rfl (fun w' hS => ?_) ?_; rotate_left; (obtain ⟨X0, X1, X2, X3, X4, X5, X6, Xf0, Xf1, Xf2, Xf3, Xf4, Xf5, Xf6⟩ := row_seven hS.1; obtain ⟨K0, K1, K2, K3, K4, K5, K6, Kf0, Kf1, Kf2, Kf3, Kf4, Kf5, Kf6⟩ := row_seven hS.2.1; obtain ⟨q0, q1, q2, q3, q4, q5, q6⟩ := HTo.out.below hS.2.2 (by rw [block_of_add]; exact hadb); dsimp only at q0 q1 q2 q3 q4 q5 q6; go_simp; try with_reducible rfl); simp only [Act.put, List.setIfInBounds_toArray, List.set_cons_zero, List.set_cons_succ])
              (refine plan_pure ?_ rfl rfl (fun w' => ?_) ?_; rotate_left; (go_simp; try with_reducible rfl); simp only [Act.put, List.setIfInBounds_toArray, List.set_cons_zero, List.set_cons_succ])
              (refine plan_pure ?_ rfl rfl (fun w' => ?_) ?_; rotate_left; (go_simp; try with_reducible rfl); simp only [Act.put, List.setIfInBounds_toArray, List.set_cons_zero, List.set_cons_succ])
              (refine plan_pure ?_ rfl rfl (fun w' => ?_) ?_; rotate_left; (go_simp; try with_reducible rfl); simp only [Act.put, List.setIfInBounds_toArray, List.set_cons_zero, List.set_cons_succ])
              (refine plan_pure ?_ rfl rfl (fun w' => ?_) ?_; rotate_left; (go_simp; try with_reducible rfl); simp only [Act.put, List.setIfInBounds_toArray, List.set_cons_zero, List.set_cons_succ])
              (refine plan_pure ?_ rfl rfl (fun w' => ?_) ?_; rotate_left; (go_simp; try with_reducible rfl); simp only [Act.put, List.setIfInBounds_toArray, List.set_cons_zero, List.set_cons_succ])
              (refine plan_val ?_ rfl rfl rfl (fun w' hS => ?_) ?_; rotate_left; (obtain ⟨X0, X1, X2, X3, X4, X5, X6, Xf0, Xf1, Xf2, Xf3, Xf4, Xf5, Xf6⟩ := row_seven hS.1; obtain ⟨K0, K1, K2, K3, K4, K5, K6, Kf0, Kf1, Kf2, Kf3, Kf4, Kf5, Kf6⟩ := row_seven hS.2.1; obtain ⟨q0, q1, q2, q3, q4, q5, q6⟩ := HTo.out.below hS.2.2 (by rw [block_of_add]; exact hadb); dsimp only at q0 q1 q2 q3 q4 q5 q6; go_simp; try with_reducible rfl); simp only [Act.put, List.setIfInBounds_toArray, List.set_cons_zero, List.set_cons_succ])
              (refine plan_pure ?_ rfl rfl (fun w' => ?_) ?_; rotate_left; (go_simp; try with_reducible rfl); simp only [Act.put, List.setIfInBounds_toArray, List.set_cons_zero, List.set_cons_succ])
              (refine plan_pure ?_ rfl rfl (fun w' => ?_) ?_; rotate_left; (go_simp; try with_reducible rfl); simp only [Act.put, List.setIfInBounds_toArray, List.set_cons_zero, List.set_cons_succ])
              (refine plan_pure ?_ rfl rfl (fun w' => ?_) ?_; rotate_left; (go_simp; try with_reducible rfl); simp only [Act.put, List.setIfInBounds_toArray, List.set_cons_zero, List.set_cons_succ])
              (refine plan_val ?_ rfl rfl rfl (fun w' hS => ?_) ?_; rotate_left; (obtain ⟨X0, X1, X2, X3, X4, X5, X6, Xf0, Xf1, Xf2, Xf3, Xf4, Xf5, Xf6⟩ := row_seven hS.1; obtain ⟨K0, K1, K2, K3, K4, K5, K6, Kf0, Kf1, Kf2, Kf3, Kf4, Kf5, Kf6⟩ := row_seven hS.2.1; obtain ⟨q0, q1, q2, q3, q4, q5, q6⟩ := HTo.out.below hS.2.2 (by rw [block_of_add]; exact hadb); dsimp only at q0 q1 q2 q3 q4 q5 q6; go_simp; try with_reducible rfl); simp only [Act.put, List.setIfInBounds_toArray, List.set_cons_zero, List.set_cons_succ])
              (refine plan_val ?_ rfl rfl rfl (fun w' hS => ?_) ?_; rotate_left; (obtain ⟨X0, X1, X2, X3, X4, X5, X6, Xf0, Xf1, Xf2, Xf3, Xf4, Xf5, Xf6⟩ := row_seven hS.1; obtain ⟨K0, K1, K2, K3, K4, K5, K6, Kf0, Kf1, Kf2, Kf3, Kf4, Kf5, Kf6⟩ := row_seven hS.2.1; obtain ⟨q0, q1, q2, q3, q4, q5, q6⟩ := HTo.out.below hS.2.2 (by rw [block_of_add]; exact hadb); dsimp only at q0 q1 q2 q3 q4 q5 q6; go_simp; try with_reducible rfl); simp only [Act.put, List.setIfInBounds_toArray, List.set_cons_zero, List.set_cons_succ])
              (refine plan_pure ?_ rfl rfl (fun w' => ?_) ?_; rotate_left; (go_simp; try with_reducible rfl); simp only [Act.put, List.setIfInBounds_toArray, List.set_cons_zero, List.set_cons_succ])
              (refine plan_val ?_ rfl rfl rfl (fun w' hS => ?_) ?_; rotate_left; (obtain ⟨X0, X1, X2, X3, X4, X5, X6, Xf0, Xf1, Xf2, Xf3, Xf4, Xf5, Xf6⟩ := row_seven hS.1; obtain ⟨K0, K1, K2, K3, K4, K5, K6, Kf0, Kf1, Kf2, Kf3, Kf4, Kf5, Kf6⟩ := row_seven hS.2.1; obtain ⟨q0, q1, q2, q3, q4, q5, q6⟩ := HTo.out.below hS.2.2 (by rw [block_of_add]; exact hadb); dsimp only at q0 q1 q2 q3 q4 q5 q6; go_simp; try with_reducible rfl); simp only [Act.put, List.setIfInBounds_toArray, List.set_cons_zero, List.set_cons_succ])
              (refine plan_pure ?_ rfl rfl (fun w' => ?_) ?_; rotate_left; (go_simp; try with_reducible rfl); simp only [Act.put, List.setIfInBounds_toArray, List.set_cons_zero, List.set_cons_succ])
              (refine plan_val ?_ rfl rfl rfl (fun w' hS => ?_) ?_; rotate_left; (obtain ⟨X0, X1, X2, X3, X4, X5, X6, Xf0, Xf1, Xf2, Xf3, Xf4, Xf5, Xf6⟩ := row_seven hS.1; obtain ⟨K0, K1, K2, K3, K4, K5, K6, Kf0, Kf1, Kf2, Kf3, Kf4, Kf5, Kf6⟩ := row_seven hS.2.1; obtain ⟨q0, q1, q2, q3, q4, q5, q6⟩ := HTo.out.below hS.2.2 (by rw [block_of_add]; exact hadb); dsimp only at q0 q1 q2 q3 q4 q5 q6; go_simp; try with_reducible rfl); simp only [Act.put, List.setIfInBounds_toArray, List.set_cons_zero, List.set_cons_succ])
              refine plan_call (.bool false) 217 #[.agg #[.int .i64 osq, .int .i64 otk, .int .i64 on, .int .i64 os, .int .i64 oq, .int .i64 olo, .int .i64 ohi], .agg #[.int .i64 sq, .int .i64 tk, .int .i64 n, .int .i64 s, .int .i64 q, .int .i64 lo, .int .i64 hi], .int .i64 agg, .int .i64 k] rfl rfl rfl (fun _ _ h hb => ⟨row_call h.1 hb, row_call h.2.1 hb, h.2.2.trans (hb.mono h.2.2.size)⟩) (fun w' hS => by obtain ⟨X0, X1, X2, X3, X4, X5, X6, Xf0, Xf1, Xf2, Xf3, Xf4, Xf5, Xf6⟩ := row_seven hS.1; obtain ⟨K0, K1, K2, K3, K4, K5, K6, Kf0, Kf1, Kf2, Kf3, Kf4, Kf5, Kf6⟩ := row_seven hS.2.1; obtain ⟨q0, q1, q2, q3, q4, q5, q6⟩ := HTo.out.below hS.2.2 (by rw [block_of_add]; exact hadb); dsimp only at q0 q1 q2 q3 q4 q5 q6; go_simp) (fun w' hS => PN.out w') ?_
              simp only [Act.put, List.setIfInBounds_toArray, List.set_cons_zero, List.set_cons_succ]
              (refine plan_pure ?_ rfl rfl (fun w' => ?_) ?_; rotate_left; (go_simp; try with_reducible rfl); simp only [Act.put, List.setIfInBounds_toArray, List.set_cons_zero, List.set_cons_succ])
              refine plan_nil ?_
              intro w5 L
              simp only [List.drop_succ_cons, List.drop_zero]
              try simp only [Act.put, List.setIfInBounds_toArray, List.set_cons_zero, List.set_cons_succ]
              have o2 := L.2.2
              clear L X K o
              have E := Lib.hid (smvalE_no (agg := agg) (wd := wd) (k := k) (cap := cap) (now := now) (seq := seq) (l := l) (fun a => absurd ((a.2.2 j (by rw [HL.out]; exact hlt)).2 (by omega) (by rw [HS.out]; exact gd)) (by rw [HOo.out, HO0.out]; exact of_decide_eq_false HNV.out)))
              go_wp2
              go_ret
              exact ⟨ret_i64 E.out.symm, o2⟩
            · skip
              have gdd : decide (1 < sq - osq) = true := decide_eq_true gd
              refine wp_region_free0 [0, 1, 2, 3, 4, 5, 6, 7, 8, 9, 10, 11, 12, 13, 14, 15, 16, 17, 18, 19, 20, 21, 22, 23, 24, 25, 26, 27, 28] [] [0, 1, 2, 3, 4, 5, 6, 7, 8, 9, 10, 11, 12, 13, 14, 15, 16, 17, 18, 19, 20, 21, 22, 23, 24, 25, 26, 27, 28] 29 (fun w' => Row w' (xb) 37 #[.int .i64 agg, .int .i64 wd, .int .i64 k, .int .i64 cap, .int .i64 now, .int .i64 seq, .slice (some ad) m c] ∧ Row w' (mb) 228 #[.int .i64 sq, .int .i64 tk, .int .i64 n, .int .i64 s, .int .i64 q, .int .i64 lo, .int .i64 hi] ∧ Below w.heap.size w w') (by kernel_rfl) (by kernel_rfl) (fun _ _ d _ _ h => by cases d <;> exact h) ?_ ?_
              · exact ⟨X, K, o.drew⟩
              (refine plan_pure ?_ rfl rfl (fun w' => ?_) ?_; rotate_left; (go_simp; try with_reducible rfl); simp only [Act.put, List.setIfInBounds_toArray, List.set_cons_zero, List.set_cons_succ])
              (refine plan_pure ?_ rfl rfl (fun w' => ?_) ?_; rotate_left; (go_simp; try with_reducible rfl); simp only [Act.put, List.setIfInBounds_toArray, List.set_cons_zero, List.set_cons_succ])
              (refine plan_pure ?_ rfl rfl (fun w' => ?_) ?_; rotate_left; (go_simp; try with_reducible rfl); simp only [Act.put, List.setIfInBounds_toArray, List.set_cons_zero, List.set_cons_succ])
              (refine plan_pure ?_ rfl rfl (fun w' => ?_) ?_; rotate_left; (go_simp; try with_reducible rfl); simp only [Act.put, List.setIfInBounds_toArray, List.set_cons_zero, List.set_cons_succ])
              (refine plan_val ?_ rfl rfl rfl (fun w' hS => ?_) ?_; rotate_left; (obtain ⟨X0, X1, X2, X3, X4, X5, X6, Xf0, Xf1, Xf2, Xf3, Xf4, Xf5, Xf6⟩ := row_seven hS.1; obtain ⟨K0, K1, K2, K3, K4, K5, K6, Kf0, Kf1, Kf2, Kf3, Kf4, Kf5, Kf6⟩ := row_seven hS.2.1; obtain ⟨q0, q1, q2, q3, q4, q5, q6⟩ := HTo.out.below hS.2.2 (by rw [block_of_add]; exact hadb); dsimp only at q0 q1 q2 q3 q4 q5 q6; go_simp; try with_reducible rfl); simp only [Act.put, List.setIfInBounds_toArray, List.set_cons_zero, List.set_cons_succ])
              (refine plan_pure ?_ rfl rfl (fun w' => ?_) ?_; rotate_left; (go_simp; try with_reducible rfl); simp only [Act.put, List.setIfInBounds_toArray, List.set_cons_zero, List.set_cons_succ])
              (refine plan_val ?_ rfl rfl rfl (fun w' hS => ?_) ?_; rotate_left; (obtain ⟨X0, X1, X2, X3, X4, X5, X6, Xf0, Xf1, Xf2, Xf3, Xf4, Xf5, Xf6⟩ := row_seven hS.1; obtain ⟨K0, K1, K2, K3, K4, K5, K6, Kf0, Kf1, Kf2, Kf3, Kf4, Kf5, Kf6⟩ := row_seven hS.2.1; obtain ⟨q0, q1, q2, q3, q4, q5, q6⟩ := HTo.out.below hS.2.2 (by rw [block_of_add]; exact hadb); dsimp only at q0 q1 q2 q3 q4 q5 q6; go_simp; try with_reducible rfl); simp only [Act.put, List.setIfInBounds_toArray, List.set_cons_zero, List.set_cons_succ])
              (refine plan_pure ?_ rfl rfl (fun w' => ?_) ?_; rotate_left; (go_simp; try with_reducible rfl); simp only [Act.put, List.setIfInBounds_toArray, List.set_cons_zero, List.set_cons_succ])
              (refine plan_pure ?_ rfl rfl (fun w' => ?_) ?_; rotate_left; (go_simp; try with_reducible rfl); simp only [Act.put, List.setIfInBounds_toArray, List.set_cons_zero, List.set_cons_succ])
              (refine plan_pure ?_ rfl rfl (fun w' => ?_) ?_; rotate_left; (go_simp; try with_reducible rfl); simp only [Act.put, List.setIfInBounds_toArray, List.set_cons_zero, List.set_cons_succ])
              (refine plan_pure ?_ rfl rfl (fun w' => ?_) ?_; rotate_left; (go_simp; try with_reducible rfl); simp only [Act.put, List.setIfInBounds_toArray, List.set_cons_zero, List.set_cons_succ])
              (refine plan_val ?_ rfl rfl rfl (fun w' hS => ?_) ?_; rotate_left; (obtain ⟨X0, X1, X2, X3, X4, X5, X6, Xf0, Xf1, Xf2, Xf3, Xf4, Xf5, Xf6⟩ := row_seven hS.1; obtain ⟨K0, K1, K2, K3, K4, K5, K6, Kf0, Kf1, Kf2, Kf3, Kf4, Kf5, Kf6⟩ := row_seven hS.2.1; obtain ⟨q0, q1, q2, q3, q4, q5, q6⟩ := HTo.out.below hS.2.2 (by rw [block_of_add]; exact hadb); dsimp only at q0 q1 q2 q3 q4 q5 q6; go_simp; try with_reducible rfl); simp only [Act.put, List.setIfInBounds_toArray, List.set_cons_zero, List.set_cons_succ])
              (refine plan_pure ?_ rfl rfl (fun w' => ?_) ?_; rotate_left; (go_simp; try with_reducible rfl); simp only [Act.put, List.setIfInBounds_toArray, List.set_cons_zero, List.set_cons_succ])
              (refine plan_pure ?_ rfl rfl (fun w' => ?_) ?_; rotate_left; (go_simp; try with_reducible rfl); simp only [Act.put, List.setIfInBounds_toArray, List.set_cons_zero, List.set_cons_succ])
              (refine plan_pure ?_ rfl rfl (fun w' => ?_) ?_; rotate_left; (go_simp; try with_reducible rfl); simp only [Act.put, List.setIfInBounds_toArray, List.set_cons_zero, List.set_cons_succ])
              (refine plan_pure ?_ rfl rfl (fun w' => ?_) ?_; rotate_left; (go_simp; try with_reducible rfl); simp only [Act.put, List.setIfInBounds_toArray, List.set_cons_zero, List.set_cons_succ])
              (refine plan_pure ?_ rfl rfl (fun w' => ?_) ?_; rotate_left; (go_simp; try with_reducible rfl); simp only [Act.put, List.setIfInBounds_toArray, List.set_cons_zero, List.set_cons_succ])
              (refine plan_val ?_ rfl rfl rfl (fun w' hS => ?_) ?_; rotate_left; (obtain ⟨X0, X1, X2, X3, X4, X5, X6, Xf0, Xf1, Xf2, Xf3, Xf4, Xf5, Xf6⟩ := row_seven hS.1; obtain ⟨K0, K1, K2, K3, K4, K5, K6, Kf0, Kf1, Kf2, Kf3, Kf4, Kf5, Kf6⟩ := row_seven hS.2.1; obtain ⟨q0, q1, q2, q3, q4, q5, q6⟩ := HTo.out.below hS.2.2 (by rw [block_of_add]; exact hadb); dsimp only at q0 q1 q2 q3 q4 q5 q6; go_simp; try with_reducible rfl); simp only [Act.put, List.setIfInBounds_toArray, List.set_cons_zero, List.set_cons_succ])
              (refine plan_pure ?_ rfl rfl (fun w' => ?_) ?_; rotate_left; (go_simp; try with_reducible rfl); simp only [Act.put, List.setIfInBounds_toArray, List.set_cons_zero, List.set_cons_succ])
              (refine plan_pure ?_ rfl rfl (fun w' => ?_) ?_; rotate_left; (go_simp; try with_reducible rfl); simp only [Act.put, List.setIfInBounds_toArray, List.set_cons_zero, List.set_cons_succ])
              (refine plan_pure ?_ rfl rfl (fun w' => ?_) ?_; rotate_left; (go_simp; try with_reducible rfl); simp only [Act.put, List.setIfInBounds_toArray, List.set_cons_zero, List.set_cons_succ])
              (refine plan_val ?_ rfl rfl rfl (fun w' hS => ?_) ?_; rotate_left; (obtain ⟨X0, X1, X2, X3, X4, X5, X6, Xf0, Xf1, Xf2, Xf3, Xf4, Xf5, Xf6⟩ := row_seven hS.1; obtain ⟨K0, K1, K2, K3, K4, K5, K6, Kf0, Kf1, Kf2, Kf3, Kf4, Kf5, Kf6⟩ := row_seven hS.2.1; obtain ⟨q0, q1, q2, q3, q4, q5, q6⟩ := HTo.out.below hS.2.2 (by rw [block_of_add]; exact hadb); dsimp only at q0 q1 q2 q3 q4 q5 q6; go_simp; try with_reducible rfl); simp only [Act.put, List.setIfInBounds_toArray, List.set_cons_zero, List.set_cons_succ])
              (refine plan_val ?_ rfl rfl rfl (fun w' hS => ?_) ?_; rotate_left; (obtain ⟨X0, X1, X2, X3, X4, X5, X6, Xf0, Xf1, Xf2, Xf3, Xf4, Xf5, Xf6⟩ := row_seven hS.1; obtain ⟨K0, K1, K2, K3, K4, K5, K6, Kf0, Kf1, Kf2, Kf3, Kf4, Kf5, Kf6⟩ := row_seven hS.2.1; obtain ⟨q0, q1, q2, q3, q4, q5, q6⟩ := HTo.out.below hS.2.2 (by rw [block_of_add]; exact hadb); dsimp only at q0 q1 q2 q3 q4 q5 q6; go_simp; try with_reducible rfl); simp only [Act.put, List.setIfInBounds_toArray, List.set_cons_zero, List.set_cons_succ])
              (refine plan_pure ?_ rfl rfl (fun w' => ?_) ?_; rotate_left; (go_simp; try with_reducible rfl); simp only [Act.put, List.setIfInBounds_toArray, List.set_cons_zero, List.set_cons_succ])
              (refine plan_val ?_ rfl rfl rfl (fun w' hS => ?_) ?_; rotate_left; (obtain ⟨X0, X1, X2, X3, X4, X5, X6, Xf0, Xf1, Xf2, Xf3, Xf4, Xf5, Xf6⟩ := row_seven hS.1; obtain ⟨K0, K1, K2, K3, K4, K5, K6, Kf0, Kf1, Kf2, Kf3, Kf4, Kf5, Kf6⟩ := row_seven hS.2.1; obtain ⟨q0, q1, q2, q3, q4, q5, q6⟩ := HTo.out.below hS.2.2 (by rw [block_of_add]; exact hadb); dsimp only at q0 q1 q2 q3 q4 q5 q6; go_simp; try with_reducible rfl); simp only [Act.put, List.setIfInBounds_toArray, List.set_cons_zero, List.set_cons_succ])
              (refine plan_pure ?_ rfl rfl (fun w' => ?_) ?_; rotate_left; (go_simp; try with_reducible rfl); simp only [Act.put, List.setIfInBounds_toArray, List.set_cons_zero, List.set_cons_succ])
              (refine plan_val ?_ rfl rfl rfl (fun w' hS => ?_) ?_; rotate_left; (obtain ⟨X0, X1, X2, X3, X4, X5, X6, Xf0, Xf1, Xf2, Xf3, Xf4, Xf5, Xf6⟩ := row_seven hS.1; obtain ⟨K0, K1, K2, K3, K4, K5, K6, Kf0, Kf1, Kf2, Kf3, Kf4, Kf5, Kf6⟩ := row_seven hS.2.1; obtain ⟨q0, q1, q2, q3, q4, q5, q6⟩ := HTo.out.below hS.2.2 (by rw [block_of_add]; exact hadb); dsimp only at q0 q1 q2 q3 q4 q5 q6; go_simp; try with_reducible rfl); simp only [Act.put, List.setIfInBounds_toArray, List.set_cons_zero, List.set_cons_succ])
              refine plan_call (.bool true) 217 #[.agg #[.int .i64 osq, .int .i64 otk, .int .i64 on, .int .i64 os, .int .i64 oq, .int .i64 olo, .int .i64 ohi], .agg #[.int .i64 sq, .int .i64 tk, .int .i64 n, .int .i64 s, .int .i64 q, .int .i64 lo, .int .i64 hi], .int .i64 agg, .int .i64 k] rfl rfl rfl (fun _ _ h hb => ⟨row_call h.1 hb, row_call h.2.1 hb, h.2.2.trans (hb.mono h.2.2.size)⟩) (fun w' hS => by obtain ⟨X0, X1, X2, X3, X4, X5, X6, Xf0, Xf1, Xf2, Xf3, Xf4, Xf5, Xf6⟩ := row_seven hS.1; obtain ⟨K0, K1, K2, K3, K4, K5, K6, Kf0, Kf1, Kf2, Kf3, Kf4, Kf5, Kf6⟩ := row_seven hS.2.1; obtain ⟨q0, q1, q2, q3, q4, q5, q6⟩ := HTo.out.below hS.2.2 (by rw [block_of_add]; exact hadb); dsimp only at q0 q1 q2 q3 q4 q5 q6; go_simp) (fun w' hS => PN.out w') ?_
              simp only [Act.put, List.setIfInBounds_toArray, List.set_cons_zero, List.set_cons_succ]
              (refine plan_pure ?_ rfl rfl (fun w' => ?_) ?_; rotate_left; (go_simp; try with_reducible rfl); simp only [Act.put, List.setIfInBounds_toArray, List.set_cons_zero, List.set_cons_succ])
              refine plan_nil ?_
              intro w5 L
              simp only [List.drop_succ_cons, List.drop_zero]
              try simp only [Act.put, List.setIfInBounds_toArray, List.set_cons_zero, List.set_cons_succ]
              obtain ⟨X, K, o⟩ := L
              have HA2 : RowKit.Hid (∀ e, e < j + 1 → smAt agg k l e) := Lib.hid (fun e he => by
                rcases Nat.lt_or_ge e j with g | g
                · exact HA.out e g
                · rw [show e = j by omega]
                  exact ⟨fun _ => HN.out, fun _ _ => by rw [HOo.out, HO0.out]; exact of_decide_eq_true HNV.out⟩)
              go_wp2
              go_roundw
              case rel => exact ⟨j + 1, by omega, (by first | go_num | exact congrArg (Value.int .i64) (by omega)), HA2, X, o⟩
              case measure => simp [intOf]; omega
          · skip
            have gdd : decide (1 < sq - osq) = false := decide_eq_false gd
            refine wp_region_free0 [0, 1, 2, 3, 4, 5, 6, 7, 8, 9, 10, 11, 12, 13, 14, 15, 16, 17, 18, 19, 20, 21, 22, 23, 24, 25, 26, 27, 28] [] [0, 1, 2, 3, 4, 5, 6, 7, 8, 9, 10, 11, 12, 13, 14, 15, 16, 17, 18, 19, 20, 21, 22, 23, 24, 25, 26, 27, 28] 29 (fun w' => Row w' (xb) 37 #[.int .i64 agg, .int .i64 wd, .int .i64 k, .int .i64 cap, .int .i64 now, .int .i64 seq, .slice (some ad) m c] ∧ Row w' (mb) 228 #[.int .i64 sq, .int .i64 tk, .int .i64 n, .int .i64 s, .int .i64 q, .int .i64 lo, .int .i64 hi] ∧ Below w.heap.size w w') (by kernel_rfl) (by kernel_rfl) (fun _ _ d _ _ h => by cases d <;> exact h) ?_ ?_
            · exact ⟨X, K, o.drew⟩
            (refine plan_pure ?_ rfl rfl (fun w' => ?_) ?_; rotate_left; (go_simp; try with_reducible rfl); simp only [Act.put, List.setIfInBounds_toArray, List.set_cons_zero, List.set_cons_succ])
            (refine plan_pure ?_ rfl rfl (fun w' => ?_) ?_; rotate_left; (go_simp; try with_reducible rfl); simp only [Act.put, List.setIfInBounds_toArray, List.set_cons_zero, List.set_cons_succ])
            (refine plan_pure ?_ rfl rfl (fun w' => ?_) ?_; rotate_left; (go_simp; try with_reducible rfl); simp only [Act.put, List.setIfInBounds_toArray, List.set_cons_zero, List.set_cons_succ])
            (refine plan_pure ?_ rfl rfl (fun w' => ?_) ?_; rotate_left; (go_simp; try with_reducible rfl); simp only [Act.put, List.setIfInBounds_toArray, List.set_cons_zero, List.set_cons_succ])
            (refine plan_val ?_ rfl rfl rfl (fun w' hS => ?_) ?_; rotate_left; (obtain ⟨X0, X1, X2, X3, X4, X5, X6, Xf0, Xf1, Xf2, Xf3, Xf4, Xf5, Xf6⟩ := row_seven hS.1; obtain ⟨K0, K1, K2, K3, K4, K5, K6, Kf0, Kf1, Kf2, Kf3, Kf4, Kf5, Kf6⟩ := row_seven hS.2.1; obtain ⟨q0, q1, q2, q3, q4, q5, q6⟩ := HTo.out.below hS.2.2 (by rw [block_of_add]; exact hadb); dsimp only at q0 q1 q2 q3 q4 q5 q6; go_simp; try with_reducible rfl); simp only [Act.put, List.setIfInBounds_toArray, List.set_cons_zero, List.set_cons_succ])
            (refine plan_pure ?_ rfl rfl (fun w' => ?_) ?_; rotate_left; (go_simp; try with_reducible rfl); simp only [Act.put, List.setIfInBounds_toArray, List.set_cons_zero, List.set_cons_succ])
            (refine plan_val ?_ rfl rfl rfl (fun w' hS => ?_) ?_; rotate_left; (obtain ⟨X0, X1, X2, X3, X4, X5, X6, Xf0, Xf1, Xf2, Xf3, Xf4, Xf5, Xf6⟩ := row_seven hS.1; obtain ⟨K0, K1, K2, K3, K4, K5, K6, Kf0, Kf1, Kf2, Kf3, Kf4, Kf5, Kf6⟩ := row_seven hS.2.1; obtain ⟨q0, q1, q2, q3, q4, q5, q6⟩ := HTo.out.below hS.2.2 (by rw [block_of_add]; exact hadb); dsimp only at q0 q1 q2 q3 q4 q5 q6; go_simp; try with_reducible rfl); simp only [Act.put, List.setIfInBounds_toArray, List.set_cons_zero, List.set_cons_succ])
            (refine plan_pure ?_ rfl rfl (fun w' => ?_) ?_; rotate_left; (go_simp; try with_reducible rfl); simp only [Act.put, List.setIfInBounds_toArray, List.set_cons_zero, List.set_cons_succ])
            (refine plan_pure ?_ rfl rfl (fun w' => ?_) ?_; rotate_left; (go_simp; try with_reducible rfl); simp only [Act.put, List.setIfInBounds_toArray, List.set_cons_zero, List.set_cons_succ])
            (refine plan_pure ?_ rfl rfl (fun w' => ?_) ?_; rotate_left; (go_simp; try with_reducible rfl); simp only [Act.put, List.setIfInBounds_toArray, List.set_cons_zero, List.set_cons_succ])
            (refine plan_pure ?_ rfl rfl (fun w' => ?_) ?_; rotate_left; (go_simp; try with_reducible rfl); simp only [Act.put, List.setIfInBounds_toArray, List.set_cons_zero, List.set_cons_succ])
            (refine plan_val ?_ rfl rfl rfl (fun w' hS => ?_) ?_; rotate_left; (obtain ⟨X0, X1, X2, X3, X4, X5, X6, Xf0, Xf1, Xf2, Xf3, Xf4, Xf5, Xf6⟩ := row_seven hS.1; obtain ⟨K0, K1, K2, K3, K4, K5, K6, Kf0, Kf1, Kf2, Kf3, Kf4, Kf5, Kf6⟩ := row_seven hS.2.1; obtain ⟨q0, q1, q2, q3, q4, q5, q6⟩ := HTo.out.below hS.2.2 (by rw [block_of_add]; exact hadb); dsimp only at q0 q1 q2 q3 q4 q5 q6; go_simp; try with_reducible rfl); simp only [Act.put, List.setIfInBounds_toArray, List.set_cons_zero, List.set_cons_succ])
            (refine plan_pure ?_ rfl rfl (fun w' => ?_) ?_; rotate_left; (go_simp; try with_reducible rfl); simp only [Act.put, List.setIfInBounds_toArray, List.set_cons_zero, List.set_cons_succ])
            (refine plan_pure ?_ rfl rfl (fun w' => ?_) ?_; rotate_left; (go_simp; try with_reducible rfl); simp only [Act.put, List.setIfInBounds_toArray, List.set_cons_zero, List.set_cons_succ])
            (refine plan_pure ?_ rfl rfl (fun w' => ?_) ?_; rotate_left; (go_simp; try with_reducible rfl); simp only [Act.put, List.setIfInBounds_toArray, List.set_cons_zero, List.set_cons_succ])
            (refine plan_pure ?_ rfl rfl (fun w' => ?_) ?_; rotate_left; (go_simp; try with_reducible rfl); simp only [Act.put, List.setIfInBounds_toArray, List.set_cons_zero, List.set_cons_succ])
            refine plan_not rfl rfl ?_
            simp only [Act.put, List.setIfInBounds_toArray, List.set_cons_zero, List.set_cons_succ]
            refine plan_not rfl rfl ?_
            simp only [Act.put, List.setIfInBounds_toArray, List.set_cons_zero, List.set_cons_succ]
            refine plan_not rfl rfl ?_
            simp only [Act.put, List.setIfInBounds_toArray, List.set_cons_zero, List.set_cons_succ]
            refine plan_not rfl rfl ?_
            simp only [Act.put, List.setIfInBounds_toArray, List.set_cons_zero, List.set_cons_succ]
            refine plan_not rfl rfl ?_
            simp only [Act.put, List.setIfInBounds_toArray, List.set_cons_zero, List.set_cons_succ]
            refine plan_not rfl rfl ?_
            simp only [Act.put, List.setIfInBounds_toArray, List.set_cons_zero, List.set_cons_succ]
            refine plan_not rfl rfl ?_
            simp only [Act.put, List.setIfInBounds_toArray, List.set_cons_zero, List.set_cons_succ]
            refine plan_not rfl rfl ?_
            simp only [Act.put, List.setIfInBounds_toArray, List.set_cons_zero, List.set_cons_succ]
            refine plan_not rfl rfl ?_
            simp only [Act.put, List.setIfInBounds_toArray, List.set_cons_zero, List.set_cons_succ]
            refine plan_not rfl rfl ?_
            simp only [Act.put, List.setIfInBounds_toArray, List.set_cons_zero, List.set_cons_succ]
            refine plan_not rfl rfl ?_
            simp only [Act.put, List.setIfInBounds_toArray, List.set_cons_zero, List.set_cons_succ]
            refine plan_not rfl rfl ?_
            simp only [Act.put, List.setIfInBounds_toArray, List.set_cons_zero, List.set_cons_succ]
            refine plan_not rfl rfl ?_
            simp only [Act.put, List.setIfInBounds_toArray, List.set_cons_zero, List.set_cons_succ]
            refine plan_nil ?_
            intro w5 L
            simp only [List.drop_succ_cons, List.drop_zero]
            try simp only [Act.put, List.setIfInBounds_toArray, List.set_cons_zero, List.set_cons_succ]
            obtain ⟨X, K, o⟩ := L
            have HA2 : RowKit.Hid (∀ e, e < j + 1 → smAt agg k l e) := Lib.hid (fun e he => by
              rcases Nat.lt_or_ge e j with g | g
              · exact HA.out e g
              · rw [show e = j by omega]
                exact ⟨fun _ => HN.out, fun _ h => absurd (by rw [← HS.out]; exact h) gd⟩)
            go_wp2
            go_roundw
            case rel => exact ⟨j + 1, by omega, (by first | go_num | exact congrArg (Value.int .i64) (by omega)), HA2, X, o⟩
            case measure => simp [intOf]; omega
        · skip
          refine wp_region_free0 [0, 1, 2, 3, 4, 5, 6, 7, 8, 9, 10, 11, 12, 13, 14] [] [0, 1, 2, 3, 4, 5, 6, 7, 8, 9, 10, 11, 12, 13, 14] 15 (fun w' => Row w' (xb) 37 #[.int .i64 agg, .int .i64 wd, .int .i64 k, .int .i64 cap, .int .i64 now, .int .i64 seq, .slice (some ad) m c] ∧ Row w' (mb) 228 #[.int .i64 sq, .int .i64 tk, .int .i64 n, .int .i64 s, .int .i64 q, .int .i64 lo, .int .i64 hi] ∧ Below w.heap.size w w') (by kernel_rfl) (by kernel_rfl) (fun _ _ d _ _ h => by cases d <;> exact h) ?_ ?_
          · exact ⟨X, K, o.drew⟩
          (refine plan_pure ?_ rfl rfl (fun w' => ?_) ?_; rotate_left; (go_simp; try with_reducible rfl); simp only [Act.put, List.setIfInBounds_toArray, List.set_cons_zero, List.set_cons_succ])
          (refine plan_pure ?_ rfl rfl (fun w' => ?_) ?_; rotate_left; (go_simp; try with_reducible rfl); simp only [Act.put, List.setIfInBounds_toArray, List.set_cons_zero, List.set_cons_succ])
          (refine plan_pure ?_ rfl rfl (fun w' => ?_) ?_; rotate_left; (go_simp; try with_reducible rfl); simp only [Act.put, List.setIfInBounds_toArray, List.set_cons_zero, List.set_cons_succ])
          (refine plan_pure ?_ rfl rfl (fun w' => ?_) ?_; rotate_left; (go_simp; try with_reducible rfl); simp only [Act.put, List.setIfInBounds_toArray, List.set_cons_zero, List.set_cons_succ])
          (refine plan_val ?_ rfl rfl rfl (fun w' hS => ?_) ?_; rotate_left; (obtain ⟨X0, X1, X2, X3, X4, X5, X6, Xf0, Xf1, Xf2, Xf3, Xf4, Xf5, Xf6⟩ := row_seven hS.1; obtain ⟨K0, K1, K2, K3, K4, K5, K6, Kf0, Kf1, Kf2, Kf3, Kf4, Kf5, Kf6⟩ := row_seven hS.2.1; obtain ⟨q0, q1, q2, q3, q4, q5, q6⟩ := HTz.out.below hS.2.2 (by rw [block_of_add]; exact hadb); dsimp only at q0 q1 q2 q3 q4 q5 q6; go_simp; try with_reducible rfl); simp only [Act.put, List.setIfInBounds_toArray, List.set_cons_zero, List.set_cons_succ])
          (refine plan_pure ?_ rfl rfl (fun w' => ?_) ?_; rotate_left; (go_simp; try with_reducible rfl); simp only [Act.put, List.setIfInBounds_toArray, List.set_cons_zero, List.set_cons_succ])
          (refine plan_pure ?_ rfl rfl (fun w' => ?_) ?_; rotate_left; (go_simp; try with_reducible rfl); simp only [Act.put, List.setIfInBounds_toArray, List.set_cons_zero, List.set_cons_succ])
          (refine plan_pure ?_ rfl rfl (fun w' => ?_) ?_; rotate_left; (go_simp; try with_reducible rfl); simp only [Act.put, List.setIfInBounds_toArray, List.set_cons_zero, List.set_cons_succ])
          (refine plan_val ?_ rfl rfl rfl (fun w' hS => ?_) ?_; rotate_left; (obtain ⟨X0, X1, X2, X3, X4, X5, X6, Xf0, Xf1, Xf2, Xf3, Xf4, Xf5, Xf6⟩ := row_seven hS.1; obtain ⟨K0, K1, K2, K3, K4, K5, K6, Kf0, Kf1, Kf2, Kf3, Kf4, Kf5, Kf6⟩ := row_seven hS.2.1; obtain ⟨q0, q1, q2, q3, q4, q5, q6⟩ := HTz.out.below hS.2.2 (by rw [block_of_add]; exact hadb); dsimp only at q0 q1 q2 q3 q4 q5 q6; go_simp; try with_reducible rfl); simp only [Act.put, List.setIfInBounds_toArray, List.set_cons_zero, List.set_cons_succ])
          (refine plan_val ?_ rfl rfl rfl (fun w' hS => ?_) ?_; rotate_left; (obtain ⟨X0, X1, X2, X3, X4, X5, X6, Xf0, Xf1, Xf2, Xf3, Xf4, Xf5, Xf6⟩ := row_seven hS.1; obtain ⟨K0, K1, K2, K3, K4, K5, K6, Kf0, Kf1, Kf2, Kf3, Kf4, Kf5, Kf6⟩ := row_seven hS.2.1; obtain ⟨q0, q1, q2, q3, q4, q5, q6⟩ := HTz.out.below hS.2.2 (by rw [block_of_add]; exact hadb); dsimp only at q0 q1 q2 q3 q4 q5 q6; go_simp; try with_reducible rfl); simp only [Act.put, List.setIfInBounds_toArray, List.set_cons_zero, List.set_cons_succ])
          (refine plan_pure ?_ rfl rfl (fun w' => ?_) ?_; rotate_left; (go_simp; try with_reducible rfl); simp only [Act.put, List.setIfInBounds_toArray, List.set_cons_zero, List.set_cons_succ])
          (refine plan_val ?_ rfl rfl rfl (fun w' hS => ?_) ?_; rotate_left; (obtain ⟨X0, X1, X2, X3, X4, X5, X6, Xf0, Xf1, Xf2, Xf3, Xf4, Xf5, Xf6⟩ := row_seven hS.1; obtain ⟨K0, K1, K2, K3, K4, K5, K6, Kf0, Kf1, Kf2, Kf3, Kf4, Kf5, Kf6⟩ := row_seven hS.2.1; obtain ⟨q0, q1, q2, q3, q4, q5, q6⟩ := HTz.out.below hS.2.2 (by rw [block_of_add]; exact hadb); dsimp only at q0 q1 q2 q3 q4 q5 q6; go_simp; try with_reducible rfl); simp only [Act.put, List.setIfInBounds_toArray, List.set_cons_zero, List.set_cons_succ])
          (refine plan_pure ?_ rfl rfl (fun w' => ?_) ?_; rotate_left; (go_simp; try with_reducible rfl); simp only [Act.put, List.setIfInBounds_toArray, List.set_cons_zero, List.set_cons_succ])
          (refine plan_val ?_ rfl rfl rfl (fun w' hS => ?_) ?_; rotate_left; (obtain ⟨X0, X1, X2, X3, X4, X5, X6, Xf0, Xf1, Xf2, Xf3, Xf4, Xf5, Xf6⟩ := row_seven hS.1; obtain ⟨K0, K1, K2, K3, K4, K5, K6, Kf0, Kf1, Kf2, Kf3, Kf4, Kf5, Kf6⟩ := row_seven hS.2.1; obtain ⟨q0, q1, q2, q3, q4, q5, q6⟩ := HTz.out.below hS.2.2 (by rw [block_of_add]; exact hadb); dsimp only at q0 q1 q2 q3 q4 q5 q6; go_simp; try with_reducible rfl); simp only [Act.put, List.setIfInBounds_toArray, List.set_cons_zero, List.set_cons_succ])
          refine plan_call (.bool true) 217 #[.agg #[.int .i64 zsq, .int .i64 ztk, .int .i64 zn, .int .i64 zs, .int .i64 zq, .int .i64 zlo, .int .i64 zhi], .agg #[.int .i64 sq, .int .i64 tk, .int .i64 n, .int .i64 s, .int .i64 q, .int .i64 lo, .int .i64 hi], .int .i64 agg, .int .i64 k] rfl rfl rfl (fun _ _ h hb => ⟨row_call h.1 hb, row_call h.2.1 hb, h.2.2.trans (hb.mono h.2.2.size)⟩) (fun w' hS => by obtain ⟨X0, X1, X2, X3, X4, X5, X6, Xf0, Xf1, Xf2, Xf3, Xf4, Xf5, Xf6⟩ := row_seven hS.1; obtain ⟨K0, K1, K2, K3, K4, K5, K6, Kf0, Kf1, Kf2, Kf3, Kf4, Kf5, Kf6⟩ := row_seven hS.2.1; obtain ⟨q0, q1, q2, q3, q4, q5, q6⟩ := HTz.out.below hS.2.2 (by rw [block_of_add]; exact hadb); dsimp only at q0 q1 q2 q3 q4 q5 q6; go_simp) (fun w' hS => PN.out w') ?_
          simp only [Act.put, List.setIfInBounds_toArray, List.set_cons_zero, List.set_cons_succ]
          refine plan_nil ?_
          intro w4 L
          simp only [List.drop_succ_cons, List.drop_zero]
          try simp only [Act.put, List.setIfInBounds_toArray, List.set_cons_zero, List.set_cons_succ]
          have o2 := L.2.2
          clear L X K o
          have E := Lib.hid (smvalE_no (agg := agg) (wd := wd) (k := k) (cap := cap) (now := now) (seq := seq) (l := l) (fun a => absurd ((a.2.2 j (by rw [HL.out]; exact hlt)).1 j2) (by rw [HOz.out, HO0.out]; exact not_not_intro (of_decide_eq_true HNV.out))))
          go_wp2
          go_ret
          exact ⟨ret_i64 E.out.symm, o2⟩
      · skip
        have g2 : ¬ (2 : Int) ≤ (j : Int) := by omega
        have g2d : decide ((2 : Int) ≤ (j : Int)) = false := decide_eq_false g2
        refine wp_region_free0 [0, 1, 2, 3, 4, 5, 6, 7, 8, 9, 10, 11, 12, 13, 14] [] [0, 1, 2, 3, 4, 5, 6, 7, 8, 9, 10, 11, 12, 13, 14] 15 (fun w' => Row w' (xb) 37 #[.int .i64 agg, .int .i64 wd, .int .i64 k, .int .i64 cap, .int .i64 now, .int .i64 seq, .slice (some ad) m c] ∧ Row w' (mb) 228 #[.int .i64 sq, .int .i64 tk, .int .i64 n, .int .i64 s, .int .i64 q, .int .i64 lo, .int .i64 hi] ∧ Below w.heap.size w w') (by kernel_rfl) (by kernel_rfl) (fun _ _ d _ _ h => by cases d <;> exact h) ?_ ?_
        · exact ⟨X, K, o.drew⟩
        (refine plan_pure ?_ rfl rfl (fun w' => ?_) ?_; rotate_left; (go_simp; try with_reducible rfl); simp only [Act.put, List.setIfInBounds_toArray, List.set_cons_zero, List.set_cons_succ])
        (refine plan_pure ?_ rfl rfl (fun w' => ?_) ?_; rotate_left; (go_simp; try with_reducible rfl); simp only [Act.put, List.setIfInBounds_toArray, List.set_cons_zero, List.set_cons_succ])
        (refine plan_pure ?_ rfl rfl (fun w' => ?_) ?_; rotate_left; (go_simp; try with_reducible rfl); simp only [Act.put, List.setIfInBounds_toArray, List.set_cons_zero, List.set_cons_succ])
        refine plan_not rfl rfl ?_
        simp only [Act.put, List.setIfInBounds_toArray, List.set_cons_zero, List.set_cons_succ]
        refine plan_not rfl rfl ?_
        simp only [Act.put, List.setIfInBounds_toArray, List.set_cons_zero, List.set_cons_succ]
        refine plan_not rfl rfl ?_
        simp only [Act.put, List.setIfInBounds_toArray, List.set_cons_zero, List.set_cons_succ]
        refine plan_not rfl rfl ?_
        simp only [Act.put, List.setIfInBounds_toArray, List.set_cons_zero, List.set_cons_succ]
        refine plan_not rfl rfl ?_
        simp only [Act.put, List.setIfInBounds_toArray, List.set_cons_zero, List.set_cons_succ]
        refine plan_not rfl rfl ?_
        simp only [Act.put, List.setIfInBounds_toArray, List.set_cons_zero, List.set_cons_succ]
        refine plan_not rfl rfl ?_
        simp only [Act.put, List.setIfInBounds_toArray, List.set_cons_zero, List.set_cons_succ]
        refine plan_not rfl rfl ?_
        simp only [Act.put, List.setIfInBounds_toArray, List.set_cons_zero, List.set_cons_succ]
        refine plan_not rfl rfl ?_
        simp only [Act.put, List.setIfInBounds_toArray, List.set_cons_zero, List.set_cons_succ]
        refine plan_not rfl rfl ?_
        simp only [Act.put, List.setIfInBounds_toArray, List.set_cons_zero, List.set_cons_succ]
        refine plan_not rfl rfl ?_
        simp only [Act.put, List.setIfInBounds_toArray, List.set_cons_zero, List.set_cons_succ]
        refine plan_not rfl rfl ?_
        simp only [Act.put, List.setIfInBounds_toArray, List.set_cons_zero, List.set_cons_succ]
        refine plan_nil ?_
        intro w4 L
        simp only [List.drop_succ_cons, List.drop_zero]
        try simp only [Act.put, List.setIfInBounds_toArray, List.set_cons_zero, List.set_cons_succ]
        obtain ⟨X, K, o⟩ := L
        go_upto_region 8 with (fail)
        by_cases j1 : 1 ≤ j
        · skip
          have g1 : (1 : Int) ≤ (j : Int) := by omega
          have g1d : decide ((1 : Int) ≤ (j : Int)) = true := decide_eq_true g1
          obtain ⟨ado, eao, _, hto⟩ := HR.out.reads.mk (i := (j - 1)) (by omega)
          obtain rfl : ad = ado := by injection eao
          have hMo := HR.out.mB (j - 1)
          have hGo := ofV_bound (HV.out.2.2.1 (j - 1) (by rw [HL.out]; omega)).1 c1
          generalize hOo : mkAt l (j - 1) = mo at hto hMo hGo
          have PN := fun w => pnear agg k mo ⟨sq, tk, n, s, q, lo, hi⟩ w k0 k1 hMo hM0 hGo.1 hGo.2 hG0.1 hG0.2
          obtain ⟨nv, hnv⟩ : ∃ b, nearB agg k mo ⟨sq, tk, n, s, q, lo, hi⟩ = b := ⟨_, rfl⟩
          rw [hnv] at PN
          have HNV := Lib.hid hnv
          clear hnv
          have HOo := Lib.hid hOo
          obtain ⟨osq, otk, on, os, oq, olo, ohi⟩ := mo
          have HTo := Lib.hid hto
          replace PN := Lib.hid PN
          clear hOo hto eao hMo hGo
          have hB0 := hM0.1
          have HS := Lib.hid (show (mkAt l j).seq - (mkAt l (j - 1)).seq = sq - osq by rw [HO0.out, HOo.out])
          obtain ⟨p, hp⟩ : ∃ p : Nat, j = p + 1 := ⟨j - 1, by omega⟩
          have wj : IntKind.i64.wrap ((j : Int) - 1) = (p : Int) := by rw [IntWalk.i64_in _ (by omega)]; omega
          have p1 : (p : Int) < (m : Int) := by omega
          have p0 : (0 : Int) ≤ (p : Int) := by omega
          have HTo : RowKit.Hid (MkCells w (ad.add (p * 7)) ⟨osq, otk, on, os, oq, olo, ohi⟩) := by rw [show p = j - 1 by omega]; exact HTo
          have S1 := (HV.out.2.2.1 j (by rw [HL.out]; exact hlt)).1
          have S2 := (HV.out.2.2.1 (j - 1) (by rw [HL.out]; omega)).1
          rw [HO0.out] at S1
          rw [HOo.out] at S2
          have ws : IntKind.i64.wrap (sq - osq) = sq - osq := IntWalk.i64_in _ (by have := S1.1; have := S1.2.1; have := S2.1; have := S2.2.1; have := HV.out.2.1; dsimp only at *; omega)
          clear hp S1 S2 hB0
          by_cases gd : 1 < sq - osq
          · cases nv
            · skip
              have gdd : decide (1 < sq - osq) = true := decide_eq_true gd
              refine wp_region_free0 [0, 1, 2, 3, 4, 5, 6, 7, 8, 9, 10, 11, 12, 13, 14, 15, 16, 17, 18, 19, 20, 21, 22, 23, 24, 25, 26, 27, 28] [] [0, 1, 2, 3, 4, 5, 6, 7, 8, 9, 10, 11, 12, 13, 14, 15, 16, 17, 18, 19, 20, 21, 22, 23, 24, 25, 26, 27, 28] 29 (fun w' => Row w' (xb) 37 #[.int .i64 agg, .int .i64 wd, .int .i64 k, .int .i64 cap, .int .i64 now, .int .i64 seq, .slice (some ad) m c] ∧ Row w' (mb) 228 #[.int .i64 sq, .int .i64 tk, .int .i64 n, .int .i64 s, .int .i64 q, .int .i64 lo, .int .i64 hi] ∧ Below w.heap.size w w') (by kernel_rfl) (by kernel_rfl) (fun _ _ d _ _ h => by cases d <;> exact h) ?_ ?_
              · exact ⟨X, K, o.drew⟩
              (refine plan_pure ?_ rfl rfl (fun w' => ?_) ?_; rotate_left; (go_simp; try with_reducible rfl); simp only [Act.put, List.setIfInBounds_toArray, List.set_cons_zero, List.set_cons_succ])
              (refine plan_pure ?_ rfl rfl (fun w' => ?_) ?_; rotate_left; (go_simp; try with_reducible rfl); simp only [Act.put, List.setIfInBounds_toArray, List.set_cons_zero, List.set_cons_succ])
              (refine plan_pure ?_ rfl rfl (fun w' => ?_) ?_; rotate_left; (go_simp; try with_reducible rfl); simp only [Act.put, List.setIfInBounds_toArray, List.set_cons_zero, List.set_cons_succ])
              (refine plan_pure ?_ rfl rfl (fun w' => ?_) ?_; rotate_left; (go_simp; try with_reducible rfl); simp only [Act.put, List.setIfInBounds_toArray, List.set_cons_zero, List.set_cons_succ])
              (refine plan_val ?_ rfl rfl rfl (fun w' hS => ?_) ?_; rotate_left; (obtain ⟨X0, X1, X2, X3, X4, X5, X6, Xf0, Xf1, Xf2, Xf3, Xf4, Xf5, Xf6⟩ := row_seven hS.1; obtain ⟨K0, K1, K2, K3, K4, K5, K6, Kf0, Kf1, Kf2, Kf3, Kf4, Kf5, Kf6⟩ := row_seven hS.2.1; obtain ⟨q0, q1, q2, q3, q4, q5, q6⟩ := HTo.out.below hS.2.2 (by rw [block_of_add]; exact hadb); dsimp only at q0 q1 q2 q3 q4 q5 q6; go_simp; try with_reducible rfl); simp only [Act.put, List.setIfInBounds_toArray, List.set_cons_zero, List.set_cons_succ])
              (refine plan_pure ?_ rfl rfl (fun w' => ?_) ?_; rotate_left; (go_simp; try with_reducible rfl); simp only [Act.put, List.setIfInBounds_toArray, List.set_cons_zero, List.set_cons_succ])
              (refine plan_val ?_ rfl rfl rfl (fun w' hS => ?_) ?_; rotate_left; (obtain ⟨X0, X1, X2, X3, X4, X5, X6, Xf0, Xf1, Xf2, Xf3, Xf4, Xf5, Xf6⟩ := row_seven hS.1; obtain ⟨K0, K1, K2, K3, K4, K5, K6, Kf0, Kf1, Kf2, Kf3, Kf4, Kf5, Kf6⟩ := row_seven hS.2.1; obtain ⟨q0, q1, q2, q3, q4, q5, q6⟩ := HTo.out.below hS.2.2 (by rw [block_of_add]; exact hadb); dsimp only at q0 q1 q2 q3 q4 q5 q6; go_simp; try with_reducible rfl); simp only [Act.put, List.setIfInBounds_toArray, List.set_cons_zero, List.set_cons_succ])
              (refine plan_pure ?_ rfl rfl (fun w' => ?_) ?_; rotate_left; (go_simp; try with_reducible rfl); simp only [Act.put, List.setIfInBounds_toArray, List.set_cons_zero, List.set_cons_succ])
              (refine plan_pure ?_ rfl rfl (fun w' => ?_) ?_; rotate_left; (go_simp; try with_reducible rfl); simp only [Act.put, List.setIfInBounds_toArray, List.set_cons_zero, List.set_cons_succ])
              (refine plan_pure ?_ rfl rfl (fun w' => ?_) ?_; rotate_left; (go_simp; try with_reducible rfl); simp only [Act.put, List.setIfInBounds_toArray, List.set_cons_zero, List.set_cons_succ])
              (refine plan_pure ?_ rfl rfl (fun w' => ?_) ?_; rotate_left; (go_simp; try with_reducible rfl); simp only [Act.put, List.setIfInBounds_toArray, List.set_cons_zero, List.set_cons_succ])
              (refine plan_val ?_ rfl rfl rfl (fun w' hS => ?_) ?_; rotate_left; (obtain ⟨X0, X1, X2, X3, X4, X5, X6, Xf0, Xf1, Xf2, Xf3, Xf4, Xf5, Xf6⟩ := row_seven hS.1; obtain ⟨K0, K1, K2, K3, K4, K5, K6, Kf0, Kf1, Kf2, Kf3, Kf4, Kf5, Kf6⟩ := row_seven hS.2.1; obtain ⟨q0, q1, q2, q3, q4, q5, q6⟩ := HTo.out.below hS.2.2 (by rw [block_of_add]; exact hadb); dsimp only at q0 q1 q2 q3 q4 q5 q6; go_simp; try with_reducible rfl); simp only [Act.put, List.setIfInBounds_toArray, List.set_cons_zero, List.set_cons_succ])
              (refine plan_pure ?_ rfl rfl (fun w' => ?_) ?_; rotate_left; (go_simp; try with_reducible rfl); simp only [Act.put, List.setIfInBounds_toArray, List.set_cons_zero, List.set_cons_succ])
              (refine plan_pure ?_ rfl rfl (fun w' => ?_) ?_; rotate_left; (go_simp; try with_reducible rfl); simp only [Act.put, List.setIfInBounds_toArray, List.set_cons_zero, List.set_cons_succ])
              (refine plan_pure ?_ rfl rfl (fun w' => ?_) ?_; rotate_left; (go_simp; try with_reducible rfl); simp only [Act.put, List.setIfInBounds_toArray, List.set_cons_zero, List.set_cons_succ])
              (refine plan_pure ?_ rfl rfl (fun w' => ?_) ?_; rotate_left; (go_simp; try with_reducible rfl); simp only [Act.put, List.setIfInBounds_toArray, List.set_cons_zero, List.set_cons_succ])
              (refine plan_pure ?_ rfl rfl (fun w' => ?_) ?_; rotate_left; (go_simp; try with_reducible rfl); simp only [Act.put, List.setIfInBounds_toArray, List.set_cons_zero, List.set_cons_succ])
              (refine plan_val ?_ rfl rfl rfl (fun w' hS => ?_) ?_; rotate_left; (obtain ⟨X0, X1, X2, X3, X4, X5, X6, Xf0, Xf1, Xf2, Xf3, Xf4, Xf5, Xf6⟩ := row_seven hS.1; obtain ⟨K0, K1, K2, K3, K4, K5, K6, Kf0, Kf1, Kf2, Kf3, Kf4, Kf5, Kf6⟩ := row_seven hS.2.1; obtain ⟨q0, q1, q2, q3, q4, q5, q6⟩ := HTo.out.below hS.2.2 (by rw [block_of_add]; exact hadb); dsimp only at q0 q1 q2 q3 q4 q5 q6; go_simp; try with_reducible rfl); simp only [Act.put, List.setIfInBounds_toArray, List.set_cons_zero, List.set_cons_succ])
              (refine plan_pure ?_ rfl rfl (fun w' => ?_) ?_; rotate_left; (go_simp; try with_reducible rfl); simp only [Act.put, List.setIfInBounds_toArray, List.set_cons_zero, List.set_cons_succ])
              (refine plan_pure ?_ rfl rfl (fun w' => ?_) ?_; rotate_left; (go_simp; try with_reducible rfl); simp only [Act.put, List.setIfInBounds_toArray, List.set_cons_zero, List.set_cons_succ])
              (refine plan_pure ?_ rfl rfl (fun w' => ?_) ?_; rotate_left; (go_simp; try with_reducible rfl); simp only [Act.put, List.setIfInBounds_toArray, List.set_cons_zero, List.set_cons_succ])
              (refine plan_val ?_ rfl rfl rfl (fun w' hS => ?_) ?_; rotate_left; (obtain ⟨X0, X1, X2, X3, X4, X5, X6, Xf0, Xf1, Xf2, Xf3, Xf4, Xf5, Xf6⟩ := row_seven hS.1; obtain ⟨K0, K1, K2, K3, K4, K5, K6, Kf0, Kf1, Kf2, Kf3, Kf4, Kf5, Kf6⟩ := row_seven hS.2.1; obtain ⟨q0, q1, q2, q3, q4, q5, q6⟩ := HTo.out.below hS.2.2 (by rw [block_of_add]; exact hadb); dsimp only at q0 q1 q2 q3 q4 q5 q6; go_simp; try with_reducible rfl); simp only [Act.put, List.setIfInBounds_toArray, List.set_cons_zero, List.set_cons_succ])
              (refine plan_val ?_ rfl rfl rfl (fun w' hS => ?_) ?_; rotate_left; (obtain ⟨X0, X1, X2, X3, X4, X5, X6, Xf0, Xf1, Xf2, Xf3, Xf4, Xf5, Xf6⟩ := row_seven hS.1; obtain ⟨K0, K1, K2, K3, K4, K5, K6, Kf0, Kf1, Kf2, Kf3, Kf4, Kf5, Kf6⟩ := row_seven hS.2.1; obtain ⟨q0, q1, q2, q3, q4, q5, q6⟩ := HTo.out.below hS.2.2 (by rw [block_of_add]; exact hadb); dsimp only at q0 q1 q2 q3 q4 q5 q6; go_simp; try with_reducible rfl); simp only [Act.put, List.setIfInBounds_toArray, List.set_cons_zero, List.set_cons_succ])
              (refine plan_pure ?_ rfl rfl (fun w' => ?_) ?_; rotate_left; (go_simp; try with_reducible rfl); simp only [Act.put, List.setIfInBounds_toArray, List.set_cons_zero, List.set_cons_succ])
              (refine plan_val ?_ rfl rfl rfl (fun w' hS => ?_) ?_; rotate_left; (obtain ⟨X0, X1, X2, X3, X4, X5, X6, Xf0, Xf1, Xf2, Xf3, Xf4, Xf5, Xf6⟩ := row_seven hS.1; obtain ⟨K0, K1, K2, K3, K4, K5, K6, Kf0, Kf1, Kf2, Kf3, Kf4, Kf5, Kf6⟩ := row_seven hS.2.1; obtain ⟨q0, q1, q2, q3, q4, q5, q6⟩ := HTo.out.below hS.2.2 (by rw [block_of_add]; exact hadb); dsimp only at q0 q1 q2 q3 q4 q5 q6; go_simp; try with_reducible rfl); simp only [Act.put, List.setIfInBounds_toArray, List.set_cons_zero, List.set_cons_succ])
              (refine plan_pure ?_ rfl rfl (fun w' => ?_) ?_; rotate_left; (go_simp; try with_reducible rfl); simp only [Act.put, List.setIfInBounds_toArray, List.set_cons_zero, List.set_cons_succ])
              (refine plan_val ?_ rfl rfl rfl (fun w' hS => ?_) ?_; rotate_left; (obtain ⟨X0, X1, X2, X3, X4, X5, X6, Xf0, Xf1, Xf2, Xf3, Xf4, Xf5, Xf6⟩ := row_seven hS.1; obtain ⟨K0, K1, K2, K3, K4, K5, K6, Kf0, Kf1, Kf2, Kf3, Kf4, Kf5, Kf6⟩ := row_seven hS.2.1; obtain ⟨q0, q1, q2, q3, q4, q5, q6⟩ := HTo.out.below hS.2.2 (by rw [block_of_add]; exact hadb); dsimp only at q0 q1 q2 q3 q4 q5 q6; go_simp; try with_reducible rfl); simp only [Act.put, List.setIfInBounds_toArray, List.set_cons_zero, List.set_cons_succ])
              refine plan_call (.bool false) 217 #[.agg #[.int .i64 osq, .int .i64 otk, .int .i64 on, .int .i64 os, .int .i64 oq, .int .i64 olo, .int .i64 ohi], .agg #[.int .i64 sq, .int .i64 tk, .int .i64 n, .int .i64 s, .int .i64 q, .int .i64 lo, .int .i64 hi], .int .i64 agg, .int .i64 k] rfl rfl rfl (fun _ _ h hb => ⟨row_call h.1 hb, row_call h.2.1 hb, h.2.2.trans (hb.mono h.2.2.size)⟩) (fun w' hS => by obtain ⟨X0, X1, X2, X3, X4, X5, X6, Xf0, Xf1, Xf2, Xf3, Xf4, Xf5, Xf6⟩ := row_seven hS.1; obtain ⟨K0, K1, K2, K3, K4, K5, K6, Kf0, Kf1, Kf2, Kf3, Kf4, Kf5, Kf6⟩ := row_seven hS.2.1; obtain ⟨q0, q1, q2, q3, q4, q5, q6⟩ := HTo.out.below hS.2.2 (by rw [block_of_add]; exact hadb); dsimp only at q0 q1 q2 q3 q4 q5 q6; go_simp) (fun w' hS => PN.out w') ?_
              simp only [Act.put, List.setIfInBounds_toArray, List.set_cons_zero, List.set_cons_succ]
              (refine plan_pure ?_ rfl rfl (fun w' => ?_) ?_; rotate_left; (go_simp; try with_reducible rfl); simp only [Act.put, List.setIfInBounds_toArray, List.set_cons_zero, List.set_cons_succ])
              refine plan_nil ?_
              intro w5 L
              simp only [List.drop_succ_cons, List.drop_zero]
              try simp only [Act.put, List.setIfInBounds_toArray, List.set_cons_zero, List.set_cons_succ]
              have o2 := L.2.2
              clear L X K o
              have E := Lib.hid (smvalE_no (agg := agg) (wd := wd) (k := k) (cap := cap) (now := now) (seq := seq) (l := l) (fun a => absurd ((a.2.2 j (by rw [HL.out]; exact hlt)).2 (by omega) (by rw [HS.out]; exact gd)) (by rw [HOo.out, HO0.out]; exact of_decide_eq_false HNV.out)))
              go_wp2
              go_ret
              exact ⟨ret_i64 E.out.symm, o2⟩
            · skip
              have gdd : decide (1 < sq - osq) = true := decide_eq_true gd
              refine wp_region_free0 [0, 1, 2, 3, 4, 5, 6, 7, 8, 9, 10, 11, 12, 13, 14, 15, 16, 17, 18, 19, 20, 21, 22, 23, 24, 25, 26, 27, 28] [] [0, 1, 2, 3, 4, 5, 6, 7, 8, 9, 10, 11, 12, 13, 14, 15, 16, 17, 18, 19, 20, 21, 22, 23, 24, 25, 26, 27, 28] 29 (fun w' => Row w' (xb) 37 #[.int .i64 agg, .int .i64 wd, .int .i64 k, .int .i64 cap, .int .i64 now, .int .i64 seq, .slice (some ad) m c] ∧ Row w' (mb) 228 #[.int .i64 sq, .int .i64 tk, .int .i64 n, .int .i64 s, .int .i64 q, .int .i64 lo, .int .i64 hi] ∧ Below w.heap.size w w') (by kernel_rfl) (by kernel_rfl) (fun _ _ d _ _ h => by cases d <;> exact h) ?_ ?_
              · exact ⟨X, K, o.drew⟩
              (refine plan_pure ?_ rfl rfl (fun w' => ?_) ?_; rotate_left; (go_simp; try with_reducible rfl); simp only [Act.put, List.setIfInBounds_toArray, List.set_cons_zero, List.set_cons_succ])
              (refine plan_pure ?_ rfl rfl (fun w' => ?_) ?_; rotate_left; (go_simp; try with_reducible rfl); simp only [Act.put, List.setIfInBounds_toArray, List.set_cons_zero, List.set_cons_succ])
              (refine plan_pure ?_ rfl rfl (fun w' => ?_) ?_; rotate_left; (go_simp; try with_reducible rfl); simp only [Act.put, List.setIfInBounds_toArray, List.set_cons_zero, List.set_cons_succ])
              (refine plan_pure ?_ rfl rfl (fun w' => ?_) ?_; rotate_left; (go_simp; try with_reducible rfl); simp only [Act.put, List.setIfInBounds_toArray, List.set_cons_zero, List.set_cons_succ])
              (refine plan_val ?_ rfl rfl rfl (fun w' hS => ?_) ?_; rotate_left; (obtain ⟨X0, X1, X2, X3, X4, X5, X6, Xf0, Xf1, Xf2, Xf3, Xf4, Xf5, Xf6⟩ := row_seven hS.1; obtain ⟨K0, K1, K2, K3, K4, K5, K6, Kf0, Kf1, Kf2, Kf3, Kf4, Kf5, Kf6⟩ := row_seven hS.2.1; obtain ⟨q0, q1, q2, q3, q4, q5, q6⟩ := HTo.out.below hS.2.2 (by rw [block_of_add]; exact hadb); dsimp only at q0 q1 q2 q3 q4 q5 q6; go_simp; try with_reducible rfl); simp only [Act.put, List.setIfInBounds_toArray, List.set_cons_zero, List.set_cons_succ])
              (refine plan_pure ?_ rfl rfl (fun w' => ?_) ?_; rotate_left; (go_simp; try with_reducible rfl); simp only [Act.put, List.setIfInBounds_toArray, List.set_cons_zero, List.set_cons_succ])
              (refine plan_val ?_ rfl rfl rfl (fun w' hS => ?_) ?_; rotate_left; (obtain ⟨X0, X1, X2, X3, X4, X5, X6, Xf0, Xf1, Xf2, Xf3, Xf4, Xf5, Xf6⟩ := row_seven hS.1; obtain ⟨K0, K1, K2, K3, K4, K5, K6, Kf0, Kf1, Kf2, Kf3, Kf4, Kf5, Kf6⟩ := row_seven hS.2.1; obtain ⟨q0, q1, q2, q3, q4, q5, q6⟩ := HTo.out.below hS.2.2 (by rw [block_of_add]; exact hadb); dsimp only at q0 q1 q2 q3 q4 q5 q6; go_simp; try with_reducible rfl); simp only [Act.put, List.setIfInBounds_toArray, List.set_cons_zero, List.set_cons_succ])
              (refine plan_pure ?_ rfl rfl (fun w' => ?_) ?_; rotate_left; (go_simp; try with_reducible rfl); simp only [Act.put, List.setIfInBounds_toArray, List.set_cons_zero, List.set_cons_succ])
              (refine plan_pure ?_ rfl rfl (fun w' => ?_) ?_; rotate_left; (go_simp; try with_reducible rfl); simp only [Act.put, List.setIfInBounds_toArray, List.set_cons_zero, List.set_cons_succ])
              (refine plan_pure ?_ rfl rfl (fun w' => ?_) ?_; rotate_left; (go_simp; try with_reducible rfl); simp only [Act.put, List.setIfInBounds_toArray, List.set_cons_zero, List.set_cons_succ])
              (refine plan_pure ?_ rfl rfl (fun w' => ?_) ?_; rotate_left; (go_simp; try with_reducible rfl); simp only [Act.put, List.setIfInBounds_toArray, List.set_cons_zero, List.set_cons_succ])
              (refine plan_val ?_ rfl rfl rfl (fun w' hS => ?_) ?_; rotate_left; (obtain ⟨X0, X1, X2, X3, X4, X5, X6, Xf0, Xf1, Xf2, Xf3, Xf4, Xf5, Xf6⟩ := row_seven hS.1; obtain ⟨K0, K1, K2, K3, K4, K5, K6, Kf0, Kf1, Kf2, Kf3, Kf4, Kf5, Kf6⟩ := row_seven hS.2.1; obtain ⟨q0, q1, q2, q3, q4, q5, q6⟩ := HTo.out.below hS.2.2 (by rw [block_of_add]; exact hadb); dsimp only at q0 q1 q2 q3 q4 q5 q6; go_simp; try with_reducible rfl); simp only [Act.put, List.setIfInBounds_toArray, List.set_cons_zero, List.set_cons_succ])
              (refine plan_pure ?_ rfl rfl (fun w' => ?_) ?_; rotate_left; (go_simp; try with_reducible rfl); simp only [Act.put, List.setIfInBounds_toArray, List.set_cons_zero, List.set_cons_succ])
              (refine plan_pure ?_ rfl rfl (fun w' => ?_) ?_; rotate_left; (go_simp; try with_reducible rfl); simp only [Act.put, List.setIfInBounds_toArray, List.set_cons_zero, List.set_cons_succ])
              (refine plan_pure ?_ rfl rfl (fun w' => ?_) ?_; rotate_left; (go_simp; try with_reducible rfl); simp only [Act.put, List.setIfInBounds_toArray, List.set_cons_zero, List.set_cons_succ])
              (refine plan_pure ?_ rfl rfl (fun w' => ?_) ?_; rotate_left; (go_simp; try with_reducible rfl); simp only [Act.put, List.setIfInBounds_toArray, List.set_cons_zero, List.set_cons_succ])
              (refine plan_pure ?_ rfl rfl (fun w' => ?_) ?_; rotate_left; (go_simp; try with_reducible rfl); simp only [Act.put, List.setIfInBounds_toArray, List.set_cons_zero, List.set_cons_succ])
              (refine plan_val ?_ rfl rfl rfl (fun w' hS => ?_) ?_; rotate_left; (obtain ⟨X0, X1, X2, X3, X4, X5, X6, Xf0, Xf1, Xf2, Xf3, Xf4, Xf5, Xf6⟩ := row_seven hS.1; obtain ⟨K0, K1, K2, K3, K4, K5, K6, Kf0, Kf1, Kf2, Kf3, Kf4, Kf5, Kf6⟩ := row_seven hS.2.1; obtain ⟨q0, q1, q2, q3, q4, q5, q6⟩ := HTo.out.below hS.2.2 (by rw [block_of_add]; exact hadb); dsimp only at q0 q1 q2 q3 q4 q5 q6; go_simp; try with_reducible rfl); simp only [Act.put, List.setIfInBounds_toArray, List.set_cons_zero, List.set_cons_succ])
              (refine plan_pure ?_ rfl rfl (fun w' => ?_) ?_; rotate_left; (go_simp; try with_reducible rfl); simp only [Act.put, List.setIfInBounds_toArray, List.set_cons_zero, List.set_cons_succ])
              (refine plan_pure ?_ rfl rfl (fun w' => ?_) ?_; rotate_left; (go_simp; try with_reducible rfl); simp only [Act.put, List.setIfInBounds_toArray, List.set_cons_zero, List.set_cons_succ])
              (refine plan_pure ?_ rfl rfl (fun w' => ?_) ?_; rotate_left; (go_simp; try with_reducible rfl); simp only [Act.put, List.setIfInBounds_toArray, List.set_cons_zero, List.set_cons_succ])
              (refine plan_val ?_ rfl rfl rfl (fun w' hS => ?_) ?_; rotate_left; (obtain ⟨X0, X1, X2, X3, X4, X5, X6, Xf0, Xf1, Xf2, Xf3, Xf4, Xf5, Xf6⟩ := row_seven hS.1; obtain ⟨K0, K1, K2, K3, K4, K5, K6, Kf0, Kf1, Kf2, Kf3, Kf4, Kf5, Kf6⟩ := row_seven hS.2.1; obtain ⟨q0, q1, q2, q3, q4, q5, q6⟩ := HTo.out.below hS.2.2 (by rw [block_of_add]; exact hadb); dsimp only at q0 q1 q2 q3 q4 q5 q6; go_simp; try with_reducible rfl); simp only [Act.put, List.setIfInBounds_toArray, List.set_cons_zero, List.set_cons_succ])
              (refine plan_val ?_ rfl rfl rfl (fun w' hS => ?_) ?_; rotate_left; (obtain ⟨X0, X1, X2, X3, X4, X5, X6, Xf0, Xf1, Xf2, Xf3, Xf4, Xf5, Xf6⟩ := row_seven hS.1; obtain ⟨K0, K1, K2, K3, K4, K5, K6, Kf0, Kf1, Kf2, Kf3, Kf4, Kf5, Kf6⟩ := row_seven hS.2.1; obtain ⟨q0, q1, q2, q3, q4, q5, q6⟩ := HTo.out.below hS.2.2 (by rw [block_of_add]; exact hadb); dsimp only at q0 q1 q2 q3 q4 q5 q6; go_simp; try with_reducible rfl); simp only [Act.put, List.setIfInBounds_toArray, List.set_cons_zero, List.set_cons_succ])
              (refine plan_pure ?_ rfl rfl (fun w' => ?_) ?_; rotate_left; (go_simp; try with_reducible rfl); simp only [Act.put, List.setIfInBounds_toArray, List.set_cons_zero, List.set_cons_succ])
              (refine plan_val ?_ rfl rfl rfl (fun w' hS => ?_) ?_; rotate_left; (obtain ⟨X0, X1, X2, X3, X4, X5, X6, Xf0, Xf1, Xf2, Xf3, Xf4, Xf5, Xf6⟩ := row_seven hS.1; obtain ⟨K0, K1, K2, K3, K4, K5, K6, Kf0, Kf1, Kf2, Kf3, Kf4, Kf5, Kf6⟩ := row_seven hS.2.1; obtain ⟨q0, q1, q2, q3, q4, q5, q6⟩ := HTo.out.below hS.2.2 (by rw [block_of_add]; exact hadb); dsimp only at q0 q1 q2 q3 q4 q5 q6; go_simp; try with_reducible rfl); simp only [Act.put, List.setIfInBounds_toArray, List.set_cons_zero, List.set_cons_succ])
              (refine plan_pure ?_ rfl rfl (fun w' => ?_) ?_; rotate_left; (go_simp; try with_reducible rfl); simp only [Act.put, List.setIfInBounds_toArray, List.set_cons_zero, List.set_cons_succ])
              (refine plan_val ?_ rfl rfl rfl (fun w' hS => ?_) ?_; rotate_left; (obtain ⟨X0, X1, X2, X3, X4, X5, X6, Xf0, Xf1, Xf2, Xf3, Xf4, Xf5, Xf6⟩ := row_seven hS.1; obtain ⟨K0, K1, K2, K3, K4, K5, K6, Kf0, Kf1, Kf2, Kf3, Kf4, Kf5, Kf6⟩ := row_seven hS.2.1; obtain ⟨q0, q1, q2, q3, q4, q5, q6⟩ := HTo.out.below hS.2.2 (by rw [block_of_add]; exact hadb); dsimp only at q0 q1 q2 q3 q4 q5 q6; go_simp; try with_reducible rfl); simp only [Act.put, List.setIfInBounds_toArray, List.set_cons_zero, List.set_cons_succ])
              refine plan_call (.bool true) 217 #[.agg #[.int .i64 osq, .int .i64 otk, .int .i64 on, .int .i64 os, .int .i64 oq, .int .i64 olo, .int .i64 ohi], .agg #[.int .i64 sq, .int .i64 tk, .int .i64 n, .int .i64 s, .int .i64 q, .int .i64 lo, .int .i64 hi], .int .i64 agg, .int .i64 k] rfl rfl rfl (fun _ _ h hb => ⟨row_call h.1 hb, row_call h.2.1 hb, h.2.2.trans (hb.mono h.2.2.size)⟩) (fun w' hS => by obtain ⟨X0, X1, X2, X3, X4, X5, X6, Xf0, Xf1, Xf2, Xf3, Xf4, Xf5, Xf6⟩ := row_seven hS.1; obtain ⟨K0, K1, K2, K3, K4, K5, K6, Kf0, Kf1, Kf2, Kf3, Kf4, Kf5, Kf6⟩ := row_seven hS.2.1; obtain ⟨q0, q1, q2, q3, q4, q5, q6⟩ := HTo.out.below hS.2.2 (by rw [block_of_add]; exact hadb); dsimp only at q0 q1 q2 q3 q4 q5 q6; go_simp) (fun w' hS => PN.out w') ?_
              simp only [Act.put, List.setIfInBounds_toArray, List.set_cons_zero, List.set_cons_succ]
              (refine plan_pure ?_ rfl rfl (fun w' => ?_) ?_; rotate_left; (go_simp; try with_reducible rfl); simp only [Act.put, List.setIfInBounds_toArray, List.set_cons_zero, List.set_cons_succ])
              refine plan_nil ?_
              intro w5 L
              simp only [List.drop_succ_cons, List.drop_zero]
              try simp only [Act.put, List.setIfInBounds_toArray, List.set_cons_zero, List.set_cons_succ]
              obtain ⟨X, K, o⟩ := L
              have HA2 : RowKit.Hid (∀ e, e < j + 1 → smAt agg k l e) := Lib.hid (fun e he => by
                rcases Nat.lt_or_ge e j with g | g
                · exact HA.out e g
                · rw [show e = j by omega]
                  exact ⟨fun h => absurd h j2, fun _ _ => by rw [HOo.out, HO0.out]; exact of_decide_eq_true HNV.out⟩)
              go_wp2
              go_roundw
              case rel => exact ⟨j + 1, by omega, (by first | go_num | exact congrArg (Value.int .i64) (by omega)), HA2, X, o⟩
              case measure => simp [intOf]; omega
          · skip
            have gdd : decide (1 < sq - osq) = false := decide_eq_false gd
            refine wp_region_free0 [0, 1, 2, 3, 4, 5, 6, 7, 8, 9, 10, 11, 12, 13, 14, 15, 16, 17, 18, 19, 20, 21, 22, 23, 24, 25, 26, 27, 28] [] [0, 1, 2, 3, 4, 5, 6, 7, 8, 9, 10, 11, 12, 13, 14, 15, 16, 17, 18, 19, 20, 21, 22, 23, 24, 25, 26, 27, 28] 29 (fun w' => Row w' (xb) 37 #[.int .i64 agg, .int .i64 wd, .int .i64 k, .int .i64 cap, .int .i64 now, .int .i64 seq, .slice (some ad) m c] ∧ Row w' (mb) 228 #[.int .i64 sq, .int .i64 tk, .int .i64 n, .int .i64 s, .int .i64 q, .int .i64 lo, .int .i64 hi] ∧ Below w.heap.size w w') (by kernel_rfl) (by kernel_rfl) (fun _ _ d _ _ h => by cases d <;> exact h) ?_ ?_
            · exact ⟨X, K, o.drew⟩
            (refine plan_pure ?_ rfl rfl (fun w' => ?_) ?_; rotate_left; (go_simp; try with_reducible rfl); simp only [Act.put, List.setIfInBounds_toArray, List.set_cons_zero, List.set_cons_succ])
            (refine plan_pure ?_ rfl rfl (fun w' => ?_) ?_; rotate_left; (go_simp; try with_reducible rfl); simp only [Act.put, List.setIfInBounds_toArray, List.set_cons_zero, List.set_cons_succ])
            (refine plan_pure ?_ rfl rfl (fun w' => ?_) ?_; rotate_left; (go_simp; try with_reducible rfl); simp only [Act.put, List.setIfInBounds_toArray, List.set_cons_zero, List.set_cons_succ])
            (refine plan_pure ?_ rfl rfl (fun w' => ?_) ?_; rotate_left; (go_simp; try with_reducible rfl); simp only [Act.put, List.setIfInBounds_toArray, List.set_cons_zero, List.set_cons_succ])
            (refine plan_val ?_ rfl rfl rfl (fun w' hS => ?_) ?_; rotate_left; (obtain ⟨X0, X1, X2, X3, X4, X5, X6, Xf0, Xf1, Xf2, Xf3, Xf4, Xf5, Xf6⟩ := row_seven hS.1; obtain ⟨K0, K1, K2, K3, K4, K5, K6, Kf0, Kf1, Kf2, Kf3, Kf4, Kf5, Kf6⟩ := row_seven hS.2.1; obtain ⟨q0, q1, q2, q3, q4, q5, q6⟩ := HTo.out.below hS.2.2 (by rw [block_of_add]; exact hadb); dsimp only at q0 q1 q2 q3 q4 q5 q6; go_simp; try with_reducible rfl); simp only [Act.put, List.setIfInBounds_toArray, List.set_cons_zero, List.set_cons_succ])
            (refine plan_pure ?_ rfl rfl (fun w' => ?_) ?_; rotate_left; (go_simp; try with_reducible rfl); simp only [Act.put, List.setIfInBounds_toArray, List.set_cons_zero, List.set_cons_succ])
            (refine plan_val ?_ rfl rfl rfl (fun w' hS => ?_) ?_; rotate_left; (obtain ⟨X0, X1, X2, X3, X4, X5, X6, Xf0, Xf1, Xf2, Xf3, Xf4, Xf5, Xf6⟩ := row_seven hS.1; obtain ⟨K0, K1, K2, K3, K4, K5, K6, Kf0, Kf1, Kf2, Kf3, Kf4, Kf5, Kf6⟩ := row_seven hS.2.1; obtain ⟨q0, q1, q2, q3, q4, q5, q6⟩ := HTo.out.below hS.2.2 (by rw [block_of_add]; exact hadb); dsimp only at q0 q1 q2 q3 q4 q5 q6; go_simp; try with_reducible rfl); simp only [Act.put, List.setIfInBounds_toArray, List.set_cons_zero, List.set_cons_succ])
            (refine plan_pure ?_ rfl rfl (fun w' => ?_) ?_; rotate_left; (go_simp; try with_reducible rfl); simp only [Act.put, List.setIfInBounds_toArray, List.set_cons_zero, List.set_cons_succ])
            (refine plan_pure ?_ rfl rfl (fun w' => ?_) ?_; rotate_left; (go_simp; try with_reducible rfl); simp only [Act.put, List.setIfInBounds_toArray, List.set_cons_zero, List.set_cons_succ])
            (refine plan_pure ?_ rfl rfl (fun w' => ?_) ?_; rotate_left; (go_simp; try with_reducible rfl); simp only [Act.put, List.setIfInBounds_toArray, List.set_cons_zero, List.set_cons_succ])
            (refine plan_pure ?_ rfl rfl (fun w' => ?_) ?_; rotate_left; (go_simp; try with_reducible rfl); simp only [Act.put, List.setIfInBounds_toArray, List.set_cons_zero, List.set_cons_succ])
            (refine plan_val ?_ rfl rfl rfl (fun w' hS => ?_) ?_; rotate_left; (obtain ⟨X0, X1, X2, X3, X4, X5, X6, Xf0, Xf1, Xf2, Xf3, Xf4, Xf5, Xf6⟩ := row_seven hS.1; obtain ⟨K0, K1, K2, K3, K4, K5, K6, Kf0, Kf1, Kf2, Kf3, Kf4, Kf5, Kf6⟩ := row_seven hS.2.1; obtain ⟨q0, q1, q2, q3, q4, q5, q6⟩ := HTo.out.below hS.2.2 (by rw [block_of_add]; exact hadb); dsimp only at q0 q1 q2 q3 q4 q5 q6; go_simp; try with_reducible rfl); simp only [Act.put, List.setIfInBounds_toArray, List.set_cons_zero, List.set_cons_succ])
            (refine plan_pure ?_ rfl rfl (fun w' => ?_) ?_; rotate_left; (go_simp; try with_reducible rfl); simp only [Act.put, List.setIfInBounds_toArray, List.set_cons_zero, List.set_cons_succ])
            (refine plan_pure ?_ rfl rfl (fun w' => ?_) ?_; rotate_left; (go_simp; try with_reducible rfl); simp only [Act.put, List.setIfInBounds_toArray, List.set_cons_zero, List.set_cons_succ])
            (refine plan_pure ?_ rfl rfl (fun w' => ?_) ?_; rotate_left; (go_simp; try with_reducible rfl); simp only [Act.put, List.setIfInBounds_toArray, List.set_cons_zero, List.set_cons_succ])
            (refine plan_pure ?_ rfl rfl (fun w' => ?_) ?_; rotate_left; (go_simp; try with_reducible rfl); simp only [Act.put, List.setIfInBounds_toArray, List.set_cons_zero, List.set_cons_succ])
            refine plan_not rfl rfl ?_
            simp only [Act.put, List.setIfInBounds_toArray, List.set_cons_zero, List.set_cons_succ]
            refine plan_not rfl rfl ?_
            simp only [Act.put, List.setIfInBounds_toArray, List.set_cons_zero, List.set_cons_succ]
            refine plan_not rfl rfl ?_
            simp only [Act.put, List.setIfInBounds_toArray, List.set_cons_zero, List.set_cons_succ]
            refine plan_not rfl rfl ?_
            simp only [Act.put, List.setIfInBounds_toArray, List.set_cons_zero, List.set_cons_succ]
            refine plan_not rfl rfl ?_
            simp only [Act.put, List.setIfInBounds_toArray, List.set_cons_zero, List.set_cons_succ]
            refine plan_not rfl rfl ?_
            simp only [Act.put, List.setIfInBounds_toArray, List.set_cons_zero, List.set_cons_succ]
            refine plan_not rfl rfl ?_
            simp only [Act.put, List.setIfInBounds_toArray, List.set_cons_zero, List.set_cons_succ]
            refine plan_not rfl rfl ?_
            simp only [Act.put, List.setIfInBounds_toArray, List.set_cons_zero, List.set_cons_succ]
            refine plan_not rfl rfl ?_
            simp only [Act.put, List.setIfInBounds_toArray, List.set_cons_zero, List.set_cons_succ]
            refine plan_not rfl rfl ?_
            simp only [Act.put, List.setIfInBounds_toArray, List.set_cons_zero, List.set_cons_succ]
            refine plan_not rfl rfl ?_
            simp only [Act.put, List.setIfInBounds_toArray, List.set_cons_zero, List.set_cons_succ]
            refine plan_not rfl rfl ?_
            simp only [Act.put, List.setIfInBounds_toArray, List.set_cons_zero, List.set_cons_succ]
            refine plan_not rfl rfl ?_
            simp only [Act.put, List.setIfInBounds_toArray, List.set_cons_zero, List.set_cons_succ]
            refine plan_nil ?_
            intro w5 L
            simp only [List.drop_succ_cons, List.drop_zero]
            try simp only [Act.put, List.setIfInBounds_toArray, List.set_cons_zero, List.set_cons_succ]
            obtain ⟨X, K, o⟩ := L
            have HA2 : RowKit.Hid (∀ e, e < j + 1 → smAt agg k l e) := Lib.hid (fun e he => by
              rcases Nat.lt_or_ge e j with g | g
              · exact HA.out e g
              · rw [show e = j by omega]
                exact ⟨fun h => absurd h j2, fun _ h => absurd (by rw [← HS.out]; exact h) gd⟩)
            go_wp2
            go_roundw
            case rel => exact ⟨j + 1, by omega, (by first | go_num | exact congrArg (Value.int .i64) (by omega)), HA2, X, o⟩
            case measure => simp [intOf]; omega
        · skip
          have g1 : ¬ (1 : Int) ≤ (j : Int) := by omega
          have g1d : decide ((1 : Int) ≤ (j : Int)) = false := decide_eq_false g1
          refine wp_region_free0 [0, 1, 2, 3, 4, 5, 6, 7, 8, 9, 10, 11, 12, 13, 14, 15, 16, 17, 18, 19, 20, 21, 22, 23, 24, 25, 26, 27, 28] [] [0, 1, 2, 3, 4, 5, 6, 7, 8, 9, 10, 11, 12, 13, 14, 15, 16, 17, 18, 19, 20, 21, 22, 23, 24, 25, 26, 27, 28] 29 (fun w' => Row w' (xb) 37 #[.int .i64 agg, .int .i64 wd, .int .i64 k, .int .i64 cap, .int .i64 now, .int .i64 seq, .slice (some ad) m c] ∧ Row w' (mb) 228 #[.int .i64 sq, .int .i64 tk, .int .i64 n, .int .i64 s, .int .i64 q, .int .i64 lo, .int .i64 hi] ∧ Below w.heap.size w w') (by kernel_rfl) (by kernel_rfl) (fun _ _ d _ _ h => by cases d <;> exact h) ?_ ?_
          · exact ⟨X, K, o.drew⟩
          (refine plan_pure ?_ rfl rfl (fun w' => ?_) ?_; rotate_left; (go_simp; try with_reducible rfl); simp only [Act.put, List.setIfInBounds_toArray, List.set_cons_zero, List.set_cons_succ])
          (refine plan_pure ?_ rfl rfl (fun w' => ?_) ?_; rotate_left; (go_simp; try with_reducible rfl); simp only [Act.put, List.setIfInBounds_toArray, List.set_cons_zero, List.set_cons_succ])
          (refine plan_pure ?_ rfl rfl (fun w' => ?_) ?_; rotate_left; (go_simp; try with_reducible rfl); simp only [Act.put, List.setIfInBounds_toArray, List.set_cons_zero, List.set_cons_succ])
          refine plan_not rfl rfl ?_
          simp only [Act.put, List.setIfInBounds_toArray, List.set_cons_zero, List.set_cons_succ]
          refine plan_not rfl rfl ?_
          simp only [Act.put, List.setIfInBounds_toArray, List.set_cons_zero, List.set_cons_succ]
          refine plan_not rfl rfl ?_
          simp only [Act.put, List.setIfInBounds_toArray, List.set_cons_zero, List.set_cons_succ]
          refine plan_not rfl rfl ?_
          simp only [Act.put, List.setIfInBounds_toArray, List.set_cons_zero, List.set_cons_succ]
          refine plan_not rfl rfl ?_
          simp only [Act.put, List.setIfInBounds_toArray, List.set_cons_zero, List.set_cons_succ]
          refine plan_not rfl rfl ?_
          simp only [Act.put, List.setIfInBounds_toArray, List.set_cons_zero, List.set_cons_succ]
          refine plan_not rfl rfl ?_
          simp only [Act.put, List.setIfInBounds_toArray, List.set_cons_zero, List.set_cons_succ]
          refine plan_not rfl rfl ?_
          simp only [Act.put, List.setIfInBounds_toArray, List.set_cons_zero, List.set_cons_succ]
          refine plan_not rfl rfl ?_
          simp only [Act.put, List.setIfInBounds_toArray, List.set_cons_zero, List.set_cons_succ]
          refine plan_not rfl rfl ?_
          simp only [Act.put, List.setIfInBounds_toArray, List.set_cons_zero, List.set_cons_succ]
          refine plan_not rfl rfl ?_
          simp only [Act.put, List.setIfInBounds_toArray, List.set_cons_zero, List.set_cons_succ]
          (refine plan_pure ?_ rfl rfl (fun w' => ?_) ?_; rotate_left; (go_simp; try with_reducible rfl); simp only [Act.put, List.setIfInBounds_toArray, List.set_cons_zero, List.set_cons_succ])
          (refine plan_pure ?_ rfl rfl (fun w' => ?_) ?_; rotate_left; (go_simp; try with_reducible rfl); simp only [Act.put, List.setIfInBounds_toArray, List.set_cons_zero, List.set_cons_succ])
          refine plan_not rfl rfl ?_
          simp only [Act.put, List.setIfInBounds_toArray, List.set_cons_zero, List.set_cons_succ]
          refine plan_not rfl rfl ?_
          simp only [Act.put, List.setIfInBounds_toArray, List.set_cons_zero, List.set_cons_succ]
          refine plan_not rfl rfl ?_
          simp only [Act.put, List.setIfInBounds_toArray, List.set_cons_zero, List.set_cons_succ]
          refine plan_not rfl rfl ?_
          simp only [Act.put, List.setIfInBounds_toArray, List.set_cons_zero, List.set_cons_succ]
          refine plan_not rfl rfl ?_
          simp only [Act.put, List.setIfInBounds_toArray, List.set_cons_zero, List.set_cons_succ]
          refine plan_not rfl rfl ?_
          simp only [Act.put, List.setIfInBounds_toArray, List.set_cons_zero, List.set_cons_succ]
          refine plan_not rfl rfl ?_
          simp only [Act.put, List.setIfInBounds_toArray, List.set_cons_zero, List.set_cons_succ]
          refine plan_not rfl rfl ?_
          simp only [Act.put, List.setIfInBounds_toArray, List.set_cons_zero, List.set_cons_succ]
          refine plan_not rfl rfl ?_
          simp only [Act.put, List.setIfInBounds_toArray, List.set_cons_zero, List.set_cons_succ]
          refine plan_not rfl rfl ?_
          simp only [Act.put, List.setIfInBounds_toArray, List.set_cons_zero, List.set_cons_succ]
          refine plan_not rfl rfl ?_
          simp only [Act.put, List.setIfInBounds_toArray, List.set_cons_zero, List.set_cons_succ]
          refine plan_not rfl rfl ?_
          simp only [Act.put, List.setIfInBounds_toArray, List.set_cons_zero, List.set_cons_succ]
          refine plan_not rfl rfl ?_
          simp only [Act.put, List.setIfInBounds_toArray, List.set_cons_zero, List.set_cons_succ]
          refine plan_nil ?_
          intro w5 L
          simp only [List.drop_succ_cons, List.drop_zero]
          try simp only [Act.put, List.setIfInBounds_toArray, List.set_cons_zero, List.set_cons_succ]
          obtain ⟨X, K, o⟩ := L
          have HA2 : RowKit.Hid (∀ e, e < j + 1 → smAt agg k l e) := Lib.hid (fun e he => by
            rcases Nat.lt_or_ge e j with g | g
            · exact HA.out e g
            · rw [show e = j by omega]
              exact ⟨fun h => absurd h j2, fun h => absurd h (by omega)⟩)
          go_wp2
          go_roundw
          case rel => exact ⟨j + 1, by omega, (by first | go_num | exact congrArg (Value.int .i64) (by omega)), HA2, X, o⟩
          case measure => simp [intOf]; omega
    · have i1 : ¬ (j : Int) < (m : Int) := by omega
      obtain rfl : j = m := by omega
      have E := Lib.hid (smvalE_yes (agg := agg) (wd := wd) (k := k) (cap := cap) (now := now) (seq := seq) (l := l) ⟨HG.out, HV.out, fun i hi => HA.out i (by rw [HL.out] at hi; exact hi)⟩)
      clear HA X
      go_wp2
      go_ret
      exact ⟨ret_i64 E.out.symm, o⟩
theorem pvalS (A : Option Addr) (m c : Nat) (l : List Mk) (agg wd k cap now seq : Int) (w : World) (hin : MIn A m c l w) (sB : I64 seq) : Calls Tryz.prog 136 #[.agg #[.int .i64 agg, .int .i64 wd, .int .i64 k, .int .i64 cap, .int .i64 now, .int .i64 seq, .slice A m c]] w fun e w' => e = .returned (.int .i64 (smvalE agg wd k cap now seq l)) ∧ Below w.heap.size w w' := by
  by_cases hG : smGood agg wd k cap now
  · by_cases hV : mvalid l seq cap now wd (leastV agg)
    · exact pvalS_c A m c l agg wd k cap now seq w hin sB hG hV
    · exact pvalS_b A m c l agg wd k cap now seq w hin sB hG hV
  · exact pvalS_a A m c l agg wd k cap now seq w hG
end Go.Proofs.YtdipoojjlddohaaGreat
end
section
/- A region in the order of its text, whose operations only read and whose callees only read, walked once by the quiet walk. -/
set_option linter.unusedVariables false
set_option linter.unusedSimpArgs false
set_option linter.unusedSectionVars false
set_option linter.unnecessarySimpa false
namespace Go.Proofs.YtdipoojjlddohaaGreat
open Go
end Go.Proofs.YtdipoojjlddohaaGreat
end
section
/- Marks of smooth histograms: the reference's check, walked. -/
set_option linter.unusedVariables false
set_option linter.unusedSimpArgs false
set_option linter.unusedSectionVars false
set_option linter.unnecessarySimpa false
namespace Go.Proofs.YtdipoojjlddohaaGreat
open Go.RowKit
end Go.Proofs.YtdipoojjlddohaaGreat
end
section
/- Smooth histograms: the reference's check, walked. -/
set_option linter.unusedVariables false
set_option linter.unusedSimpArgs false
set_option linter.unusedSectionVars false
set_option linter.unnecessarySimpa false
namespace Go.Proofs.YtdipoojjlddohaaGreat
open Go.RowKit
end Go.Proofs.YtdipoojjlddohaaGreat
end
section
/- Marks of smooth histograms: the marks between each mark and the last one behind it that is close to it fall away, walked. -/
set_option linter.unusedVariables false
set_option linter.unusedSimpArgs false
set_option linter.unusedSectionVars false
set_option linter.unnecessarySimpa false
namespace Go.Proofs.YtdipoojjlddohaaGreat
open Go.RowKit
set_option maxRecDepth 100000 in
set_option maxHeartbeats 4000000 in
theorem pprune (near : Mk → Mk → Bool) (fc : FuncId) (xb : Nat) (A : Option Addr) (m c : Nat) (l : List Mk) (w : World) (hin : MIn A m c l w) (hm : m ≤ 1000000)
    (hfc : ∀ (args : Array Value) (w : World), Sem.run Tryz.prog (callFunc fc args) w = .ok (.enter fc args) w)
    (HN : ∀ (i j : Nat) (w' : World), i < j → j < m → Below w.heap.size w w' → Calls Tryz.prog fc #[.agg #[.int .i64 (mkAt l i).seq, .int .i64 (mkAt l i).t, .int .i64 (mkAt l i).n, .int .i64 (mkAt l i).s, .int .i64 (mkAt l i).q, .int .i64 (mkAt l i).lo, .int .i64 (mkAt l i).hi], .agg #[.int .i64 (mkAt l j).seq, .int .i64 (mkAt l j).t, .int .i64 (mkAt l j).n, .int .i64 (mkAt l j).s, .int .i64 (mkAt l j).q, .int .i64 (mkAt l j).lo, .int .i64 (mkAt l j).hi], .pointer (some ⟨xb, 0, none⟩)] w' fun e w'' => e = .returned (.bool (near (mkAt l i) (mkAt l j))) ∧ Below w'.heap.size w' w'') :
    Calls Tryz.prog 214 #[.slice A m c, .func (.func fc) #[] #[.pointer (some ⟨xb, 0, none⟩)]] w fun e w' => MRet (prune near l).length (prune near l) w e w' := by
  have HR := Lib.hid hin
  have HL := Lib.hid hin.len
  replace HN := Lib.hid HN
  have HFC := Lib.hid hfc
  clear hfc
  obtain ⟨i0, hi0, iz0, iz1, iz2⟩ := info_parts info_mk
  clear hin
  go_enter Tryz.func214, Tryz.ntmps214
  go_wp2
  go_loopw [5, 6] (fun u i wr => ∃ (k : Nat) (p : List Mk), k ≤ m ∧ i = .int .i64 (k : Nat) ∧ wr.ownsRow w.heap.size 228 7 u p.length (mcells p) ∧ RowKit.Hid (p ++ prune near (l.drop k) = prune near l) ∧ p.length ≤ k ∧ Below w.heap.size w wr) (fun _ i _ => m - (intOf i).toNat)
  case atStart => exact ⟨0, [], by omega, rfl, World.ownsRow_nil _ _ _ _, Lib.hid rfl, by simp, Below.refl _ _⟩
  case round =>
    obtain ⟨k, p, hk, rfl, own, HP, hpl, o⟩ := hrel
    by_cases hlt : k < m
    · obtain ⟨ad, rfl, hadb, hta⟩ := HR.out.reads.mk hlt
      have HE : RowKit.Hid (mcells (p ++ [mkAt l k]) = mcells p ++ mcells [mkAt l k]) := Lib.hid (mcells_append _ _)
      have HD : RowKit.Hid (prune near (l.drop k) = mkAt l k :: prune near (l.drop (k + 1 + lastN (near (mkAt l k)) (l.drop (k + 1))))) := Lib.hid (by
        rw [drop_mk (by rw [HL.out]; exact hlt), prune_cons, List.drop_drop])
      obtain ⟨N, hN⟩ : ∃ N, N = k + 1 + lastN (near (mkAt l k)) (l.drop (k + 1)) := ⟨_, rfl⟩
      have HNx := Lib.hid hN
      have hN0 : k + 1 ≤ N := by omega
      have hN1 : N ≤ m := by
        have := HL.out
        by_cases e : l.drop (k + 1) = []
        · rw [hN, e]
          have : lastN (near (mkAt l k)) [] = 0 := rfl
          omega
        · have := lastN_le (near (mkAt l k)) _ e
          rw [List.length_drop] at this
          omega
      generalize hA : mkAt l k = ma at hta HE
      have HAm := Lib.hid hA
      obtain ⟨sq, tk, n, s, q, lo, hi⟩ := ma
      have HA0 := Lib.hid hta
      obtain ⟨p0, p1, p2, p3, p4, p5, p6⟩ := hta.below o (by rw [block_of_add]; exact hadb)
      dsimp only at p0 p1 p2 p3 p4 p5 p6
      have HX : RowKit.Hid (mcells [(⟨sq, tk, n, s, q, lo, hi⟩ : Mk)] = (#[.int .i64 sq, .int .i64 tk, .int .i64 n, .int .i64 s, .int .i64 q, .int .i64 lo, .int .i64 hi] : Array Value).toList) := Lib.hid rfl
      have i1 : (k : Int) < (m : Int) := by omega
      have i2 : (0 : Int) ≤ (k : Int) := by omega
      have hbl := own.lt
      have OWN := Lib.hid own
      have zo := o.size
      have wm : IntKind.i64.wrap ((m : Int) - 1) = (m : Int) - 1 := IntWalk.i64_in _ (by omega)
      have wk : IntKind.i64.wrap ((k : Int) + 1) = (k : Int) + 1 := IntWalk.i64_in _ (by omega)
      clear own hA hta hN
      go_upto_block 2 with (at_builtin; refine wpList_push rfl _ _ 35 rfl 228 i0 (.agg #[.int .i64 0, .int .i64 0, .int .i64 0, .int .i64 0, .int .i64 0, .int .i64 0, .int .i64 0]) 7 56 Tryz.underlying35 hi0 iz0 iz1 iz2 rfl (by decide) w.heap.size u5 p.length (mcells p) rfl OWN.out #[.int .i64 sq, .int .i64 tk, .int .i64 n, .int .i64 s, .int .i64 q, .int .i64 lo, .int .i64 hi] rfl rfl (by simp [Value.oneCell']) (by unfold maxLen; omega) (by omega) (by omega) ?_; intro g' c4 w9 own9 hg9 hat9 hgr9)
      have own : w9.ownsRow w.heap.size 228 7 (.slice (some ⟨g', 0, none⟩) (p.length + 1) c4) (p.length + 1) (mcells (p ++ [mkAt l k])) := by
        rw [HAm.out, HE.out, HX.out]
        exact own9.row hg9
      replace o := below_grown (o.alloc o.size (.cells #[.int .i64 sq, .int .i64 tk, .int .i64 n, .int .i64 s, .int .i64 q, .int .i64 lo, .int .i64 hi] 228)) hgr9 (fun b e => (hbl b e).1) (by simp; omega)
      clear own9 hgr9 hat9 OWN zo p0 p1 p2 p3 p4 p5 p6 hbl
      go_cut [7] (fun nx wx => nx = .int .i64 (N : Nat) ∧ wx.ownsRow w.heap.size 228 7 (.slice (some ⟨g', 0, none⟩) (p.length + 1) c4) (p.length + 1) (mcells (p ++ [mkAt l k])) ∧ Below w.heap.size w wx)
      case first =>
        go_wp2_with fail
        go_loopw [7, 8] (fun nx j wr => ∃ J : Nat, k ≤ J ∧ J < m ∧ nx = .int .i64 ((k : Int) + 1) ∧ j = .int .i64 (J : Nat) ∧ RowKit.Hid (∀ e, J < e → e < m → near (mkAt l k) (mkAt l e) = false) ∧ wr.ownsRow w.heap.size 228 7 (.slice (some ⟨g', 0, none⟩) (p.length + 1) c4) (p.length + 1) (mcells (p ++ [mkAt l k])) ∧ Below w.heap.size w wr) (fun _ j _ => (intOf j).toNat)
        case atStart => exact ⟨m - 1, by omega, by omega, rfl, congrArg (Value.int .i64) (by omega), Lib.hid (fun e h h' => absurd h (by omega)), own, o⟩
        case round =>
          clear own o
          obtain ⟨J, hJ0, hJ1, rfl, rfl, HF, own, o⟩ := hrel
          by_cases hjk : k < J
          · have g1 : (k : Int) < (J : Int) := by omega
            obtain ⟨ad', ea, _, htb⟩ := HR.out.reads.mk hJ1
            obtain rfl : ad = ad' := by injection ea
            have PN := fun w' hb => HN.out k J w' hjk hJ1 hb
            obtain ⟨nv, hnv⟩ : ∃ b, near (mkAt l k) (mkAt l J) = b := ⟨_, rfl⟩
            rw [hnv] at PN
            have HV := Lib.hid hnv
            rw [HAm.out] at PN
            generalize hB : mkAt l J = mb at htb PN
            obtain ⟨osq, otk, on, os, oq, olo, ohi⟩ := mb
            dsimp only at PN
            replace PN := Lib.hid PN
            have HB0 := Lib.hid htb
            clear hB htb ea hnv
            have j1 : (J : Int) < (m : Int) := by omega
            have j0 : (0 : Int) ≤ (J : Int) := by omega
            have wJ : IntKind.i64.wrap ((J : Int) - 1) = (J : Int) - 1 := IntWalk.i64_in _ (by omega)
            have own5 := own
            go_upto_region 9 with (fail)
            refine wp_region_free0 [1, 2, 3, 5, 6, 7, 0, 4, 8] [] [0, 1, 2, 3, 4, 5, 6, 7, 8] 9 (fun w' => World.ownsRow w' w.heap.size 228 7 (.slice (some ⟨g', 0, none⟩) (p.length + 1) c4) (p.length + 1) (mcells (p ++ [mkAt l k])) ∧ Below w.heap.size w w') (by kernel_rfl) (by kernel_rfl) (fun _ _ d _ _ h => by cases d <;> exact h) ?_ ?_
            · exact ⟨own, o.drew⟩
            (refine plan_pure ?_ rfl rfl (fun w' => ?_) ?_; rotate_left; (go_simp; try with_reducible rfl); simp only [Act.put, List.setIfInBounds_toArray, List.set_cons_zero, List.set_cons_succ])
            (refine plan_pure ?_ rfl rfl (fun w' => ?_) ?_; rotate_left; (go_simp; try with_reducible rfl); simp only [Act.put, List.setIfInBounds_toArray, List.set_cons_zero, List.set_cons_succ])
            (refine plan_pure ?_ rfl rfl (fun w' => ?_) ?_; rotate_left; (go_simp; try with_reducible rfl); simp only [Act.put, List.setIfInBounds_toArray, List.set_cons_zero, List.set_cons_succ])
            (refine plan_pure ?_ rfl rfl (fun w' => ?_) ?_; rotate_left; (go_simp; try with_reducible rfl); simp only [Act.put, List.setIfInBounds_toArray, List.set_cons_zero, List.set_cons_succ])
            (refine plan_pure ?_ rfl rfl (fun w' => ?_) ?_; rotate_left; (go_simp; try with_reducible rfl); simp only [Act.put, List.setIfInBounds_toArray, List.set_cons_zero, List.set_cons_succ])
            (refine plan_pure ?_ rfl rfl (fun w' => ?_) ?_; rotate_left; (go_simp; try with_reducible rfl); simp only [Act.put, List.setIfInBounds_toArray, List.set_cons_zero, List.set_cons_succ])
            (refine plan_pure ?_ rfl rfl (fun w' => ?_) ?_; rotate_left; (go_simp; try with_reducible rfl); simp only [Act.put, List.setIfInBounds_toArray, List.set_cons_zero, List.set_cons_succ])
            (refine plan_val ?_ rfl rfl rfl (fun w' hS => ?_) ?_; rotate_left; (obtain ⟨p0, p1, p2, p3, p4, p5, p6⟩ := HA0.out.below hS.2 (by rw [block_of_add]; exact hadb); obtain ⟨q0, q1, q2, q3, q4, q5, q6⟩ := HB0.out.below hS.2 (by rw [block_of_add]; exact hadb); dsimp only at p0 p1 p2 p3 p4 p5 p6 q0 q1 q2 q3 q4 q5 q6; go_simp; try with_reducible rfl); simp only [Act.put, List.setIfInBounds_toArray, List.set_cons_zero, List.set_cons_succ])
            (refine plan_val ?_ rfl rfl rfl (fun w' hS => ?_) ?_; rotate_left; (obtain ⟨p0, p1, p2, p3, p4, p5, p6⟩ := HA0.out.below hS.2 (by rw [block_of_add]; exact hadb); obtain ⟨q0, q1, q2, q3, q4, q5, q6⟩ := HB0.out.below hS.2 (by rw [block_of_add]; exact hadb); dsimp only at p0 p1 p2 p3 p4 p5 p6 q0 q1 q2 q3 q4 q5 q6; go_simp; try with_reducible rfl); simp only [Act.put, List.setIfInBounds_toArray, List.set_cons_zero, List.set_cons_succ])
            refine plan_nil ?_
            intro w5 L5
            simp only [List.drop_succ_cons, List.drop_zero]
            try simp only [Act.put, List.setIfInBounds_toArray, List.set_cons_zero, List.set_cons_succ]
            obtain ⟨own, o⟩ := L5
            clear own5
            go_wp2_with fail
            rw [HFC.out]
            simp only [Oper.upon]
            refine (PN.out _ o).mono ?_
            rintro e w6 ⟨rfl, hb6⟩
            replace own := orow_keep own (fun g e => hb6.block g (own.lt g e).2)
            replace o := o.trans (hb6.mono o.size)
            cases nv
            · go_wp2
              go_roundw
              case rel =>
                refine ⟨J - 1, by omega, by omega, rfl, congrArg (Value.int .i64) (by omega), Lib.hid (fun e h h' => ?_), own, o⟩
                rcases Nat.lt_or_ge J e with g | g
                · exact HF.out e g h'
                · rw [show e = J by omega]
                  exact HV.out
              case measure => simp [intOf]; omega
            · have HJ : RowKit.Hid (N = J) := Lib.hid (by
                rw [HNx.out, lastN_is (p := J - (k + 1)) (by rw [List.length_drop, HL.out]; omega) (by rw [mkAt_drop, show k + 1 + (J - (k + 1)) = J by omega]; exact HV.out) (fun i h1 h2 => by
                  rw [List.length_drop, HL.out] at h2
                  rw [mkAt_drop]
                  exact HF.out _ (by omega) (by omega))]
                omega)
              go_wp2
              go_meet
              exact ⟨by rw [HJ.out], own, o⟩
          · obtain rfl : J = k := by omega
            have g1 : ¬ (J : Int) < (J : Int) := by omega
            have HJ : RowKit.Hid ((N : Int) = (J : Int) + 1) := Lib.hid (by
              have e := HNx.out
              rw [lastN_none (fun i hi => by
                rw [List.length_drop, HL.out] at hi
                rw [mkAt_drop]
                exact HF.out _ (by omega) (by omega))] at e
              omega)
            go_wp2
            go_meet
            exact ⟨by rw [HJ.out], own, o⟩
      case rest =>
        clear own o
        obtain ⟨rfl, own, o⟩ := hcut
        go_wp2
        go_roundw
        case rel => exact ⟨N, p ++ [mkAt l k], hN1, rfl, by rw [List.length_append]; exact own, Lib.hid (by rw [← HP.out, HD.out, HNx.out]; simp), by rw [List.length_append]; simp; omega, o⟩
        case measure => simp [intOf]; omega
    · have i1 : ¬ (k : Int) < (m : Int) := by omega
      obtain rfl : k = m := by omega
      have HE : RowKit.Hid (p = prune near l) := Lib.hid (by
        rw [← HP.out, List.drop_of_length_le (by rw [HL.out]; exact Nat.le_refl _), prune_nil, List.append_nil])
      go_wp2
      go_ret
      exact ⟨_, rfl, by rw [← HE.out]; exact own, o⟩
end Go.Proofs.YtdipoojjlddohaaGreat
end
section
/- Smooth histograms: what a call that answers a state leaves; New, walked. -/
set_option linter.unusedVariables false
set_option linter.unusedSimpArgs false
set_option linter.unusedSectionVars false
set_option linter.unnecessarySimpa false
namespace Go.Proofs.YtdipoojjlddohaaGreat
open Go.RowKit
theorem M64.of_one {seq cap now w least : Int} {m : Mk} (h : oneP seq cap now w least m) (hs : seq ≤ 1099511627777) (hc : cap ≤ 65536) (hn : now ≤ 16777216) (hl : -4096 ≤ least) : M64 m := by
  obtain ⟨⟨n0, n1⟩, ⟨s0, s1⟩, q0, q1⟩ := SmallM.of_one h hc hl
  obtain ⟨h1, h2, h3, h4, h5, h6, h7, h8, h9, _⟩ := h
  unfold M64 I64
  omega
theorem mkAt_out {l : List Mk} {i : Nat} (h : l.length ≤ i) : mkAt l i = Mk.zero := by
  unfold mkAt
  rw [List.getD_eq_getElem?_getD, List.getElem?_eq_none h]
  rfl
theorem M64.all {l : List Mk} (h : ∀ m ∈ l, M64 m) (i : Nat) : M64 (mkAt l i) := by
  by_cases hi : i < l.length
  · exact h _ (mkAt_mem hi)
  · rw [mkAt_out (by omega)]
    exact M64_zero
/-- Marks of the call's own, as an argument. -/
theorem MIn.of_row {w : World} {base n : Nat} {v : Value} {l : List Mk} (h : w.ownsRow base 228 7 v n (mcells l)) (hB : ∀ i, M64 (mkAt l i)) : ∃ A c, v = .slice A n c ∧ MIn A n c l w ∧ ∀ a, A = some a → base ≤ a.block ∧ a.block < w.heap.size := by
  obtain ⟨A, c, rfl, hr, h1, h2, h3⟩ := orow_forms h
  exact ⟨A, c, rfl, ⟨hr, hB, h1, h2⟩, h3⟩
theorem MIn.keep {A : Option Addr} {m c : Nat} {l : List Mk} {w w' : World} (h : MIn A m c l w) (hs : w.heap.size ≤ w'.heap.size) (hk : ∀ a, A = some a → w'.heap[a.block]? = w.heap[a.block]?) : MIn A m c l w' := by
  refine ⟨⟨h.reads.1, fun hn => ?_⟩, h.mB, h.mc, h.cB⟩
  obtain ⟨ad, e, hb, hc⟩ := h.reads.2 hn
  exact ⟨ad, e, Nat.lt_of_lt_of_le hb hs, fun j u hu => (World.cell?_of_block (by rw [block_of_add]; exact hk ad e)).trans (hc j u hu)⟩
/-- What a call of an operation leaves: a state and an error. -/
def SmRet (A0 : Option Addr) (r : SmOut) (w : World) (e : Ending) (w' : World) : Prop :=
  ∃ (A : Option Addr) (m c : Nat), e = .returned (.tuple #[.agg #[.int .i64 r.agg, .int .i64 r.wd, .int .i64 r.k, .int .i64 r.cap, .int .i64 r.now, .int .i64 r.seq, .slice A m c], .int .i64 r.f]) ∧ MIn A m c r.ms w' ∧ Below w.heap.size w w' ∧ ∀ a, A = some a → (w.heap.size ≤ a.block ∧ a.block < w'.heap.size) ∨ ∃ b, A0 = some b ∧ a.block = b.block
theorem min_nil {w : World} : MIn none 0 0 [] w := ⟨by simpa [mcells_nil] using Reads.none_, fun i => by rw [mkAt_out (by simp)]; exact M64_zero, Nat.le_refl _, Nat.zero_le _⟩
theorem smret_new {A0 : Option Addr} {w w' : World} {agg wd k cap now f : Int} (hb : Below w.heap.size w w') : SmRet A0 ⟨agg, wd, k, cap, now, 0, [], f⟩ w (.returned (.tuple #[.agg #[.int .i64 agg, .int .i64 wd, .int .i64 k, .int .i64 cap, .int .i64 now, .int .i64 0, .slice none 0 0], .int .i64 f])) w' :=
  ⟨none, 0, 0, rfl, min_nil, hb, fun a h => by cases h⟩
theorem smret_zero {A0 : Option Addr} {w w' : World} {f : Int} (hb : Below w.heap.size w w') : SmRet A0 (smZero f) w (.returned (.tuple #[.agg #[.int .i64 0, .int .i64 0, .int .i64 0, .int .i64 0, .int .i64 0, .int .i64 0, .slice none 0 0], .int .i64 f])) w' := smret_new hb
theorem smret_ok {A0 A : Option Addr} {m c : Nat} {w w' : World} {agg wd k cap now seq f : Int} {ms : List Mk} (h : MIn A m c ms w') (hb : Below w.heap.size w w') (hf : ∀ a, A = some a → (w.heap.size ≤ a.block ∧ a.block < w'.heap.size) ∨ ∃ b, A0 = some b ∧ a.block = b.block) :
    SmRet A0 ⟨agg, wd, k, cap, now, seq, ms, f⟩ w (.returned (.tuple #[.agg #[.int .i64 agg, .int .i64 wd, .int .i64 k, .int .i64 cap, .int .i64 now, .int .i64 seq, .slice A m c], .int .i64 f])) w' := ⟨A, m, c, rfl, h, hb, hf⟩
end Go.Proofs.YtdipoojjlddohaaGreat
end
section
/- Smooth histograms: a value more, walked. -/
set_option linter.unusedVariables false
set_option linter.unusedSimpArgs false
set_option linter.unusedSectionVars false
set_option linter.unnecessarySimpa false
namespace Go.Proofs.YtdipoojjlddohaaGreat
open Go.RowKit
theorem fc_run (args : Array Value) (w : World) : Sem.run Tryz.prog (callFunc 216 args) w = .ok (.enter 216 args) w := by
  unfold callFunc
  simp [go_sem, Tryz.func216]
  rfl
set_option maxHeartbeats 2000000 in
theorem pclos_flat (agg wd k cap now sq1 : Int) (A : Option Addr) (m c xb : Nat) (sq tk n s q lo hi bsq btk bn bs bq blo bhi : Int) (nv : Bool) (w : World) (X : Row w xb 37 #[.int .i64 agg, .int .i64 wd, .int .i64 k, .int .i64 cap, .int .i64 now, .int .i64 sq1, .slice A m c])
    (PN : ∀ w, Calls Tryz.prog 217 #[.agg #[.int .i64 sq, .int .i64 tk, .int .i64 n, .int .i64 s, .int .i64 q, .int .i64 lo, .int .i64 hi], .agg #[.int .i64 bsq, .int .i64 btk, .int .i64 bn, .int .i64 bs, .int .i64 bq, .int .i64 blo, .int .i64 bhi], .int .i64 agg, .int .i64 k] w fun e w' => e = .returned (.bool nv) ∧ Below w.heap.size w w') :
    Calls Tryz.prog 216 #[.agg #[.int .i64 sq, .int .i64 tk, .int .i64 n, .int .i64 s, .int .i64 q, .int .i64 lo, .int .i64 hi], .agg #[.int .i64 bsq, .int .i64 btk, .int .i64 bn, .int .i64 bs, .int .i64 bq, .int .i64 blo, .int .i64 bhi], .pointer (some ⟨xb, 0, none⟩)] w fun e w' => e = .returned (.bool nv) ∧ Below w.heap.size w w' := by
  have PN := Lib.hid PN
  go_enter Tryz.func216, Tryz.ntmps216
  go_upto_region 1 with (fail)
  have K : Row ((w.alloc (.cells #[.int .i64 sq, .int .i64 tk, .int .i64 n, .int .i64 s, .int .i64 q, .int .i64 lo, .int .i64 hi] 228)).alloc (.cells #[.int .i64 bsq, .int .i64 btk, .int .i64 bn, .int .i64 bs, .int .i64 bq, .int .i64 blo, .int .i64 bhi] 228)) w.heap.size 228 #[.int .i64 sq, .int .i64 tk, .int .i64 n, .int .i64 s, .int .i64 q, .int .i64 lo, .int .i64 hi] := row_alloc (row_new rfl) _
  have L : Row ((w.alloc (.cells #[.int .i64 sq, .int .i64 tk, .int .i64 n, .int .i64 s, .int .i64 q, .int .i64 lo, .int .i64 hi] 228)).alloc (.cells #[.int .i64 bsq, .int .i64 btk, .int .i64 bn, .int .i64 bs, .int .i64 bq, .int .i64 blo, .int .i64 bhi] 228)) (w.heap.size + 1) 228 #[.int .i64 bsq, .int .i64 btk, .int .i64 bn, .int .i64 bs, .int .i64 bq, .int .i64 blo, .int .i64 bhi] := row_new (by simp)
  have o : Below w.heap.size w ((w.alloc (.cells #[.int .i64 sq, .int .i64 tk, .int .i64 n, .int .i64 s, .int .i64 q, .int .i64 lo, .int .i64 hi] 228)).alloc (.cells #[.int .i64 bsq, .int .i64 btk, .int .i64 bn, .int .i64 bs, .int .i64 bq, .int .i64 blo, .int .i64 bhi] 228)) := by (repeat (first | exact Below.refl _ _ | refine Below.setCell ?_ (by first | (simp; done) | (simp; omega) | omega) _ | refine Below.alloc ?_ (by first | (simp; done) | (simp; omega) | omega) _ | refine Below.drew ?_ | refine Below.trans ?_ (Below.mono (by assumption) (by first | (simp; done) | (simp; omega) | omega))))
  replace X := row_alloc (row_alloc X (.cells #[.int .i64 sq, .int .i64 tk, .int .i64 n, .int .i64 s, .int .i64 q, .int .i64 lo, .int .i64 hi] 228)) (.cells #[.int .i64 bsq, .int .i64 btk, .int .i64 bn, .int .i64 bs, .int .i64 bq, .int .i64 blo, .int .i64 bhi] 228)
  generalize ((w.alloc (.cells #[.int .i64 sq, .int .i64 tk, .int .i64 n, .int .i64 s, .int .i64 q, .int .i64 lo, .int .i64 hi] 228)).alloc (.cells #[.int .i64 bsq, .int .i64 btk, .int .i64 bn, .int .i64 bs, .int .i64 bq, .int .i64 blo, .int .i64 bhi] 228)) = w3 at K L X o ⊢
  obtain ⟨X0, X1, X2, X3, X4, X5, X6, Xf0, Xf1, Xf2, Xf3, Xf4, Xf5, Xf6⟩ := row_seven X
  obtain ⟨K0, K1, K2, K3, K4, K5, K6, Kf0, Kf1, Kf2, Kf3, Kf4, Kf5, Kf6⟩ := row_seven K
  obtain ⟨L0, L1, L2, L3, L4, L5, L6, Lf0, Lf1, Lf2, Lf3, Lf4, Lf5, Lf6⟩ := row_seven L
  clear K L X
  go_wp2_with fail
  refine (PN.out _).mono ?_
  rintro e w4 ⟨rfl, hb4⟩
  replace o := o.trans (hb4.mono o.size)
  go_wp2
  go_ret
  exact ⟨rfl, o⟩
theorem smAdd_a {agg wd k cap now seq v : Int} {l : List Mk} (h : smvalE agg wd k cap now seq l = 2) : smAdd agg wd k cap now seq l v = smZero 2 := by
  unfold smAdd
  rw [if_neg (by omega)]
theorem smAdd_b {agg wd k cap now seq v : Int} {l : List Mk} (h : smvalE agg wd k cap now seq l = 0) (h1 : v < leastV agg ∨ 4096 < v) : smAdd agg wd k cap now seq l v = smZero 4 := by
  unfold smAdd
  rw [if_pos h, if_pos h1]
theorem smAdd_c {agg wd k cap now seq v : Int} {l : List Mk} (h : smvalE agg wd k cap now seq l = 0) (h1 : ¬ (v < leastV agg ∨ 4096 < v)) (h2 : smFull cap seq l) : smAdd agg wd k cap now seq l v = smZero 5 := by
  unfold smAdd
  rw [if_pos h, if_neg h1, if_pos h2]
theorem smAdd_d {agg wd k cap now seq v : Int} {l : List Mk} (h : smvalE agg wd k cap now seq l = 0) (h1 : ¬ (v < leastV agg ∨ 4096 < v)) (h2 : ¬ smFull cap seq l) : smAdd agg wd k cap now seq l v = ⟨agg, wd, k, cap, now, seq + 1, prune (nearB agg k) (incl l (seq + 1) now v), 0⟩ := by
  unfold smAdd
  rw [if_pos h, if_neg h1, if_neg h2]
set_option maxRecDepth 100000 in
theorem psmadd_a (A : Option Addr) (m c : Nat) (l : List Mk) (agg wd k cap now seq : Int) (v : Int) (w : World) (hin : MIn A m c l w) (sB : I64 seq) (hv : smvalE agg wd k cap now seq l = 2) : Calls Tryz.prog 123 #[.agg #[.int .i64 agg, .int .i64 wd, .int .i64 k, .int .i64 cap, .int .i64 now, .int .i64 seq, .slice A m c], .int .i64 v] w fun e w' => SmRet none (smAdd agg wd k cap now seq l v) w e w' := by
  rw [smAdd_a hv]
  have P := fun w' (hb : Below w.heap.size w w') => pvalS A m c l agg wd k cap now seq w' (hin.below hb) sB
  rw [hv] at P
  replace P := Lib.hid P
  clear hv hin sB
  go_enter Tryz.func123, Tryz.ntmps123
  go_wp2_with (first | (go_at_call 136; with_reducible refine (P.out _ (by (repeat (first | exact Below.refl _ _ | refine Below.setCell ?_ (by first | (simp; done) | (simp; omega) | omega) _ | refine Below.alloc ?_ (by first | (simp; done) | (simp; omega) | omega) _ | refine Below.drew ?_ | refine Below.trans ?_ (Below.mono (by assumption) (by first | (simp; done) | (simp; omega) | omega)))))).mono ?_; rintro e w1 ⟨rfl, hb1⟩; have hz1 := hb1.size; (try simp at hz1); have o1 : Below w.heap.size w w1 := (by (repeat (first | exact Below.refl _ _ | refine Below.setCell ?_ (by first | (simp; done) | (simp; omega) | omega) _ | refine Below.alloc ?_ (by first | (simp; done) | (simp; omega) | omega) _ | refine Below.drew ?_ | refine Below.trans ?_ (Below.mono (by assumption) (by first | (simp; done) | (simp; omega) | omega))))); have q1_0 : w.heap.size < w1.heap.size := (by omega); have r1_0 : Row w1 (w.heap.size) 37 #[.int .i64 agg, .int .i64 wd, .int .i64 k, .int .i64 cap, .int .i64 now, .int .i64 seq, .slice A m c] := row_call (by (repeat (first | assumption | (refine row_new ?_; (first | (simp; done) | omega)) | refine row_alloc ?_ _ | refine row_drew ?_ | refine row_call ?_ (by assumption)))) hb1; obtain ⟨c1_0a, c1_0b, c1_0c, c1_0d, c1_0e, c1_0f, c1_0g, f1_0a, f1_0b, f1_0c, f1_0d, f1_0e, f1_0f, f1_0g⟩ := row_seven r1_0; have q1_1 : w.heap.size + 1 < w1.heap.size := (by omega); have r1_1 : Row w1 (w.heap.size + 1) 37 #[.int .i64 0, .int .i64 0, .int .i64 0, .int .i64 0, .int .i64 0, .int .i64 0, .slice none 0 0] := row_call (by (repeat (first | assumption | (refine row_new ?_; (first | (simp; done) | omega)) | refine row_alloc ?_ _ | refine row_drew ?_ | refine row_call ?_ (by assumption)))) hb1; obtain ⟨c1_1a, c1_1b, c1_1c, c1_1d, c1_1e, c1_1f, c1_1g, f1_1a, f1_1b, f1_1c, f1_1d, f1_1e, f1_1f, f1_1g⟩ := row_seven r1_1))
  have hbge : w.heap.size ≤ w.heap.size + 1 := by omega
  have R9 : Row (((((((w1.setCell ⟨w.heap.size + 1, 0, none⟩ (.int .i64 0)).setCell ⟨w.heap.size + 1, 1, none⟩ (.int .i64 0)).setCell ⟨w.heap.size + 1, 2, none⟩ (.int .i64 0)).setCell ⟨w.heap.size + 1, 3, none⟩ (.int .i64 0)).setCell ⟨w.heap.size + 1, 4, none⟩ (.int .i64 0)).setCell ⟨w.heap.size + 1, 5, none⟩ (.int .i64 0)).setCell ⟨w.heap.size + 1, 6, none⟩ (.slice none 0 0)) (w.heap.size + 1) 37 #[.int .i64 0, .int .i64 0, .int .i64 0, .int .i64 0, .int .i64 0, .int .i64 0, .slice none 0 0] := (row_set (row_set (row_set (row_set (row_set (row_set (row_set r1_1 0 (.int .i64 0)) 1 (.int .i64 0)) 2 (.int .i64 0)) 3 (.int .i64 0)) 4 (.int .i64 0)) 5 (.int .i64 0)) 6 (.slice none 0 0))
  have o9 : Below w.heap.size w (((((((w1.setCell ⟨w.heap.size + 1, 0, none⟩ (.int .i64 0)).setCell ⟨w.heap.size + 1, 1, none⟩ (.int .i64 0)).setCell ⟨w.heap.size + 1, 2, none⟩ (.int .i64 0)).setCell ⟨w.heap.size + 1, 3, none⟩ (.int .i64 0)).setCell ⟨w.heap.size + 1, 4, none⟩ (.int .i64 0)).setCell ⟨w.heap.size + 1, 5, none⟩ (.int .i64 0)).setCell ⟨w.heap.size + 1, 6, none⟩ (.slice none 0 0)) := (Below.setCell (p := ⟨w.heap.size + 1, 6, none⟩) (Below.setCell (p := ⟨w.heap.size + 1, 5, none⟩) (Below.setCell (p := ⟨w.heap.size + 1, 4, none⟩) (Below.setCell (p := ⟨w.heap.size + 1, 3, none⟩) (Below.setCell (p := ⟨w.heap.size + 1, 2, none⟩) (Below.setCell (p := ⟨w.heap.size + 1, 1, none⟩) (Below.setCell (p := ⟨w.heap.size + 1, 0, none⟩) o1 hbge (.int .i64 0)) hbge (.int .i64 0)) hbge (.int .i64 0)) hbge (.int .i64 0)) hbge (.int .i64 0)) hbge (.int .i64 0)) hbge (.slice none 0 0))
  generalize (((((((w1.setCell ⟨w.heap.size + 1, 0, none⟩ (.int .i64 0)).setCell ⟨w.heap.size + 1, 1, none⟩ (.int .i64 0)).setCell ⟨w.heap.size + 1, 2, none⟩ (.int .i64 0)).setCell ⟨w.heap.size + 1, 3, none⟩ (.int .i64 0)).setCell ⟨w.heap.size + 1, 4, none⟩ (.int .i64 0)).setCell ⟨w.heap.size + 1, 5, none⟩ (.int .i64 0)).setCell ⟨w.heap.size + 1, 6, none⟩ (.slice none 0 0)) = w9 at R9 o9 ⊢
  obtain ⟨N0, N1, N2, N3, N4, N5, N6, Nf0, Nf1, Nf2, Nf3, Nf4, Nf5, Nf6⟩ := row_seven R9
  exact bodyPost_ret (v := .tuple #[.agg #[.int .i64 0, .int .i64 0, .int .i64 0, .int .i64 0, .int .i64 0, .int .i64 0, .slice none 0 0], .int .i64 2]) (by simp [results, Tryz.results123, go_sem, List.getElem?_toArray, N0, N1, N2, N3, N4, N5, N6]) rfl (smret_zero o9)
set_option maxRecDepth 100000 in
theorem psmadd_b1 (A : Option Addr) (m c : Nat) (l : List Mk) (agg wd k cap now seq : Int) (v : Int) (w : World) (hin : MIn A m c l w) (sB : I64 seq) (hv : smvalE agg wd k cap now seq l = 0) (h1 : v < leastV agg) : Calls Tryz.prog 123 #[.agg #[.int .i64 agg, .int .i64 wd, .int .i64 k, .int .i64 cap, .int .i64 now, .int .i64 seq, .slice A m c], .int .i64 v] w fun e w' => SmRet none (smAdd agg wd k cap now seq l v) w e w' := by
  rw [smAdd_b hv (by omega)]
  have P := fun w' (hb : Below w.heap.size w w') => pvalS A m c l agg wd k cap now seq w' (hin.below hb) sB
  rw [hv] at P
  replace P := Lib.hid P
  have PL := fun w => pleast agg w
  generalize leastV agg = least at PL h1
  replace PL := Lib.hid PL
  have d1 : decide (v < least) = true := decide_eq_true h1
  clear hv hin sB h1
  go_enter Tryz.func123, Tryz.ntmps123
  go_wp2_with (first | (go_at_call 136; with_reducible refine (P.out _ (by (repeat (first | exact Below.refl _ _ | refine Below.setCell ?_ (by first | (simp; done) | (simp; omega) | omega) _ | refine Below.alloc ?_ (by first | (simp; done) | (simp; omega) | omega) _ | refine Below.drew ?_ | refine Below.trans ?_ (Below.mono (by assumption) (by first | (simp; done) | (simp; omega) | omega)))))).mono ?_; rintro e w1 ⟨rfl, hb1⟩; have hz1 := hb1.size; (try simp at hz1); have o1 : Below w.heap.size w w1 := (by (repeat (first | exact Below.refl _ _ | refine Below.setCell ?_ (by first | (simp; done) | (simp; omega) | omega) _ | refine Below.alloc ?_ (by first | (simp; done) | (simp; omega) | omega) _ | refine Below.drew ?_ | refine Below.trans ?_ (Below.mono (by assumption) (by first | (simp; done) | (simp; omega) | omega))))); have q1_0 : w.heap.size < w1.heap.size := (by omega); have r1_0 : Row w1 (w.heap.size) 37 #[.int .i64 agg, .int .i64 wd, .int .i64 k, .int .i64 cap, .int .i64 now, .int .i64 seq, .slice A m c] := row_call (by (repeat (first | assumption | (refine row_new ?_; (first | (simp; done) | omega)) | refine row_alloc ?_ _ | refine row_drew ?_ | refine row_call ?_ (by assumption)))) hb1; obtain ⟨c1_0a, c1_0b, c1_0c, c1_0d, c1_0e, c1_0f, c1_0g, f1_0a, f1_0b, f1_0c, f1_0d, f1_0e, f1_0f, f1_0g⟩ := row_seven r1_0; have q1_1 : w.heap.size + 1 < w1.heap.size := (by omega); have r1_1 : Row w1 (w.heap.size + 1) 37 #[.int .i64 0, .int .i64 0, .int .i64 0, .int .i64 0, .int .i64 0, .int .i64 0, .slice none 0 0] := row_call (by (repeat (first | assumption | (refine row_new ?_; (first | (simp; done) | omega)) | refine row_alloc ?_ _ | refine row_drew ?_ | refine row_call ?_ (by assumption)))) hb1; obtain ⟨c1_1a, c1_1b, c1_1c, c1_1d, c1_1e, c1_1f, c1_1g, f1_1a, f1_1b, f1_1c, f1_1d, f1_1e, f1_1f, f1_1g⟩ := row_seven r1_1) | (go_at_call 213; with_reducible refine (PL.out _).mono ?_; rintro e w9 ⟨rfl, h9⟩; obtain rfl := h9.symm))
  have hbge : w.heap.size ≤ w.heap.size + 1 := by omega
  have R9 : Row (((((((w1.setCell ⟨w.heap.size + 1, 0, none⟩ (.int .i64 0)).setCell ⟨w.heap.size + 1, 1, none⟩ (.int .i64 0)).setCell ⟨w.heap.size + 1, 2, none⟩ (.int .i64 0)).setCell ⟨w.heap.size + 1, 3, none⟩ (.int .i64 0)).setCell ⟨w.heap.size + 1, 4, none⟩ (.int .i64 0)).setCell ⟨w.heap.size + 1, 5, none⟩ (.int .i64 0)).setCell ⟨w.heap.size + 1, 6, none⟩ (.slice none 0 0)) (w.heap.size + 1) 37 #[.int .i64 0, .int .i64 0, .int .i64 0, .int .i64 0, .int .i64 0, .int .i64 0, .slice none 0 0] := (row_set (row_set (row_set (row_set (row_set (row_set (row_set r1_1 0 (.int .i64 0)) 1 (.int .i64 0)) 2 (.int .i64 0)) 3 (.int .i64 0)) 4 (.int .i64 0)) 5 (.int .i64 0)) 6 (.slice none 0 0))
  have o9 : Below w.heap.size w (((((((w1.setCell ⟨w.heap.size + 1, 0, none⟩ (.int .i64 0)).setCell ⟨w.heap.size + 1, 1, none⟩ (.int .i64 0)).setCell ⟨w.heap.size + 1, 2, none⟩ (.int .i64 0)).setCell ⟨w.heap.size + 1, 3, none⟩ (.int .i64 0)).setCell ⟨w.heap.size + 1, 4, none⟩ (.int .i64 0)).setCell ⟨w.heap.size + 1, 5, none⟩ (.int .i64 0)).setCell ⟨w.heap.size + 1, 6, none⟩ (.slice none 0 0)) := (Below.setCell (p := ⟨w.heap.size + 1, 6, none⟩) (Below.setCell (p := ⟨w.heap.size + 1, 5, none⟩) (Below.setCell (p := ⟨w.heap.size + 1, 4, none⟩) (Below.setCell (p := ⟨w.heap.size + 1, 3, none⟩) (Below.setCell (p := ⟨w.heap.size + 1, 2, none⟩) (Below.setCell (p := ⟨w.heap.size + 1, 1, none⟩) (Below.setCell (p := ⟨w.heap.size + 1, 0, none⟩) o1 hbge (.int .i64 0)) hbge (.int .i64 0)) hbge (.int .i64 0)) hbge (.int .i64 0)) hbge (.int .i64 0)) hbge (.int .i64 0)) hbge (.slice none 0 0))
  generalize (((((((w1.setCell ⟨w.heap.size + 1, 0, none⟩ (.int .i64 0)).setCell ⟨w.heap.size + 1, 1, none⟩ (.int .i64 0)).setCell ⟨w.heap.size + 1, 2, none⟩ (.int .i64 0)).setCell ⟨w.heap.size + 1, 3, none⟩ (.int .i64 0)).setCell ⟨w.heap.size + 1, 4, none⟩ (.int .i64 0)).setCell ⟨w.heap.size + 1, 5, none⟩ (.int .i64 0)).setCell ⟨w.heap.size + 1, 6, none⟩ (.slice none 0 0)) = w9 at R9 o9 ⊢
  obtain ⟨N0, N1, N2, N3, N4, N5, N6, Nf0, Nf1, Nf2, Nf3, Nf4, Nf5, Nf6⟩ := row_seven R9
  exact bodyPost_ret (v := .tuple #[.agg #[.int .i64 0, .int .i64 0, .int .i64 0, .int .i64 0, .int .i64 0, .int .i64 0, .slice none 0 0], .int .i64 4]) (by simp [results, Tryz.results123, go_sem, List.getElem?_toArray, N0, N1, N2, N3, N4, N5, N6]) rfl (smret_zero o9)
set_option maxRecDepth 100000 in
theorem psmadd_b2 (A : Option Addr) (m c : Nat) (l : List Mk) (agg wd k cap now seq : Int) (v : Int) (w : World) (hin : MIn A m c l w) (sB : I64 seq) (hv : smvalE agg wd k cap now seq l = 0) (h0 : ¬ v < leastV agg) (h1 : 4096 < v) : Calls Tryz.prog 123 #[.agg #[.int .i64 agg, .int .i64 wd, .int .i64 k, .int .i64 cap, .int .i64 now, .int .i64 seq, .slice A m c], .int .i64 v] w fun e w' => SmRet none (smAdd agg wd k cap now seq l v) w e w' := by
  rw [smAdd_b hv (by omega)]
  have P := fun w' (hb : Below w.heap.size w w') => pvalS A m c l agg wd k cap now seq w' (hin.below hb) sB
  rw [hv] at P
  replace P := Lib.hid P
  have PL := fun w => pleast agg w
  generalize leastV agg = least at PL h1 h0
  replace PL := Lib.hid PL
  have d0 : decide (v < least) = false := decide_eq_false h0
  have d1 : decide (4096 < v) = true := decide_eq_true h1
  clear hv hin sB h1 h0
  go_enter Tryz.func123, Tryz.ntmps123
  go_wp2_with (first | (go_at_call 136; with_reducible refine (P.out _ (by (repeat (first | exact Below.refl _ _ | refine Below.setCell ?_ (by first | (simp; done) | (simp; omega) | omega) _ | refine Below.alloc ?_ (by first | (simp; done) | (simp; omega) | omega) _ | refine Below.drew ?_ | refine Below.trans ?_ (Below.mono (by assumption) (by first | (simp; done) | (simp; omega) | omega)))))).mono ?_; rintro e w1 ⟨rfl, hb1⟩; have hz1 := hb1.size; (try simp at hz1); have o1 : Below w.heap.size w w1 := (by (repeat (first | exact Below.refl _ _ | refine Below.setCell ?_ (by first | (simp; done) | (simp; omega) | omega) _ | refine Below.alloc ?_ (by first | (simp; done) | (simp; omega) | omega) _ | refine Below.drew ?_ | refine Below.trans ?_ (Below.mono (by assumption) (by first | (simp; done) | (simp; omega) | omega))))); have q1_0 : w.heap.size < w1.heap.size := (by omega); have r1_0 : Row w1 (w.heap.size) 37 #[.int .i64 agg, .int .i64 wd, .int .i64 k, .int .i64 cap, .int .i64 now, .int .i64 seq, .slice A m c] := row_call (by (repeat (first | assumption | (refine row_new ?_; (first | (simp; done) | omega)) | refine row_alloc ?_ _ | refine row_drew ?_ | refine row_call ?_ (by assumption)))) hb1; obtain ⟨c1_0a, c1_0b, c1_0c, c1_0d, c1_0e, c1_0f, c1_0g, f1_0a, f1_0b, f1_0c, f1_0d, f1_0e, f1_0f, f1_0g⟩ := row_seven r1_0; have q1_1 : w.heap.size + 1 < w1.heap.size := (by omega); have r1_1 : Row w1 (w.heap.size + 1) 37 #[.int .i64 0, .int .i64 0, .int .i64 0, .int .i64 0, .int .i64 0, .int .i64 0, .slice none 0 0] := row_call (by (repeat (first | assumption | (refine row_new ?_; (first | (simp; done) | omega)) | refine row_alloc ?_ _ | refine row_drew ?_ | refine row_call ?_ (by assumption)))) hb1; obtain ⟨c1_1a, c1_1b, c1_1c, c1_1d, c1_1e, c1_1f, c1_1g, f1_1a, f1_1b, f1_1c, f1_1d, f1_1e, f1_1f, f1_1g⟩ := row_seven r1_1) | (go_at_call 213; with_reducible refine (PL.out _).mono ?_; rintro e w9 ⟨rfl, h9⟩; obtain rfl := h9.symm))
  have hbge : w.heap.size ≤ w.heap.size + 1 := by omega
  have R9 : Row (((((((w1.setCell ⟨w.heap.size + 1, 0, none⟩ (.int .i64 0)).setCell ⟨w.heap.size + 1, 1, none⟩ (.int .i64 0)).setCell ⟨w.heap.size + 1, 2, none⟩ (.int .i64 0)).setCell ⟨w.heap.size + 1, 3, none⟩ (.int .i64 0)).setCell ⟨w.heap.size + 1, 4, none⟩ (.int .i64 0)).setCell ⟨w.heap.size + 1, 5, none⟩ (.int .i64 0)).setCell ⟨w.heap.size + 1, 6, none⟩ (.slice none 0 0)) (w.heap.size + 1) 37 #[.int .i64 0, .int .i64 0, .int .i64 0, .int .i64 0, .int .i64 0, .int .i64 0, .slice none 0 0] := (row_set (row_set (row_set (row_set (row_set (row_set (row_set r1_1 0 (.int .i64 0)) 1 (.int .i64 0)) 2 (.int .i64 0)) 3 (.int .i64 0)) 4 (.int .i64 0)) 5 (.int .i64 0)) 6 (.slice none 0 0))
  have o9 : Below w.heap.size w (((((((w1.setCell ⟨w.heap.size + 1, 0, none⟩ (.int .i64 0)).setCell ⟨w.heap.size + 1, 1, none⟩ (.int .i64 0)).setCell ⟨w.heap.size + 1, 2, none⟩ (.int .i64 0)).setCell ⟨w.heap.size + 1, 3, none⟩ (.int .i64 0)).setCell ⟨w.heap.size + 1, 4, none⟩ (.int .i64 0)).setCell ⟨w.heap.size + 1, 5, none⟩ (.int .i64 0)).setCell ⟨w.heap.size + 1, 6, none⟩ (.slice none 0 0)) := (Below.setCell (p := ⟨w.heap.size + 1, 6, none⟩) (Below.setCell (p := ⟨w.heap.size + 1, 5, none⟩) (Below.setCell (p := ⟨w.heap.size + 1, 4, none⟩) (Below.setCell (p := ⟨w.heap.size + 1, 3, none⟩) (Below.setCell (p := ⟨w.heap.size + 1, 2, none⟩) (Below.setCell (p := ⟨w.heap.size + 1, 1, none⟩) (Below.setCell (p := ⟨w.heap.size + 1, 0, none⟩) o1 hbge (.int .i64 0)) hbge (.int .i64 0)) hbge (.int .i64 0)) hbge (.int .i64 0)) hbge (.int .i64 0)) hbge (.int .i64 0)) hbge (.slice none 0 0))
  generalize (((((((w1.setCell ⟨w.heap.size + 1, 0, none⟩ (.int .i64 0)).setCell ⟨w.heap.size + 1, 1, none⟩ (.int .i64 0)).setCell ⟨w.heap.size + 1, 2, none⟩ (.int .i64 0)).setCell ⟨w.heap.size + 1, 3, none⟩ (.int .i64 0)).setCell ⟨w.heap.size + 1, 4, none⟩ (.int .i64 0)).setCell ⟨w.heap.size + 1, 5, none⟩ (.int .i64 0)).setCell ⟨w.heap.size + 1, 6, none⟩ (.slice none 0 0)) = w9 at R9 o9 ⊢
  obtain ⟨N0, N1, N2, N3, N4, N5, N6, Nf0, Nf1, Nf2, Nf3, Nf4, Nf5, Nf6⟩ := row_seven R9
  exact bodyPost_ret (v := .tuple #[.agg #[.int .i64 0, .int .i64 0, .int .i64 0, .int .i64 0, .int .i64 0, .int .i64 0, .slice none 0 0], .int .i64 4]) (by simp [results, Tryz.results123, go_sem, List.getElem?_toArray, N0, N1, N2, N3, N4, N5, N6]) rfl (smret_zero o9)
set_option maxRecDepth 100000 in
set_option maxHeartbeats 2000000 in
theorem psmadd_c1 (A : Option Addr) (m c : Nat) (l : List Mk) (agg wd k cap now seq : Int) (v : Int) (w : World) (hin : MIn A m c l w) (sB : I64 seq) (hv : smvalE agg wd k cap now seq l = 0) (h0 : ¬ v < leastV agg) (h1 : ¬ 4096 < v) (hm0 : 0 < m) (hn : (mkAt l 0).n = cap) (hf : smFull cap seq l) : Calls Tryz.prog 123 #[.agg #[.int .i64 agg, .int .i64 wd, .int .i64 k, .int .i64 cap, .int .i64 now, .int .i64 seq, .slice A m c], .int .i64 v] w fun e w' => SmRet none (smAdd agg wd k cap now seq l v) w e w' := by
  rw [smAdd_c hv (by omega) hf]
  clear hf
  have P := fun w' (hb : Below w.heap.size w w') => pvalS A m c l agg wd k cap now seq w' (hin.below hb) sB
  rw [hv] at P
  replace P := Lib.hid P
  have PL := fun w => pleast agg w
  generalize leastV agg = least at PL h0
  replace PL := Lib.hid PL
  have d0 : decide (v < least) = false := decide_eq_false h0
  have d1 : decide (4096 < v) = false := decide_eq_false h1
  have HR := Lib.hid hin
  have HL := Lib.hid hin.len
  clear hin sB h0 h1
  go_enter Tryz.func123, Tryz.ntmps123
  go_upto_region 6 with (first | (go_at_call 136; with_reducible refine (P.out _ (by (repeat (first | exact Below.refl _ _ | refine Below.setCell ?_ (by first | (simp; done) | (simp; omega) | omega) _ | refine Below.alloc ?_ (by first | (simp; done) | (simp; omega) | omega) _ | refine Below.drew ?_ | refine Below.trans ?_ (Below.mono (by assumption) (by first | (simp; done) | (simp; omega) | omega)))))).mono ?_; rintro e w1 ⟨rfl, hb1⟩; have hz1 := hb1.size; (try simp at hz1); have o1 : Below w.heap.size w w1 := (by (repeat (first | exact Below.refl _ _ | refine Below.setCell ?_ (by first | (simp; done) | (simp; omega) | omega) _ | refine Below.alloc ?_ (by first | (simp; done) | (simp; omega) | omega) _ | refine Below.drew ?_ | refine Below.trans ?_ (Below.mono (by assumption) (by first | (simp; done) | (simp; omega) | omega))))); have q1_0 : w.heap.size < w1.heap.size := (by omega); have r1_0 : Row w1 (w.heap.size) 37 #[.int .i64 agg, .int .i64 wd, .int .i64 k, .int .i64 cap, .int .i64 now, .int .i64 seq, .slice A m c] := row_call (by (repeat (first | assumption | (refine row_new ?_; (first | (simp; done) | omega)) | refine row_alloc ?_ _ | refine row_drew ?_ | refine row_call ?_ (by assumption)))) hb1; obtain ⟨c1_0a, c1_0b, c1_0c, c1_0d, c1_0e, c1_0f, c1_0g, f1_0a, f1_0b, f1_0c, f1_0d, f1_0e, f1_0f, f1_0g⟩ := row_seven r1_0; have q1_1 : w.heap.size + 1 < w1.heap.size := (by omega); have r1_1 : Row w1 (w.heap.size + 1) 37 #[.int .i64 0, .int .i64 0, .int .i64 0, .int .i64 0, .int .i64 0, .int .i64 0, .slice none 0 0] := row_call (by (repeat (first | assumption | (refine row_new ?_; (first | (simp; done) | omega)) | refine row_alloc ?_ _ | refine row_drew ?_ | refine row_call ?_ (by assumption)))) hb1; obtain ⟨c1_1a, c1_1b, c1_1c, c1_1d, c1_1e, c1_1f, c1_1g, f1_1a, f1_1b, f1_1c, f1_1d, f1_1e, f1_1f, f1_1g⟩ := row_seven r1_1) | (go_at_call 213; with_reducible refine (PL.out _).mono ?_; rintro e w9 ⟨rfl, h9⟩; obtain rfl := h9.symm))
  clear d0 d1 P PL
  clear hv
  obtain ⟨ad, rfl, hadb, ht0⟩ := HR.out.reads.mk (i := 0) hm0
  have ht0 : MkCells w ad (mkAt l 0) := ht0
  generalize mkAt l 0 = m0 at ht0 hn
  obtain ⟨sq, tk, n, s, q, lo, hi⟩ := m0
  obtain ⟨q0, q1, q2, q3, q4, q5, q6⟩ := ht0.below o1 hadb
  dsimp only at q0 q1 q2 q3 q4 q5 q6 hn
  clear ht0
  have e0 : decide (0 < m) = true := decide_eq_true hm0
  have g0 : (0 : Int) < (m : Int) := by omega
  have e1 : (n == cap) = true := by simpa using hn
  refine wp_region_quiet_lit (by as_aux_lemma => kernel_rfl) (by as_aux_lemma => kernel_rfl) ?_
  repeat (go_big_quiet_step (fail))
  refine wpQuiet_nil ?_
  intro _ hw'
  obtain ⟨nq, hw''⟩ := hw'
  subst hw''
  replace r1_0 : Row (w1.drewN nq) (w.heap.size) 37 #[.int .i64 agg, .int .i64 wd, .int .i64 k, .int .i64 cap, .int .i64 now, .int .i64 seq, .slice (some ad) m c] := r1_0
  replace r1_1 : Row (w1.drewN nq) (w.heap.size + 1) 37 #[.int .i64 0, .int .i64 0, .int .i64 0, .int .i64 0, .int .i64 0, .int .i64 0, .slice none 0 0] := r1_1
  replace o1 := o1.trans (⟨rfl, rfl, rfl, Nat.le_refl _, fun _ _ => rfl⟩ : Below _ w1 (w1.drewN nq))
  generalize w1.drewN nq = w2 at r1_0 r1_1 o1 ⊢
  clear c1_0a c1_0b c1_0c c1_0d c1_0e c1_0f c1_0g f1_0a f1_0b f1_0c f1_0d f1_0e f1_0f f1_0g c1_1a c1_1b c1_1c c1_1d c1_1e c1_1f c1_1g f1_1a f1_1b f1_1c f1_1d f1_1e f1_1f f1_1g
  obtain ⟨Z0, Z1, Z2, Z3, Z4, Z5, Z6, Zf0, Zf1, Zf2, Zf3, Zf4, Zf5, Zf6⟩ := row_seven r1_1
  clear r1_0
  clear q0 q1 q2 q3 q4 q5 q6
  go_wp2
  have hbge : w.heap.size ≤ w.heap.size + 1 := by omega
  have R9 : Row (((((((w2.setCell ⟨w.heap.size + 1, 0, none⟩ (.int .i64 0)).setCell ⟨w.heap.size + 1, 1, none⟩ (.int .i64 0)).setCell ⟨w.heap.size + 1, 2, none⟩ (.int .i64 0)).setCell ⟨w.heap.size + 1, 3, none⟩ (.int .i64 0)).setCell ⟨w.heap.size + 1, 4, none⟩ (.int .i64 0)).setCell ⟨w.heap.size + 1, 5, none⟩ (.int .i64 0)).setCell ⟨w.heap.size + 1, 6, none⟩ (.slice none 0 0)) (w.heap.size + 1) 37 #[.int .i64 0, .int .i64 0, .int .i64 0, .int .i64 0, .int .i64 0, .int .i64 0, .slice none 0 0] := (row_set (row_set (row_set (row_set (row_set (row_set (row_set r1_1 0 (.int .i64 0)) 1 (.int .i64 0)) 2 (.int .i64 0)) 3 (.int .i64 0)) 4 (.int .i64 0)) 5 (.int .i64 0)) 6 (.slice none 0 0))
  have o9 : Below w.heap.size w (((((((w2.setCell ⟨w.heap.size + 1, 0, none⟩ (.int .i64 0)).setCell ⟨w.heap.size + 1, 1, none⟩ (.int .i64 0)).setCell ⟨w.heap.size + 1, 2, none⟩ (.int .i64 0)).setCell ⟨w.heap.size + 1, 3, none⟩ (.int .i64 0)).setCell ⟨w.heap.size + 1, 4, none⟩ (.int .i64 0)).setCell ⟨w.heap.size + 1, 5, none⟩ (.int .i64 0)).setCell ⟨w.heap.size + 1, 6, none⟩ (.slice none 0 0)) := (Below.setCell (p := ⟨w.heap.size + 1, 6, none⟩) (Below.setCell (p := ⟨w.heap.size + 1, 5, none⟩) (Below.setCell (p := ⟨w.heap.size + 1, 4, none⟩) (Below.setCell (p := ⟨w.heap.size + 1, 3, none⟩) (Below.setCell (p := ⟨w.heap.size + 1, 2, none⟩) (Below.setCell (p := ⟨w.heap.size + 1, 1, none⟩) (Below.setCell (p := ⟨w.heap.size + 1, 0, none⟩) o1 hbge (.int .i64 0)) hbge (.int .i64 0)) hbge (.int .i64 0)) hbge (.int .i64 0)) hbge (.int .i64 0)) hbge (.int .i64 0)) hbge (.slice none 0 0))
  generalize (((((((w2.setCell ⟨w.heap.size + 1, 0, none⟩ (.int .i64 0)).setCell ⟨w.heap.size + 1, 1, none⟩ (.int .i64 0)).setCell ⟨w.heap.size + 1, 2, none⟩ (.int .i64 0)).setCell ⟨w.heap.size + 1, 3, none⟩ (.int .i64 0)).setCell ⟨w.heap.size + 1, 4, none⟩ (.int .i64 0)).setCell ⟨w.heap.size + 1, 5, none⟩ (.int .i64 0)).setCell ⟨w.heap.size + 1, 6, none⟩ (.slice none 0 0)) = w9 at R9 o9 ⊢
  obtain ⟨N0, N1, N2, N3, N4, N5, N6, Nf0, Nf1, Nf2, Nf3, Nf4, Nf5, Nf6⟩ := row_seven R9
  exact bodyPost_ret (v := .tuple #[.agg #[.int .i64 0, .int .i64 0, .int .i64 0, .int .i64 0, .int .i64 0, .int .i64 0, .slice none 0 0], .int .i64 5]) (by simp [results, Tryz.results123, go_sem, List.getElem?_toArray, N0, N1, N2, N3, N4, N5, N6]) rfl (smret_zero o9)
set_option maxRecDepth 100000 in
set_option maxHeartbeats 2000000 in
theorem psmadd_c2 (A : Option Addr) (m c : Nat) (l : List Mk) (agg wd k cap now seq : Int) (v : Int) (w : World) (hin : MIn A m c l w) (sB : I64 seq) (hv : smvalE agg wd k cap now seq l = 0) (h0 : ¬ v < leastV agg) (h1 : ¬ 4096 < v) (hm0 : 0 < m) (hn : (mkAt l 0).n ≠ cap) (hs : seq = 1099511627776) (hf : smFull cap seq l) : Calls Tryz.prog 123 #[.agg #[.int .i64 agg, .int .i64 wd, .int .i64 k, .int .i64 cap, .int .i64 now, .int .i64 seq, .slice A m c], .int .i64 v] w fun e w' => SmRet none (smAdd agg wd k cap now seq l v) w e w' := by
  rw [smAdd_c hv (by omega) hf]
  clear hf
  have HSQ := Lib.hid hs
  clear hs
  have P := fun w' (hb : Below w.heap.size w w') => pvalS A m c l agg wd k cap now seq w' (hin.below hb) sB
  rw [hv] at P
  replace P := Lib.hid P
  have PL := fun w => pleast agg w
  generalize leastV agg = least at PL h0
  replace PL := Lib.hid PL
  have d0 : decide (v < least) = false := decide_eq_false h0
  have d1 : decide (4096 < v) = false := decide_eq_false h1
  have HR := Lib.hid hin
  have HL := Lib.hid hin.len
  clear hin sB h0 h1
  go_enter Tryz.func123, Tryz.ntmps123
  go_upto_region 6 with (first | (go_at_call 136; with_reducible refine (P.out _ (by (repeat (first | exact Below.refl _ _ | refine Below.setCell ?_ (by first | (simp; done) | (simp; omega) | omega) _ | refine Below.alloc ?_ (by first | (simp; done) | (simp; omega) | omega) _ | refine Below.drew ?_ | refine Below.trans ?_ (Below.mono (by assumption) (by first | (simp; done) | (simp; omega) | omega)))))).mono ?_; rintro e w1 ⟨rfl, hb1⟩; have hz1 := hb1.size; (try simp at hz1); have o1 : Below w.heap.size w w1 := (by (repeat (first | exact Below.refl _ _ | refine Below.setCell ?_ (by first | (simp; done) | (simp; omega) | omega) _ | refine Below.alloc ?_ (by first | (simp; done) | (simp; omega) | omega) _ | refine Below.drew ?_ | refine Below.trans ?_ (Below.mono (by assumption) (by first | (simp; done) | (simp; omega) | omega))))); have q1_0 : w.heap.size < w1.heap.size := (by omega); have r1_0 : Row w1 (w.heap.size) 37 #[.int .i64 agg, .int .i64 wd, .int .i64 k, .int .i64 cap, .int .i64 now, .int .i64 seq, .slice A m c] := row_call (by (repeat (first | assumption | (refine row_new ?_; (first | (simp; done) | omega)) | refine row_alloc ?_ _ | refine row_drew ?_ | refine row_call ?_ (by assumption)))) hb1; obtain ⟨c1_0a, c1_0b, c1_0c, c1_0d, c1_0e, c1_0f, c1_0g, f1_0a, f1_0b, f1_0c, f1_0d, f1_0e, f1_0f, f1_0g⟩ := row_seven r1_0; have q1_1 : w.heap.size + 1 < w1.heap.size := (by omega); have r1_1 : Row w1 (w.heap.size + 1) 37 #[.int .i64 0, .int .i64 0, .int .i64 0, .int .i64 0, .int .i64 0, .int .i64 0, .slice none 0 0] := row_call (by (repeat (first | assumption | (refine row_new ?_; (first | (simp; done) | omega)) | refine row_alloc ?_ _ | refine row_drew ?_ | refine row_call ?_ (by assumption)))) hb1; obtain ⟨c1_1a, c1_1b, c1_1c, c1_1d, c1_1e, c1_1f, c1_1g, f1_1a, f1_1b, f1_1c, f1_1d, f1_1e, f1_1f, f1_1g⟩ := row_seven r1_1) | (go_at_call 213; with_reducible refine (PL.out _).mono ?_; rintro e w9 ⟨rfl, h9⟩; obtain rfl := h9.symm))
  clear d0 d1 P PL
  clear hv
  have e2 : (seq == 1099511627776) = true := by simpa using HSQ.out
  obtain ⟨ad, rfl, hadb, ht0⟩ := HR.out.reads.mk (i := 0) hm0
  have ht0 : MkCells w ad (mkAt l 0) := ht0
  generalize mkAt l 0 = m0 at ht0 hn
  obtain ⟨sq, tk, n, s, q, lo, hi⟩ := m0
  obtain ⟨q0, q1, q2, q3, q4, q5, q6⟩ := ht0.below o1 hadb
  dsimp only at q0 q1 q2 q3 q4 q5 q6 hn
  clear ht0
  have e0 : decide (0 < m) = true := decide_eq_true hm0
  have g0 : (0 : Int) < (m : Int) := by omega
  have e1 : (n == cap) = false := by simpa using hn
  refine wp_region_quiet_lit (by as_aux_lemma => kernel_rfl) (by as_aux_lemma => kernel_rfl) ?_
  repeat (go_big_quiet_step (fail))
  refine wpQuiet_nil ?_
  intro _ hw'
  obtain ⟨nq, hw''⟩ := hw'
  subst hw''
  replace r1_0 : Row (w1.drewN nq) (w.heap.size) 37 #[.int .i64 agg, .int .i64 wd, .int .i64 k, .int .i64 cap, .int .i64 now, .int .i64 seq, .slice (some ad) m c] := r1_0
  replace r1_1 : Row (w1.drewN nq) (w.heap.size + 1) 37 #[.int .i64 0, .int .i64 0, .int .i64 0, .int .i64 0, .int .i64 0, .int .i64 0, .slice none 0 0] := r1_1
  replace o1 := o1.trans (⟨rfl, rfl, rfl, Nat.le_refl _, fun _ _ => rfl⟩ : Below _ w1 (w1.drewN nq))
  generalize w1.drewN nq = w2 at r1_0 r1_1 o1 ⊢
  clear c1_0a c1_0b c1_0c c1_0d c1_0e c1_0f c1_0g f1_0a f1_0b f1_0c f1_0d f1_0e f1_0f f1_0g c1_1a c1_1b c1_1c c1_1d c1_1e c1_1f c1_1g f1_1a f1_1b f1_1c f1_1d f1_1e f1_1f f1_1g
  obtain ⟨Z0, Z1, Z2, Z3, Z4, Z5, Z6, Zf0, Zf1, Zf2, Zf3, Zf4, Zf5, Zf6⟩ := row_seven r1_1
  clear r1_0
  clear q0 q1 q2 q3 q4 q5 q6
  go_wp2
  have hbge : w.heap.size ≤ w.heap.size + 1 := by omega
  have R9 : Row (((((((w2.setCell ⟨w.heap.size + 1, 0, none⟩ (.int .i64 0)).setCell ⟨w.heap.size + 1, 1, none⟩ (.int .i64 0)).setCell ⟨w.heap.size + 1, 2, none⟩ (.int .i64 0)).setCell ⟨w.heap.size + 1, 3, none⟩ (.int .i64 0)).setCell ⟨w.heap.size + 1, 4, none⟩ (.int .i64 0)).setCell ⟨w.heap.size + 1, 5, none⟩ (.int .i64 0)).setCell ⟨w.heap.size + 1, 6, none⟩ (.slice none 0 0)) (w.heap.size + 1) 37 #[.int .i64 0, .int .i64 0, .int .i64 0, .int .i64 0, .int .i64 0, .int .i64 0, .slice none 0 0] := (row_set (row_set (row_set (row_set (row_set (row_set (row_set r1_1 0 (.int .i64 0)) 1 (.int .i64 0)) 2 (.int .i64 0)) 3 (.int .i64 0)) 4 (.int .i64 0)) 5 (.int .i64 0)) 6 (.slice none 0 0))
  have o9 : Below w.heap.size w (((((((w2.setCell ⟨w.heap.size + 1, 0, none⟩ (.int .i64 0)).setCell ⟨w.heap.size + 1, 1, none⟩ (.int .i64 0)).setCell ⟨w.heap.size + 1, 2, none⟩ (.int .i64 0)).setCell ⟨w.heap.size + 1, 3, none⟩ (.int .i64 0)).setCell ⟨w.heap.size + 1, 4, none⟩ (.int .i64 0)).setCell ⟨w.heap.size + 1, 5, none⟩ (.int .i64 0)).setCell ⟨w.heap.size + 1, 6, none⟩ (.slice none 0 0)) := (Below.setCell (p := ⟨w.heap.size + 1, 6, none⟩) (Below.setCell (p := ⟨w.heap.size + 1, 5, none⟩) (Below.setCell (p := ⟨w.heap.size + 1, 4, none⟩) (Below.setCell (p := ⟨w.heap.size + 1, 3, none⟩) (Below.setCell (p := ⟨w.heap.size + 1, 2, none⟩) (Below.setCell (p := ⟨w.heap.size + 1, 1, none⟩) (Below.setCell (p := ⟨w.heap.size + 1, 0, none⟩) o1 hbge (.int .i64 0)) hbge (.int .i64 0)) hbge (.int .i64 0)) hbge (.int .i64 0)) hbge (.int .i64 0)) hbge (.int .i64 0)) hbge (.slice none 0 0))
  generalize (((((((w2.setCell ⟨w.heap.size + 1, 0, none⟩ (.int .i64 0)).setCell ⟨w.heap.size + 1, 1, none⟩ (.int .i64 0)).setCell ⟨w.heap.size + 1, 2, none⟩ (.int .i64 0)).setCell ⟨w.heap.size + 1, 3, none⟩ (.int .i64 0)).setCell ⟨w.heap.size + 1, 4, none⟩ (.int .i64 0)).setCell ⟨w.heap.size + 1, 5, none⟩ (.int .i64 0)).setCell ⟨w.heap.size + 1, 6, none⟩ (.slice none 0 0)) = w9 at R9 o9 ⊢
  obtain ⟨N0, N1, N2, N3, N4, N5, N6, Nf0, Nf1, Nf2, Nf3, Nf4, Nf5, Nf6⟩ := row_seven R9
  exact bodyPost_ret (v := .tuple #[.agg #[.int .i64 0, .int .i64 0, .int .i64 0, .int .i64 0, .int .i64 0, .int .i64 0, .slice none 0 0], .int .i64 5]) (by simp [results, Tryz.results123, go_sem, List.getElem?_toArray, N0, N1, N2, N3, N4, N5, N6]) rfl (smret_zero o9)
set_option maxRecDepth 100000 in
set_option maxHeartbeats 2000000 in
theorem psmadd_c3 (A : Option Addr) (c : Nat) (l : List Mk) (agg wd k cap now seq : Int) (v : Int) (w : World) (hin : MIn A 0 c l w) (sB : I64 seq) (hv : smvalE agg wd k cap now seq l = 0) (h0 : ¬ v < leastV agg) (h1 : ¬ 4096 < v) (hs : seq = 1099511627776) (hf : smFull cap seq l) : Calls Tryz.prog 123 #[.agg #[.int .i64 agg, .int .i64 wd, .int .i64 k, .int .i64 cap, .int .i64 now, .int .i64 seq, .slice A 0 c], .int .i64 v] w fun e w' => SmRet none (smAdd agg wd k cap now seq l v) w e w' := by
  rw [smAdd_c hv (by omega) hf]
  clear hf
  have HSQ := Lib.hid hs
  clear hs
  have P := fun w' (hb : Below w.heap.size w w') => pvalS A 0 c l agg wd k cap now seq w' (hin.below hb) sB
  rw [hv] at P
  replace P := Lib.hid P
  have PL := fun w => pleast agg w
  generalize leastV agg = least at PL h0
  replace PL := Lib.hid PL
  have d0 : decide (v < least) = false := decide_eq_false h0
  have d1 : decide (4096 < v) = false := decide_eq_false h1
  have HR := Lib.hid hin
  have HL := Lib.hid hin.len
  clear hin sB h0 h1
  go_enter Tryz.func123, Tryz.ntmps123
  go_upto_region 6 with (first | (go_at_call 136; with_reducible refine (P.out _ (by (repeat (first | exact Below.refl _ _ | refine Below.setCell ?_ (by first | (simp; done) | (simp; omega) | omega) _ | refine Below.alloc ?_ (by first | (simp; done) | (simp; omega) | omega) _ | refine Below.drew ?_ | refine Below.trans ?_ (Below.mono (by assumption) (by first | (simp; done) | (simp; omega) | omega)))))).mono ?_; rintro e w1 ⟨rfl, hb1⟩; have hz1 := hb1.size; (try simp at hz1); have o1 : Below w.heap.size w w1 := (by (repeat (first | exact Below.refl _ _ | refine Below.setCell ?_ (by first | (simp; done) | (simp; omega) | omega) _ | refine Below.alloc ?_ (by first | (simp; done) | (simp; omega) | omega) _ | refine Below.drew ?_ | refine Below.trans ?_ (Below.mono (by assumption) (by first | (simp; done) | (simp; omega) | omega))))); have q1_0 : w.heap.size < w1.heap.size := (by omega); have r1_0 : Row w1 (w.heap.size) 37 #[.int .i64 agg, .int .i64 wd, .int .i64 k, .int .i64 cap, .int .i64 now, .int .i64 seq, .slice A 0 c] := row_call (by (repeat (first | assumption | (refine row_new ?_; (first | (simp; done) | omega)) | refine row_alloc ?_ _ | refine row_drew ?_ | refine row_call ?_ (by assumption)))) hb1; obtain ⟨c1_0a, c1_0b, c1_0c, c1_0d, c1_0e, c1_0f, c1_0g, f1_0a, f1_0b, f1_0c, f1_0d, f1_0e, f1_0f, f1_0g⟩ := row_seven r1_0; have q1_1 : w.heap.size + 1 < w1.heap.size := (by omega); have r1_1 : Row w1 (w.heap.size + 1) 37 #[.int .i64 0, .int .i64 0, .int .i64 0, .int .i64 0, .int .i64 0, .int .i64 0, .slice none 0 0] := row_call (by (repeat (first | assumption | (refine row_new ?_; (first | (simp; done) | omega)) | refine row_alloc ?_ _ | refine row_drew ?_ | refine row_call ?_ (by assumption)))) hb1; obtain ⟨c1_1a, c1_1b, c1_1c, c1_1d, c1_1e, c1_1f, c1_1g, f1_1a, f1_1b, f1_1c, f1_1d, f1_1e, f1_1f, f1_1g⟩ := row_seven r1_1) | (go_at_call 213; with_reducible refine (PL.out _).mono ?_; rintro e w9 ⟨rfl, h9⟩; obtain rfl := h9.symm))
  clear d0 d1 P PL
  clear hv
  have e2 : (seq == 1099511627776) = true := by simpa using HSQ.out
  refine wp_region_quiet_lit (by as_aux_lemma => kernel_rfl) (by as_aux_lemma => kernel_rfl) ?_
  repeat (go_big_quiet_step (fail))
  refine wpQuiet_nil ?_
  intro _ hw'
  obtain ⟨nq, hw''⟩ := hw'
  subst hw''
  replace r1_0 : Row (w1.drewN nq) (w.heap.size) 37 #[.int .i64 agg, .int .i64 wd, .int .i64 k, .int .i64 cap, .int .i64 now, .int .i64 seq, .slice A 0 c] := r1_0
  replace r1_1 : Row (w1.drewN nq) (w.heap.size + 1) 37 #[.int .i64 0, .int .i64 0, .int .i64 0, .int .i64 0, .int .i64 0, .int .i64 0, .slice none 0 0] := r1_1
  replace o1 := o1.trans (⟨rfl, rfl, rfl, Nat.le_refl _, fun _ _ => rfl⟩ : Below _ w1 (w1.drewN nq))
  generalize w1.drewN nq = w2 at r1_0 r1_1 o1 ⊢
  clear c1_0a c1_0b c1_0c c1_0d c1_0e c1_0f c1_0g f1_0a f1_0b f1_0c f1_0d f1_0e f1_0f f1_0g c1_1a c1_1b c1_1c c1_1d c1_1e c1_1f c1_1g f1_1a f1_1b f1_1c f1_1d f1_1e f1_1f f1_1g
  obtain ⟨Z0, Z1, Z2, Z3, Z4, Z5, Z6, Zf0, Zf1, Zf2, Zf3, Zf4, Zf5, Zf6⟩ := row_seven r1_1
  clear r1_0
  skip
  go_wp2
  have hbge : w.heap.size ≤ w.heap.size + 1 := by omega
  have R9 : Row (((((((w2.setCell ⟨w.heap.size + 1, 0, none⟩ (.int .i64 0)).setCell ⟨w.heap.size + 1, 1, none⟩ (.int .i64 0)).setCell ⟨w.heap.size + 1, 2, none⟩ (.int .i64 0)).setCell ⟨w.heap.size + 1, 3, none⟩ (.int .i64 0)).setCell ⟨w.heap.size + 1, 4, none⟩ (.int .i64 0)).setCell ⟨w.heap.size + 1, 5, none⟩ (.int .i64 0)).setCell ⟨w.heap.size + 1, 6, none⟩ (.slice none 0 0)) (w.heap.size + 1) 37 #[.int .i64 0, .int .i64 0, .int .i64 0, .int .i64 0, .int .i64 0, .int .i64 0, .slice none 0 0] := (row_set (row_set (row_set (row_set (row_set (row_set (row_set r1_1 0 (.int .i64 0)) 1 (.int .i64 0)) 2 (.int .i64 0)) 3 (.int .i64 0)) 4 (.int .i64 0)) 5 (.int .i64 0)) 6 (.slice none 0 0))
  have o9 : Below w.heap.size w (((((((w2.setCell ⟨w.heap.size + 1, 0, none⟩ (.int .i64 0)).setCell ⟨w.heap.size + 1, 1, none⟩ (.int .i64 0)).setCell ⟨w.heap.size + 1, 2, none⟩ (.int .i64 0)).setCell ⟨w.heap.size + 1, 3, none⟩ (.int .i64 0)).setCell ⟨w.heap.size + 1, 4, none⟩ (.int .i64 0)).setCell ⟨w.heap.size + 1, 5, none⟩ (.int .i64 0)).setCell ⟨w.heap.size + 1, 6, none⟩ (.slice none 0 0)) := (Below.setCell (p := ⟨w.heap.size + 1, 6, none⟩) (Below.setCell (p := ⟨w.heap.size + 1, 5, none⟩) (Below.setCell (p := ⟨w.heap.size + 1, 4, none⟩) (Below.setCell (p := ⟨w.heap.size + 1, 3, none⟩) (Below.setCell (p := ⟨w.heap.size + 1, 2, none⟩) (Below.setCell (p := ⟨w.heap.size + 1, 1, none⟩) (Below.setCell (p := ⟨w.heap.size + 1, 0, none⟩) o1 hbge (.int .i64 0)) hbge (.int .i64 0)) hbge (.int .i64 0)) hbge (.int .i64 0)) hbge (.int .i64 0)) hbge (.int .i64 0)) hbge (.slice none 0 0))
  generalize (((((((w2.setCell ⟨w.heap.size + 1, 0, none⟩ (.int .i64 0)).setCell ⟨w.heap.size + 1, 1, none⟩ (.int .i64 0)).setCell ⟨w.heap.size + 1, 2, none⟩ (.int .i64 0)).setCell ⟨w.heap.size + 1, 3, none⟩ (.int .i64 0)).setCell ⟨w.heap.size + 1, 4, none⟩ (.int .i64 0)).setCell ⟨w.heap.size + 1, 5, none⟩ (.int .i64 0)).setCell ⟨w.heap.size + 1, 6, none⟩ (.slice none 0 0)) = w9 at R9 o9 ⊢
  obtain ⟨N0, N1, N2, N3, N4, N5, N6, Nf0, Nf1, Nf2, Nf3, Nf4, Nf5, Nf6⟩ := row_seven R9
  exact bodyPost_ret (v := .tuple #[.agg #[.int .i64 0, .int .i64 0, .int .i64 0, .int .i64 0, .int .i64 0, .int .i64 0, .slice none 0 0], .int .i64 5]) (by simp [results, Tryz.results123, go_sem, List.getElem?_toArray, N0, N1, N2, N3, N4, N5, N6]) rfl (smret_zero o9)
set_option maxRecDepth 100000 in
set_option maxHeartbeats 4000000 in
theorem psmadd_d1 (A : Option Addr) (m c : Nat) (l : List Mk) (agg wd k cap now seq : Int) (v : Int) (w : World) (hin : MIn A m c l w) (sB : I64 seq) (hv : smvalE agg wd k cap now seq l = 0) (h0 : ¬ v < leastV agg) (h1 : ¬ 4096 < v) (hmm : m ≤ 100000) (hm0 : 0 < m) (hn : (mkAt l 0).n ≠ cap) (hs : seq ≠ 1099511627776) (hf : ¬ smFull cap seq l) : Calls Tryz.prog 123 #[.agg #[.int .i64 agg, .int .i64 wd, .int .i64 k, .int .i64 cap, .int .i64 now, .int .i64 seq, .slice A m c], .int .i64 v] w fun e w' => SmRet none (smAdd agg wd k cap now seq l v) w e w' := by
  rw [smAdd_d hv (by omega) hf]
  have hV := of_smvalE hv
  obtain ⟨hG, hMV, _⟩ := hV
  obtain ⟨⟨a0, a1⟩, d0, d1, k0, k1, c0, c1, n0, n1⟩ := hG
  obtain ⟨⟨s0, s1⟩, hVL⟩ := mvalid_iff.1 hMV
  have HVI := Lib.hid (hVL.incl s0 (hVL.n_lt (fun a => hf (.inl a))) c0 n0 d0 (Int.not_lt.1 h0) (by have := leastV_ge agg; omega) (Int.not_lt.1 h1))
  have HSM := Lib.hid (fun i (hi : i < m) => SmallM.of_one (hVL.one _ (mkAt_mem (l := l) (i := i) (by rw [hin.len]; exact hi))) c1 (leastV_ge agg))
  have hv0 : -4096 ≤ v := by have := leastV_ge agg; omega
  have hv1 : v ≤ 4096 := by omega
  have HLE := Lib.hid (leastV_ge agg)
  have HMI := Lib.hid (show ∀ i, M64 (mkAt (incl l (seq + 1) now v) i) from M64.all fun x hx => M64.of_one (HVI.out.one x hx) (by omega) c1 n1 HLE.out)
  have HMP := Lib.hid (show ∀ i, M64 (mkAt (prune (nearB agg k) (incl l (seq + 1) now v)) i) from M64.all fun x hx => M64.of_one (HVI.out.one x ((prune_sub _ _ _ (Nat.le_refl _)).subset hx)) (by omega) c1 n1 HLE.out)
  clear hf hMV hVL
  have P := fun w' (hb : Below w.heap.size w w') => pvalS A m c l agg wd k cap now seq w' (hin.below hb) sB
  rw [hv] at P
  replace P := Lib.hid P
  have PL := fun w => pleast agg w
  obtain ⟨least, hle⟩ : ∃ x, leastV agg = x := ⟨_, rfl⟩
  rw [hle] at PL h0
  clear hle
  replace PL := Lib.hid PL
  have d0 : decide (v < least) = false := decide_eq_false h0
  have d1 : decide (4096 < v) = false := decide_eq_false h1
  have HR := Lib.hid hin
  have HL := Lib.hid hin.len
  clear hin sB h0 h1
  go_enter Tryz.func123, Tryz.ntmps123
  go_upto_region 6 with (first | (go_at_call 136; with_reducible refine (P.out _ (by (repeat (first | exact Below.refl _ _ | refine Below.setCell ?_ (by first | (simp; done) | (simp; omega) | omega) _ | refine Below.alloc ?_ (by first | (simp; done) | (simp; omega) | omega) _ | refine Below.drew ?_ | refine Below.trans ?_ (Below.mono (by assumption) (by first | (simp; done) | (simp; omega) | omega)))))).mono ?_; rintro e w1 ⟨rfl, hb1⟩; have hz1 := hb1.size; (try simp at hz1); have o1 : Below w.heap.size w w1 := (by (repeat (first | exact Below.refl _ _ | refine Below.setCell ?_ (by first | (simp; done) | (simp; omega) | omega) _ | refine Below.alloc ?_ (by first | (simp; done) | (simp; omega) | omega) _ | refine Below.drew ?_ | refine Below.trans ?_ (Below.mono (by assumption) (by first | (simp; done) | (simp; omega) | omega))))); have q1_0 : w.heap.size < w1.heap.size := (by omega); have r1_0 : Row w1 (w.heap.size) 37 #[.int .i64 agg, .int .i64 wd, .int .i64 k, .int .i64 cap, .int .i64 now, .int .i64 seq, .slice A m c] := row_call (by (repeat (first | assumption | (refine row_new ?_; (first | (simp; done) | omega)) | refine row_alloc ?_ _ | refine row_drew ?_ | refine row_call ?_ (by assumption)))) hb1; obtain ⟨c1_0a, c1_0b, c1_0c, c1_0d, c1_0e, c1_0f, c1_0g, f1_0a, f1_0b, f1_0c, f1_0d, f1_0e, f1_0f, f1_0g⟩ := row_seven r1_0; have q1_1 : w.heap.size + 1 < w1.heap.size := (by omega); have r1_1 : Row w1 (w.heap.size + 1) 37 #[.int .i64 0, .int .i64 0, .int .i64 0, .int .i64 0, .int .i64 0, .int .i64 0, .slice none 0 0] := row_call (by (repeat (first | assumption | (refine row_new ?_; (first | (simp; done) | omega)) | refine row_alloc ?_ _ | refine row_drew ?_ | refine row_call ?_ (by assumption)))) hb1; obtain ⟨c1_1a, c1_1b, c1_1c, c1_1d, c1_1e, c1_1f, c1_1g, f1_1a, f1_1b, f1_1c, f1_1d, f1_1e, f1_1f, f1_1g⟩ := row_seven r1_1) | (go_at_call 213; with_reducible refine (PL.out _).mono ?_; rintro e w9 ⟨rfl, h9⟩; obtain rfl := h9.symm))
  clear d0 d1 P PL
  clear hv
  obtain ⟨ad, rfl, hadb, ht0⟩ := HR.out.reads.mk (i := 0) hm0
  have ht0 : MkCells w ad (mkAt l 0) := ht0
  generalize mkAt l 0 = m0 at ht0 hn
  obtain ⟨sq, tk, n, s, q, lo, hi⟩ := m0
  obtain ⟨q0, q1, q2, q3, q4, q5, q6⟩ := ht0.below o1 hadb
  dsimp only at q0 q1 q2 q3 q4 q5 q6 hn
  clear ht0
  have e0 : decide (0 < m) = true := decide_eq_true hm0
  have g0 : (0 : Int) < (m : Int) := by omega
  have e1 : (n == cap) = false := by simpa using hn
  have e2 : (seq == 1099511627776) = false := by simpa using hs
  refine wp_region_quiet_lit (by as_aux_lemma => kernel_rfl) (by as_aux_lemma => kernel_rfl) ?_
  repeat (go_big_quiet_step (fail))
  refine wpQuiet_nil ?_
  intro _ hw'
  obtain ⟨nq, hw''⟩ := hw'
  subst hw''
  replace r1_0 : Row (w1.drewN nq) (w.heap.size) 37 #[.int .i64 agg, .int .i64 wd, .int .i64 k, .int .i64 cap, .int .i64 now, .int .i64 seq, .slice (some ad) m c] := r1_0
  replace r1_1 : Row (w1.drewN nq) (w.heap.size + 1) 37 #[.int .i64 0, .int .i64 0, .int .i64 0, .int .i64 0, .int .i64 0, .int .i64 0, .slice none 0 0] := r1_1
  replace o1 := o1.trans (⟨rfl, rfl, rfl, Nat.le_refl _, fun _ _ => rfl⟩ : Below _ w1 (w1.drewN nq))
  generalize w1.drewN nq = w2 at r1_0 r1_1 o1 ⊢
  clear c1_0a c1_0b c1_0c c1_0d c1_0e c1_0f c1_0g f1_0a f1_0b f1_0c f1_0d f1_0e f1_0f f1_0g c1_1a c1_1b c1_1c c1_1d c1_1e c1_1f c1_1g f1_1a f1_1b f1_1c f1_1d f1_1e f1_1f f1_1g
  clear e2 q0 q1 q2 q3 q4 q5 q6 e0 g0 e1 hn
  have wsq : IntKind.i64.wrap (seq + 1) = seq + 1 := IntWalk.i64_in _ (by omega)
  obtain ⟨X0, X1, X2, X3, X4, X5, X6, Xf0, Xf1, Xf2, Xf3, Xf4, Xf5, Xf6⟩ := row_seven r1_0
  have KR := Lib.hid r1_0
  clear r1_0
  go_upto_region 9 with (fail)
  have X : Row (w2.setCell ⟨w.heap.size, 5, none⟩ (.int .i64 (seq + 1))) (w.heap.size) 37 #[.int .i64 agg, .int .i64 wd, .int .i64 k, .int .i64 cap, .int .i64 now, .int .i64 (seq + 1), .slice (some ad) m c] := row_set KR.out 5 _
  have R : Row (w2.setCell ⟨w.heap.size, 5, none⟩ (.int .i64 (seq + 1))) (w.heap.size + 1) 37 #[.int .i64 0, .int .i64 0, .int .i64 0, .int .i64 0, .int .i64 0, .int .i64 0, .slice none 0 0] := row_other (p := ⟨w.heap.size, 5, none⟩) r1_1 (by show w.heap.size + 1 ≠ w.heap.size; omega) _
  have o : Below w.heap.size w (w2.setCell ⟨w.heap.size, 5, none⟩ (.int .i64 (seq + 1))) := o1.setCell (p := ⟨w.heap.size, 5, none⟩) (Nat.le_refl _) _
  generalize w2.setCell ⟨w.heap.size, 5, none⟩ (.int .i64 (seq + 1)) = w3 at X R o ⊢
  clear X0 X1 X2 X3 X4 X5 X6 Xf0 Xf1 Xf2 Xf3 Xf4 Xf5 Xf6 KR o1 r1_1 wsq
  obtain ⟨X0, X1, X2, X3, X4, X5, X6, Xf0, Xf1, Xf2, Xf3, Xf4, Xf5, Xf6⟩ := row_seven X
  go_wp2_with fail
  refine (pmadd (some ad) m c l (seq + 1) now v w3 (HR.out.below o) (by omega) HSM.out hv0 hv1).mono ?_
  rintro e w4 ⟨va, rfl, ownA, hb4⟩
  obtain ⟨A4, c4, rfl, inA, fr4⟩ := MIn.of_row ownA HMI.out
  have z4 := row_lt X
  clear X0 X1 X2 X3 X4 X5 X6 Xf0 Xf1 Xf2 Xf3 Xf4 Xf5 Xf6 ownA fr4
  replace X := row_call X hb4
  replace R := row_call R hb4
  replace o := o.trans (hb4.mono o.size)
  have z8 := row_lt R
  clear hb4
  have INA := Lib.hid inA
  clear inA
  have LI : RowKit.Hid ((incl l (seq + 1) now v).length = m + 1) := Lib.hid (by rw [incl_len, HL.out])
  have PP := Lib.hid (pprune (nearB agg k) 216 (w.heap.size) A4 (m + 1) c4 (incl l (seq + 1) now v) w4 INA.out (by omega) fc_run (fun i j w' hij hj hb => by
    have hi1 := HVI.out.one _ (mkAt_mem (l := incl l (seq + 1) now v) (i := i) (by rw [LI.out]; omega))
    have hj1 := HVI.out.one _ (mkAt_mem (l := incl l (seq + 1) now v) (i := j) (by rw [LI.out]; omega))
    have bi := ofV_bound hi1 c1
    have bj := ofV_bound hj1 c1
    exact pclos_flat agg wd k cap now (seq + 1) (some ad) m c (w.heap.size) (mkAt (incl l (seq + 1) now v) i).seq (mkAt (incl l (seq + 1) now v) i).t (mkAt (incl l (seq + 1) now v) i).n (mkAt (incl l (seq + 1) now v) i).s (mkAt (incl l (seq + 1) now v) i).q (mkAt (incl l (seq + 1) now v) i).lo (mkAt (incl l (seq + 1) now v) i).hi (mkAt (incl l (seq + 1) now v) j).seq (mkAt (incl l (seq + 1) now v) j).t (mkAt (incl l (seq + 1) now v) j).n (mkAt (incl l (seq + 1) now v) j).s (mkAt (incl l (seq + 1) now v) j).q (mkAt (incl l (seq + 1) now v) j).lo (mkAt (incl l (seq + 1) now v) j).hi _ w' (row_call X hb) (fun w => pnear agg k _ _ w k0 k1 (HMI.out i) (HMI.out j) bi.1 bi.2 bj.1 bj.2)))
  obtain ⟨X0, X1, X2, X3, X4, X5, X6, Xf0, Xf1, Xf2, Xf3, Xf4, Xf5, Xf6⟩ := row_seven X
  go_wp2_with fail
  refine PP.out.mono ?_
  rintro e w5 ⟨vp, rfl, ownP, hb5⟩
  obtain ⟨A5, c5, rfl, inP, fr5⟩ := MIn.of_row ownP HMP.out
  have z5 := inP.reads
  clear X0 X1 X2 X3 X4 X5 X6 Xf0 Xf1 Xf2 Xf3 Xf4 Xf5 Xf6 ownP PP
  replace X := row_call X hb5
  replace R := row_call R hb5
  have z6 := row_lt R
  have o4 := o.size
  replace o := o.trans (hb5.mono o.size)
  have z7 := hb5.size
  have INP := Lib.hid inP
  have FR := Lib.hid fr5
  clear hb5 inP fr5 z5
  generalize hpl : (prune (nearB agg k) (incl l (seq + 1) now v)).length = pl at INP
  clear hpl
  obtain ⟨X0, X1, X2, X3, X4, X5, X6, Xf0, Xf1, Xf2, Xf3, Xf4, Xf5, Xf6⟩ := row_seven X
  obtain ⟨R0, R1, R2, R3, R4, R5, R6, Rf0, Rf1, Rf2, Rf3, Rf4, Rf5, Rf6⟩ := row_seven R
  have XR := Lib.hid X
  have RR := Lib.hid R
  clear X R
  go_upto_region 10 with (fail)
  have X : Row (w5.setCell ⟨w.heap.size, 6, none⟩ (.slice A5 pl c5)) (w.heap.size) 37 #[.int .i64 agg, .int .i64 wd, .int .i64 k, .int .i64 cap, .int .i64 now, .int .i64 (seq + 1), .slice A5 pl c5] := row_set XR.out 6 _
  have R : Row (w5.setCell ⟨w.heap.size, 6, none⟩ (.slice A5 pl c5)) (w.heap.size + 1) 37 #[.int .i64 0, .int .i64 0, .int .i64 0, .int .i64 0, .int .i64 0, .int .i64 0, .slice none 0 0] := row_other (p := ⟨w.heap.size, 6, none⟩) RR.out (by show w.heap.size + 1 ≠ w.heap.size; omega) _
  have o6 : Below w.heap.size w (w5.setCell ⟨w.heap.size, 6, none⟩ (.slice A5 pl c5)) := o.setCell (p := ⟨w.heap.size, 6, none⟩) (Nat.le_refl _) _
  have INP6 := Lib.hid (INP.out.keep (w' := w5.setCell ⟨w.heap.size, 6, none⟩ (.slice A5 pl c5)) (by rw [size_setCell]; exact Nat.le_refl _) (fun a e => Below.heap_setCell _ ⟨w.heap.size, 6, none⟩ _ a.block (by have := FR.out a e; show a.block ≠ w.heap.size; omega)))
  have hs6 : w5.heap.size ≤ (w5.setCell ⟨w.heap.size, 6, none⟩ (.slice A5 pl c5)).heap.size := by rw [size_setCell]; exact Nat.le_refl _
  generalize w5.setCell ⟨w.heap.size, 6, none⟩ (.slice A5 pl c5) = w6 at X R o6 INP6 hs6 ⊢
  clear X0 X1 X2 X3 X4 X5 X6 Xf0 Xf1 Xf2 Xf3 Xf4 Xf5 Xf6 R0 R1 R2 R3 R4 R5 R6 Rf0 Rf1 Rf2 Rf3 Rf4 Rf5 Rf6 XR RR INP o
  obtain ⟨X0, X1, X2, X3, X4, X5, X6, Xf0, Xf1, Xf2, Xf3, Xf4, Xf5, Xf6⟩ := row_seven X
  obtain ⟨R0, R1, R2, R3, R4, R5, R6, Rf0, Rf1, Rf2, Rf3, Rf4, Rf5, Rf6⟩ := row_seven R
  go_wp2
  have hbge : w.heap.size ≤ w.heap.size + 1 := by omega
  have hkp : ∀ b', b' ≠ w.heap.size + 1 → ((((((((w6.setCell ⟨w.heap.size + 1, 0, none⟩ (.int .i64 agg)).setCell ⟨w.heap.size + 1, 1, none⟩ (.int .i64 wd)).setCell ⟨w.heap.size + 1, 2, none⟩ (.int .i64 k)).setCell ⟨w.heap.size + 1, 3, none⟩ (.int .i64 cap)).setCell ⟨w.heap.size + 1, 4, none⟩ (.int .i64 now)).setCell ⟨w.heap.size + 1, 5, none⟩ (.int .i64 (seq + 1))).setCell ⟨w.heap.size + 1, 6, none⟩ (.slice A5 pl c5))).heap[b']? = w6.heap[b']? := fun b' h' => ((Below.heap_setCell _ ⟨w.heap.size + 1, 6, none⟩ (.slice A5 pl c5) b' h').trans ((Below.heap_setCell _ ⟨w.heap.size + 1, 5, none⟩ (.int .i64 (seq + 1)) b' h').trans ((Below.heap_setCell _ ⟨w.heap.size + 1, 4, none⟩ (.int .i64 now) b' h').trans ((Below.heap_setCell _ ⟨w.heap.size + 1, 3, none⟩ (.int .i64 cap) b' h').trans ((Below.heap_setCell _ ⟨w.heap.size + 1, 2, none⟩ (.int .i64 k) b' h').trans ((Below.heap_setCell _ ⟨w.heap.size + 1, 1, none⟩ (.int .i64 wd) b' h').trans ((Below.heap_setCell _ ⟨w.heap.size + 1, 0, none⟩ (.int .i64 agg) b' h').trans rfl)))))))
  have hksz : w6.heap.size ≤ ((((((((w6.setCell ⟨w.heap.size + 1, 0, none⟩ (.int .i64 agg)).setCell ⟨w.heap.size + 1, 1, none⟩ (.int .i64 wd)).setCell ⟨w.heap.size + 1, 2, none⟩ (.int .i64 k)).setCell ⟨w.heap.size + 1, 3, none⟩ (.int .i64 cap)).setCell ⟨w.heap.size + 1, 4, none⟩ (.int .i64 now)).setCell ⟨w.heap.size + 1, 5, none⟩ (.int .i64 (seq + 1))).setCell ⟨w.heap.size + 1, 6, none⟩ (.slice A5 pl c5))).heap.size := by simp only [size_setCell]; exact Nat.le_refl _
  have R9 : Row (((((((w6.setCell ⟨w.heap.size + 1, 0, none⟩ (.int .i64 agg)).setCell ⟨w.heap.size + 1, 1, none⟩ (.int .i64 wd)).setCell ⟨w.heap.size + 1, 2, none⟩ (.int .i64 k)).setCell ⟨w.heap.size + 1, 3, none⟩ (.int .i64 cap)).setCell ⟨w.heap.size + 1, 4, none⟩ (.int .i64 now)).setCell ⟨w.heap.size + 1, 5, none⟩ (.int .i64 (seq + 1))).setCell ⟨w.heap.size + 1, 6, none⟩ (.slice A5 pl c5)) (w.heap.size + 1) 37 #[.int .i64 agg, .int .i64 wd, .int .i64 k, .int .i64 cap, .int .i64 now, .int .i64 (seq + 1), .slice A5 pl c5] := (row_set (row_set (row_set (row_set (row_set (row_set (row_set R 0 (.int .i64 agg)) 1 (.int .i64 wd)) 2 (.int .i64 k)) 3 (.int .i64 cap)) 4 (.int .i64 now)) 5 (.int .i64 (seq + 1))) 6 (.slice A5 pl c5))
  have o9 : Below w.heap.size w (((((((w6.setCell ⟨w.heap.size + 1, 0, none⟩ (.int .i64 agg)).setCell ⟨w.heap.size + 1, 1, none⟩ (.int .i64 wd)).setCell ⟨w.heap.size + 1, 2, none⟩ (.int .i64 k)).setCell ⟨w.heap.size + 1, 3, none⟩ (.int .i64 cap)).setCell ⟨w.heap.size + 1, 4, none⟩ (.int .i64 now)).setCell ⟨w.heap.size + 1, 5, none⟩ (.int .i64 (seq + 1))).setCell ⟨w.heap.size + 1, 6, none⟩ (.slice A5 pl c5)) := (Below.setCell (p := ⟨w.heap.size + 1, 6, none⟩) (Below.setCell (p := ⟨w.heap.size + 1, 5, none⟩) (Below.setCell (p := ⟨w.heap.size + 1, 4, none⟩) (Below.setCell (p := ⟨w.heap.size + 1, 3, none⟩) (Below.setCell (p := ⟨w.heap.size + 1, 2, none⟩) (Below.setCell (p := ⟨w.heap.size + 1, 1, none⟩) (Below.setCell (p := ⟨w.heap.size + 1, 0, none⟩) o6 hbge (.int .i64 agg)) hbge (.int .i64 wd)) hbge (.int .i64 k)) hbge (.int .i64 cap)) hbge (.int .i64 now)) hbge (.int .i64 (seq + 1))) hbge (.slice A5 pl c5))
  generalize (((((((w6.setCell ⟨w.heap.size + 1, 0, none⟩ (.int .i64 agg)).setCell ⟨w.heap.size + 1, 1, none⟩ (.int .i64 wd)).setCell ⟨w.heap.size + 1, 2, none⟩ (.int .i64 k)).setCell ⟨w.heap.size + 1, 3, none⟩ (.int .i64 cap)).setCell ⟨w.heap.size + 1, 4, none⟩ (.int .i64 now)).setCell ⟨w.heap.size + 1, 5, none⟩ (.int .i64 (seq + 1))).setCell ⟨w.heap.size + 1, 6, none⟩ (.slice A5 pl c5)) = w9 at R9 o9 hkp hksz ⊢
  obtain ⟨N0, N1, N2, N3, N4, N5, N6, Nf0, Nf1, Nf2, Nf3, Nf4, Nf5, Nf6⟩ := row_seven R9
  exact bodyPost_ret (v := .tuple #[.agg #[.int .i64 agg, .int .i64 wd, .int .i64 k, .int .i64 cap, .int .i64 now, .int .i64 (seq + 1), .slice A5 pl c5], .int .i64 0]) (by simp [results, Tryz.results123, go_sem, List.getElem?_toArray, N0, N1, N2, N3, N4, N5, N6]) rfl (smret_ok (INP6.out.keep hksz (fun a e => hkp a.block (by have := FR.out a e; omega))) o9 (fun a e => .inl (by have := FR.out a e; omega)))
set_option maxRecDepth 100000 in
set_option maxHeartbeats 4000000 in
theorem psmadd_d0 (A : Option Addr) (c : Nat) (l : List Mk) (agg wd k cap now seq : Int) (v : Int) (w : World) (hin : MIn A 0 c l w) (sB : I64 seq) (hv : smvalE agg wd k cap now seq l = 0) (h0 : ¬ v < leastV agg) (h1 : ¬ 4096 < v)  (hs : seq ≠ 1099511627776) (hf : ¬ smFull cap seq l) : Calls Tryz.prog 123 #[.agg #[.int .i64 agg, .int .i64 wd, .int .i64 k, .int .i64 cap, .int .i64 now, .int .i64 seq, .slice A 0 c], .int .i64 v] w fun e w' => SmRet none (smAdd agg wd k cap now seq l v) w e w' := by
  rw [smAdd_d hv (by omega) hf]
  have hV := of_smvalE hv
  obtain ⟨hG, hMV, _⟩ := hV
  obtain ⟨⟨a0, a1⟩, d0, d1, k0, k1, c0, c1, n0, n1⟩ := hG
  obtain ⟨⟨s0, s1⟩, hVL⟩ := mvalid_iff.1 hMV
  have HVI := Lib.hid (hVL.incl s0 (hVL.n_lt (fun a => hf (.inl a))) c0 n0 d0 (Int.not_lt.1 h0) (by have := leastV_ge agg; omega) (Int.not_lt.1 h1))
  have HSM := Lib.hid (fun i (hi : i < 0) => SmallM.of_one (hVL.one _ (mkAt_mem (l := l) (i := i) (by rw [hin.len]; exact hi))) c1 (leastV_ge agg))
  have hv0 : -4096 ≤ v := by have := leastV_ge agg; omega
  have hv1 : v ≤ 4096 := by omega
  have HLE := Lib.hid (leastV_ge agg)
  have HMI := Lib.hid (show ∀ i, M64 (mkAt (incl l (seq + 1) now v) i) from M64.all fun x hx => M64.of_one (HVI.out.one x hx) (by omega) c1 n1 HLE.out)
  have HMP := Lib.hid (show ∀ i, M64 (mkAt (prune (nearB agg k) (incl l (seq + 1) now v)) i) from M64.all fun x hx => M64.of_one (HVI.out.one x ((prune_sub _ _ _ (Nat.le_refl _)).subset hx)) (by omega) c1 n1 HLE.out)
  clear hf hMV hVL
  have P := fun w' (hb : Below w.heap.size w w') => pvalS A 0 c l agg wd k cap now seq w' (hin.below hb) sB
  rw [hv] at P
  replace P := Lib.hid P
  have PL := fun w => pleast agg w
  obtain ⟨least, hle⟩ : ∃ x, leastV agg = x := ⟨_, rfl⟩
  rw [hle] at PL h0
  clear hle
  replace PL := Lib.hid PL
  have d0 : decide (v < least) = false := decide_eq_false h0
  have d1 : decide (4096 < v) = false := decide_eq_false h1
  have HR := Lib.hid hin
  have HL := Lib.hid hin.len
  clear hin sB h0 h1
  go_enter Tryz.func123, Tryz.ntmps123
  go_upto_region 6 with (first | (go_at_call 136; with_reducible refine (P.out _ (by (repeat (first | exact Below.refl _ _ | refine Below.setCell ?_ (by first | (simp; done) | (simp; omega) | omega) _ | refine Below.alloc ?_ (by first | (simp; done) | (simp; omega) | omega) _ | refine Below.drew ?_ | refine Below.trans ?_ (Below.mono (by assumption) (by first | (simp; done) | (simp; omega) | omega)))))).mono ?_; rintro e w1 ⟨rfl, hb1⟩; have hz1 := hb1.size; (try simp at hz1); have o1 : Below w.heap.size w w1 := (by (repeat (first | exact Below.refl _ _ | refine Below.setCell ?_ (by first | (simp; done) | (simp; omega) | omega) _ | refine Below.alloc ?_ (by first | (simp; done) | (simp; omega) | omega) _ | refine Below.drew ?_ | refine Below.trans ?_ (Below.mono (by assumption) (by first | (simp; done) | (simp; omega) | omega))))); have q1_0 : w.heap.size < w1.heap.size := (by omega); have r1_0 : Row w1 (w.heap.size) 37 #[.int .i64 agg, .int .i64 wd, .int .i64 k, .int .i64 cap, .int .i64 now, .int .i64 seq, .slice A 0 c] := row_call (by (repeat (first | assumption | (refine row_new ?_; (first | (simp; done) | omega)) | refine row_alloc ?_ _ | refine row_drew ?_ | refine row_call ?_ (by assumption)))) hb1; obtain ⟨c1_0a, c1_0b, c1_0c, c1_0d, c1_0e, c1_0f, c1_0g, f1_0a, f1_0b, f1_0c, f1_0d, f1_0e, f1_0f, f1_0g⟩ := row_seven r1_0; have q1_1 : w.heap.size + 1 < w1.heap.size := (by omega); have r1_1 : Row w1 (w.heap.size + 1) 37 #[.int .i64 0, .int .i64 0, .int .i64 0, .int .i64 0, .int .i64 0, .int .i64 0, .slice none 0 0] := row_call (by (repeat (first | assumption | (refine row_new ?_; (first | (simp; done) | omega)) | refine row_alloc ?_ _ | refine row_drew ?_ | refine row_call ?_ (by assumption)))) hb1; obtain ⟨c1_1a, c1_1b, c1_1c, c1_1d, c1_1e, c1_1f, c1_1g, f1_1a, f1_1b, f1_1c, f1_1d, f1_1e, f1_1f, f1_1g⟩ := row_seven r1_1) | (go_at_call 213; with_reducible refine (PL.out _).mono ?_; rintro e w9 ⟨rfl, h9⟩; obtain rfl := h9.symm))
  clear d0 d1 P PL
  clear hv
  have e2 : (seq == 1099511627776) = false := by simpa using hs
  refine wp_region_quiet_lit (by as_aux_lemma => kernel_rfl) (by as_aux_lemma => kernel_rfl) ?_
  repeat (go_big_quiet_step (fail))
  refine wpQuiet_nil ?_
  intro _ hw'
  obtain ⟨nq, hw''⟩ := hw'
  subst hw''
  replace r1_0 : Row (w1.drewN nq) (w.heap.size) 37 #[.int .i64 agg, .int .i64 wd, .int .i64 k, .int .i64 cap, .int .i64 now, .int .i64 seq, .slice A 0 c] := r1_0
  replace r1_1 : Row (w1.drewN nq) (w.heap.size + 1) 37 #[.int .i64 0, .int .i64 0, .int .i64 0, .int .i64 0, .int .i64 0, .int .i64 0, .slice none 0 0] := r1_1
  replace o1 := o1.trans (⟨rfl, rfl, rfl, Nat.le_refl _, fun _ _ => rfl⟩ : Below _ w1 (w1.drewN nq))
  generalize w1.drewN nq = w2 at r1_0 r1_1 o1 ⊢
  clear c1_0a c1_0b c1_0c c1_0d c1_0e c1_0f c1_0g f1_0a f1_0b f1_0c f1_0d f1_0e f1_0f f1_0g c1_1a c1_1b c1_1c c1_1d c1_1e c1_1f c1_1g f1_1a f1_1b f1_1c f1_1d f1_1e f1_1f f1_1g
  clear e2
  have wsq : IntKind.i64.wrap (seq + 1) = seq + 1 := IntWalk.i64_in _ (by omega)
  obtain ⟨X0, X1, X2, X3, X4, X5, X6, Xf0, Xf1, Xf2, Xf3, Xf4, Xf5, Xf6⟩ := row_seven r1_0
  have KR := Lib.hid r1_0
  clear r1_0
  go_upto_region 9 with (fail)
  have X : Row (w2.setCell ⟨w.heap.size, 5, none⟩ (.int .i64 (seq + 1))) (w.heap.size) 37 #[.int .i64 agg, .int .i64 wd, .int .i64 k, .int .i64 cap, .int .i64 now, .int .i64 (seq + 1), .slice A 0 c] := row_set KR.out 5 _
  have R : Row (w2.setCell ⟨w.heap.size, 5, none⟩ (.int .i64 (seq + 1))) (w.heap.size + 1) 37 #[.int .i64 0, .int .i64 0, .int .i64 0, .int .i64 0, .int .i64 0, .int .i64 0, .slice none 0 0] := row_other (p := ⟨w.heap.size, 5, none⟩) r1_1 (by show w.heap.size + 1 ≠ w.heap.size; omega) _
  have o : Below w.heap.size w (w2.setCell ⟨w.heap.size, 5, none⟩ (.int .i64 (seq + 1))) := o1.setCell (p := ⟨w.heap.size, 5, none⟩) (Nat.le_refl _) _
  generalize w2.setCell ⟨w.heap.size, 5, none⟩ (.int .i64 (seq + 1)) = w3 at X R o ⊢
  clear X0 X1 X2 X3 X4 X5 X6 Xf0 Xf1 Xf2 Xf3 Xf4 Xf5 Xf6 KR o1 r1_1 wsq
  obtain ⟨X0, X1, X2, X3, X4, X5, X6, Xf0, Xf1, Xf2, Xf3, Xf4, Xf5, Xf6⟩ := row_seven X
  go_wp2_with fail
  refine (pmadd A 0 c l (seq + 1) now v w3 (HR.out.below o) (by omega) HSM.out hv0 hv1).mono ?_
  rintro e w4 ⟨va, rfl, ownA, hb4⟩
  obtain ⟨A4, c4, rfl, inA, fr4⟩ := MIn.of_row ownA HMI.out
  have z4 := row_lt X
  clear X0 X1 X2 X3 X4 X5 X6 Xf0 Xf1 Xf2 Xf3 Xf4 Xf5 Xf6 ownA fr4
  replace X := row_call X hb4
  replace R := row_call R hb4
  replace o := o.trans (hb4.mono o.size)
  have z8 := row_lt R
  clear hb4
  have INA := Lib.hid inA
  clear inA
  have LI : RowKit.Hid ((incl l (seq + 1) now v).length = 0 + 1) := Lib.hid (by rw [incl_len, HL.out])
  have PP := Lib.hid (pprune (nearB agg k) 216 (w.heap.size) A4 (0 + 1) c4 (incl l (seq + 1) now v) w4 INA.out (by omega) fc_run (fun i j w' hij hj hb => by
    have hi1 := HVI.out.one _ (mkAt_mem (l := incl l (seq + 1) now v) (i := i) (by rw [LI.out]; omega))
    have hj1 := HVI.out.one _ (mkAt_mem (l := incl l (seq + 1) now v) (i := j) (by rw [LI.out]; omega))
    have bi := ofV_bound hi1 c1
    have bj := ofV_bound hj1 c1
    exact pclos_flat agg wd k cap now (seq + 1) A 0 c (w.heap.size) (mkAt (incl l (seq + 1) now v) i).seq (mkAt (incl l (seq + 1) now v) i).t (mkAt (incl l (seq + 1) now v) i).n (mkAt (incl l (seq + 1) now v) i).s (mkAt (incl l (seq + 1) now v) i).q (mkAt (incl l (seq + 1) now v) i).lo (mkAt (incl l (seq + 1) now v) i).hi (mkAt (incl l (seq + 1) now v) j).seq (mkAt (incl l (seq + 1) now v) j).t (mkAt (incl l (seq + 1) now v) j).n (mkAt (incl l (seq + 1) now v) j).s (mkAt (incl l (seq + 1) now v) j).q (mkAt (incl l (seq + 1) now v) j).lo (mkAt (incl l (seq + 1) now v) j).hi _ w' (row_call X hb) (fun w => pnear agg k _ _ w k0 k1 (HMI.out i) (HMI.out j) bi.1 bi.2 bj.1 bj.2)))
  obtain ⟨X0, X1, X2, X3, X4, X5, X6, Xf0, Xf1, Xf2, Xf3, Xf4, Xf5, Xf6⟩ := row_seven X
  go_wp2_with fail
  refine PP.out.mono ?_
  rintro e w5 ⟨vp, rfl, ownP, hb5⟩
  obtain ⟨A5, c5, rfl, inP, fr5⟩ := MIn.of_row ownP HMP.out
  have z5 := inP.reads
  clear X0 X1 X2 X3 X4 X5 X6 Xf0 Xf1 Xf2 Xf3 Xf4 Xf5 Xf6 ownP PP
  replace X := row_call X hb5
  replace R := row_call R hb5
  have z6 := row_lt R
  have o4 := o.size
  replace o := o.trans (hb5.mono o.size)
  have z7 := hb5.size
  have INP := Lib.hid inP
  have FR := Lib.hid fr5
  clear hb5 inP fr5 z5
  generalize hpl : (prune (nearB agg k) (incl l (seq + 1) now v)).length = pl at INP
  clear hpl
  obtain ⟨X0, X1, X2, X3, X4, X5, X6, Xf0, Xf1, Xf2, Xf3, Xf4, Xf5, Xf6⟩ := row_seven X
  obtain ⟨R0, R1, R2, R3, R4, R5, R6, Rf0, Rf1, Rf2, Rf3, Rf4, Rf5, Rf6⟩ := row_seven R
  have XR := Lib.hid X
  have RR := Lib.hid R
  clear X R
  go_upto_region 10 with (fail)
  have X : Row (w5.setCell ⟨w.heap.size, 6, none⟩ (.slice A5 pl c5)) (w.heap.size) 37 #[.int .i64 agg, .int .i64 wd, .int .i64 k, .int .i64 cap, .int .i64 now, .int .i64 (seq + 1), .slice A5 pl c5] := row_set XR.out 6 _
  have R : Row (w5.setCell ⟨w.heap.size, 6, none⟩ (.slice A5 pl c5)) (w.heap.size + 1) 37 #[.int .i64 0, .int .i64 0, .int .i64 0, .int .i64 0, .int .i64 0, .int .i64 0, .slice none 0 0] := row_other (p := ⟨w.heap.size, 6, none⟩) RR.out (by show w.heap.size + 1 ≠ w.heap.size; omega) _
  have o6 : Below w.heap.size w (w5.setCell ⟨w.heap.size, 6, none⟩ (.slice A5 pl c5)) := o.setCell (p := ⟨w.heap.size, 6, none⟩) (Nat.le_refl _) _
  have INP6 := Lib.hid (INP.out.keep (w' := w5.setCell ⟨w.heap.size, 6, none⟩ (.slice A5 pl c5)) (by rw [size_setCell]; exact Nat.le_refl _) (fun a e => Below.heap_setCell _ ⟨w.heap.size, 6, none⟩ _ a.block (by have := FR.out a e; show a.block ≠ w.heap.size; omega)))
  have hs6 : w5.heap.size ≤ (w5.setCell ⟨w.heap.size, 6, none⟩ (.slice A5 pl c5)).heap.size := by rw [size_setCell]; exact Nat.le_refl _
  generalize w5.setCell ⟨w.heap.size, 6, none⟩ (.slice A5 pl c5) = w6 at X R o6 INP6 hs6 ⊢
  clear X0 X1 X2 X3 X4 X5 X6 Xf0 Xf1 Xf2 Xf3 Xf4 Xf5 Xf6 R0 R1 R2 R3 R4 R5 R6 Rf0 Rf1 Rf2 Rf3 Rf4 Rf5 Rf6 XR RR INP o
  obtain ⟨X0, X1, X2, X3, X4, X5, X6, Xf0, Xf1, Xf2, Xf3, Xf4, Xf5, Xf6⟩ := row_seven X
  obtain ⟨R0, R1, R2, R3, R4, R5, R6, Rf0, Rf1, Rf2, Rf3, Rf4, Rf5, Rf6⟩ := row_seven R
  go_wp2
  have hbge : w.heap.size ≤ w.heap.size + 1 := by omega
  have hkp : ∀ b', b' ≠ w.heap.size + 1 → ((((((((w6.setCell ⟨w.heap.size + 1, 0, none⟩ (.int .i64 agg)).setCell ⟨w.heap.size + 1, 1, none⟩ (.int .i64 wd)).setCell ⟨w.heap.size + 1, 2, none⟩ (.int .i64 k)).setCell ⟨w.heap.size + 1, 3, none⟩ (.int .i64 cap)).setCell ⟨w.heap.size + 1, 4, none⟩ (.int .i64 now)).setCell ⟨w.heap.size + 1, 5, none⟩ (.int .i64 (seq + 1))).setCell ⟨w.heap.size + 1, 6, none⟩ (.slice A5 pl c5))).heap[b']? = w6.heap[b']? := fun b' h' => ((Below.heap_setCell _ ⟨w.heap.size + 1, 6, none⟩ (.slice A5 pl c5) b' h').trans ((Below.heap_setCell _ ⟨w.heap.size + 1, 5, none⟩ (.int .i64 (seq + 1)) b' h').trans ((Below.heap_setCell _ ⟨w.heap.size + 1, 4, none⟩ (.int .i64 now) b' h').trans ((Below.heap_setCell _ ⟨w.heap.size + 1, 3, none⟩ (.int .i64 cap) b' h').trans ((Below.heap_setCell _ ⟨w.heap.size + 1, 2, none⟩ (.int .i64 k) b' h').trans ((Below.heap_setCell _ ⟨w.heap.size + 1, 1, none⟩ (.int .i64 wd) b' h').trans ((Below.heap_setCell _ ⟨w.heap.size + 1, 0, none⟩ (.int .i64 agg) b' h').trans rfl)))))))
  have hksz : w6.heap.size ≤ ((((((((w6.setCell ⟨w.heap.size + 1, 0, none⟩ (.int .i64 agg)).setCell ⟨w.heap.size + 1, 1, none⟩ (.int .i64 wd)).setCell ⟨w.heap.size + 1, 2, none⟩ (.int .i64 k)).setCell ⟨w.heap.size + 1, 3, none⟩ (.int .i64 cap)).setCell ⟨w.heap.size + 1, 4, none⟩ (.int .i64 now)).setCell ⟨w.heap.size + 1, 5, none⟩ (.int .i64 (seq + 1))).setCell ⟨w.heap.size + 1, 6, none⟩ (.slice A5 pl c5))).heap.size := by simp only [size_setCell]; exact Nat.le_refl _
  have R9 : Row (((((((w6.setCell ⟨w.heap.size + 1, 0, none⟩ (.int .i64 agg)).setCell ⟨w.heap.size + 1, 1, none⟩ (.int .i64 wd)).setCell ⟨w.heap.size + 1, 2, none⟩ (.int .i64 k)).setCell ⟨w.heap.size + 1, 3, none⟩ (.int .i64 cap)).setCell ⟨w.heap.size + 1, 4, none⟩ (.int .i64 now)).setCell ⟨w.heap.size + 1, 5, none⟩ (.int .i64 (seq + 1))).setCell ⟨w.heap.size + 1, 6, none⟩ (.slice A5 pl c5)) (w.heap.size + 1) 37 #[.int .i64 agg, .int .i64 wd, .int .i64 k, .int .i64 cap, .int .i64 now, .int .i64 (seq + 1), .slice A5 pl c5] := (row_set (row_set (row_set (row_set (row_set (row_set (row_set R 0 (.int .i64 agg)) 1 (.int .i64 wd)) 2 (.int .i64 k)) 3 (.int .i64 cap)) 4 (.int .i64 now)) 5 (.int .i64 (seq + 1))) 6 (.slice A5 pl c5))
  have o9 : Below w.heap.size w (((((((w6.setCell ⟨w.heap.size + 1, 0, none⟩ (.int .i64 agg)).setCell ⟨w.heap.size + 1, 1, none⟩ (.int .i64 wd)).setCell ⟨w.heap.size + 1, 2, none⟩ (.int .i64 k)).setCell ⟨w.heap.size + 1, 3, none⟩ (.int .i64 cap)).setCell ⟨w.heap.size + 1, 4, none⟩ (.int .i64 now)).setCell ⟨w.heap.size + 1, 5, none⟩ (.int .i64 (seq + 1))).setCell ⟨w.heap.size + 1, 6, none⟩ (.slice A5 pl c5)) := (Below.setCell (p := ⟨w.heap.size + 1, 6, none⟩) (Below.setCell (p := ⟨w.heap.size + 1, 5, none⟩) (Below.setCell (p := ⟨w.heap.size + 1, 4, none⟩) (Below.setCell (p := ⟨w.heap.size + 1, 3, none⟩) (Below.setCell (p := ⟨w.heap.size + 1, 2, none⟩) (Below.setCell (p := ⟨w.heap.size + 1, 1, none⟩) (Below.setCell (p := ⟨w.heap.size + 1, 0, none⟩) o6 hbge (.int .i64 agg)) hbge (.int .i64 wd)) hbge (.int .i64 k)) hbge (.int .i64 cap)) hbge (.int .i64 now)) hbge (.int .i64 (seq + 1))) hbge (.slice A5 pl c5))
  generalize (((((((w6.setCell ⟨w.heap.size + 1, 0, none⟩ (.int .i64 agg)).setCell ⟨w.heap.size + 1, 1, none⟩ (.int .i64 wd)).setCell ⟨w.heap.size + 1, 2, none⟩ (.int .i64 k)).setCell ⟨w.heap.size + 1, 3, none⟩ (.int .i64 cap)).setCell ⟨w.heap.size + 1, 4, none⟩ (.int .i64 now)).setCell ⟨w.heap.size + 1, 5, none⟩ (.int .i64 (seq + 1))).setCell ⟨w.heap.size + 1, 6, none⟩ (.slice A5 pl c5)) = w9 at R9 o9 hkp hksz ⊢
  obtain ⟨N0, N1, N2, N3, N4, N5, N6, Nf0, Nf1, Nf2, Nf3, Nf4, Nf5, Nf6⟩ := row_seven R9
  exact bodyPost_ret (v := .tuple #[.agg #[.int .i64 agg, .int .i64 wd, .int .i64 k, .int .i64 cap, .int .i64 now, .int .i64 (seq + 1), .slice A5 pl c5], .int .i64 0]) (by simp [results, Tryz.results123, go_sem, List.getElem?_toArray, N0, N1, N2, N3, N4, N5, N6]) rfl (smret_ok (INP6.out.keep hksz (fun a e => hkp a.block (by have := FR.out a e; omega))) o9 (fun a e => .inl (by have := FR.out a e; omega)))
theorem psmaddN (A : Option Addr) (m c : Nat) (l : List Mk) (agg wd k cap now seq : Int) (v : Int) (w : World) (hin : MIn A m c l w) (sB : I64 seq) (hmm : m ≤ 100000) : Calls Tryz.prog 123 #[.agg #[.int .i64 agg, .int .i64 wd, .int .i64 k, .int .i64 cap, .int .i64 now, .int .i64 seq, .slice A m c], .int .i64 v] w fun e w' => SmRet none (smAdd agg wd k cap now seq l v) w e w' := by
  rcases smvalE_two (agg := agg) (wd := wd) (k := k) (cap := cap) (now := now) (seq := seq) (l := l) with hv | hv
  · by_cases h0 : v < leastV agg
    · exact psmadd_b1 A m c l agg wd k cap now seq v w hin sB hv h0
    · by_cases h1 : 4096 < v
      · exact psmadd_b2 A m c l agg wd k cap now seq v w hin sB hv h0 h1
      · have hl := hin.len
        by_cases hm0 : 0 < m
        · have hne : l ≠ [] := fun e => by rw [e] at hl; simp at hl; omega
          by_cases hn : (mkAt l 0).n = cap
          · exact psmadd_c1 A m c l agg wd k cap now seq v w hin sB hv h0 h1 hm0 hn (.inl ⟨hne, hn⟩)
          · by_cases hs : seq = 1099511627776
            · exact psmadd_c2 A m c l agg wd k cap now seq v w hin sB hv h0 h1 hm0 hn hs (.inr hs)
            · exact psmadd_d1 A m c l agg wd k cap now seq v w hin sB hv h0 h1 hmm hm0 hn hs (fun a => a.elim (fun a => hn a.2) hs)
        · obtain rfl : m = 0 := by omega
          have he : l = [] := by simpa using hl
          by_cases hs : seq = 1099511627776
          · exact psmadd_c3 A c l agg wd k cap now seq v w hin sB hv h0 h1 hs (.inr hs)
          · exact psmadd_d0 A c l agg wd k cap now seq v w hin sB hv h0 h1 hs (fun a => a.elim (fun a => a.1 he) hs)
  · exact psmadd_a A m c l agg wd k cap now seq v w hin sB hv
end Go.Proofs.YtdipoojjlddohaaGreat
end
