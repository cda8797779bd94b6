/- What the law SpreadTruth needs, joined of its texts by a program (slim.py); part 2. -/
import Derived.Test.YtaiepjcnncajcaaZSpreadTruth1
section
/- Spreads of marks: parameters; the empty histograms; the bound of the number of marks; the example, walked. -/
set_option linter.unusedVariables false
set_option linter.unusedSimpArgs false
set_option linter.unusedSectionVars false
set_option linter.unnecessarySimpa false
namespace Go.Proofs.Ytaiepjcnncajcaa
open Go.RowKit Go.Shelf
theorem pgood_0 (wd k cap now : Int) (w : World)  (h : wd < 1) : Calls Try.prog 38 #[.int .i64 wd, .int .i64 k, .int .i64 cap, .int .i64 now] w fun e w' => e = .returned (.bool false) ∧ w' = w := by
  go_enter Try.func38, Try.ntmps38
  go_wp2_with fail
  go_ret
  exact ⟨by first | rfl | exact ret_bool (by simp; omega), rfl⟩
theorem pgood_1 (wd k cap now : Int) (w : World) (h0 : 1 ≤ wd) (h : 1048576 < wd) : Calls Try.prog 38 #[.int .i64 wd, .int .i64 k, .int .i64 cap, .int .i64 now] w fun e w' => e = .returned (.bool false) ∧ w' = w := by
  go_enter Try.func38, Try.ntmps38
  go_wp2_with fail
  go_ret
  exact ⟨by first | rfl | exact ret_bool (by simp; omega), rfl⟩
theorem pgood_2 (wd k cap now : Int) (w : World) (h0 : 1 ≤ wd) (h1 : wd ≤ 1048576) (h : k < 1) : Calls Try.prog 38 #[.int .i64 wd, .int .i64 k, .int .i64 cap, .int .i64 now] w fun e w' => e = .returned (.bool false) ∧ w' = w := by
  go_enter Try.func38, Try.ntmps38
  go_wp2_with fail
  go_ret
  exact ⟨by first | rfl | exact ret_bool (by simp; omega), rfl⟩
theorem pgood_3 (wd k cap now : Int) (w : World) (h0 : 1 ≤ wd) (h1 : wd ≤ 1048576) (h2 : 1 ≤ k) (h : 64 < k) : Calls Try.prog 38 #[.int .i64 wd, .int .i64 k, .int .i64 cap, .int .i64 now] w fun e w' => e = .returned (.bool false) ∧ w' = w := by
  go_enter Try.func38, Try.ntmps38
  go_wp2_with fail
  go_ret
  exact ⟨by first | rfl | exact ret_bool (by simp; omega), rfl⟩
theorem pgood_4 (wd k cap now : Int) (w : World) (h0 : 1 ≤ wd) (h1 : wd ≤ 1048576) (h2 : 1 ≤ k) (h3 : k ≤ 64) (h : cap < 1) : Calls Try.prog 38 #[.int .i64 wd, .int .i64 k, .int .i64 cap, .int .i64 now] w fun e w' => e = .returned (.bool false) ∧ w' = w := by
  go_enter Try.func38, Try.ntmps38
  go_wp2_with fail
  go_ret
  exact ⟨by first | rfl | exact ret_bool (by simp; omega), rfl⟩
theorem pgood_5 (wd k cap now : Int) (w : World) (h0 : 1 ≤ wd) (h1 : wd ≤ 1048576) (h2 : 1 ≤ k) (h3 : k ≤ 64) (h4 : 1 ≤ cap) (h : 65536 < cap) : Calls Try.prog 38 #[.int .i64 wd, .int .i64 k, .int .i64 cap, .int .i64 now] w fun e w' => e = .returned (.bool false) ∧ w' = w := by
  go_enter Try.func38, Try.ntmps38
  go_wp2_with fail
  go_ret
  exact ⟨by first | rfl | exact ret_bool (by simp; omega), rfl⟩
theorem pgood_6 (wd k cap now : Int) (w : World) (h0 : 1 ≤ wd) (h1 : wd ≤ 1048576) (h2 : 1 ≤ k) (h3 : k ≤ 64) (h4 : 1 ≤ cap) (h5 : cap ≤ 65536) (h : now < 0) : Calls Try.prog 38 #[.int .i64 wd, .int .i64 k, .int .i64 cap, .int .i64 now] w fun e w' => e = .returned (.bool false) ∧ w' = w := by
  go_enter Try.func38, Try.ntmps38
  go_wp2_with fail
  go_ret
  exact ⟨by first | rfl | exact ret_bool (by simp; omega), rfl⟩
theorem pgood_7 (wd k cap now : Int) (w : World) (h0 : 1 ≤ wd) (h1 : wd ≤ 1048576) (h2 : 1 ≤ k) (h3 : k ≤ 64) (h4 : 1 ≤ cap) (h5 : cap ≤ 65536) (h6 : 0 ≤ now) (h : 16777216 < now) : Calls Try.prog 38 #[.int .i64 wd, .int .i64 k, .int .i64 cap, .int .i64 now] w fun e w' => e = .returned (.bool false) ∧ w' = w := by
  go_enter Try.func38, Try.ntmps38
  go_wp2_with fail
  go_ret
  exact ⟨by first | rfl | exact ret_bool (by simp; omega), rfl⟩
theorem pgood_8 (wd k cap now : Int) (w : World) (h0 : 1 ≤ wd) (h1 : wd ≤ 1048576) (h2 : 1 ≤ k) (h3 : k ≤ 64) (h4 : 1 ≤ cap) (h5 : cap ≤ 65536) (h6 : 0 ≤ now) (h7 : now ≤ 16777216) : Calls Try.prog 38 #[.int .i64 wd, .int .i64 k, .int .i64 cap, .int .i64 now] w fun e w' => e = .returned (.bool true) ∧ w' = w := by
  go_enter Try.func38, Try.ntmps38
  go_wp2_with fail
  go_ret
  exact ⟨by first | rfl | exact ret_bool (by simp; omega), rfl⟩
theorem pgood (wd k cap now : Int) (w : World) : Calls Try.prog 38 #[.int .i64 wd, .int .i64 k, .int .i64 cap, .int .i64 now] w fun e w' => e = .returned (.bool (decide (1 ≤ wd ∧ wd ≤ 1048576 ∧ 1 ≤ k ∧ k ≤ 64 ∧ 1 ≤ cap ∧ cap ≤ 65536 ∧ 0 ≤ now ∧ now ≤ 16777216))) ∧ w' = w := by
  by_cases h0 : 1 ≤ wd
  · skip
    by_cases h1 : wd ≤ 1048576
    · skip
      by_cases h2 : 1 ≤ k
      · skip
        by_cases h3 : k ≤ 64
        · skip
          by_cases h4 : 1 ≤ cap
          · skip
            by_cases h5 : cap ≤ 65536
            · skip
              by_cases h6 : 0 ≤ now
              · skip
                by_cases h7 : now ≤ 16777216
                · skip
                  rw [show decide (1 ≤ wd ∧ wd ≤ 1048576 ∧ 1 ≤ k ∧ k ≤ 64 ∧ 1 ≤ cap ∧ cap ≤ 65536 ∧ 0 ≤ now ∧ now ≤ 16777216) = true from decide_eq_true ⟨h0, h1, h2, h3, h4, h5, h6, h7⟩]
                  exact pgood_8 wd k cap now w h0 h1 h2 h3 h4 h5 h6 h7
                · rw [show decide (1 ≤ wd ∧ wd ≤ 1048576 ∧ 1 ≤ k ∧ k ≤ 64 ∧ 1 ≤ cap ∧ cap ≤ 65536 ∧ 0 ≤ now ∧ now ≤ 16777216) = false from decide_eq_false (fun a => h7 a.2.2.2.2.2.2.2)]
                  exact pgood_7 wd k cap now w h0 h1 h2 h3 h4 h5 h6 (by omega)
              · rw [show decide (1 ≤ wd ∧ wd ≤ 1048576 ∧ 1 ≤ k ∧ k ≤ 64 ∧ 1 ≤ cap ∧ cap ≤ 65536 ∧ 0 ≤ now ∧ now ≤ 16777216) = false from decide_eq_false (fun a => h6 a.2.2.2.2.2.2.1)]
                exact pgood_6 wd k cap now w h0 h1 h2 h3 h4 h5 (by omega)
            · rw [show decide (1 ≤ wd ∧ wd ≤ 1048576 ∧ 1 ≤ k ∧ k ≤ 64 ∧ 1 ≤ cap ∧ cap ≤ 65536 ∧ 0 ≤ now ∧ now ≤ 16777216) = false from decide_eq_false (fun a => h5 a.2.2.2.2.2.1)]
              exact pgood_5 wd k cap now w h0 h1 h2 h3 h4 (by omega)
          · rw [show decide (1 ≤ wd ∧ wd ≤ 1048576 ∧ 1 ≤ k ∧ k ≤ 64 ∧ 1 ≤ cap ∧ cap ≤ 65536 ∧ 0 ≤ now ∧ now ≤ 16777216) = false from decide_eq_false (fun a => h4 a.2.2.2.2.1)]
            exact pgood_4 wd k cap now w h0 h1 h2 h3 (by omega)
        · rw [show decide (1 ≤ wd ∧ wd ≤ 1048576 ∧ 1 ≤ k ∧ k ≤ 64 ∧ 1 ≤ cap ∧ cap ≤ 65536 ∧ 0 ≤ now ∧ now ≤ 16777216) = false from decide_eq_false (fun a => h3 a.2.2.2.1)]
          exact pgood_3 wd k cap now w h0 h1 h2 (by omega)
      · rw [show decide (1 ≤ wd ∧ wd ≤ 1048576 ∧ 1 ≤ k ∧ k ≤ 64 ∧ 1 ≤ cap ∧ cap ≤ 65536 ∧ 0 ≤ now ∧ now ≤ 16777216) = false from decide_eq_false (fun a => h2 a.2.2.1)]
        exact pgood_2 wd k cap now w h0 h1 (by omega)
    · rw [show decide (1 ≤ wd ∧ wd ≤ 1048576 ∧ 1 ≤ k ∧ k ≤ 64 ∧ 1 ≤ cap ∧ cap ≤ 65536 ∧ 0 ≤ now ∧ now ≤ 16777216) = false from decide_eq_false (fun a => h1 a.2.1)]
      exact pgood_1 wd k cap now w h0 (by omega)
  · rw [show decide (1 ≤ wd ∧ wd ≤ 1048576 ∧ 1 ≤ k ∧ k ≤ 64 ∧ 1 ≤ cap ∧ cap ≤ 65536 ∧ 0 ≤ now ∧ now ≤ 16777216) = false from decide_eq_false (fun a => h0 a.1)]
    exact pgood_0 wd k cap now w  (by omega)
theorem rmayk_0 (k : Int) (w : World)  (h : k < 1) : Calls Try.prog 40 #[.int .i64 k] w fun e w' => e = .returned (.bool false) ∧ w' = w := by
  go_enter Try.func40, Try.ntmps40
  go_wp2_with fail
  go_ret
  exact ⟨by first | rfl | exact ret_bool (by simp; omega), rfl⟩
theorem rmayk_1 (k : Int) (w : World) (h0 : 1 ≤ k) (h : 64 < k) : Calls Try.prog 40 #[.int .i64 k] w fun e w' => e = .returned (.bool false) ∧ w' = w := by
  go_enter Try.func40, Try.ntmps40
  go_wp2_with fail
  go_ret
  exact ⟨by first | rfl | exact ret_bool (by simp; omega), rfl⟩
theorem rmayk_2 (k : Int) (w : World) (h0 : 1 ≤ k) (h1 : k ≤ 64) : Calls Try.prog 40 #[.int .i64 k] w fun e w' => e = .returned (.bool true) ∧ w' = w := by
  go_enter Try.func40, Try.ntmps40
  go_wp2_with fail
  go_ret
  exact ⟨by first | rfl | exact ret_bool (by simp; omega), rfl⟩
theorem rmayk (k : Int) (w : World) : Calls Try.prog 40 #[.int .i64 k] w fun e w' => e = .returned (.bool (decide (1 ≤ k ∧ k ≤ 64))) ∧ w' = w := by
  by_cases h0 : 1 ≤ k
  · skip
    by_cases h1 : k ≤ 64
    · skip
      rw [show decide (1 ≤ k ∧ k ≤ 64) = true from decide_eq_true ⟨h0, h1⟩]
      exact rmayk_2 k w h0 h1
    · rw [show decide (1 ≤ k ∧ k ≤ 64) = false from decide_eq_false (fun a => h1 a.2)]
      exact rmayk_1 k w h0 (by omega)
  · rw [show decide (1 ≤ k ∧ k ≤ 64) = false from decide_eq_false (fun a => h0 a.1)]
    exact rmayk_0 k w  (by omega)
theorem pnew_yes (wd k cap now : Int) (w : World) (h : 1 ≤ wd ∧ wd ≤ 1048576 ∧ 1 ≤ k ∧ k ≤ 64 ∧ 1 ≤ cap ∧ cap ≤ 65536 ∧ 0 ≤ now ∧ now ≤ 16777216) : Calls Try.prog 9 #[.int .i64 wd, .int .i64 k, .int .i64 cap, .int .i64 now] w fun e w' => e = .returned (.tuple #[.agg #[.int .i64 wd, .int .i64 k, .int .i64 cap, .int .i64 now, .int .i64 0, .slice none 0 0], .int .i64 0]) ∧ Below w.heap.size w w' := by
  have PG := fun w => pgood wd k cap now w
  rw [decide_eq_true h] at PG
  have PG := Lib.hid PG
  clear h
  go_enter Try.func9, Try.ntmps9
  go_wp2_with (go_at_call 38; with_reducible refine (PG.out _).mono ?_; rintro e w9 ⟨rfl, h9⟩; obtain rfl := h9.symm)
  exact bodyPost_ret (v := .tuple #[.agg #[.int .i64 wd, .int .i64 k, .int .i64 cap, .int .i64 now, .int .i64 0, .slice none 0 0], .int .i64 0]) (by simp [results, Try.results9, go_sem, List.getElem?_toArray]) rfl ⟨rfl, by (repeat (first | exact Below.refl _ _ | refine Below.setCell ?_ (by first | (simp; done) | (simp; omega) | omega) _ | refine Below.alloc ?_ (by first | (simp; done) | (simp; omega) | omega) _ | refine Below.drew ?_ | refine Below.trans ?_ (Below.mono (by assumption) (by first | (simp; done) | (simp; omega) | omega))))⟩
theorem pnew_no (wd k cap now : Int) (w : World) (h : ¬ (1 ≤ wd ∧ wd ≤ 1048576 ∧ 1 ≤ k ∧ k ≤ 64 ∧ 1 ≤ cap ∧ cap ≤ 65536 ∧ 0 ≤ now ∧ now ≤ 16777216)) : Calls Try.prog 9 #[.int .i64 wd, .int .i64 k, .int .i64 cap, .int .i64 now] w fun e w' => e = .returned (.tuple #[.agg #[.int .i64 0, .int .i64 0, .int .i64 0, .int .i64 0, .int .i64 0, .slice none 0 0], .int .i64 1]) ∧ Below w.heap.size w w' := by
  have PG := fun w => pgood wd k cap now w
  rw [decide_eq_false h] at PG
  have PG := Lib.hid PG
  clear h
  go_enter Try.func9, Try.ntmps9
  go_wp2_with (go_at_call 38; with_reducible refine (PG.out _).mono ?_; rintro e w9 ⟨rfl, h9⟩; obtain rfl := h9.symm)
  exact bodyPost_ret (v := .tuple #[.agg #[.int .i64 0, .int .i64 0, .int .i64 0, .int .i64 0, .int .i64 0, .slice none 0 0], .int .i64 1]) (by simp [results, Try.results9, go_sem, List.getElem?_toArray]) rfl ⟨rfl, by (repeat (first | exact Below.refl _ _ | refine Below.setCell ?_ (by first | (simp; done) | (simp; omega) | omega) _ | refine Below.alloc ?_ (by first | (simp; done) | (simp; omega) | omega) _ | refine Below.drew ?_ | refine Below.trans ?_ (Below.mono (by assumption) (by first | (simp; done) | (simp; omega) | omega))))⟩
theorem nbits (x : Nat) (h : x < 9223372036854775808) (w : World) : Calls Try.prog 42 #[.int .i64 x] w fun e w' => e = .returned (.int .i64 (Lib.bitLen x : Nat)) ∧ w' = w := by
  have PL := fun w => len64 (x : Int) w (by omega) (by omega)
  rw [Int.toNat_natCast] at PL
  generalize Lib.bitLen x = b at PL ⊢
  have PL := Lib.hid PL
  have t0 : ¬ (x : Int) < 0 := by omega
  have wx : IntKind.u64.wrap (x : Int) = (x : Int) := IntWalk.u64_in _ (by omega)
  clear h
  go_enter Try.func42, Try.ntmps42
  go_wp2_with (go_at_call 84; with_reducible refine (PL.out _).mono ?_; rintro e w9 ⟨rfl, h9⟩; obtain rfl := h9.symm)
  go_ret
  exact ⟨rfl, rfl⟩
theorem rbits (x : Nat) (h : x < 9223372036854775808) (w : World) : Calls Try.prog 43 #[.int .i64 x] w fun e w' => e = .returned (.int .i64 (Lib.bitLen x : Nat)) ∧ w' = w := by
  have hl : Lib.bitLen x ≤ 64 := bits_le 64 x
  generalize hb : Lib.bitLen x = b at hl ⊢
  have HB := Lib.hid hb
  clear hb
  go_enter Try.func43, Try.ntmps43
  go_wp2
  go_loopw [0, 3] (fun n k wr => ∃ (y j : Nat), n = .int .i64 (y : Nat) ∧ k = .int .i64 (j : Nat) ∧ y < 9223372036854775808 ∧ j ≤ 64 ∧ RowKit.Hid (j + Lib.bitLen y = b) ∧ wr = w) (fun n _ _ => (intOf n).toNat)
  case atStart => exact ⟨x, 0, rfl, rfl, h, by omega, Lib.hid (by rw [HB.out]; omega), rfl⟩
  case round =>
    obtain ⟨y, j, rfl, rfl, hy, hj, HS, rfl⟩ := hrel
    by_cases hz : y = 0
    · subst hz
      have hs := HS.out
      rw [bits_zero] at hs
      have hs : j = b := by omega
      subst hs
      go_wp2
      go_ret
      exact ⟨rfl, rfl⟩
    · have hs := bits_step hz (by omega)
      have hs2 := HS.out
      have t0 : (0 : Int) < (y : Int) := by omega
      have td : IntKind.i64.wrap ((y : Int).tdiv 2) = ((y / 2 : Nat) : Int) := by
        rw [Int.tdiv_eq_ediv_of_nonneg (by omega), IntWalk.i64_in _ (by omega)]
        omega
      have HS2 : RowKit.Hid ((j + 1) + Lib.bitLen (y / 2) = b) := Lib.hid (by omega)
      have hjb : j + 1 ≤ 64 := by omega
      clear hs hs2
      go_wp2
      go_roundw
      case rel => exact ⟨y / 2, j + 1, rfl, by go_num, by omega, hjb, HS2, by trivial⟩
      case measure => simp [intOf]; omega
def mostV (k cap : Int) : Int := (if 1 ≤ k ∧ k ≤ 64 ∧ 1 ≤ cap ∧ cap ≤ 65536 then 12 * k * (3 * (Lib.bitLen cap.toNat : Nat) + 24) + 4 else 0)
theorem most_small {k b : Int} (h0 : 1 ≤ k) (h1 : k ≤ 64) (h2 : 0 ≤ b) (h3 : b ≤ 64) : 0 ≤ 12 * k * (3 * b + 24) ∧ 12 * k * (3 * b + 24) ≤ 165888 := by
  constructor
  · exact Int.mul_nonneg (by omega) (by omega)
  · have : 12 * k * (3 * b + 24) ≤ 768 * 216 := Int.mul_le_mul (by omega) (by omega) (by omega) (by decide)
    exact this
theorem pmost_yes (k cap : Int) (w : World) (h : 1 ≤ k ∧ k ≤ 64 ∧ 1 ≤ cap ∧ cap ≤ 65536) : Calls Try.prog 12 #[.int .i64 k, .int .i64 cap] w fun e w' => e = .returned (.int .i64 (mostV k cap)) ∧ w' = w := by
  unfold mostV
  rw [if_pos h]
  obtain ⟨cn, rfl⟩ : ∃ cn : Nat, cap = (cn : Int) := ⟨cap.toNat, by omega⟩
  rw [Int.toNat_natCast]
  have PB := fun w => nbits cn (by omega) w
  have bb : Lib.bitLen cn ≤ 64 := bits_le 64 cn
  generalize Lib.bitLen cn = b at PB bb ⊢
  have PB := Lib.hid PB
  have ms := most_small (k := k) (b := (b : Int)) h.1 h.2.1 (by omega) (by omega)
  have PG := fun w => pgood 1 k (cn : Nat) 0 w
  rw [decide_eq_true (by omega)] at PG
  have PG := Lib.hid PG
  have w1 : IntKind.i64.wrap (12 * k) = 12 * k := IntWalk.i64_in _ (by omega)
  have w2 : IntKind.i64.wrap (3 * (b : Int)) = 3 * (b : Int) := IntWalk.i64_in _ (by omega)
  have w3 : IntKind.i64.wrap (3 * (b : Int) + 24) = 3 * (b : Int) + 24 := IntWalk.i64_in _ (by omega)
  have w4 : IntKind.i64.wrap (12 * k * (3 * (b : Int) + 24)) = 12 * k * (3 * (b : Int) + 24) := IntWalk.i64_in _ (by omega)
  have w5 : IntKind.i64.wrap (12 * k * (3 * (b : Int) + 24) + 4) = 12 * k * (3 * (b : Int) + 24) + 4 := IntWalk.i64_in _ (by omega)
  clear h ms
  go_enter Try.func12, Try.ntmps12
  go_wp2_with (first | (go_at_call 38; with_reducible refine (PG.out _).mono ?_; rintro e w9 ⟨rfl, h9⟩; obtain rfl := h9.symm) | (go_at_call 42; with_reducible refine (PB.out _).mono ?_; rintro e w9 ⟨rfl, h9⟩; obtain rfl := h9.symm))
  go_ret
  exact ⟨rfl, rfl⟩
theorem rmost_yes (k cap : Int) (w : World) (h : 1 ≤ k ∧ k ≤ 64 ∧ 1 ≤ cap ∧ cap ≤ 65536) : Calls Try.prog 13 #[.int .i64 k, .int .i64 cap] w fun e w' => e = .returned (.int .i64 (mostV k cap)) ∧ w' = w := by
  unfold mostV
  rw [if_pos h]
  obtain ⟨cn, rfl⟩ : ∃ cn : Nat, cap = (cn : Int) := ⟨cap.toNat, by omega⟩
  rw [Int.toNat_natCast]
  have PB := fun w => rbits cn (by omega) w
  have bb : Lib.bitLen cn ≤ 64 := bits_le 64 cn
  generalize Lib.bitLen cn = b at PB bb ⊢
  have PB := Lib.hid PB
  have ms := most_small (k := k) (b := (b : Int)) h.1 h.2.1 (by omega) (by omega)
  have PG := fun w => rmayk k w
  rw [decide_eq_true (by omega)] at PG
  have PG := Lib.hid PG
  have t0 : ¬ (cn : Int) < 1 := by omega
  have t1 : ¬ (65536 : Int) < (cn : Int) := by omega
  have w1 : IntKind.i64.wrap (12 * k) = 12 * k := IntWalk.i64_in _ (by omega)
  have w2 : IntKind.i64.wrap (3 * (b : Int)) = 3 * (b : Int) := IntWalk.i64_in _ (by omega)
  have w3 : IntKind.i64.wrap (3 * (b : Int) + 24) = 3 * (b : Int) + 24 := IntWalk.i64_in _ (by omega)
  have w4 : IntKind.i64.wrap (12 * k * (3 * (b : Int) + 24)) = 12 * k * (3 * (b : Int) + 24) := IntWalk.i64_in _ (by omega)
  have w5 : IntKind.i64.wrap (12 * k * (3 * (b : Int) + 24) + 4) = 12 * k * (3 * (b : Int) + 24) + 4 := IntWalk.i64_in _ (by omega)
  clear h ms
  go_enter Try.func13, Try.ntmps13
  go_wp2_with (first | (go_at_call 40; with_reducible refine (PG.out _).mono ?_; rintro e w9 ⟨rfl, h9⟩; obtain rfl := h9.symm) | (go_at_call 43; with_reducible refine (PB.out _).mono ?_; rintro e w9 ⟨rfl, h9⟩; obtain rfl := h9.symm))
  go_ret
  exact ⟨rfl, rfl⟩
theorem rmost_no_k (k cap : Int) (w : World) (hk : ¬ (1 ≤ k ∧ k ≤ 64)) : Calls Try.prog 13 #[.int .i64 k, .int .i64 cap] w fun e w' => e = .returned (.int .i64 0) ∧ w' = w := by
  have PG := fun w => rmayk k w
  rw [decide_eq_false hk] at PG
  have PG := Lib.hid PG
  clear hk
  go_enter Try.func13, Try.ntmps13
  go_wp2_with (go_at_call 40; with_reducible refine (PG.out _).mono ?_; rintro e w9 ⟨rfl, h9⟩; obtain rfl := h9.symm)
  go_ret
  exact ⟨rfl, rfl⟩
theorem rmost_no_a (k cap : Int) (w : World) (hk : 1 ≤ k ∧ k ≤ 64) (hc : cap < 1) : Calls Try.prog 13 #[.int .i64 k, .int .i64 cap] w fun e w' => e = .returned (.int .i64 0) ∧ w' = w := by
  have PG := fun w => rmayk k w
  rw [decide_eq_true hk] at PG
  have PG := Lib.hid PG
  clear hk
  go_enter Try.func13, Try.ntmps13
  go_wp2_with (go_at_call 40; with_reducible refine (PG.out _).mono ?_; rintro e w9 ⟨rfl, h9⟩; obtain rfl := h9.symm)
  go_ret
  exact ⟨rfl, rfl⟩
theorem rmost_no_b (k cap : Int) (w : World) (hk : 1 ≤ k ∧ k ≤ 64) (hc0 : 1 ≤ cap) (hc : 65536 < cap) : Calls Try.prog 13 #[.int .i64 k, .int .i64 cap] w fun e w' => e = .returned (.int .i64 0) ∧ w' = w := by
  have PG := fun w => rmayk k w
  rw [decide_eq_true hk] at PG
  have PG := Lib.hid PG
  clear hk
  go_enter Try.func13, Try.ntmps13
  go_wp2_with (go_at_call 40; with_reducible refine (PG.out _).mono ?_; rintro e w9 ⟨rfl, h9⟩; obtain rfl := h9.symm)
  go_ret
  exact ⟨rfl, rfl⟩
theorem rmost_no (k cap : Int) (w : World) (h : ¬ (1 ≤ k ∧ k ≤ 64 ∧ 1 ≤ cap ∧ cap ≤ 65536)) : Calls Try.prog 13 #[.int .i64 k, .int .i64 cap] w fun e w' => e = .returned (.int .i64 (mostV k cap)) ∧ w' = w := by
  unfold mostV
  rw [if_neg h]
  by_cases hk : 1 ≤ k ∧ k ≤ 64
  · by_cases hc : cap < 1
    · exact rmost_no_a k cap w hk hc
    · exact rmost_no_b k cap w hk (by omega) (by omega)
  · exact rmost_no_k k cap w hk
theorem rmost (k cap : Int) (w : World) : Calls Try.prog 13 #[.int .i64 k, .int .i64 cap] w fun e w' => e = .returned (.int .i64 (mostV k cap)) ∧ w' = w := by
  by_cases h : 1 ≤ k ∧ k ≤ 64 ∧ 1 ≤ cap ∧ cap ≤ 65536
  · exact rmost_yes k cap w h
  · exact rmost_no k cap w h
theorem awake14 (w : World) : Calls Try.prog 14 #[] w fun e w' => e = .returned (.bool true) ∧ Below w.heap.size w w' := by
  have PO := fun w => pof_yes 0 0 3 9 41 1 6 w (by unfold rightP; omega)
  rw [show ratA 3 9 41 = 14 by decide, show ratB 3 9 41 = 1 by decide] at PO
  have PO := Lib.hid PO
  go_enter Try.func14, Try.ntmps14
  go_wp2_with (go_at_call 15; with_reducible refine (PO.out _).mono ?_; rintro e w1 ⟨rfl, hb1⟩; have hz1 := hb1.size; (try simp at hz1); have o1 : Below w.heap.size w w1 := (by (repeat (first | exact Below.refl _ _ | refine Below.setCell ?_ (by first | (simp; done) | (simp; omega) | omega) _ | refine Below.alloc ?_ (by first | (simp; done) | (simp; omega) | omega) _ | refine Below.drew ?_ | refine Below.trans ?_ (Below.mono (by assumption) (by first | (simp; done) | (simp; omega) | omega))))))
  go_ret
  exact ⟨rfl, by (repeat (first | exact Below.refl _ _ | refine Below.setCell ?_ (by first | (simp; done) | (simp; omega) | omega) _ | refine Below.alloc ?_ (by first | (simp; done) | (simp; omega) | omega) _ | refine Below.drew ?_ | refine Below.trans ?_ (Below.mono (by assumption) (by first | (simp; done) | (simp; omega) | omega))))⟩
end Go.Proofs.Ytaiepjcnncajcaa
end
section
/- Plain arithmetic of products in two words: no program is in sight. -/
set_option linter.unusedVariables false
set_option linter.unusedSimpArgs false
set_option linter.unusedSectionVars false
set_option linter.unnecessarySimpa false
namespace Go.Proofs.Ytaiepjcnncajcaa
open Go.RowKit
/-- The product, or 0 where it does not fit. -/
def mulV (a b : Nat) : Nat := if a * b < big then a * b else 0
def mulB (a b : Nat) : Bool := decide (a * b < big)
/-- The product of the low words, and of the low word of x and the high one of y. -/
def mlow (x y : Nat) : Nat := (x % 18446744073709551616) * (y % 18446744073709551616)
def mhigh (x y : Nat) : Nat := (x % 18446744073709551616) * (y / 18446744073709551616)
theorem mlow_lt (x y : Nat) : mlow x y < big := mul_big (Nat.mod_lt _ (by decide)) (Nat.mod_lt _ (by decide))
theorem mul_comm' (a b : Nat) : mulV a b = mulV b a ∧ mulB a b = mulB b a := by unfold mulV mulB; rw [Nat.mul_comm]; exact ⟨rfl, rfl⟩
/-- x is one word. -/
theorem mul_split {x y : Nat} (hx : hi x = 0) : x * y = mlow x y + mhigh x y * 18446744073709551616 := by
  have e : x % 18446744073709551616 = x := by unfold hi at hx; omega
  have d := Nat.div_add_mod y 18446744073709551616
  unfold mlow mhigh
  rw [e]
  conv => lhs; rw [← d]
  rw [Nat.mul_add, Nat.add_comm, Nat.mul_comm 18446744073709551616, Nat.mul_assoc]
theorem mul_both {a b : Nat} (ha : hi a ≠ 0) (hb : hi b ≠ 0) : ¬ a * b < big := by
  have h1 : 18446744073709551616 ≤ a := by unfold hi at ha; omega
  have h2 : 18446744073709551616 ≤ b := by unfold hi at hb; omega
  have := Nat.mul_le_mul h1 h2
  unfold big
  omega
theorem mul_high {x y : Nat} (hx : hi x = 0) (h : hi (mhigh x y) ≠ 0) : ¬ x * y < big := by
  rw [mul_split hx]
  unfold hi big at *
  omega
theorem high_shift {m : Nat} (h : hi m = 0) : hi (m * 18446744073709551616) = lo m ∧ lo (m * 18446744073709551616) = 0 := by unfold hi lo at *; omega
theorem high_lt {m : Nat} (h : hi m = 0) : m * 18446744073709551616 < big := by unfold hi big at *; omega
theorem mulV_no {a b : Nat} (h : ¬ a * b < big) : mulV a b = 0 ∧ mulB a b = false := by unfold mulV mulB; simp [h]
theorem mulV_yes {a b : Nat} (h : a * b < big) : mulV a b = a * b ∧ mulB a b = true := by unfold mulV mulB; simp [h]
end Go.Proofs.Ytaiepjcnncajcaa
end
section
/- The product of two wide numbers, walked: the reference. -/
set_option linter.unusedVariables false
set_option linter.unusedSimpArgs false
set_option linter.unusedSectionVars false
set_option linter.unnecessarySimpa false
namespace Go.Proofs.Ytaiepjcnncajcaa
open Go.RowKit Go.Shelf
end Go.Proofs.Ytaiepjcnncajcaa
end
section
/- The product of two wide numbers, walked: the program. -/
set_option linter.unusedVariables false
set_option linter.unusedSimpArgs false
set_option linter.unusedSectionVars false
set_option linter.unnecessarySimpa false
namespace Go.Proofs.Ytaiepjcnncajcaa
open Go.RowKit Go.Shelf
theorem pprod_ll (x y : Nat) (w : World) : Calls Try.prog 50 #[.int .u64 (lo x), .int .u64 (lo y)] w fun e w' => e = .returned (W (mlow x y)) ∧ Below w.heap.size w w' := by
  have h := pproduct (lo x) (lo y) (lo_word x) (lo_word y) w
  rw [lo_toNat, lo_toNat] at h
  exact h
theorem pprod_lh (x y : Nat) (hy : y < big) (w : World) : Calls Try.prog 50 #[.int .u64 (lo x), .int .u64 (hi y)] w fun e w' => e = .returned (W (mhigh x y)) ∧ Below w.heap.size w w' := by
  have h := pproduct (lo x) (hi y) (lo_word x) (hi_word hy) w
  rw [lo_toNat, hi_toNat] at h
  exact h
/-- The last sum of a product. -/
theorem padd_high (x y : Nat) (hx : hi x = 0) (hy : y < big) (hh : hi (mhigh x y) = 0) (w : World) :
    Calls Try.prog 90 #[W (mlow x y), .agg #[.int .u64 (lo (mhigh x y)), .int .u64 0]] w fun e w' => e = .returned (.tuple #[W (mulV x y), .bool (mulB x y)]) ∧ Below w.heap.size w w' := by
  obtain ⟨e1, e2⟩ := high_shift hh
  have hs := mul_split (y := y) hx
  have hl := high_lt hh
  rw [← e1, ← e2]
  by_cases h : x * y < big
  · obtain ⟨v, b⟩ := mulV_yes h
    rw [v, b, hs]
    exact padd_fits _ _ (mlow_lt x y) hl (by rw [← hs]; exact h) w
  · obtain ⟨v, b⟩ := mulV_no h
    rw [v, b]
    exact padd_over _ _ (mlow_lt x y) hl (by rw [← hs]; exact h) w
set_option maxHeartbeats 4000000 in
theorem pmul (a b : Nat) (ha : a < big) (hb : b < big) (w : World) :
    Calls Try.prog 49 #[W a, W b] w fun e w' => e = .returned (.tuple #[W (mulV a b), .bool (mulB a b)]) ∧ Below w.heap.size w w' := by
  by_cases hxa : hi a = 0
  · have t1 : (hi a != 0) = false := by simp [hxa]
    have HX := Lib.hid hxa
    clear hxa
    go_enter Try.func49, Try.ntmps49
    go_upto_region 5 with (fail)
    have hxa := HX.out
    have L : Row (((w.alloc (.cells (Wc a) 72)).alloc (.cells (Wc b) 72)).alloc (.cells #[.int .u64 0, .int .u64 0] 72)) (w.heap.size) 72 (Wc a) ∧ Row (((w.alloc (.cells (Wc a) 72)).alloc (.cells (Wc b) 72)).alloc (.cells #[.int .u64 0, .int .u64 0] 72)) (w.heap.size + 1) 72 (Wc b) ∧ Row (((w.alloc (.cells (Wc a) 72)).alloc (.cells (Wc b) 72)).alloc (.cells #[.int .u64 0, .int .u64 0] 72)) (w.heap.size + 1 + 1) 72 #[.int .u64 0, .int .u64 0] ∧ Below w.heap.size w (((w.alloc (.cells (Wc a) 72)).alloc (.cells (Wc b) 72)).alloc (.cells #[.int .u64 0, .int .u64 0] 72)) := by
      refine ⟨?_, ?_, ?_, ?_⟩
      · (repeat (first | assumption | (refine row_new ?_; (first | (simp; done) | omega)) | refine row_alloc ?_ _ | refine row_drew ?_ | refine row_call ?_ (by assumption)))
      · (repeat (first | assumption | (refine row_new ?_; (first | (simp; done) | omega)) | refine row_alloc ?_ _ | refine row_drew ?_ | refine row_call ?_ (by assumption)))
      · (repeat (first | assumption | (refine row_new ?_; (first | (simp; done) | omega)) | refine row_alloc ?_ _ | refine row_drew ?_ | refine row_call ?_ (by assumption)))
      · (repeat (first | exact Below.refl _ _ | refine Below.setCell ?_ (by first | (simp; done) | (simp; omega) | omega) _ | refine Below.alloc ?_ (by first | (simp; done) | (simp; omega) | omega) _ | refine Below.drew ?_ | refine Below.trans ?_ (Below.mono (by assumption) (by first | (simp; done) | (simp; omega) | omega))))
    generalize (((w.alloc (.cells (Wc a) 72)).alloc (.cells (Wc b) 72)).alloc (.cells #[.int .u64 0, .int .u64 0] 72)) = w2 at L ⊢
    have hw2 := row_lt L.2.2.1
    have HX := Lib.hid hxa
    refine wp_region_free2 [0, 1, 2, 3, 4, 5, 6, 7, 8, 9] [] [0, 1, 2, 3, 4, 5, 6, 7, 8, 9, 10, 11] (10, 72, #[.int .u64 0, .int .u64 0]) (11, 72, #[.int .u64 0, .int .u64 0]) 6 7 12 (fun w' => Row w' (w.heap.size) 72 (Wc a) ∧ Row w' (w.heap.size + 1) 72 (Wc b) ∧ Row w' (w.heap.size + 1 + 1) 72 #[.int .u64 0, .int .u64 0] ∧ Below w.heap.size w w') (by kernel_rfl) (by kernel_rfl) ⟨_, _, rfl, rfl, rfl, fun ρ w' => by go_simp⟩ ⟨_, _, rfl, rfl, rfl, fun ρ w' => by go_simp⟩ rfl rfl (by simp) (by simp) (fun _ h => ⟨row_alloc h.1 _, row_alloc h.2.1 _, row_alloc h.2.2.1 _, h.2.2.2.alloc h.2.2.2.size _⟩) (fun _ h => ⟨row_alloc h.1 _, row_alloc h.2.1 _, row_alloc h.2.2.1 _, h.2.2.2.alloc h.2.2.2.size _⟩) (fun _ _ d _ _ h => by cases d <;> exact h) ?_ ?_
    · exact ⟨L.1, L.2.1, L.2.2.1, L.2.2.2.drew⟩
    (refine plan_pure ?_ rfl rfl (fun w' => ?_) ?_; rotate_left; (go_simp; try with_reducible rfl); simp only [Act.put, List.setIfInBounds_toArray, List.set_cons_zero, List.set_cons_succ])
    (refine plan_val ?_ rfl rfl rfl (fun w' hS => ?_) ?_; rotate_left; (obtain ⟨A00, A01, A02, A03⟩ := row_two hS.1; obtain ⟨A10, A11, A12, A13⟩ := row_two hS.2.1; obtain ⟨A20, A21, A22, A23⟩ := row_two hS.2.2.1; go_simp; try with_reducible rfl); simp only [Act.put, List.setIfInBounds_toArray, List.set_cons_zero, List.set_cons_succ])
    (refine plan_pure ?_ rfl rfl (fun w' => ?_) ?_; rotate_left; (go_simp; try with_reducible rfl); simp only [Act.put, List.setIfInBounds_toArray, List.set_cons_zero, List.set_cons_succ])
    (refine plan_val ?_ rfl rfl rfl (fun w' hS => ?_) ?_; rotate_left; (obtain ⟨A00, A01, A02, A03⟩ := row_two hS.1; obtain ⟨A10, A11, A12, A13⟩ := row_two hS.2.1; obtain ⟨A20, A21, A22, A23⟩ := row_two hS.2.2.1; go_simp; try with_reducible rfl); simp only [Act.put, List.setIfInBounds_toArray, List.set_cons_zero, List.set_cons_succ])
    refine plan_call (W (mlow a b)) 50 #[.int .u64 (lo a), .int .u64 (lo b)] rfl rfl rfl (fun _ _ h hb => ⟨row_call h.1 hb, row_call h.2.1 hb, row_call h.2.2.1 hb, h.2.2.2.trans (hb.mono h.2.2.2.size)⟩) (fun w' hS => by obtain ⟨A00, A01, A02, A03⟩ := row_two hS.1; obtain ⟨A10, A11, A12, A13⟩ := row_two hS.2.1; obtain ⟨A20, A21, A22, A23⟩ := row_two hS.2.2.1; go_simp) (fun w' hS => pprod_ll a b w') ?_
    simp only [Act.put, List.setIfInBounds_toArray, List.set_cons_zero, List.set_cons_succ]
    (refine plan_pure ?_ rfl rfl (fun w' => ?_) ?_; rotate_left; (go_simp; try with_reducible rfl); simp only [Act.put, List.setIfInBounds_toArray, List.set_cons_zero, List.set_cons_succ])
    (refine plan_val ?_ rfl rfl rfl (fun w' hS => ?_) ?_; rotate_left; (obtain ⟨A00, A01, A02, A03⟩ := row_two hS.1; obtain ⟨A10, A11, A12, A13⟩ := row_two hS.2.1; obtain ⟨A20, A21, A22, A23⟩ := row_two hS.2.2.1; go_simp; try with_reducible rfl); simp only [Act.put, List.setIfInBounds_toArray, List.set_cons_zero, List.set_cons_succ])
    (refine plan_pure ?_ rfl rfl (fun w' => ?_) ?_; rotate_left; (go_simp; try with_reducible rfl); simp only [Act.put, List.setIfInBounds_toArray, List.set_cons_zero, List.set_cons_succ])
    (refine plan_val ?_ rfl rfl rfl (fun w' hS => ?_) ?_; rotate_left; (obtain ⟨A00, A01, A02, A03⟩ := row_two hS.1; obtain ⟨A10, A11, A12, A13⟩ := row_two hS.2.1; obtain ⟨A20, A21, A22, A23⟩ := row_two hS.2.2.1; go_simp; try with_reducible rfl); simp only [Act.put, List.setIfInBounds_toArray, List.set_cons_zero, List.set_cons_succ])
    refine plan_call (W (mhigh a b)) 50 #[.int .u64 (lo a), .int .u64 (hi b)] rfl rfl rfl (fun _ _ h hb => ⟨row_call h.1 hb, row_call h.2.1 hb, row_call h.2.2.1 hb, h.2.2.2.trans (hb.mono h.2.2.2.size)⟩) (fun w' hS => by obtain ⟨A00, A01, A02, A03⟩ := row_two hS.1; obtain ⟨A10, A11, A12, A13⟩ := row_two hS.2.1; obtain ⟨A20, A21, A22, A23⟩ := row_two hS.2.2.1; go_simp) (fun w' hS => pprod_lh a b hb w') ?_
    simp only [Act.put, List.setIfInBounds_toArray, List.set_cons_zero, List.set_cons_succ]
    refine plan_nil ?_
    intro g k w3 L3 Rg Rk hgk hg hk
    simp only [List.drop_succ_cons, List.drop_zero]
    try simp only [Act.put, List.setIfInBounds_toArray, List.set_cons_zero, List.set_cons_succ]
    obtain ⟨G0, G1, G2, G3⟩ := row_two Rg
    obtain ⟨K0, K1, K2, K3⟩ := row_two Rk
    go_upto_region 6 with (fail)
    have Rg5 := row_two_other (u := .int .u64 (hi (mhigh a b))) (v := .int .u64 (lo (mhigh a b))) (row_two_set (u := .int .u64 (hi (mlow a b))) (v := .int .u64 (lo (mlow a b))) Rg) hgk
    have Rk5 := row_two_set (u := .int .u64 (hi (mhigh a b))) (v := .int .u64 (lo (mhigh a b))) (row_two_other (u := .int .u64 (hi (mlow a b))) (v := .int .u64 (lo (mlow a b))) Rk (Ne.symm hgk))
    have R45 := row_two_other (c := k) (u := .int .u64 (hi (mhigh a b))) (v := .int .u64 (lo (mhigh a b))) (row_two_other (c := g) (u := .int .u64 (hi (mlow a b))) (v := .int .u64 (lo (mlow a b))) L3.2.2.1 (by omega)) (by omega)
    have B5 := (((L3.2.2.2.setCell (p := ⟨g, 0, none⟩) (show w.heap.size ≤ g by omega) (.int .u64 (hi (mlow a b)))).setCell (p := ⟨g, 1, none⟩) (show w.heap.size ≤ g by omega) (.int .u64 (lo (mlow a b)))).setCell (p := ⟨k, 0, none⟩) (show w.heap.size ≤ k by omega) (.int .u64 (hi (mhigh a b)))).setCell (p := ⟨k, 1, none⟩) (show w.heap.size ≤ k by omega) (.int .u64 (lo (mhigh a b)))
    generalize (((w3.setCell ⟨g, 0, none⟩ (.int .u64 (hi (mlow a b)))).setCell ⟨g, 1, none⟩ (.int .u64 (lo (mlow a b)))).setCell ⟨k, 0, none⟩ (.int .u64 (hi (mhigh a b)))).setCell ⟨k, 1, none⟩ (.int .u64 (lo (mhigh a b))) = w5 at Rg5 Rk5 R45 B5 ⊢
    clear L L3 Rg Rk G0 G1 G2 G3 K0 K1 K2 K3
    obtain ⟨G0, G1, G2, G3⟩ := row_two Rg5
    obtain ⟨K0, K1, K2, K3⟩ := row_two Rk5
    obtain ⟨Z0, Z1, Z2, Z3⟩ := row_two R45
    have z5 := B5.size
    by_cases hh : hi (mhigh a b) = 0
    · have HA := Lib.hid (fun w' => padd_high a b hxa hb hh w')
      have tst : (hi (mhigh a b) != 0) = false := by simp [hh]
      clear hh
      go_wp2_with (go_at_call 90; refine (HA.out _).mono ?_; rintro e w6 ⟨rfl, hb6⟩; have j4 := row_call R45 hb6; obtain ⟨Y0, Y1, Y2, Y3⟩ := row_two j4; have z6 := hb6.size)
      simp [bodyPost, results, Try.results49, go_sem, Y0, Y1]
      (repeat (first | exact Below.refl _ _ | refine Below.setCell ?_ (by first | (simp; done) | (simp; omega) | omega) _ | refine Below.alloc ?_ (by first | (simp; done) | (simp; omega) | omega) _ | refine Below.drew ?_ | refine Below.trans ?_ (Below.mono (by assumption) (by first | (simp; done) | (simp; omega) | omega))))
    · obtain ⟨v1, v2⟩ := mulV_no (mul_high hxa hh)
      have HV := Lib.hid (And.intro v1 v2)
      have tst : (hi (mhigh a b) != 0) = true := by simp [hh]
      clear v1 v2 hh
      go_wp2
      simp [bodyPost, results, Try.results49, go_sem, Z0, Z1, HV.out.1, HV.out.2]
      first | (refine ⟨⟨rfl, rfl⟩, ?_⟩; (repeat (first | exact Below.refl _ _ | refine Below.setCell ?_ (by first | (simp; done) | (simp; omega) | omega) _ | refine Below.alloc ?_ (by first | (simp; done) | (simp; omega) | omega) _ | refine Below.drew ?_ | refine Below.trans ?_ (Below.mono (by assumption) (by first | (simp; done) | (simp; omega) | omega))))) | (repeat (first | exact Below.refl _ _ | refine Below.setCell ?_ (by first | (simp; done) | (simp; omega) | omega) _ | refine Below.alloc ?_ (by first | (simp; done) | (simp; omega) | omega) _ | refine Below.drew ?_ | refine Below.trans ?_ (Below.mono (by assumption) (by first | (simp; done) | (simp; omega) | omega))))
  · by_cases hxb : hi b = 0
    · have t1 : (hi a != 0) = true := by simp [hxa]
      have t2 : (hi b != 0) = false := by simp [hxb]
      have HX := Lib.hid hxb
      clear hxb hxa
      obtain ⟨c1, c2⟩ := mul_comm' a b
      rw [c1, c2]
      clear c1 c2
      go_enter Try.func49, Try.ntmps49
      go_upto_region 5 with (fail)
      have hxb := HX.out
      have L : Row (((w.alloc (.cells (Wc b) 72)).alloc (.cells (Wc a) 72)).alloc (.cells #[.int .u64 0, .int .u64 0] 72)) (w.heap.size) 72 (Wc b) ∧ Row (((w.alloc (.cells (Wc b) 72)).alloc (.cells (Wc a) 72)).alloc (.cells #[.int .u64 0, .int .u64 0] 72)) (w.heap.size + 1) 72 (Wc a) ∧ Row (((w.alloc (.cells (Wc b) 72)).alloc (.cells (Wc a) 72)).alloc (.cells #[.int .u64 0, .int .u64 0] 72)) (w.heap.size + 1 + 1) 72 #[.int .u64 0, .int .u64 0] ∧ Below w.heap.size w (((w.alloc (.cells (Wc b) 72)).alloc (.cells (Wc a) 72)).alloc (.cells #[.int .u64 0, .int .u64 0] 72)) := by
        refine ⟨?_, ?_, ?_, ?_⟩
        · (repeat (first | assumption | (refine row_new ?_; (first | (simp; done) | omega)) | refine row_alloc ?_ _ | refine row_drew ?_ | refine row_call ?_ (by assumption)))
        · (repeat (first | assumption | (refine row_new ?_; (first | (simp; done) | omega)) | refine row_alloc ?_ _ | refine row_drew ?_ | refine row_call ?_ (by assumption)))
        · (repeat (first | assumption | (refine row_new ?_; (first | (simp; done) | omega)) | refine row_alloc ?_ _ | refine row_drew ?_ | refine row_call ?_ (by assumption)))
        · (repeat (first | exact Below.refl _ _ | refine Below.setCell ?_ (by first | (simp; done) | (simp; omega) | omega) _ | refine Below.alloc ?_ (by first | (simp; done) | (simp; omega) | omega) _ | refine Below.drew ?_ | refine Below.trans ?_ (Below.mono (by assumption) (by first | (simp; done) | (simp; omega) | omega))))
      generalize (((w.alloc (.cells (Wc b) 72)).alloc (.cells (Wc a) 72)).alloc (.cells #[.int .u64 0, .int .u64 0] 72)) = w2 at L ⊢
      have hw2 := row_lt L.2.2.1
      have HX := Lib.hid hxb
      refine wp_region_free2 [0, 1, 2, 3, 4, 5, 6, 7, 8, 9] [] [0, 1, 2, 3, 4, 5, 6, 7, 8, 9, 10, 11] (10, 72, #[.int .u64 0, .int .u64 0]) (11, 72, #[.int .u64 0, .int .u64 0]) 6 7 12 (fun w' => Row w' (w.heap.size) 72 (Wc b) ∧ Row w' (w.heap.size + 1) 72 (Wc a) ∧ Row w' (w.heap.size + 1 + 1) 72 #[.int .u64 0, .int .u64 0] ∧ Below w.heap.size w w') (by kernel_rfl) (by kernel_rfl) ⟨_, _, rfl, rfl, rfl, fun ρ w' => by go_simp⟩ ⟨_, _, rfl, rfl, rfl, fun ρ w' => by go_simp⟩ rfl rfl (by simp) (by simp) (fun _ h => ⟨row_alloc h.1 _, row_alloc h.2.1 _, row_alloc h.2.2.1 _, h.2.2.2.alloc h.2.2.2.size _⟩) (fun _ h => ⟨row_alloc h.1 _, row_alloc h.2.1 _, row_alloc h.2.2.1 _, h.2.2.2.alloc h.2.2.2.size _⟩) (fun _ _ d _ _ h => by cases d <;> exact h) ?_ ?_
      · exact ⟨L.1, L.2.1, L.2.2.1, L.2.2.2.drew⟩
      (refine plan_pure ?_ rfl rfl (fun w' => ?_) ?_; rotate_left; (go_simp; try with_reducible rfl); simp only [Act.put, List.setIfInBounds_toArray, List.set_cons_zero, List.set_cons_succ])
      (refine plan_val ?_ rfl rfl rfl (fun w' hS => ?_) ?_; rotate_left; (obtain ⟨A00, A01, A02, A03⟩ := row_two hS.1; obtain ⟨A10, A11, A12, A13⟩ := row_two hS.2.1; obtain ⟨A20, A21, A22, A23⟩ := row_two hS.2.2.1; go_simp; try with_reducible rfl); simp only [Act.put, List.setIfInBounds_toArray, List.set_cons_zero, List.set_cons_succ])
      (refine plan_pure ?_ rfl rfl (fun w' => ?_) ?_; rotate_left; (go_simp; try with_reducible rfl); simp only [Act.put, List.setIfInBounds_toArray, List.set_cons_zero, List.set_cons_succ])
      (refine plan_val ?_ rfl rfl rfl (fun w' hS => ?_) ?_; rotate_left; (obtain ⟨A00, A01, A02, A03⟩ := row_two hS.1; obtain ⟨A10, A11, A12, A13⟩ := row_two hS.2.1; obtain ⟨A20, A21, A22, A23⟩ := row_two hS.2.2.1; go_simp; try with_reducible rfl); simp only [Act.put, List.setIfInBounds_toArray, List.set_cons_zero, List.set_cons_succ])
      refine plan_call (W (mlow b a)) 50 #[.int .u64 (lo b), .int .u64 (lo a)] rfl rfl rfl (fun _ _ h hb => ⟨row_call h.1 hb, row_call h.2.1 hb, row_call h.2.2.1 hb, h.2.2.2.trans (hb.mono h.2.2.2.size)⟩) (fun w' hS => by obtain ⟨A00, A01, A02, A03⟩ := row_two hS.1; obtain ⟨A10, A11, A12, A13⟩ := row_two hS.2.1; obtain ⟨A20, A21, A22, A23⟩ := row_two hS.2.2.1; go_simp) (fun w' hS => pprod_ll b a w') ?_
      simp only [Act.put, List.setIfInBounds_toArray, List.set_cons_zero, List.set_cons_succ]
      (refine plan_pure ?_ rfl rfl (fun w' => ?_) ?_; rotate_left; (go_simp; try with_reducible rfl); simp only [Act.put, List.setIfInBounds_toArray, List.set_cons_zero, List.set_cons_succ])
      (refine plan_val ?_ rfl rfl rfl (fun w' hS => ?_) ?_; rotate_left; (obtain ⟨A00, A01, A02, A03⟩ := row_two hS.1; obtain ⟨A10, A11, A12, A13⟩ := row_two hS.2.1; obtain ⟨A20, A21, A22, A23⟩ := row_two hS.2.2.1; go_simp; try with_reducible rfl); simp only [Act.put, List.setIfInBounds_toArray, List.set_cons_zero, List.set_cons_succ])
      (refine plan_pure ?_ rfl rfl (fun w' => ?_) ?_; rotate_left; (go_simp; try with_reducible rfl); simp only [Act.put, List.setIfInBounds_toArray, List.set_cons_zero, List.set_cons_succ])
      (refine plan_val ?_ rfl rfl rfl (fun w' hS => ?_) ?_; rotate_left; (obtain ⟨A00, A01, A02, A03⟩ := row_two hS.1; obtain ⟨A10, A11, A12, A13⟩ := row_two hS.2.1; obtain ⟨A20, A21, A22, A23⟩ := row_two hS.2.2.1; go_simp; try with_reducible rfl); simp only [Act.put, List.setIfInBounds_toArray, List.set_cons_zero, List.set_cons_succ])
      refine plan_call (W (mhigh b a)) 50 #[.int .u64 (lo b), .int .u64 (hi a)] rfl rfl rfl (fun _ _ h hb => ⟨row_call h.1 hb, row_call h.2.1 hb, row_call h.2.2.1 hb, h.2.2.2.trans (hb.mono h.2.2.2.size)⟩) (fun w' hS => by obtain ⟨A00, A01, A02, A03⟩ := row_two hS.1; obtain ⟨A10, A11, A12, A13⟩ := row_two hS.2.1; obtain ⟨A20, A21, A22, A23⟩ := row_two hS.2.2.1; go_simp) (fun w' hS => pprod_lh b a ha w') ?_
      simp only [Act.put, List.setIfInBounds_toArray, List.set_cons_zero, List.set_cons_succ]
      refine plan_nil ?_
      intro g k w3 L3 Rg Rk hgk hg hk
      simp only [List.drop_succ_cons, List.drop_zero]
      try simp only [Act.put, List.setIfInBounds_toArray, List.set_cons_zero, List.set_cons_succ]
      obtain ⟨G0, G1, G2, G3⟩ := row_two Rg
      obtain ⟨K0, K1, K2, K3⟩ := row_two Rk
      go_upto_region 6 with (fail)
      have Rg5 := row_two_other (u := .int .u64 (hi (mhigh b a))) (v := .int .u64 (lo (mhigh b a))) (row_two_set (u := .int .u64 (hi (mlow b a))) (v := .int .u64 (lo (mlow b a))) Rg) hgk
      have Rk5 := row_two_set (u := .int .u64 (hi (mhigh b a))) (v := .int .u64 (lo (mhigh b a))) (row_two_other (u := .int .u64 (hi (mlow b a))) (v := .int .u64 (lo (mlow b a))) Rk (Ne.symm hgk))
      have R45 := row_two_other (c := k) (u := .int .u64 (hi (mhigh b a))) (v := .int .u64 (lo (mhigh b a))) (row_two_other (c := g) (u := .int .u64 (hi (mlow b a))) (v := .int .u64 (lo (mlow b a))) L3.2.2.1 (by omega)) (by omega)
      have B5 := (((L3.2.2.2.setCell (p := ⟨g, 0, none⟩) (show w.heap.size ≤ g by omega) (.int .u64 (hi (mlow b a)))).setCell (p := ⟨g, 1, none⟩) (show w.heap.size ≤ g by omega) (.int .u64 (lo (mlow b a)))).setCell (p := ⟨k, 0, none⟩) (show w.heap.size ≤ k by omega) (.int .u64 (hi (mhigh b a)))).setCell (p := ⟨k, 1, none⟩) (show w.heap.size ≤ k by omega) (.int .u64 (lo (mhigh b a)))
      generalize (((w3.setCell ⟨g, 0, none⟩ (.int .u64 (hi (mlow b a)))).setCell ⟨g, 1, none⟩ (.int .u64 (lo (mlow b a)))).setCell ⟨k, 0, none⟩ (.int .u64 (hi (mhigh b a)))).setCell ⟨k, 1, none⟩ (.int .u64 (lo (mhigh b a))) = w5 at Rg5 Rk5 R45 B5 ⊢
      clear L L3 Rg Rk G0 G1 G2 G3 K0 K1 K2 K3
      obtain ⟨G0, G1, G2, G3⟩ := row_two Rg5
      obtain ⟨K0, K1, K2, K3⟩ := row_two Rk5
      obtain ⟨Z0, Z1, Z2, Z3⟩ := row_two R45
      have z5 := B5.size
      by_cases hh : hi (mhigh b a) = 0
      · have HA := Lib.hid (fun w' => padd_high b a hxb ha hh w')
        have tst : (hi (mhigh b a) != 0) = false := by simp [hh]
        clear hh
        go_wp2_with (go_at_call 90; refine (HA.out _).mono ?_; rintro e w6 ⟨rfl, hb6⟩; have j4 := row_call R45 hb6; obtain ⟨Y0, Y1, Y2, Y3⟩ := row_two j4; have z6 := hb6.size)
        simp [bodyPost, results, Try.results49, go_sem, Y0, Y1]
        (repeat (first | exact Below.refl _ _ | refine Below.setCell ?_ (by first | (simp; done) | (simp; omega) | omega) _ | refine Below.alloc ?_ (by first | (simp; done) | (simp; omega) | omega) _ | refine Below.drew ?_ | refine Below.trans ?_ (Below.mono (by assumption) (by first | (simp; done) | (simp; omega) | omega))))
      · obtain ⟨v1, v2⟩ := mulV_no (mul_high hxb hh)
        have HV := Lib.hid (And.intro v1 v2)
        have tst : (hi (mhigh b a) != 0) = true := by simp [hh]
        clear v1 v2 hh
        go_wp2
        simp [bodyPost, results, Try.results49, go_sem, Z0, Z1, HV.out.1, HV.out.2]
        first | (refine ⟨⟨rfl, rfl⟩, ?_⟩; (repeat (first | exact Below.refl _ _ | refine Below.setCell ?_ (by first | (simp; done) | (simp; omega) | omega) _ | refine Below.alloc ?_ (by first | (simp; done) | (simp; omega) | omega) _ | refine Below.drew ?_ | refine Below.trans ?_ (Below.mono (by assumption) (by first | (simp; done) | (simp; omega) | omega))))) | (repeat (first | exact Below.refl _ _ | refine Below.setCell ?_ (by first | (simp; done) | (simp; omega) | omega) _ | refine Below.alloc ?_ (by first | (simp; done) | (simp; omega) | omega) _ | refine Below.drew ?_ | refine Below.trans ?_ (Below.mono (by assumption) (by first | (simp; done) | (simp; omega) | omega))))
    · obtain ⟨v1, v2⟩ := mulV_no (mul_both hxa hxb)
      rw [v1, v2]
      have t1 : (hi a != 0) = true := by simp [hxa]
      have t2 : (hi b != 0) = true := by simp [hxb]
      clear v1 v2 hxa hxb
      go_enter Try.func49, Try.ntmps49
      go_wp2
      simp [bodyPost, results, Try.results49, go_sem]
      refine ⟨⟨rfl, rfl⟩, ?_⟩
      (repeat (first | exact Below.refl _ _ | refine Below.setCell ?_ (by first | (simp; done) | (simp; omega) | omega) _ | refine Below.alloc ?_ (by first | (simp; done) | (simp; omega) | omega) _ | refine Below.drew ?_ | refine Below.trans ?_ (Below.mono (by assumption) (by first | (simp; done) | (simp; omega) | omega))))
end Go.Proofs.Ytaiepjcnncajcaa
end
section
/- Spreads of marks: when one is close to another, walked. -/
set_option linter.unusedVariables false
set_option linter.unusedSimpArgs false
set_option linter.unusedSectionVars false
set_option linter.unnecessarySimpa false
namespace Go.Proofs.Ytaiepjcnncajcaa
open Go.RowKit Go.Shelf
def closeP (na sa qa nb sb qb k : Int) : Prop :=
  rightP na sa qa ∧ rightP nb sb qb ∧ (1 ≤ k ∧ k ≤ 64) ∧ (6 * k - 1) * na ≤ 6 * k * nb ∧ topN na sa qa * nb.toNat * (6 * k - 1).toNat ≤ topN nb sb qb * na.toNat * (6 * k).toNat
instance (na sa qa nb sb qb k : Int) : Decidable (closeP na sa qa nb sb qb k) := by unfold closeP; infer_instance
theorem pofI (x : Int) (h : Word x) (w : World) : Calls Try.prog 51 #[.int .u64 x] w fun e w' => e = .returned (W x.toNat) ∧ Below w.heap.size w w' := by
  have := pof x.toNat (by unfold Word at h; omega) w
  rw [Int.toNat_of_nonneg h.1] at this
  exact this
theorem mul_smallN {a b A B : Nat} (ha : a ≤ A) (hb : b ≤ B) (h : A * B < big) : mulV a b = a * b ∧ mulB a b = true := by
  have : a * b < big := Nat.lt_of_le_of_lt (Nat.mul_le_mul ha hb) h
  unfold mulV mulB
  rw [if_pos this]
  exact ⟨rfl, decide_eq_true this⟩
theorem cmp_dec (a b : Nat) : decide (0 ≤ cmp a b) = decide (b ≤ a) := by
  rcases Nat.lt_trichotomy a b with h | h | h
  · have : ¬ b ≤ a := by omega
    simp [cmp_lt h, this]
  · subst h
    simp [cmp_eq]
  · have : b ≤ a := by omega
    simp [cmp_gt h, this]
theorem pclose_a (sqa tka na sa qa lwa hga sqb tkb nb sb qb lwb hgb k : Int) (w : World) (ha : ¬ rightP na sa qa) : Calls Try.prog 17 #[.agg #[.int .i64 sqa, .int .i64 tka, .int .i64 na, .int .i64 sa, .int .i64 qa, .int .i64 lwa, .int .i64 hga], .agg #[.int .i64 sqb, .int .i64 tkb, .int .i64 nb, .int .i64 sb, .int .i64 qb, .int .i64 lwb, .int .i64 hgb], .int .i64 k] w fun e w' => e = .returned (.bool false) ∧ Below w.heap.size w w' := by
  have PRa := fun w => pright sqa tka na sa qa lwa hga w
  rw [decide_eq_false ha] at PRa
  have PRa := Lib.hid PRa
  clear ha
  go_enter Try.func17, Try.ntmps17
  go_wp2_with (first | (go_at_call 44; with_reducible refine (PRa.out _).mono ?_; rintro e w1 ⟨rfl, hb1⟩; have hz1 := hb1.size; (try simp at hz1); have o1 : Below w.heap.size w w1 := (by (repeat (first | exact Below.refl _ _ | refine Below.setCell ?_ (by first | (simp; done) | (simp; omega) | omega) _ | refine Below.alloc ?_ (by first | (simp; done) | (simp; omega) | omega) _ | refine Below.drew ?_ | refine Below.trans ?_ (Below.mono (by assumption) (by first | (simp; done) | (simp; omega) | omega))))); have q1_0 : w.heap.size < w1.heap.size := (by omega); have r1_0 : Row w1 (w.heap.size) 33 #[.int .i64 sqa, .int .i64 tka, .int .i64 na, .int .i64 sa, .int .i64 qa, .int .i64 lwa, .int .i64 hga] := row_call (by (repeat (first | assumption | (refine row_new ?_; (first | (simp; done) | omega)) | refine row_alloc ?_ _ | refine row_drew ?_ | refine row_call ?_ (by assumption)))) hb1; obtain ⟨c1_0a, c1_0b, c1_0c, c1_0d, c1_0e, c1_0f, c1_0g, f1_0a, f1_0b, f1_0c, f1_0d, f1_0e, f1_0f, f1_0g⟩ := row_seven r1_0; have q1_1 : w.heap.size + 1 < w1.heap.size := (by omega); have r1_1 : Row w1 (w.heap.size + 1) 33 #[.int .i64 sqb, .int .i64 tkb, .int .i64 nb, .int .i64 sb, .int .i64 qb, .int .i64 lwb, .int .i64 hgb] := row_call (by (repeat (first | assumption | (refine row_new ?_; (first | (simp; done) | omega)) | refine row_alloc ?_ _ | refine row_drew ?_ | refine row_call ?_ (by assumption)))) hb1; obtain ⟨c1_1a, c1_1b, c1_1c, c1_1d, c1_1e, c1_1f, c1_1g, f1_1a, f1_1b, f1_1c, f1_1d, f1_1e, f1_1f, f1_1g⟩ := row_seven r1_1))
  go_ret
  exact ⟨rfl, by (repeat (first | exact Below.refl _ _ | refine Below.setCell ?_ (by first | (simp; done) | (simp; omega) | omega) _ | refine Below.alloc ?_ (by first | (simp; done) | (simp; omega) | omega) _ | refine Below.drew ?_ | refine Below.trans ?_ (Below.mono (by assumption) (by first | (simp; done) | (simp; omega) | omega))))⟩
theorem pclose_b (sqa tka na sa qa lwa hga sqb tkb nb sb qb lwb hgb k : Int) (w : World) (ha : rightP na sa qa) (hb : ¬ rightP nb sb qb) : Calls Try.prog 17 #[.agg #[.int .i64 sqa, .int .i64 tka, .int .i64 na, .int .i64 sa, .int .i64 qa, .int .i64 lwa, .int .i64 hga], .agg #[.int .i64 sqb, .int .i64 tkb, .int .i64 nb, .int .i64 sb, .int .i64 qb, .int .i64 lwb, .int .i64 hgb], .int .i64 k] w fun e w' => e = .returned (.bool false) ∧ Below w.heap.size w w' := by
  have PRa := fun w => pright sqa tka na sa qa lwa hga w
  rw [decide_eq_true ha] at PRa
  have PRa := Lib.hid PRa
  have PRb := fun w => pright sqb tkb nb sb qb lwb hgb w
  rw [decide_eq_false hb] at PRb
  have PRb := Lib.hid PRb
  clear ha hb
  go_enter Try.func17, Try.ntmps17
  go_wp2_with (first | (go_at_call 44; with_reducible refine (PRa.out _).mono ?_; rintro e w1 ⟨rfl, hb1⟩; have hz1 := hb1.size; (try simp at hz1); have o1 : Below w.heap.size w w1 := (by (repeat (first | exact Below.refl _ _ | refine Below.setCell ?_ (by first | (simp; done) | (simp; omega) | omega) _ | refine Below.alloc ?_ (by first | (simp; done) | (simp; omega) | omega) _ | refine Below.drew ?_ | refine Below.trans ?_ (Below.mono (by assumption) (by first | (simp; done) | (simp; omega) | omega))))); have q1_0 : w.heap.size < w1.heap.size := (by omega); have r1_0 : Row w1 (w.heap.size) 33 #[.int .i64 sqa, .int .i64 tka, .int .i64 na, .int .i64 sa, .int .i64 qa, .int .i64 lwa, .int .i64 hga] := row_call (by (repeat (first | assumption | (refine row_new ?_; (first | (simp; done) | omega)) | refine row_alloc ?_ _ | refine row_drew ?_ | refine row_call ?_ (by assumption)))) hb1; obtain ⟨c1_0a, c1_0b, c1_0c, c1_0d, c1_0e, c1_0f, c1_0g, f1_0a, f1_0b, f1_0c, f1_0d, f1_0e, f1_0f, f1_0g⟩ := row_seven r1_0; have q1_1 : w.heap.size + 1 < w1.heap.size := (by omega); have r1_1 : Row w1 (w.heap.size + 1) 33 #[.int .i64 sqb, .int .i64 tkb, .int .i64 nb, .int .i64 sb, .int .i64 qb, .int .i64 lwb, .int .i64 hgb] := row_call (by (repeat (first | assumption | (refine row_new ?_; (first | (simp; done) | omega)) | refine row_alloc ?_ _ | refine row_drew ?_ | refine row_call ?_ (by assumption)))) hb1; obtain ⟨c1_1a, c1_1b, c1_1c, c1_1d, c1_1e, c1_1f, c1_1g, f1_1a, f1_1b, f1_1c, f1_1d, f1_1e, f1_1f, f1_1g⟩ := row_seven r1_1) | (go_at_call 44; with_reducible refine (PRb.out _).mono ?_; rintro e w2 ⟨rfl, hb2⟩; have hz2 := hb2.size; (try simp at hz2); have o2 : Below w.heap.size w w2 := (by (repeat (first | exact Below.refl _ _ | refine Below.setCell ?_ (by first | (simp; done) | (simp; omega) | omega) _ | refine Below.alloc ?_ (by first | (simp; done) | (simp; omega) | omega) _ | refine Below.drew ?_ | refine Below.trans ?_ (Below.mono (by assumption) (by first | (simp; done) | (simp; omega) | omega))))); have q2_0 : w.heap.size < w2.heap.size := (by omega); have r2_0 : Row w2 (w.heap.size) 33 #[.int .i64 sqa, .int .i64 tka, .int .i64 na, .int .i64 sa, .int .i64 qa, .int .i64 lwa, .int .i64 hga] := row_call (by (repeat (first | assumption | (refine row_new ?_; (first | (simp; done) | omega)) | refine row_alloc ?_ _ | refine row_drew ?_ | refine row_call ?_ (by assumption)))) hb2; obtain ⟨c2_0a, c2_0b, c2_0c, c2_0d, c2_0e, c2_0f, c2_0g, f2_0a, f2_0b, f2_0c, f2_0d, f2_0e, f2_0f, f2_0g⟩ := row_seven r2_0; have q2_1 : w.heap.size + 1 < w2.heap.size := (by omega); have r2_1 : Row w2 (w.heap.size + 1) 33 #[.int .i64 sqb, .int .i64 tkb, .int .i64 nb, .int .i64 sb, .int .i64 qb, .int .i64 lwb, .int .i64 hgb] := row_call (by (repeat (first | assumption | (refine row_new ?_; (first | (simp; done) | omega)) | refine row_alloc ?_ _ | refine row_drew ?_ | refine row_call ?_ (by assumption)))) hb2; obtain ⟨c2_1a, c2_1b, c2_1c, c2_1d, c2_1e, c2_1f, c2_1g, f2_1a, f2_1b, f2_1c, f2_1d, f2_1e, f2_1f, f2_1g⟩ := row_seven r2_1))
  go_ret
  exact ⟨rfl, by (repeat (first | exact Below.refl _ _ | refine Below.setCell ?_ (by first | (simp; done) | (simp; omega) | omega) _ | refine Below.alloc ?_ (by first | (simp; done) | (simp; omega) | omega) _ | refine Below.drew ?_ | refine Below.trans ?_ (Below.mono (by assumption) (by first | (simp; done) | (simp; omega) | omega))))⟩
theorem pclose_k0 (sqa tka na sa qa lwa hga sqb tkb nb sb qb lwb hgb k : Int) (w : World) (ha : rightP na sa qa) (hb : rightP nb sb qb) (hk : k < 1) : Calls Try.prog 17 #[.agg #[.int .i64 sqa, .int .i64 tka, .int .i64 na, .int .i64 sa, .int .i64 qa, .int .i64 lwa, .int .i64 hga], .agg #[.int .i64 sqb, .int .i64 tkb, .int .i64 nb, .int .i64 sb, .int .i64 qb, .int .i64 lwb, .int .i64 hgb], .int .i64 k] w fun e w' => e = .returned (.bool false) ∧ Below w.heap.size w w' := by
  have PRa := fun w => pright sqa tka na sa qa lwa hga w
  rw [decide_eq_true ha] at PRa
  have PRa := Lib.hid PRa
  have PRb := fun w => pright sqb tkb nb sb qb lwb hgb w
  rw [decide_eq_true hb] at PRb
  have PRb := Lib.hid PRb
  clear ha hb
  go_enter Try.func17, Try.ntmps17
  go_wp2_with (first | (go_at_call 44; with_reducible refine (PRa.out _).mono ?_; rintro e w1 ⟨rfl, hb1⟩; have hz1 := hb1.size; (try simp at hz1); have o1 : Below w.heap.size w w1 := (by (repeat (first | exact Below.refl _ _ | refine Below.setCell ?_ (by first | (simp; done) | (simp; omega) | omega) _ | refine Below.alloc ?_ (by first | (simp; done) | (simp; omega) | omega) _ | refine Below.drew ?_ | refine Below.trans ?_ (Below.mono (by assumption) (by first | (simp; done) | (simp; omega) | omega))))); have q1_0 : w.heap.size < w1.heap.size := (by omega); have r1_0 : Row w1 (w.heap.size) 33 #[.int .i64 sqa, .int .i64 tka, .int .i64 na, .int .i64 sa, .int .i64 qa, .int .i64 lwa, .int .i64 hga] := row_call (by (repeat (first | assumption | (refine row_new ?_; (first | (simp; done) | omega)) | refine row_alloc ?_ _ | refine row_drew ?_ | refine row_call ?_ (by assumption)))) hb1; obtain ⟨c1_0a, c1_0b, c1_0c, c1_0d, c1_0e, c1_0f, c1_0g, f1_0a, f1_0b, f1_0c, f1_0d, f1_0e, f1_0f, f1_0g⟩ := row_seven r1_0; have q1_1 : w.heap.size + 1 < w1.heap.size := (by omega); have r1_1 : Row w1 (w.heap.size + 1) 33 #[.int .i64 sqb, .int .i64 tkb, .int .i64 nb, .int .i64 sb, .int .i64 qb, .int .i64 lwb, .int .i64 hgb] := row_call (by (repeat (first | assumption | (refine row_new ?_; (first | (simp; done) | omega)) | refine row_alloc ?_ _ | refine row_drew ?_ | refine row_call ?_ (by assumption)))) hb1; obtain ⟨c1_1a, c1_1b, c1_1c, c1_1d, c1_1e, c1_1f, c1_1g, f1_1a, f1_1b, f1_1c, f1_1d, f1_1e, f1_1f, f1_1g⟩ := row_seven r1_1) | (go_at_call 44; with_reducible refine (PRb.out _).mono ?_; rintro e w2 ⟨rfl, hb2⟩; have hz2 := hb2.size; (try simp at hz2); have o2 : Below w.heap.size w w2 := (by (repeat (first | exact Below.refl _ _ | refine Below.setCell ?_ (by first | (simp; done) | (simp; omega) | omega) _ | refine Below.alloc ?_ (by first | (simp; done) | (simp; omega) | omega) _ | refine Below.drew ?_ | refine Below.trans ?_ (Below.mono (by assumption) (by first | (simp; done) | (simp; omega) | omega))))); have q2_0 : w.heap.size < w2.heap.size := (by omega); have r2_0 : Row w2 (w.heap.size) 33 #[.int .i64 sqa, .int .i64 tka, .int .i64 na, .int .i64 sa, .int .i64 qa, .int .i64 lwa, .int .i64 hga] := row_call (by (repeat (first | assumption | (refine row_new ?_; (first | (simp; done) | omega)) | refine row_alloc ?_ _ | refine row_drew ?_ | refine row_call ?_ (by assumption)))) hb2; obtain ⟨c2_0a, c2_0b, c2_0c, c2_0d, c2_0e, c2_0f, c2_0g, f2_0a, f2_0b, f2_0c, f2_0d, f2_0e, f2_0f, f2_0g⟩ := row_seven r2_0; have q2_1 : w.heap.size + 1 < w2.heap.size := (by omega); have r2_1 : Row w2 (w.heap.size + 1) 33 #[.int .i64 sqb, .int .i64 tkb, .int .i64 nb, .int .i64 sb, .int .i64 qb, .int .i64 lwb, .int .i64 hgb] := row_call (by (repeat (first | assumption | (refine row_new ?_; (first | (simp; done) | omega)) | refine row_alloc ?_ _ | refine row_drew ?_ | refine row_call ?_ (by assumption)))) hb2; obtain ⟨c2_1a, c2_1b, c2_1c, c2_1d, c2_1e, c2_1f, c2_1g, f2_1a, f2_1b, f2_1c, f2_1d, f2_1e, f2_1f, f2_1g⟩ := row_seven r2_1))
  go_ret
  exact ⟨rfl, by (repeat (first | exact Below.refl _ _ | refine Below.setCell ?_ (by first | (simp; done) | (simp; omega) | omega) _ | refine Below.alloc ?_ (by first | (simp; done) | (simp; omega) | omega) _ | refine Below.drew ?_ | refine Below.trans ?_ (Below.mono (by assumption) (by first | (simp; done) | (simp; omega) | omega))))⟩
theorem pclose_k1 (sqa tka na sa qa lwa hga sqb tkb nb sb qb lwb hgb k : Int) (w : World) (ha : rightP na sa qa) (hb : rightP nb sb qb) (hk0 : 1 ≤ k) (hk : 64 < k) : Calls Try.prog 17 #[.agg #[.int .i64 sqa, .int .i64 tka, .int .i64 na, .int .i64 sa, .int .i64 qa, .int .i64 lwa, .int .i64 hga], .agg #[.int .i64 sqb, .int .i64 tkb, .int .i64 nb, .int .i64 sb, .int .i64 qb, .int .i64 lwb, .int .i64 hgb], .int .i64 k] w fun e w' => e = .returned (.bool false) ∧ Below w.heap.size w w' := by
  have PRa := fun w => pright sqa tka na sa qa lwa hga w
  rw [decide_eq_true ha] at PRa
  have PRa := Lib.hid PRa
  have PRb := fun w => pright sqb tkb nb sb qb lwb hgb w
  rw [decide_eq_true hb] at PRb
  have PRb := Lib.hid PRb
  clear ha hb
  go_enter Try.func17, Try.ntmps17
  go_wp2_with (first | (go_at_call 44; with_reducible refine (PRa.out _).mono ?_; rintro e w1 ⟨rfl, hb1⟩; have hz1 := hb1.size; (try simp at hz1); have o1 : Below w.heap.size w w1 := (by (repeat (first | exact Below.refl _ _ | refine Below.setCell ?_ (by first | (simp; done) | (simp; omega) | omega) _ | refine Below.alloc ?_ (by first | (simp; done) | (simp; omega) | omega) _ | refine Below.drew ?_ | refine Below.trans ?_ (Below.mono (by assumption) (by first | (simp; done) | (simp; omega) | omega))))); have q1_0 : w.heap.size < w1.heap.size := (by omega); have r1_0 : Row w1 (w.heap.size) 33 #[.int .i64 sqa, .int .i64 tka, .int .i64 na, .int .i64 sa, .int .i64 qa, .int .i64 lwa, .int .i64 hga] := row_call (by (repeat (first | assumption | (refine row_new ?_; (first | (simp; done) | omega)) | refine row_alloc ?_ _ | refine row_drew ?_ | refine row_call ?_ (by assumption)))) hb1; obtain ⟨c1_0a, c1_0b, c1_0c, c1_0d, c1_0e, c1_0f, c1_0g, f1_0a, f1_0b, f1_0c, f1_0d, f1_0e, f1_0f, f1_0g⟩ := row_seven r1_0; have q1_1 : w.heap.size + 1 < w1.heap.size := (by omega); have r1_1 : Row w1 (w.heap.size + 1) 33 #[.int .i64 sqb, .int .i64 tkb, .int .i64 nb, .int .i64 sb, .int .i64 qb, .int .i64 lwb, .int .i64 hgb] := row_call (by (repeat (first | assumption | (refine row_new ?_; (first | (simp; done) | omega)) | refine row_alloc ?_ _ | refine row_drew ?_ | refine row_call ?_ (by assumption)))) hb1; obtain ⟨c1_1a, c1_1b, c1_1c, c1_1d, c1_1e, c1_1f, c1_1g, f1_1a, f1_1b, f1_1c, f1_1d, f1_1e, f1_1f, f1_1g⟩ := row_seven r1_1) | (go_at_call 44; with_reducible refine (PRb.out _).mono ?_; rintro e w2 ⟨rfl, hb2⟩; have hz2 := hb2.size; (try simp at hz2); have o2 : Below w.heap.size w w2 := (by (repeat (first | exact Below.refl _ _ | refine Below.setCell ?_ (by first | (simp; done) | (simp; omega) | omega) _ | refine Below.alloc ?_ (by first | (simp; done) | (simp; omega) | omega) _ | refine Below.drew ?_ | refine Below.trans ?_ (Below.mono (by assumption) (by first | (simp; done) | (simp; omega) | omega))))); have q2_0 : w.heap.size < w2.heap.size := (by omega); have r2_0 : Row w2 (w.heap.size) 33 #[.int .i64 sqa, .int .i64 tka, .int .i64 na, .int .i64 sa, .int .i64 qa, .int .i64 lwa, .int .i64 hga] := row_call (by (repeat (first | assumption | (refine row_new ?_; (first | (simp; done) | omega)) | refine row_alloc ?_ _ | refine row_drew ?_ | refine row_call ?_ (by assumption)))) hb2; obtain ⟨c2_0a, c2_0b, c2_0c, c2_0d, c2_0e, c2_0f, c2_0g, f2_0a, f2_0b, f2_0c, f2_0d, f2_0e, f2_0f, f2_0g⟩ := row_seven r2_0; have q2_1 : w.heap.size + 1 < w2.heap.size := (by omega); have r2_1 : Row w2 (w.heap.size + 1) 33 #[.int .i64 sqb, .int .i64 tkb, .int .i64 nb, .int .i64 sb, .int .i64 qb, .int .i64 lwb, .int .i64 hgb] := row_call (by (repeat (first | assumption | (refine row_new ?_; (first | (simp; done) | omega)) | refine row_alloc ?_ _ | refine row_drew ?_ | refine row_call ?_ (by assumption)))) hb2; obtain ⟨c2_1a, c2_1b, c2_1c, c2_1d, c2_1e, c2_1f, c2_1g, f2_1a, f2_1b, f2_1c, f2_1d, f2_1e, f2_1f, f2_1g⟩ := row_seven r2_1))
  go_ret
  exact ⟨rfl, by (repeat (first | exact Below.refl _ _ | refine Below.setCell ?_ (by first | (simp; done) | (simp; omega) | omega) _ | refine Below.alloc ?_ (by first | (simp; done) | (simp; omega) | omega) _ | refine Below.drew ?_ | refine Below.trans ?_ (Below.mono (by assumption) (by first | (simp; done) | (simp; omega) | omega))))⟩
theorem pclose_k (sqa tka na sa qa lwa hga sqb tkb nb sb qb lwb hgb k : Int) (w : World) (ha : rightP na sa qa) (hb : rightP nb sb qb) (hk : ¬ (1 ≤ k ∧ k ≤ 64)) : Calls Try.prog 17 #[.agg #[.int .i64 sqa, .int .i64 tka, .int .i64 na, .int .i64 sa, .int .i64 qa, .int .i64 lwa, .int .i64 hga], .agg #[.int .i64 sqb, .int .i64 tkb, .int .i64 nb, .int .i64 sb, .int .i64 qb, .int .i64 lwb, .int .i64 hgb], .int .i64 k] w fun e w' => e = .returned (.bool false) ∧ Below w.heap.size w w' := by
  by_cases h0 : k < 1
  · exact pclose_k0 sqa tka na sa qa lwa hga sqb tkb nb sb qb lwb hgb k w ha hb h0
  · exact pclose_k1 sqa tka na sa qa lwa hga sqb tkb nb sb qb lwb hgb k w ha hb (by omega) (by omega)
theorem pclose_n (sqa tka na sa qa lwa hga sqb tkb nb sb qb lwb hgb k : Int) (w : World) (ha : rightP na sa qa) (hb : rightP nb sb qb) (hk : 1 ≤ k ∧ k ≤ 64) (h : 6 * k * nb < (6 * k - 1) * na) : Calls Try.prog 17 #[.agg #[.int .i64 sqa, .int .i64 tka, .int .i64 na, .int .i64 sa, .int .i64 qa, .int .i64 lwa, .int .i64 hga], .agg #[.int .i64 sqb, .int .i64 tkb, .int .i64 nb, .int .i64 sb, .int .i64 qb, .int .i64 lwb, .int .i64 hgb], .int .i64 k] w fun e w' => e = .returned (.bool false) ∧ Below w.heap.size w w' := by
  have PRa := fun w => pright sqa tka na sa qa lwa hga w
  rw [decide_eq_true ha] at PRa
  have PRa := Lib.hid PRa
  have PRb := fun w => pright sqb tkb nb sb qb lwb hgb w
  rw [decide_eq_true hb] at PRb
  have PRb := Lib.hid PRb
  have w0 : ¬ k < 1 := by omega
  have w1 : ¬ 64 < k := by omega
  have bk := hk
  obtain ⟨k0, k1⟩ := bk
  have na0 := ha.1
  have na1 := ha.2.1
  have nb0 := hb.1
  have nb1 := hb.2.1
  have m1 : 0 ≤ 6 * k * nb ∧ 6 * k * nb ≤ 25165824 := ⟨Int.mul_nonneg (by omega) (by omega), Int.mul_le_mul (show 6 * k ≤ 384 by omega) nb1 (by omega) (by decide)⟩
  have m2 : 0 ≤ (6 * k - 1) * na ∧ (6 * k - 1) * na ≤ 25165824 := ⟨Int.mul_nonneg (by omega) (by omega), Int.mul_le_mul (show 6 * k - 1 ≤ 384 by omega) na1 (by omega) (by decide)⟩
  have m3 : 0 ≤ 6 * k * na ∧ 6 * k * na ≤ 25165824 := ⟨Int.mul_nonneg (by omega) (by omega), Int.mul_le_mul (show 6 * k ≤ 384 by omega) na1 (by omega) (by decide)⟩
  have m4 : 0 ≤ (6 * k - 1) * nb ∧ (6 * k - 1) * nb ≤ 25165824 := ⟨Int.mul_nonneg (by omega) (by omega), Int.mul_le_mul (show 6 * k - 1 ≤ 384 by omega) nb1 (by omega) (by decide)⟩
  have w6 : IntKind.i64.wrap (6 * k) = 6 * k := IntWalk.i64_in _ (by omega)
  have w61 : IntKind.i64.wrap (6 * k - 1) = 6 * k - 1 := IntWalk.i64_in _ (by omega)
  have wm1 : IntKind.i64.wrap (6 * k * nb) = 6 * k * nb := IntWalk.i64_in _ (by omega)
  have wm2 : IntKind.i64.wrap ((6 * k - 1) * na) = (6 * k - 1) * na := IntWalk.i64_in _ (by omega)
  have wm3 : IntKind.i64.wrap (6 * k * na) = 6 * k * na := IntWalk.i64_in _ (by omega)
  have wm4 : IntKind.i64.wrap ((6 * k - 1) * nb) = (6 * k - 1) * nb := IntWalk.i64_in _ (by omega)
  clear ha hb hk
  go_enter Try.func17, Try.ntmps17
  go_wp2_with (first | (go_at_call 44; with_reducible refine (PRa.out _).mono ?_; rintro e w1 ⟨rfl, hb1⟩; have hz1 := hb1.size; (try simp at hz1); have o1 : Below w.heap.size w w1 := (by (repeat (first | exact Below.refl _ _ | refine Below.setCell ?_ (by first | (simp; done) | (simp; omega) | omega) _ | refine Below.alloc ?_ (by first | (simp; done) | (simp; omega) | omega) _ | refine Below.drew ?_ | refine Below.trans ?_ (Below.mono (by assumption) (by first | (simp; done) | (simp; omega) | omega))))); have q1_0 : w.heap.size < w1.heap.size := (by omega); have r1_0 : Row w1 (w.heap.size) 33 #[.int .i64 sqa, .int .i64 tka, .int .i64 na, .int .i64 sa, .int .i64 qa, .int .i64 lwa, .int .i64 hga] := row_call (by (repeat (first | assumption | (refine row_new ?_; (first | (simp; done) | omega)) | refine row_alloc ?_ _ | refine row_drew ?_ | refine row_call ?_ (by assumption)))) hb1; obtain ⟨c1_0a, c1_0b, c1_0c, c1_0d, c1_0e, c1_0f, c1_0g, f1_0a, f1_0b, f1_0c, f1_0d, f1_0e, f1_0f, f1_0g⟩ := row_seven r1_0; have q1_1 : w.heap.size + 1 < w1.heap.size := (by omega); have r1_1 : Row w1 (w.heap.size + 1) 33 #[.int .i64 sqb, .int .i64 tkb, .int .i64 nb, .int .i64 sb, .int .i64 qb, .int .i64 lwb, .int .i64 hgb] := row_call (by (repeat (first | assumption | (refine row_new ?_; (first | (simp; done) | omega)) | refine row_alloc ?_ _ | refine row_drew ?_ | refine row_call ?_ (by assumption)))) hb1; obtain ⟨c1_1a, c1_1b, c1_1c, c1_1d, c1_1e, c1_1f, c1_1g, f1_1a, f1_1b, f1_1c, f1_1d, f1_1e, f1_1f, f1_1g⟩ := row_seven r1_1) | (go_at_call 44; with_reducible refine (PRb.out _).mono ?_; rintro e w2 ⟨rfl, hb2⟩; have hz2 := hb2.size; (try simp at hz2); have o2 : Below w.heap.size w w2 := (by (repeat (first | exact Below.refl _ _ | refine Below.setCell ?_ (by first | (simp; done) | (simp; omega) | omega) _ | refine Below.alloc ?_ (by first | (simp; done) | (simp; omega) | omega) _ | refine Below.drew ?_ | refine Below.trans ?_ (Below.mono (by assumption) (by first | (simp; done) | (simp; omega) | omega))))); have q2_0 : w.heap.size < w2.heap.size := (by omega); have r2_0 : Row w2 (w.heap.size) 33 #[.int .i64 sqa, .int .i64 tka, .int .i64 na, .int .i64 sa, .int .i64 qa, .int .i64 lwa, .int .i64 hga] := row_call (by (repeat (first | assumption | (refine row_new ?_; (first | (simp; done) | omega)) | refine row_alloc ?_ _ | refine row_drew ?_ | refine row_call ?_ (by assumption)))) hb2; obtain ⟨c2_0a, c2_0b, c2_0c, c2_0d, c2_0e, c2_0f, c2_0g, f2_0a, f2_0b, f2_0c, f2_0d, f2_0e, f2_0f, f2_0g⟩ := row_seven r2_0; have q2_1 : w.heap.size + 1 < w2.heap.size := (by omega); have r2_1 : Row w2 (w.heap.size + 1) 33 #[.int .i64 sqb, .int .i64 tkb, .int .i64 nb, .int .i64 sb, .int .i64 qb, .int .i64 lwb, .int .i64 hgb] := row_call (by (repeat (first | assumption | (refine row_new ?_; (first | (simp; done) | omega)) | refine row_alloc ?_ _ | refine row_drew ?_ | refine row_call ?_ (by assumption)))) hb2; obtain ⟨c2_1a, c2_1b, c2_1c, c2_1d, c2_1e, c2_1f, c2_1g, f2_1a, f2_1b, f2_1c, f2_1d, f2_1e, f2_1f, f2_1g⟩ := row_seven r2_1))
  go_ret
  exact ⟨rfl, by (repeat (first | exact Below.refl _ _ | refine Below.setCell ?_ (by first | (simp; done) | (simp; omega) | omega) _ | refine Below.alloc ?_ (by first | (simp; done) | (simp; omega) | omega) _ | refine Below.drew ?_ | refine Below.trans ?_ (Below.mono (by assumption) (by first | (simp; done) | (simp; omega) | omega))))⟩
set_option maxHeartbeats 4000000 in
theorem pclose_ok (sqa tka na sa qa lwa hga sqb tkb nb sb qb lwb hgb k : Int) (w : World) (ha : rightP na sa qa) (hb : rightP nb sb qb) (hk : 1 ≤ k ∧ k ≤ 64) (h : (6 * k - 1) * na ≤ 6 * k * nb) :
    Calls Try.prog 17 #[.agg #[.int .i64 sqa, .int .i64 tka, .int .i64 na, .int .i64 sa, .int .i64 qa, .int .i64 lwa, .int .i64 hga], .agg #[.int .i64 sqb, .int .i64 tkb, .int .i64 nb, .int .i64 sb, .int .i64 qb, .int .i64 lwb, .int .i64 hgb], .int .i64 k] w fun e w' => e = .returned (.bool (decide (topN na sa qa * nb.toNat * (6 * k - 1).toNat ≤ topN nb sb qb * na.toNat * (6 * k).toNat))) ∧ Below w.heap.size w w' := by
  have PRa := fun w => pright sqa tka na sa qa lwa hga w
  rw [decide_eq_true ha] at PRa
  have PRa := Lib.hid PRa
  have PRb := fun w => pright sqb tkb nb sb qb lwb hgb w
  rw [decide_eq_true hb] at PRb
  have PRb := Lib.hid PRb
  have w0 : ¬ k < 1 := by omega
  have w1 : ¬ 64 < k := by omega
  have bk := hk
  obtain ⟨k0, k1⟩ := bk
  have na0 := ha.1
  have na1 := ha.2.1
  have nb0 := hb.1
  have nb1 := hb.2.1
  have m1 : 0 ≤ 6 * k * nb ∧ 6 * k * nb ≤ 25165824 := ⟨Int.mul_nonneg (by omega) (by omega), Int.mul_le_mul (show 6 * k ≤ 384 by omega) nb1 (by omega) (by decide)⟩
  have m2 : 0 ≤ (6 * k - 1) * na ∧ (6 * k - 1) * na ≤ 25165824 := ⟨Int.mul_nonneg (by omega) (by omega), Int.mul_le_mul (show 6 * k - 1 ≤ 384 by omega) na1 (by omega) (by decide)⟩
  have m3 : 0 ≤ 6 * k * na ∧ 6 * k * na ≤ 25165824 := ⟨Int.mul_nonneg (by omega) (by omega), Int.mul_le_mul (show 6 * k ≤ 384 by omega) na1 (by omega) (by decide)⟩
  have m4 : 0 ≤ (6 * k - 1) * nb ∧ (6 * k - 1) * nb ≤ 25165824 := ⟨Int.mul_nonneg (by omega) (by omega), Int.mul_le_mul (show 6 * k - 1 ≤ 384 by omega) nb1 (by omega) (by decide)⟩
  have w6 : IntKind.i64.wrap (6 * k) = 6 * k := IntWalk.i64_in _ (by omega)
  have w61 : IntKind.i64.wrap (6 * k - 1) = 6 * k - 1 := IntWalk.i64_in _ (by omega)
  have wm1 : IntKind.i64.wrap (6 * k * nb) = 6 * k * nb := IntWalk.i64_in _ (by omega)
  have wm2 : IntKind.i64.wrap ((6 * k - 1) * na) = (6 * k - 1) * na := IntWalk.i64_in _ (by omega)
  have wm3 : IntKind.i64.wrap (6 * k * na) = 6 * k * na := IntWalk.i64_in _ (by omega)
  have wm4 : IntKind.i64.wrap ((6 * k - 1) * nb) = (6 * k - 1) * nb := IntWalk.i64_in _ (by omega)
  have h' : ¬ 6 * k * nb < (6 * k - 1) * na := Int.not_lt.2 h
  have ta := right_top ha
  have tb := right_top hb
  have tA : topN na sa qa ≤ 72057594037927936 := by unfold topN; omega
  have tB : topN nb sb qb ≤ 72057594037927936 := by unfold topN; omega
  have PTa := fun w => ptop sqa tka na sa qa lwa hga w ha
  have PTb := fun w => ptop sqb tkb nb sb qb lwb hgb w hb
  have PPx := fun w => pproduct (topN nb sb qb : Int) na (by unfold Word; omega) (by unfold Word; omega) w
  have PPy := fun w => pproduct (topN na sa qa : Int) nb (by unfold Word; omega) (by unfold Word; omega) w
  rw [Int.toNat_natCast] at PPx PPy
  have p1 : topN nb sb qb * na.toNat ≤ 4722366482869645213696 := Nat.mul_le_mul tB (show na.toNat ≤ 65536 by omega)
  have p2 : topN na sa qa * nb.toNat ≤ 4722366482869645213696 := Nat.mul_le_mul tA (show nb.toNat ≤ 65536 by omega)
  have ux : IntKind.u64.wrap (topN nb sb qb : Int) = (topN nb sb qb : Int) := IntWalk.u64_in _ (by omega)
  have uy : IntKind.u64.wrap (topN na sa qa : Int) = (topN na sa qa : Int) := IntWalk.u64_in _ (by omega)
  generalize topN nb sb qb * na.toNat = px at PPx p1 ⊢
  generalize topN na sa qa * nb.toNat = py at PPy p2 ⊢
  generalize (topN nb sb qb : Int) = tpb at PTb PPx ux
  generalize (topN na sa qa : Int) = tpa at PTa PPy uy
  have un : IntKind.u64.wrap na = na := IntWalk.u64_in _ (by omega)
  have unb : IntKind.u64.wrap nb = nb := IntWalk.u64_in _ (by omega)
  have um : IntKind.u64.wrap (6 * k) = 6 * k := IntWalk.u64_in _ (by omega)
  have ul : IntKind.u64.wrap (6 * k - 1) = 6 * k - 1 := IntWalk.u64_in _ (by omega)
  have Oxx := fun w => pofI (6 * k) (by unfold Word; omega) w
  have Oyy := fun w => pofI (6 * k - 1) (by unfold Word; omega) w
  have q1 : (6 * k).toNat ≤ 384 := by omega
  have q2 : (6 * k - 1).toNat ≤ 384 := by omega
  generalize (6 * k).toNat = mx at Oxx q1 ⊢
  generalize (6 * k - 1).toNat = my at Oyy q2 ⊢
  have Mxx := fun w => pmul px mx (Nat.lt_of_le_of_lt p1 (by decide)) (Nat.lt_of_le_of_lt q1 (by decide)) w
  have Myy := fun w => pmul py my (Nat.lt_of_le_of_lt p2 (by decide)) (Nat.lt_of_le_of_lt q2 (by decide)) w
  have s1 := mul_smallN p1 q1 (by decide)
  have s2 := mul_smallN p2 q2 (by decide)
  rw [s1.1, s1.2] at Mxx
  rw [s2.1, s2.2] at Myy
  have CM := fun w => pcmp_any (px * mx) (py * my) w
  have CD := cmp_dec (px * mx) (py * my)
  generalize px * mx = xx at Mxx CM CD ⊢
  generalize py * my = yy at Myy CM CD ⊢
  rw [← CD]
  generalize cmp xx yy = cv at CM ⊢
  have PTa := Lib.hid PTa
  have PTb := Lib.hid PTb
  have PPx := Lib.hid PPx
  have PPy := Lib.hid PPy
  have Oxx := Lib.hid Oxx
  have Oyy := Lib.hid Oyy
  have Mxx := Lib.hid Mxx
  have Myy := Lib.hid Myy
  have CM := Lib.hid CM
  clear ha hb hk ta tb tA tB h p1 p2 q1 q2 s1 s2 CD m1 m2 m3 m4
  go_enter Try.func17, Try.ntmps17
  go_upto_region 6 with (first | (go_at_call 44; with_reducible refine (PRa.out _).mono ?_; rintro e w1 ⟨rfl, hb1⟩; have hz1 := hb1.size; (try simp at hz1); have o1 : Below w.heap.size w w1 := (by (repeat (first | exact Below.refl _ _ | refine Below.setCell ?_ (by first | (simp; done) | (simp; omega) | omega) _ | refine Below.alloc ?_ (by first | (simp; done) | (simp; omega) | omega) _ | refine Below.drew ?_ | refine Below.trans ?_ (Below.mono (by assumption) (by first | (simp; done) | (simp; omega) | omega))))); have q1_0 : w.heap.size < w1.heap.size := (by omega); have r1_0 : Row w1 (w.heap.size) 33 #[.int .i64 sqa, .int .i64 tka, .int .i64 na, .int .i64 sa, .int .i64 qa, .int .i64 lwa, .int .i64 hga] := row_call (by (repeat (first | assumption | (refine row_new ?_; (first | (simp; done) | omega)) | refine row_alloc ?_ _ | refine row_drew ?_ | refine row_call ?_ (by assumption)))) hb1; obtain ⟨c1_0a, c1_0b, c1_0c, c1_0d, c1_0e, c1_0f, c1_0g, f1_0a, f1_0b, f1_0c, f1_0d, f1_0e, f1_0f, f1_0g⟩ := row_seven r1_0; have q1_1 : w.heap.size + 1 < w1.heap.size := (by omega); have r1_1 : Row w1 (w.heap.size + 1) 33 #[.int .i64 sqb, .int .i64 tkb, .int .i64 nb, .int .i64 sb, .int .i64 qb, .int .i64 lwb, .int .i64 hgb] := row_call (by (repeat (first | assumption | (refine row_new ?_; (first | (simp; done) | omega)) | refine row_alloc ?_ _ | refine row_drew ?_ | refine row_call ?_ (by assumption)))) hb1; obtain ⟨c1_1a, c1_1b, c1_1c, c1_1d, c1_1e, c1_1f, c1_1g, f1_1a, f1_1b, f1_1c, f1_1d, f1_1e, f1_1f, f1_1g⟩ := row_seven r1_1) | (go_at_call 44; with_reducible refine (PRb.out _).mono ?_; rintro e w2 ⟨rfl, hb2⟩; have hz2 := hb2.size; (try simp at hz2); have o2 : Below w.heap.size w w2 := (by (repeat (first | exact Below.refl _ _ | refine Below.setCell ?_ (by first | (simp; done) | (simp; omega) | omega) _ | refine Below.alloc ?_ (by first | (simp; done) | (simp; omega) | omega) _ | refine Below.drew ?_ | refine Below.trans ?_ (Below.mono (by assumption) (by first | (simp; done) | (simp; omega) | omega))))); have q2_0 : w.heap.size < w2.heap.size := (by omega); have r2_0 : Row w2 (w.heap.size) 33 #[.int .i64 sqa, .int .i64 tka, .int .i64 na, .int .i64 sa, .int .i64 qa, .int .i64 lwa, .int .i64 hga] := row_call (by (repeat (first | assumption | (refine row_new ?_; (first | (simp; done) | omega)) | refine row_alloc ?_ _ | refine row_drew ?_ | refine row_call ?_ (by assumption)))) hb2; obtain ⟨c2_0a, c2_0b, c2_0c, c2_0d, c2_0e, c2_0f, c2_0g, f2_0a, f2_0b, f2_0c, f2_0d, f2_0e, f2_0f, f2_0g⟩ := row_seven r2_0; have q2_1 : w.heap.size + 1 < w2.heap.size := (by omega); have r2_1 : Row w2 (w.heap.size + 1) 33 #[.int .i64 sqb, .int .i64 tkb, .int .i64 nb, .int .i64 sb, .int .i64 qb, .int .i64 lwb, .int .i64 hgb] := row_call (by (repeat (first | assumption | (refine row_new ?_; (first | (simp; done) | omega)) | refine row_alloc ?_ _ | refine row_drew ?_ | refine row_call ?_ (by assumption)))) hb2; obtain ⟨c2_1a, c2_1b, c2_1c, c2_1d, c2_1e, c2_1f, c2_1g, f2_1a, f2_1b, f2_1c, f2_1d, f2_1e, f2_1f, f2_1g⟩ := row_seven r2_1))
  have L : Row w2 (w.heap.size) 33 #[.int .i64 sqa, .int .i64 tka, .int .i64 na, .int .i64 sa, .int .i64 qa, .int .i64 lwa, .int .i64 hga] ∧ Row w2 (w.heap.size + 1) 33 #[.int .i64 sqb, .int .i64 tkb, .int .i64 nb, .int .i64 sb, .int .i64 qb, .int .i64 lwb, .int .i64 hgb] ∧ Below w.heap.size w w2 := ⟨r2_0, r2_1, o2⟩
  refine wp_region_free1 [0, 1, 2, 3, 4, 5, 6, 7, 8, 9, 10, 11, 13, 12] [13] [0, 1, 2, 3, 4, 5, 6, 7, 8, 9, 10, 11, 12, 14] (14, 72, #[.int .u64 0, .int .u64 0]) 9 15 (fun w' => Row w' (w.heap.size) 33 #[.int .i64 sqa, .int .i64 tka, .int .i64 na, .int .i64 sa, .int .i64 qa, .int .i64 lwa, .int .i64 hga] ∧ Row w' (w.heap.size + 1) 33 #[.int .i64 sqb, .int .i64 tkb, .int .i64 nb, .int .i64 sb, .int .i64 qb, .int .i64 lwb, .int .i64 hgb] ∧ Below w.heap.size w w') (by kernel_rfl) (by kernel_rfl) ⟨_, _, rfl, rfl, rfl, fun ρ w' => by go_simp⟩ rfl (by simp) (fun _ h => ⟨row_alloc h.1 _, row_alloc h.2.1 _, h.2.2.alloc h.2.2.size _⟩) (fun _ _ d _ _ h => by cases d <;> exact h) ?_ ?_
  · exact ⟨L.1, L.2.1, L.2.2.drew⟩
  (refine plan_val ?_ rfl rfl rfl (fun w' hS => ?_) ?_; rotate_left; (obtain ⟨X0, X1, X2, X3, X4, X5, X6, _⟩ := row_seven hS.1; obtain ⟨Y0, Y1, Y2, Y3, Y4, Y5, Y6, _⟩ := row_seven hS.2.1; go_simp; try with_reducible rfl); simp only [Act.put, List.setIfInBounds_toArray, List.set_cons_zero, List.set_cons_succ])
  refine plan_call (.int .i64 tpb) 46 #[.agg #[.int .i64 sqb, .int .i64 tkb, .int .i64 nb, .int .i64 sb, .int .i64 qb, .int .i64 lwb, .int .i64 hgb]] rfl rfl rfl (fun _ _ h hb => ⟨row_call h.1 hb, row_call h.2.1 hb, h.2.2.trans (hb.mono h.2.2.size)⟩) (fun w' hS => by obtain ⟨X0, X1, X2, X3, X4, X5, X6, _⟩ := row_seven hS.1; obtain ⟨Y0, Y1, Y2, Y3, Y4, Y5, Y6, _⟩ := row_seven hS.2.1; go_simp) (fun w' hS => PTb.out w') ?_
  simp only [Act.put, List.setIfInBounds_toArray, List.set_cons_zero, List.set_cons_succ]
  (refine plan_pure ?_ rfl rfl (fun w' => ?_) ?_; rotate_left; (go_simp; try with_reducible rfl); simp only [Act.put, List.setIfInBounds_toArray, List.set_cons_zero, List.set_cons_succ])
  (refine plan_pure ?_ rfl rfl (fun w' => ?_) ?_; rotate_left; (go_simp; try with_reducible rfl); simp only [Act.put, List.setIfInBounds_toArray, List.set_cons_zero, List.set_cons_succ])
  (refine plan_val ?_ rfl rfl rfl (fun w' hS => ?_) ?_; rotate_left; (obtain ⟨X0, X1, X2, X3, X4, X5, X6, _⟩ := row_seven hS.1; obtain ⟨Y0, Y1, Y2, Y3, Y4, Y5, Y6, _⟩ := row_seven hS.2.1; go_simp; try with_reducible rfl); simp only [Act.put, List.setIfInBounds_toArray, List.set_cons_zero, List.set_cons_succ])
  (refine plan_pure ?_ rfl rfl (fun w' => ?_) ?_; rotate_left; (go_simp; try with_reducible rfl); simp only [Act.put, List.setIfInBounds_toArray, List.set_cons_zero, List.set_cons_succ])
  refine plan_call (W px) 50 #[.int .u64 tpb, .int .u64 na] rfl rfl rfl (fun _ _ h hb => ⟨row_call h.1 hb, row_call h.2.1 hb, h.2.2.trans (hb.mono h.2.2.size)⟩) (fun w' hS => by obtain ⟨X0, X1, X2, X3, X4, X5, X6, _⟩ := row_seven hS.1; obtain ⟨Y0, Y1, Y2, Y3, Y4, Y5, Y6, _⟩ := row_seven hS.2.1; go_simp) (fun w' hS => PPx.out w') ?_
  simp only [Act.put, List.setIfInBounds_toArray, List.set_cons_zero, List.set_cons_succ]
  (refine plan_pure ?_ rfl rfl (fun w' => ?_) ?_; rotate_left; (go_simp; try with_reducible rfl); simp only [Act.put, List.setIfInBounds_toArray, List.set_cons_zero, List.set_cons_succ])
  (refine plan_pure ?_ rfl rfl (fun w' => ?_) ?_; rotate_left; (go_simp; try with_reducible rfl); simp only [Act.put, List.setIfInBounds_toArray, List.set_cons_zero, List.set_cons_succ])
  refine plan_call (W mx) 51 #[.int .u64 (6 * k)] rfl rfl rfl (fun _ _ h hb => ⟨row_call h.1 hb, row_call h.2.1 hb, h.2.2.trans (hb.mono h.2.2.size)⟩) (fun w' hS => by obtain ⟨X0, X1, X2, X3, X4, X5, X6, _⟩ := row_seven hS.1; obtain ⟨Y0, Y1, Y2, Y3, Y4, Y5, Y6, _⟩ := row_seven hS.2.1; go_simp) (fun w' hS => Oxx.out w') ?_
  simp only [Act.put, List.setIfInBounds_toArray, List.set_cons_zero, List.set_cons_succ]
  refine plan_call (.tuple #[W xx, .bool true]) 49 #[W px, W mx] rfl rfl rfl (fun _ _ h hb => ⟨row_call h.1 hb, row_call h.2.1 hb, h.2.2.trans (hb.mono h.2.2.size)⟩) (fun w' hS => by obtain ⟨X0, X1, X2, X3, X4, X5, X6, _⟩ := row_seven hS.1; obtain ⟨Y0, Y1, Y2, Y3, Y4, Y5, Y6, _⟩ := row_seven hS.2.1; go_simp) (fun w' hS => Mxx.out w') ?_
  simp only [Act.put, List.setIfInBounds_toArray, List.set_cons_zero, List.set_cons_succ]
  (refine plan_pure ?_ rfl rfl (fun w' => ?_) ?_; rotate_left; (go_simp; try with_reducible rfl); simp only [Act.put, List.setIfInBounds_toArray, List.set_cons_zero, List.set_cons_succ])
  (refine plan_pure ?_ rfl rfl (fun w' => ?_) ?_; rotate_left; (go_simp; try with_reducible rfl); simp only [Act.put, List.setIfInBounds_toArray, List.set_cons_zero, List.set_cons_succ])
  (refine plan_pure ?_ rfl rfl (fun w' => ?_) ?_; rotate_left; (go_simp; try with_reducible rfl); simp only [Act.put, List.setIfInBounds_toArray, List.set_cons_zero, List.set_cons_succ])
  refine plan_nil ?_
  intro g1 w3 L3 hg1r hg1g
  simp only [List.drop_succ_cons, List.drop_zero]
  try simp only [Act.put, List.setIfInBounds_toArray, List.set_cons_zero, List.set_cons_succ]
  obtain ⟨x1, x2, x3⟩ := L3
  clear L
  obtain ⟨G0, G1, G2, G3⟩ := row_two hg1r
  go_upto_region 7 with (fail)
  have x1 := row_two_other (c := g1) (u := .int .u64 (hi xx)) (v := .int .u64 (lo xx)) x1 (by omega)
  have x2 := row_two_other (c := g1) (u := .int .u64 (hi xx)) (v := .int .u64 (lo xx)) x2 (by omega)
  have G := row_two_set (u := .int .u64 (hi xx)) (v := .int .u64 (lo xx)) hg1r
  have x3 := (x3.setCell (p := ⟨g1, 0, none⟩) (by simp; omega) (.int .u64 (hi xx))).setCell (p := ⟨g1, 1, none⟩) (by simp; omega) (.int .u64 (lo xx))
  generalize ((w3.setCell ⟨g1, 0, none⟩ (.int .u64 (hi xx))).setCell ⟨g1, 1, none⟩ (.int .u64 (lo xx))) = w4 at x1 x2 G x3 ⊢
  clear G0 G1 G2 G3 hg1r
  have gl4 := row_lt G
  have zs4 := x3.size
  have L5 : Row w4 (w.heap.size) 33 #[.int .i64 sqa, .int .i64 tka, .int .i64 na, .int .i64 sa, .int .i64 qa, .int .i64 lwa, .int .i64 hga] ∧ Row w4 (w.heap.size + 1) 33 #[.int .i64 sqb, .int .i64 tkb, .int .i64 nb, .int .i64 sb, .int .i64 qb, .int .i64 lwb, .int .i64 hgb] ∧ Row w4 g1 72 #[.int .u64 (hi xx), .int .u64 (lo xx)] ∧ Below w.heap.size w w4 := ⟨x1, x2, G, x3⟩
  refine wp_region_free1 [0, 1, 2, 3, 4, 5, 6, 7, 8, 9, 10, 11, 13, 12] [13] [0, 1, 2, 3, 4, 5, 6, 7, 8, 9, 10, 11, 12, 14] (14, 72, #[.int .u64 0, .int .u64 0]) 11 15 (fun w' => Row w' (w.heap.size) 33 #[.int .i64 sqa, .int .i64 tka, .int .i64 na, .int .i64 sa, .int .i64 qa, .int .i64 lwa, .int .i64 hga] ∧ Row w' (w.heap.size + 1) 33 #[.int .i64 sqb, .int .i64 tkb, .int .i64 nb, .int .i64 sb, .int .i64 qb, .int .i64 lwb, .int .i64 hgb] ∧ Row w' g1 72 #[.int .u64 (hi xx), .int .u64 (lo xx)] ∧ Below w.heap.size w w') (by kernel_rfl) (by kernel_rfl) ⟨_, _, rfl, rfl, rfl, fun ρ w' => by go_simp⟩ rfl (by simp) (fun _ h => ⟨row_alloc h.1 _, row_alloc h.2.1 _, row_alloc h.2.2.1 _, h.2.2.2.alloc h.2.2.2.size _⟩) (fun _ _ d _ _ h => by cases d <;> exact h) ?_ ?_
  · exact ⟨L5.1, L5.2.1, L5.2.2.1, L5.2.2.2.drew⟩
  (refine plan_val ?_ rfl rfl rfl (fun w' hS => ?_) ?_; rotate_left; (obtain ⟨X0, X1, X2, X3, X4, X5, X6, _⟩ := row_seven hS.1; obtain ⟨Y0, Y1, Y2, Y3, Y4, Y5, Y6, _⟩ := row_seven hS.2.1; go_simp; try with_reducible rfl); simp only [Act.put, List.setIfInBounds_toArray, List.set_cons_zero, List.set_cons_succ])
  refine plan_call (.int .i64 tpa) 46 #[.agg #[.int .i64 sqa, .int .i64 tka, .int .i64 na, .int .i64 sa, .int .i64 qa, .int .i64 lwa, .int .i64 hga]] rfl rfl rfl (fun _ _ h hb => ⟨row_call h.1 hb, row_call h.2.1 hb, row_call h.2.2.1 hb, h.2.2.2.trans (hb.mono h.2.2.2.size)⟩) (fun w' hS => by obtain ⟨X0, X1, X2, X3, X4, X5, X6, _⟩ := row_seven hS.1; obtain ⟨Y0, Y1, Y2, Y3, Y4, Y5, Y6, _⟩ := row_seven hS.2.1; go_simp) (fun w' hS => PTa.out w') ?_
  simp only [Act.put, List.setIfInBounds_toArray, List.set_cons_zero, List.set_cons_succ]
  (refine plan_pure ?_ rfl rfl (fun w' => ?_) ?_; rotate_left; (go_simp; try with_reducible rfl); simp only [Act.put, List.setIfInBounds_toArray, List.set_cons_zero, List.set_cons_succ])
  (refine plan_pure ?_ rfl rfl (fun w' => ?_) ?_; rotate_left; (go_simp; try with_reducible rfl); simp only [Act.put, List.setIfInBounds_toArray, List.set_cons_zero, List.set_cons_succ])
  (refine plan_val ?_ rfl rfl rfl (fun w' hS => ?_) ?_; rotate_left; (obtain ⟨X0, X1, X2, X3, X4, X5, X6, _⟩ := row_seven hS.1; obtain ⟨Y0, Y1, Y2, Y3, Y4, Y5, Y6, _⟩ := row_seven hS.2.1; go_simp; try with_reducible rfl); simp only [Act.put, List.setIfInBounds_toArray, List.set_cons_zero, List.set_cons_succ])
  (refine plan_pure ?_ rfl rfl (fun w' => ?_) ?_; rotate_left; (go_simp; try with_reducible rfl); simp only [Act.put, List.setIfInBounds_toArray, List.set_cons_zero, List.set_cons_succ])
  refine plan_call (W py) 50 #[.int .u64 tpa, .int .u64 nb] rfl rfl rfl (fun _ _ h hb => ⟨row_call h.1 hb, row_call h.2.1 hb, row_call h.2.2.1 hb, h.2.2.2.trans (hb.mono h.2.2.2.size)⟩) (fun w' hS => by obtain ⟨X0, X1, X2, X3, X4, X5, X6, _⟩ := row_seven hS.1; obtain ⟨Y0, Y1, Y2, Y3, Y4, Y5, Y6, _⟩ := row_seven hS.2.1; go_simp) (fun w' hS => PPy.out w') ?_
  simp only [Act.put, List.setIfInBounds_toArray, List.set_cons_zero, List.set_cons_succ]
  (refine plan_pure ?_ rfl rfl (fun w' => ?_) ?_; rotate_left; (go_simp; try with_reducible rfl); simp only [Act.put, List.setIfInBounds_toArray, List.set_cons_zero, List.set_cons_succ])
  (refine plan_pure ?_ rfl rfl (fun w' => ?_) ?_; rotate_left; (go_simp; try with_reducible rfl); simp only [Act.put, List.setIfInBounds_toArray, List.set_cons_zero, List.set_cons_succ])
  refine plan_call (W my) 51 #[.int .u64 (6 * k - 1)] rfl rfl rfl (fun _ _ h hb => ⟨row_call h.1 hb, row_call h.2.1 hb, row_call h.2.2.1 hb, h.2.2.2.trans (hb.mono h.2.2.2.size)⟩) (fun w' hS => by obtain ⟨X0, X1, X2, X3, X4, X5, X6, _⟩ := row_seven hS.1; obtain ⟨Y0, Y1, Y2, Y3, Y4, Y5, Y6, _⟩ := row_seven hS.2.1; go_simp) (fun w' hS => Oyy.out w') ?_
  simp only [Act.put, List.setIfInBounds_toArray, List.set_cons_zero, List.set_cons_succ]
  refine plan_call (.tuple #[W yy, .bool true]) 49 #[W py, W my] rfl rfl rfl (fun _ _ h hb => ⟨row_call h.1 hb, row_call h.2.1 hb, row_call h.2.2.1 hb, h.2.2.2.trans (hb.mono h.2.2.2.size)⟩) (fun w' hS => by obtain ⟨X0, X1, X2, X3, X4, X5, X6, _⟩ := row_seven hS.1; obtain ⟨Y0, Y1, Y2, Y3, Y4, Y5, Y6, _⟩ := row_seven hS.2.1; go_simp) (fun w' hS => Myy.out w') ?_
  simp only [Act.put, List.setIfInBounds_toArray, List.set_cons_zero, List.set_cons_succ]
  (refine plan_pure ?_ rfl rfl (fun w' => ?_) ?_; rotate_left; (go_simp; try with_reducible rfl); simp only [Act.put, List.setIfInBounds_toArray, List.set_cons_zero, List.set_cons_succ])
  (refine plan_pure ?_ rfl rfl (fun w' => ?_) ?_; rotate_left; (go_simp; try with_reducible rfl); simp only [Act.put, List.setIfInBounds_toArray, List.set_cons_zero, List.set_cons_succ])
  (refine plan_pure ?_ rfl rfl (fun w' => ?_) ?_; rotate_left; (go_simp; try with_reducible rfl); simp only [Act.put, List.setIfInBounds_toArray, List.set_cons_zero, List.set_cons_succ])
  refine plan_nil ?_
  intro g2 w5 L6 hg2r hg2g
  simp only [List.drop_succ_cons, List.drop_zero]
  try simp only [Act.put, List.setIfInBounds_toArray, List.set_cons_zero, List.set_cons_succ]
  obtain ⟨x1, x2, G, x3⟩ := L6
  clear L5
  obtain ⟨G0, G1, G2, G3⟩ := row_two hg2r
  go_upto_region 8 with (fail)
  have ng : g1 ≠ g2 := by omega
  have G := row_two_other (c := g2) (u := .int .u64 (hi yy)) (v := .int .u64 (lo yy)) G ng
  have G' := row_two_set (u := .int .u64 (hi yy)) (v := .int .u64 (lo yy)) hg2r
  have x3 := (x3.setCell (p := ⟨g2, 0, none⟩) (by simp; omega) (.int .u64 (hi yy))).setCell (p := ⟨g2, 1, none⟩) (by simp; omega) (.int .u64 (lo yy))
  generalize ((w5.setCell ⟨g2, 0, none⟩ (.int .u64 (hi yy))).setCell ⟨g2, 1, none⟩ (.int .u64 (lo yy))) = w6 at G G' x3 ⊢
  clear G0 G1 G2 G3 hg2r x1 x2
  obtain ⟨G0, G1, G2, G3⟩ := row_two G
  obtain ⟨H0, H1, H2, H3⟩ := row_two G'
  go_wp2_with (go_at_call 52; refine (CM.out _).mono ?_; rintro e w7 ⟨rfl, hb7⟩)
  go_ret
  exact ⟨rfl, x3.trans (hb7.mono x3.size)⟩
theorem pclose (sqa tka na sa qa lwa hga sqb tkb nb sb qb lwb hgb k : Int) (w : World) : Calls Try.prog 17 #[.agg #[.int .i64 sqa, .int .i64 tka, .int .i64 na, .int .i64 sa, .int .i64 qa, .int .i64 lwa, .int .i64 hga], .agg #[.int .i64 sqb, .int .i64 tkb, .int .i64 nb, .int .i64 sb, .int .i64 qb, .int .i64 lwb, .int .i64 hgb], .int .i64 k] w fun e w' => e = .returned (.bool (decide (closeP na sa qa nb sb qb k))) ∧ Below w.heap.size w w' := by
  by_cases ha : rightP na sa qa
  · by_cases hb : rightP nb sb qb
    · by_cases hk : 1 ≤ k ∧ k ≤ 64
      · by_cases h : (6 * k - 1) * na ≤ 6 * k * nb
        · rw [show decide (closeP na sa qa nb sb qb k) = decide (topN na sa qa * nb.toNat * (6 * k - 1).toNat ≤ topN nb sb qb * na.toNat * (6 * k).toNat) from decide_eq_decide.2 ⟨fun a => a.2.2.2.2, fun hh => ⟨ha, hb, hk, h, hh⟩⟩]
          exact pclose_ok sqa tka na sa qa lwa hga sqb tkb nb sb qb lwb hgb k w ha hb hk h
        · rw [decide_eq_false (fun a => h a.2.2.2.1)]
          exact pclose_n sqa tka na sa qa lwa hga sqb tkb nb sb qb lwb hgb k w ha hb hk (Int.not_le.1 h)
      · rw [decide_eq_false (fun a => hk a.2.2.1)]
        exact pclose_k sqa tka na sa qa lwa hga sqb tkb nb sb qb lwb hgb k w ha hb hk
    · rw [decide_eq_false (fun a => hb a.2.1)]
      exact pclose_b sqa tka na sa qa lwa hga sqb tkb nb sb qb lwb hgb k w ha hb
  · rw [decide_eq_false (fun a => ha a.1)]
    exact pclose_a sqa tka na sa qa lwa hga sqb tkb nb sb qb lwb hgb k w ha
end Go.Proofs.Ytaiepjcnncajcaa
end
section
/- Smooth histograms of the variance: what stays valid, what lies between the bounds, few marks; plain. -/
set_option linter.unusedVariables false
set_option linter.unusedSimpArgs false
set_option linter.unusedSectionVars false
set_option linter.unnecessarySimpa false
namespace Go.Proofs.Ytaiepjcnncajcaa
/-- The spread of a mark times its number. -/
def tpM (m : Mk) : Int := tpI m.n m.s m.q
def closeM (k : Int) (a b : Mk) : Prop := closeP a.n a.s a.q b.n b.s b.q k
instance (k : Int) (a b : Mk) : Decidable (closeM k a b) := by unfold closeM; infer_instance
def closeB (k : Int) (a b : Mk) : Bool := decide (closeM k a b)
def spGood (wd k cap now : Int) : Prop := 1 ≤ wd ∧ wd ≤ 1048576 ∧ 1 ≤ k ∧ k ≤ 64 ∧ 1 ≤ cap ∧ cap ≤ 65536 ∧ 0 ≤ now ∧ now ≤ 16777216
instance (wd k cap now : Int) : Decidable (spGood wd k cap now) := by unfold spGood; infer_instance
def spAt (k : Int) (l : List Mk) (i : Nat) : Prop := 2 ≤ i → ¬ closeM k (mkAt l (i - 2)) (mkAt l i)
instance (k : Int) (l : List Mk) (i : Nat) : Decidable (spAt k l i) := by unfold spAt; infer_instance
/-- A valid histogram of the variance. -/
def spValid (wd k cap now seq : Int) (l : List Mk) : Prop := spGood wd k cap now ∧ mvalid l seq cap now wd (-4096) ∧ ∀ i, i < l.length → spAt k l i
instance (wd k cap now seq : Int) (l : List Mk) : Decidable (spValid wd k cap now seq l) := by unfold spValid; infer_instance
def spvalE (wd k cap now seq : Int) (l : List Mk) : Int := if spValid wd k cap now seq l then 0 else 2
theorem spvalE_yes {wd k cap now seq : Int} {l : List Mk} (h : spValid wd k cap now seq l) : spvalE wd k cap now seq l = 0 := by unfold spvalE; rw [if_pos h]
theorem spvalE_no {wd k cap now seq : Int} {l : List Mk} (h : ¬ spValid wd k cap now seq l) : spvalE wd k cap now seq l = 2 := by unfold spvalE; rw [if_neg h]
theorem of_spvalE {wd k cap now seq : Int} {l : List Mk} (h : spvalE wd k cap now seq l = 0) : spValid wd k cap now seq l := by
  unfold spvalE at h
  split at h
  · assumption
  · omega
theorem spvalE_two {wd k cap now seq : Int} {l : List Mk} : spvalE wd k cap now seq l = 0 ∨ spvalE wd k cap now seq l = 2 := by
  unfold spvalE
  split
  · exact .inl rfl
  · exact .inr rfl
/-- What a call that answers a state and an error leaves. -/
structure SpOut where
  wd : Int
  k : Int
  cap : Int
  now : Int
  seq : Int
  ms : List Mk
  f : Int
def spZero (f : Int) : SpOut := ⟨0, 0, 0, 0, 0, [], f⟩
def spNew (wd k cap now : Int) : SpOut := if spGood wd k cap now then ⟨wd, k, cap, now, 0, [], 0⟩ else spZero 1
def spTick (wd k cap now seq : Int) (l : List Mk) (tt : Int) : SpOut :=
  if spvalE wd k cap now seq l = 0 then if tt < now ∨ 16777216 < tt then spZero 3 else ⟨wd, k, cap, tt, seq, dropM tt wd l, 0⟩ else spZero 2
def spAdd (wd k cap now seq : Int) (l : List Mk) (v : Int) : SpOut :=
  if spvalE wd k cap now seq l = 0 then if v < -4096 ∨ 4096 < v then spZero 4 else if smFull cap seq l then spZero 5 else ⟨wd, k, cap, now, seq + 1, prune (closeB k) (incl l (seq + 1) now v), 0⟩ else spZero 2
theorem spAt_iff {k : Int} {l : List Mk} : (∀ i, i < l.length → spAt k l i) ↔ Far (closeM k) l := by
  constructor
  · intro h i hi
    have := h (i + 2) hi (by omega)
    rwa [show i + 2 - 2 = i by omega] at this
  · intro h i hi h2
    have := h (i - 2) (by omega)
    rwa [show i - 2 + 2 = i by omega] at this
/-- Neighbours with a gap between them. -/
def GapL (L : Mk → Mk → Prop) (l : List Mk) : Prop := ∀ i, i + 1 < l.length → 1 < (mkAt l (i + 1)).seq - (mkAt l i).seq → L (mkAt l i) (mkAt l (i + 1))
theorem GapL.drop {L : Mk → Mk → Prop} {l : List Mk} (h : GapL L l) (k : Nat) : GapL L (l.drop k) := fun i hi hg => by
  rw [mkAt_drop, mkAt_drop] at hg ⊢
  have := h (k + i) (by simp at hi; omega)
  rw [Nat.add_assoc] at this
  exact this hg
theorem GapL.tail {L : Mk → Mk → Prop} {a : Mk} {l : List Mk} (h : GapL L (a :: l)) : GapL L l := fun i hi hg => h (i + 1) (by simpa using hi) hg
/-- Behind the marks that fall away: none is close to the next but one; and neighbours with a gap are what they were, or close. -/
theorem prune_far2 {near : Mk → Mk → Prop} {nb : Mk → Mk → Bool} (hnb : ∀ a b, nb a b = true ↔ near a b) : ∀ (k : Nat) (l : List Mk), l.length ≤ k → Far near (prune nb l)
  | 0, l, h => by
    have : l = [] := by cases l <;> simp_all
    subst this
    rw [prune_nil]
    exact fun i hi => by simp at hi
  | k + 1, [], _ => by
    rw [prune_nil]
    exact fun i hi => by simp at hi
  | k + 1, a :: r, h => by
    rw [prune_cons]
    have hr : r.length ≤ k := by simpa using h
    have f1 := prune_far2 hnb k (r.drop (lastN (nb a) r)) (by simp; omega)
    intro i hi
    cases i with
    | succ i =>
      rw [mkAt_succ, show i + 1 + 2 = (i + 2) + 1 by omega, mkAt_succ]
      exact f1 i (by have : i + 1 + 2 < (prune nb (List.drop (lastN (nb a) r) r)).length + 1 := by simpa using hi
                     omega)
    | zero =>
      rw [mkAt_zero, show 0 + 2 = 1 + 1 by omega, mkAt_succ]
      have hi : 1 < (prune nb (r.drop (lastN (nb a) r))).length := by
        have : 2 < (prune nb (List.drop (lastN (nb a) r) r)).length + 1 := by simpa using hi
        omega
      intro hc
      have hc := (hnb _ _).2 hc
      -- the second of the pruned rest lies behind its first
      cases hrr : r.drop (lastN (nb a) r) with
      | nil => rw [hrr, prune_nil] at hi; simp at hi
      | cons b r2 =>
        rw [hrr, prune_cons, mkAt_succ] at hc
        rw [hrr, prune_cons] at hi
        have hi2 : 0 < (prune nb (r2.drop (lastN (nb b) r2))).length := by simpa using hi
        have sb := prune_sub nb _ (r2.drop (lastN (nb b) r2)) (Nat.le_refl _)
        have hm : mkAt (prune nb (r2.drop (lastN (nb b) r2))) 0 ∈ r2 := List.mem_of_mem_drop (sb.subset (mkAt_mem hi2))
        obtain ⟨j, hj, ej⟩ := mem_at hm
        rw [← ej] at hc
        have hlen : r2.length + 1 = r.length - lastN (nb a) r := by
          have := congrArg List.length hrr
          simp at this
          omega
        have e : mkAt r2 j = mkAt r (lastN (nb a) r + (j + 1)) := by
          rw [← mkAt_drop, hrr, mkAt_succ]
        rw [e] at hc
        rcases lastN_spec (nb a) r with s | ⟨s1, s2, s3⟩
        · rw [s _ (by omega)] at hc
          simp at hc
        · rw [s3 _ (by omega) (by omega)] at hc
          simp at hc
theorem prune_gap {L : Mk → Mk → Prop} {nb : Mk → Mk → Bool} (hL : ∀ a b, nb a b = true → L a b) : ∀ (k : Nat) (l : List Mk), l.length ≤ k → GapL L l → GapL L (prune nb l)
  | 0, l, h, _ => by
    have : l = [] := by cases l <;> simp_all
    subst this
    rw [prune_nil]
    exact fun i hi => by simp at hi
  | k + 1, [], _, _ => by
    rw [prune_nil]
    exact fun i hi => by simp at hi
  | k + 1, a :: r, h, hg => by
    rw [prune_cons]
    have hr : r.length ≤ k := by simpa using h
    have g1 := prune_gap hL k (r.drop (lastN (nb a) r)) (by simp; omega) (hg.tail.drop _)
    intro i hi hgap
    cases i with
    | succ i => exact g1 i (by simpa using hi) hgap
    | zero =>
      rw [mkAt_zero, mkAt_succ] at *
      have hi : 0 < (prune nb (r.drop (lastN (nb a) r))).length := by simpa using hi
      cases hrr : r.drop (lastN (nb a) r) with
      | nil => rw [hrr, prune_nil] at hi; simp at hi
      | cons b r2 =>
        rw [hrr] at hgap
        rw [prune_cons, mkAt_zero] at hgap ⊢
        have e : b = mkAt r (lastN (nb a) r) := by
          rw [← Nat.add_zero (lastN (nb a) r), ← mkAt_drop, hrr, mkAt_zero]
        rcases lastN_spec (nb a) r with s | ⟨s1, s2, s3⟩
        · rw [lastN_none s] at e
          have := hg 0 (by
            have := congrArg List.length hrr
            simp at this ⊢
            omega)
          rw [mkAt_zero, mkAt_succ, ← e] at this
          exact this hgap
        · rw [e]
          exact hL _ _ s2
theorem tpI_snoc {n s q v : Int} (hn : 0 ≤ n) (h : 0 ≤ tpI n s q) (hz : n = 0 → s = 0 ∧ q = 0) : 0 ≤ tpI (n + 1) (s + v) (q + v * v) := by
  by_cases n0 : n = 0
  · obtain ⟨rfl, rfl⟩ := hz n0
    subst n0
    unfold tpI
    grind
  · have e := tpI_add (a := n) (b := 1) (sa := s) (sb := v) (qa := q) (qb := v * v)
    have e1 : tpI 1 v (v * v) = 0 := by unfold tpI; grind
    rw [e1] at e
    have h1 := sqn (s * 1 - v * n)
    have h2 := Int.mul_nonneg (show 0 ≤ n + 1 by omega) h
    refine Int.le_of_mul_le_mul_left (a := n) ?_ (by omega)
    grind
/-- What was close once, and has been followed by the same items since. -/
def LaterM (k : Int) (a b : Mk) : Prop := ∃ cn cs cq : Int, 0 ≤ cn ∧ 0 ≤ tpI cn cs cq ∧ (cn = 0 → cs = 0 ∧ cq = 0) ∧ 1 ≤ b.n - cn ∧ 0 ≤ tpI (b.n - cn) (b.s - cs) (b.q - cq) ∧
  (6 * k - 1) * (a.n - cn) ≤ 6 * k * (b.n - cn) ∧ (6 * k - 1) * tpI (a.n - cn) (a.s - cs) (a.q - cq) * (b.n - cn) ≤ 6 * k * tpI (b.n - cn) (b.s - cs) (b.q - cq) * (a.n - cn)
theorem right_tp {n s q : Int} (h : rightP n s q) : 0 ≤ tpI n s q ∧ (topN n s q : Int) = tpI n s q := by
  have := (right_top h).1
  unfold tpI topN
  omega
theorem LaterM.of_close {k : Int} {a b : Mk} (h : closeM k a b) : LaterM k a b := by
  obtain ⟨ha, hb, hk, h1, h2⟩ := h
  obtain ⟨a0, ea⟩ := right_tp ha
  obtain ⟨b0, eb⟩ := right_tp hb
  refine ⟨0, 0, 0, Int.le_refl _, by unfold tpI; decide, fun _ => ⟨rfl, rfl⟩, by have := hb.1; omega, by simpa using b0, by simpa using h1, ?_⟩
  simp only [Int.sub_zero]
  have e1 : ((topN a.n a.s a.q * b.n.toNat * (6 * k - 1).toNat : Nat) : Int) ≤ ((topN b.n b.s b.q * a.n.toNat * (6 * k).toNat : Nat) : Int) := Int.ofNat_le.2 h2
  rw [Int.natCast_mul, Int.natCast_mul, Int.natCast_mul, Int.natCast_mul, ea, eb, Int.toNat_of_nonneg (show 0 ≤ b.n by have := hb.1; omega), Int.toNat_of_nonneg (show 0 ≤ 6 * k - 1 by omega), Int.toNat_of_nonneg (show 0 ≤ a.n by have := ha.1; omega), Int.toNat_of_nonneg (show 0 ≤ 6 * k by omega)] at e1
  grind
theorem LaterM.inc {k v : Int} {a b : Mk} (h : LaterM k a b) : LaterM k (inc v a) (inc v b) := by
  obtain ⟨cn, cs, cq, h1, h2, h3, h4, h5, h6, h7⟩ := h
  refine ⟨cn + 1, cs + v, cq + v * v, by omega, tpI_snoc h1 h2 h3, fun h => by omega, ?_⟩
  unfold Proofs.Ytaiepjcnncajcaa.inc
  dsimp only
  rw [show b.n + 1 - (cn + 1) = b.n - cn by omega, show a.n + 1 - (cn + 1) = a.n - cn by omega, show b.s + v - (cs + v) = b.s - cs by omega, show a.s + v - (cs + v) = a.s - cs by omega, show b.q + v * v - (cq + v * v) = b.q - cq by omega, show a.q + v * v - (cq + v * v) = a.q - cq by omega]
  exact ⟨h4, h5, h6, h7⟩
theorem part_tp {n lo hi s q : Int} (h : partP n lo hi s q) : 0 ≤ tpI n s q := by
  obtain ⟨_, _, _, _, h⟩ := h
  unfold tpI
  omega
theorem one_tp {seq cap now w least : Int} {m : Mk} (h : oneP seq cap now w least m) : 0 ≤ tpM m := part_tp h.2.2.2.2.2.2.2.2.2
theorem one_right {seq cap now w : Int} {m : Mk} (h : oneP seq cap now w (-4096) m) (hc : cap ≤ 65536) : rightP m.n m.s m.q := by
  obtain ⟨h1, h2, h3, h4, h5, h6, h7, h8, h9, p1, p2, p3, p4, p5⟩ := h
  have a := Int.mul_le_mul_of_nonneg_left h7 (show 0 ≤ m.n by omega)
  have b := Int.mul_le_mul_of_nonneg_left h8 (show 0 ≤ m.n by omega)
  exact ⟨by omega, by omega, by grind, by omega, p3, p4, p5⟩
theorem two_n {seq cap now w least : Int} {a b : Mk} (ha : oneP seq cap now w least a) (hb : oneP seq cap now w least b) (h : twoP a b) : 1 ≤ a.n - b.n := by
  have := ha.2.2.1
  have := hb.2.2.1
  have := h.1
  omega
/-- The spread of the second mark is at most that of the first. -/
theorem two_spread {seq cap now w least : Int} {a b : Mk} (ha : oneP seq cap now w least a) (hb : oneP seq cap now w least b) (h : twoP a b) : tpM b * a.n ≤ tpM a * b.n := by
  have h1 := two_n ha hb h
  have hb1 : 1 ≤ b.n := by have := hb.2.2.1; have := hb.2.1; omega
  have := spread_mono (o := a.n - b.n) (g := b.n) (sO := a.s - b.s) (qO := a.q - b.q) (sG := b.s) (qG := b.q) (by omega) (by omega) (part_tp h.2.2.2.2) (fun e => by omega)
  rw [show a.n - b.n + b.n = a.n by omega, show a.s - b.s + b.s = a.s by omega, show a.q - b.q + b.q = a.q by omega] at this
  exact this
theorem later_spread {k seq cap now w least : Int} {a b : Mk} (hk : 1 ≤ k) (ha : oneP seq cap now w least a) (hb : oneP seq cap now w least b) (h : twoP a b) (hl : LaterM k a b) : k * (tpM a * b.n) ≤ (k + 1) * (tpM b * a.n) := by
  obtain ⟨cn, cs, cq, h1, h2, h3, h4, h5, h6, h7⟩ := hl
  have ho := two_n ha hb h
  have := close_later (k := k) (o := a.n - b.n) (b := b.n - cn) (c := cn) (sO := a.s - b.s) (qO := a.q - b.q) (sB := b.s - cs) (qB := b.q - cq) (sC := cs) (qC := cq) hk (by omega) h4 h1 (part_tp h.2.2.2.2) (fun e => by omega) h5 h2 h3
    (by rw [show a.n - b.n + (b.n - cn) = a.n - cn by omega]; exact h6)
    (by rw [show a.n - b.n + (b.n - cn) = a.n - cn by omega, show a.s - b.s + (b.s - cs) = a.s - cs by omega, show a.q - b.q + (b.q - cq) = a.q - cq by omega]; exact h7)
  rw [show a.n - b.n + (b.n - cn + cn) = a.n by omega, show b.n - cn + cn = b.n by omega, show a.s - b.s + (b.s - cs + cs) = a.s by omega, show b.s - cs + cs = b.s by omega, show a.q - b.q + (b.q - cq + cq) = a.q by omega, show b.q - cq + cq = b.q by omega] at this
  exact this
theorem spTick_valid {wd k cap now seq tt : Int} {l : List Mk} (h : spValid wd k cap now seq l) (h0 : ¬ (tt < now ∨ 16777216 < tt)) : spValid wd k cap tt seq (dropM tt wd l) := by
  obtain ⟨⟨h2, h3, h4, h5, h6, h7, h8, h9⟩, hm, hs⟩ := h
  obtain ⟨hq, hV⟩ := mvalid_iff.1 hm
  refine ⟨⟨h2, h3, h4, h5, h6, h7, by omega, by omega⟩, mvalid_iff.2 ⟨hq, hV.tick (by omega)⟩, ?_⟩
  have f := spAt_iff.1 hs
  obtain ⟨j, _, e⟩ := dropM_suffix tt wd l
  rw [e]
  exact spAt_iff.2 (f.drop j)
theorem spAdd_valid {wd k cap now seq v : Int} {l : List Mk} (h : spValid wd k cap now seq l) (h0 : ¬ (v < -4096 ∨ 4096 < v)) (h1 : ¬ smFull cap seq l) : spValid wd k cap now (seq + 1) (prune (closeB k) (incl l (seq + 1) now v)) := by
  obtain ⟨hG, hm, hs⟩ := h
  obtain ⟨hq, hV⟩ := mvalid_iff.1 hm
  have hG' := hG
  obtain ⟨h2, h3, h4, h5, h6, h7, h8, h9⟩ := hG
  unfold smFull at h1
  rw [not_or] at h1
  refine ⟨hG', mvalid_iff.2 ⟨by omega, VL.prune (hV.incl (by omega) (hV.n_lt h1.1) (by omega) (by omega) (by omega) (by omega) (by omega) (by omega)) _⟩, ?_⟩
  exact spAt_iff.2 (prune_far2 (fun a b => by unfold closeB; simp) _ _ (Nat.le_refl _))
/-- How many of the first n have a property. -/
def cntB (g : Nat → Bool) : Nat → Nat
  | 0 => 0
  | n + 1 => cntB g n + if g n = true then 1 else 0
theorem cntB_not (g : Nat → Bool) : ∀ n, cntB g n + cntB (fun j => !g j) n = n
  | 0 => rfl
  | n + 1 => by
    have ih := cntB_not g n
    unfold cntB
    cases g n <;> simp <;> omega
theorem sub_drops {K : Nat} {x : Nat → Int} {g : Nat → Bool} : ∀ {n : Nat}, (∀ j, j ≤ n → 0 ≤ x j) → (∀ j, j < n → x (j + 1) ≤ x j) → (∀ j, j < n → g j = true → ((K : Int) + 1) * x (j + 1) < K * x j) →
    ∃ y : Nat → Int, y 0 = x 0 ∧ (∀ j, j < cntB g n → ((K : Int) + 1) * y (j + 1) < K * y j) ∧ (∀ j, j ≤ cntB g n → ∃ i, i ≤ n ∧ y j = x i) ∧ x n ≤ y (cntB g n)
  | 0, _, _, _ => ⟨fun _ => x 0, rfl, fun j h => absurd h (by simp [cntB]), fun j _ => ⟨0, Nat.le_refl _, rfl⟩, Int.le_refl _⟩
  | n + 1, h0, hm, hg => by
    obtain ⟨y, y0, y1, y2, y3⟩ := sub_drops (n := n) (fun j hj => h0 j (by omega)) (fun j hj => hm j (by omega)) (fun j hj => hg j (by omega))
    by_cases c : g n = true
    · have e : cntB g (n + 1) = cntB g n + 1 := by rw [cntB, if_pos c]
      rw [e]
      have hn := hg n (by omega) c
      refine ⟨fun j => if j ≤ cntB g n then y j else x (n + 1), by simp [y0], fun j hj => ?_, fun j hj => ?_, by show x (n + 1) ≤ (if cntB g n + 1 ≤ cntB g n then y (cntB g n + 1) else x (n + 1)); rw [if_neg (by omega)]; exact Int.le_refl _⟩
      · show ((K : Int) + 1) * (if j + 1 ≤ cntB g n then y (j + 1) else x (n + 1)) < K * (if j ≤ cntB g n then y j else x (n + 1))
        by_cases jc : j < cntB g n
        · rw [if_pos (by omega), if_pos (by omega)]
          exact y1 j jc
        · obtain rfl : j = cntB g n := by omega
          rw [if_neg (by omega), if_pos (by omega)]
          have : (K : Int) * x n ≤ K * y (cntB g n) := Int.mul_le_mul_of_nonneg_left y3 (by omega)
          omega
      · by_cases jc : j ≤ cntB g n
        · obtain ⟨i, hi, e⟩ := y2 j jc
          exact ⟨i, by omega, by simp only [if_pos jc]; exact e⟩
        · exact ⟨n + 1, Nat.le_refl _, by simp only [if_neg jc]⟩
    · have e : cntB g (n + 1) = cntB g n := by rw [cntB, if_neg c]; rfl
      rw [e]
      refine ⟨y, y0, y1, fun j hj => ?_, ?_⟩
      · obtain ⟨i, hi, e⟩ := y2 j hj
        exact ⟨i, by omega, e⟩
      · have := hm n (by omega)
        omega
theorem many_drops {K B n : Nat} {x : Nat → Int} {g : Nat → Bool} (hK : 1 ≤ K) (h0 : ∀ j, j ≤ n → 0 ≤ x j) (hm : ∀ j, j < n → x (j + 1) ≤ x j) (hg : ∀ j, j < n → g j = true → ((K : Int) + 1) * x (j + 1) < K * x j) (hc : K * B < cntB g n) :
    ∃ i, i ≤ n ∧ 0 < x i ∧ 2 ^ B * x i ≤ x 0 := by
  obtain ⟨y, y0, y1, y2, y3⟩ := sub_drops h0 hm hg
  have yn : ∀ j, j ≤ cntB g n → 0 ≤ y j := fun j hj => by
    obtain ⟨i, hi, e⟩ := y2 j hj
    rw [e]
    exact h0 i hi
  have h1 := halved_pow hK yn y1 B (by omega)
  obtain ⟨i, hi, e⟩ := y2 (K * B) (by omega)
  have h2 := y1 (K * B) hc
  have h3 := yn (K * B + 1) (by omega)
  refine ⟨i, hi, ?_, by rw [← e, ← y0]; exact h1⟩
  rw [← e]
  rcases Int.lt_or_le 0 (y (K * B)) with c | c
  · exact c
  · exfalso
    have : (K : Int) * y (K * B) ≤ 0 := Int.mul_nonpos_of_nonneg_of_nonpos (by omega) c
    have : 0 ≤ ((K : Int) + 1) * y (K * B + 1) := Int.mul_nonneg (by omega) h3
    omega
theorem common (f : Nat → Int) (hf : ∀ j, 1 ≤ f j) : ∀ n, ∃ P : Int, 1 ≤ P ∧ ∀ j, j ≤ n → ∃ u, P = f j * u
  | 0 => ⟨f 0, hf 0, fun j hj => ⟨1, by rw [show j = 0 by omega, Int.mul_one]⟩⟩
  | n + 1 => by
    obtain ⟨P, h1, h2⟩ := common f hf n
    refine ⟨P * f (n + 1), ?_, fun j hj => ?_⟩
    · have := Int.mul_le_mul h1 (hf (n + 1)) (by omega) (by omega)
      omega
    · by_cases c : j = n + 1
      · exact ⟨P, by rw [c, Int.mul_comm]⟩
      · obtain ⟨u, e⟩ := h2 j (by omega)
        exact ⟨u * f (n + 1), by rw [e, Int.mul_assoc]⟩
theorem chain_few {K b N cap : Nat} {nn tt : Nat → Int} (hK : 1 ≤ K) (hcap : cap < 2 ^ b) (hn : ∀ j, 1 ≤ nn j) (hn2 : ∀ j, nn j ≤ cap) (ht : ∀ j, 0 ≤ tt j) (ht2 : ∀ j, tt j ≤ nn j * (nn j * 16777216))
    (mn : ∀ j, j < N → nn (j + 1) ≤ nn j) (mt : ∀ j, j < N → tt (j + 1) * nn j ≤ tt j * nn (j + 1))
    (h : ∀ j, j < N → ((K : Int) + 1) * nn (j + 1) < K * nn j ∨ ((K : Int) + 1) * (tt (j + 1) * nn j) < K * (tt j * nn (j + 1))) : N ≤ K * (3 * b + 24) := by
  have hB := cntB_not (fun j => decide (((K : Int) + 1) * nn (j + 1) < K * nn j)) N
  have hA : cntB (fun j => decide (((K : Int) + 1) * nn (j + 1) < K * nn j)) N ≤ K * b := by
    rcases Nat.lt_or_ge (K * b) (cntB (fun j => decide (((K : Int) + 1) * nn (j + 1) < K * nn j)) N) with c | c
    · exfalso
      obtain ⟨i, hi, i1, i2⟩ := many_drops hK (fun j _ => by have := hn j; omega) mn (fun j _ hj => of_decide_eq_true hj) c
      have := hn2 0
      have h2 : ((2 ^ b : Nat) : Int) * 1 ≤ ((2 ^ b : Nat) : Int) * nn i := Int.mul_le_mul_of_nonneg_left (by omega) (by omega)
      have e2 : ((2 ^ b : Nat) : Int) = (2 : Int) ^ b := by rw [Int.natCast_pow]; rfl
      have : ((cap : Nat) : Int) < ((2 ^ b : Nat) : Int) := by omega
      rw [e2] at h2 this
      omega
    · exact c
  obtain ⟨P, hP, hu⟩ := common nn hn N
  have hC : cntB (fun j => !decide (((K : Int) + 1) * nn (j + 1) < K * nn j)) N ≤ K * (2 * b + 24) := by
    rcases Nat.lt_or_ge (K * (2 * b + 24)) (cntB (fun j => !decide (((K : Int) + 1) * nn (j + 1) < K * nn j)) N) with c | c
    · exfalso
      have xe : ∀ j, j ≤ N → nn j * (P / nn j) = P := fun j hj => by
        obtain ⟨u, e⟩ := hu j hj
        rw [e, Int.mul_ediv_cancel_left _ (by have := hn j; omega)]
      have x0 : ∀ j, j ≤ N → 0 ≤ P / nn j := fun j _ => Int.ediv_nonneg (by omega) (by have := hn j; omega)
      have cross : ∀ j, j < N → ∀ p q : Int, p * (tt (j + 1) * nn j) < q * (tt j * nn (j + 1)) → p * (tt (j + 1) * (P / nn (j + 1))) < q * (tt j * (P / nn j)) := by
        intro j hj p q hpq
        have e1 := xe j (by omega)
        have e2 := xe (j + 1) (by omega)
        have p1 := hn j
        have p2 := hn (j + 1)
        generalize P / nn j = u at *
        generalize P / nn (j + 1) = v at *
        refine Int.lt_of_mul_lt_mul_left (a := nn j * nn (j + 1)) ?_ (Int.mul_nonneg (by omega) (by omega))
        have s1 : nn j * nn (j + 1) * (p * (tt (j + 1) * v)) = (p * (tt (j + 1) * nn j)) * P := by rw [← e2]; grind
        have s2 : nn j * nn (j + 1) * (q * (tt j * u)) = (q * (tt j * nn (j + 1))) * P := by rw [← e1]; grind
        rw [s1, s2]
        exact Int.mul_lt_mul_of_pos_right hpq (by omega)
      have crossle : ∀ j, j < N → tt (j + 1) * (P / nn (j + 1)) ≤ tt j * (P / nn j) := by
        intro j hj
        have e1 := xe j (by omega)
        have e2 := xe (j + 1) (by omega)
        have p1 := hn j
        have p2 := hn (j + 1)
        have hm := mt j hj
        generalize P / nn j = u at *
        generalize P / nn (j + 1) = v at *
        refine Int.le_of_mul_le_mul_left (a := nn j * nn (j + 1)) ?_ (Int.mul_pos (by omega) (by omega))
        have s1 : nn j * nn (j + 1) * (tt (j + 1) * v) = (tt (j + 1) * nn j) * P := by rw [← e2]; grind
        have s2 : nn j * nn (j + 1) * (tt j * u) = (tt j * nn (j + 1)) * P := by rw [← e1]; grind
        rw [s1, s2]
        exact Int.mul_le_mul_of_nonneg_right hm (by omega)
      obtain ⟨i, hi, i1, i2⟩ := many_drops (x := fun j => tt j * (P / nn j)) hK (fun j hj => Int.mul_nonneg (ht j) (x0 j hj)) crossle (fun j hj hg => by
        rcases h j hj with q | q
        · simp [q] at hg
        · exact cross j hj _ _ q) c
      -- the least positive spread, and the greatest one
      have ei := xe i hi
      have e0 := xe 0 (by omega)
      have ui := x0 i hi
      have u0 := x0 0 (by omega)
      have ni := hn2 i
      have n0 := hn2 0
      have ti := ht i
      have t0 := ht2 0
      have pn0 := hn 0
      generalize P / nn i = u at *
      generalize P / nn 0 = v at *
      have ti1 : 1 ≤ tt i := by
        rcases Int.lt_or_le 0 (tt i) with q | q
        · omega
        · have : tt i = 0 := by omega
          rw [this, Int.zero_mul] at i1
          omega
      -- P ≤ cap * x i
      have a1 : u ≤ tt i * u := by have := Int.mul_le_mul_of_nonneg_right ti1 ui; omega
      have a2 : P ≤ (cap : Int) * (tt i * u) := by
        rw [← ei]
        exact Int.mul_le_mul ni a1 ui (by omega)
      have a3 : tt 0 * v ≤ (cap : Int) * 16777216 * P := by
        rw [← e0]
        have b1 : tt 0 * v ≤ nn 0 * (nn 0 * 16777216) * v := Int.mul_le_mul_of_nonneg_right t0 u0
        have b2 : nn 0 * 16777216 * (nn 0 * v) ≤ (cap : Int) * 16777216 * (nn 0 * v) := Int.mul_le_mul_of_nonneg_right (by omega) (Int.mul_nonneg (by omega) u0)
        grind
      have a4 : (2 : Int) ^ (2 * b + 24) * P ≤ (cap : Int) * ((cap : Int) * 16777216 * P) := by
        have b1 : (2 : Int) ^ (2 * b + 24) * P ≤ (2 : Int) ^ (2 * b + 24) * ((cap : Int) * (tt i * u)) := Int.mul_le_mul_of_nonneg_left a2 (Int.pow_nonneg (by decide))
        have b2 : (cap : Int) * ((2 : Int) ^ (2 * b + 24) * (tt i * u)) ≤ (cap : Int) * (tt 0 * v) := Int.mul_le_mul_of_nonneg_left i2 (by omega)
        have b3 : (cap : Int) * (tt 0 * v) ≤ (cap : Int) * ((cap : Int) * 16777216 * P) := Int.mul_le_mul_of_nonneg_left a3 (by omega)
        have b4 : (2 : Int) ^ (2 * b + 24) * ((cap : Int) * (tt i * u)) = (cap : Int) * ((2 : Int) ^ (2 * b + 24) * (tt i * u)) := by grind
        omega
      have hc2 : (cap : Int) * cap < (2 : Int) ^ b * 2 ^ b := by
        have : (cap : Int) < (2 : Int) ^ b := by
          have : ((cap : Nat) : Int) < ((2 ^ b : Nat) : Int) := by omega
          rw [Int.natCast_pow] at this
          exact this
        exact Int.mul_lt_mul this (by omega) (by omega) (by omega)
      have a5 : (cap : Int) * ((cap : Int) * 16777216 * P) < (2 : Int) ^ (2 * b + 24) * P := by
        have e1 : (2 : Int) ^ (2 * b + 24) = 2 ^ b * 2 ^ b * 16777216 := by rw [Int.pow_add, show 2 * b = b + b by omega, Int.pow_add]; rfl
        rw [e1]
        have : (cap : Int) * cap * (16777216 * P) < 2 ^ b * 2 ^ b * (16777216 * P) := Int.mul_lt_mul_of_pos_right hc2 (by omega)
        grind
      omega
    · exact c
  have : K * (3 * b + 24) = K * b + K * (2 * b + 24) := by rw [← Nat.mul_add]; congr 1; omega
  omega
/-- There are few marks. -/
theorem sp_few {wd k cap now seq : Int} {l : List Mk} (hv : spValid wd k cap now seq l) : (l.length : Int) ≤ mostV k cap := by
  obtain ⟨⟨g2, g3, g4, g5, g6, g7, g8, g9⟩, hm, hs⟩ := hv
  obtain ⟨hq, hV⟩ := mvalid_iff.1 hm
  have far := spAt_iff.1 hs
  unfold mostV
  rw [if_pos ⟨g4, g5, g6, g7⟩]
  obtain ⟨kn, rfl⟩ : ∃ kn : Nat, k = (kn : Int) := ⟨k.toNat, by omega⟩
  obtain ⟨cn, rfl⟩ : ∃ cn : Nat, cap = (cn : Int) := ⟨cap.toNat, by omega⟩
  rw [Int.toNat_natCast]
  have nb : 0 ≤ (12 * (kn : Int)) * (3 * ((Lib.bitLen cn : Nat) : Int) + 24) := Int.mul_nonneg (by omega) (by omega)
  by_cases hl : l.length ≤ 2
  · omega
  · -- the marks at even places, up tt9 the last one
    have one : ∀ i, i < l.length → oneP seq cn now wd (-4096) (mkAt l i) := fun i hi => hV.one _ (mkAt_mem hi)
    let ix : Nat → Nat := fun j => if 2 * j < l.length then 2 * j else 0
    have hix : ∀ j, ix j < l.length := fun j => by show (if 2 * j < l.length then 2 * j else 0) < l.length; split <;> omega
    have hx : ∀ j, j ≤ (l.length - 1) / 2 → ix j = 2 * j := fun j hj => by show (if 2 * j < l.length then 2 * j else 0) = 2 * j; rw [if_pos (by omega)]
    have big1 : cn < 2 ^ Lib.bitLen cn := bitLen_gt cn (by omega)
    have res := chain_few (K := 6 * kn - 1) (b := Lib.bitLen cn) (N := (l.length - 1) / 2) (cap := cn) (nn := fun j => (mkAt l (ix j)).n) (tt := fun j => tpM (mkAt l (ix j))) (by omega) big1
      (fun j => by have := (one _ (hix j)).2.2.1; have := (one _ (hix j)).2.1; show 1 ≤ (mkAt l (ix j)).n; omega) (fun j => (one _ (hix j)).2.2.2.1) (fun j => one_tp (one _ (hix j)))
      (fun j => by
        have o := one _ (hix j)
        have n1 : 1 ≤ (mkAt l (ix j)).n := by have := o.2.2.1; have := o.2.1; omega
        have hq := o.2.2.2.2.2.2.2.2.2.2.2.2.1
        show tpI _ _ _ ≤ _
        have sq := sqn (mkAt l (ix j)).s
        have : (mkAt l (ix j)).n * (mkAt l (ix j)).q ≤ (mkAt l (ix j)).n * ((mkAt l (ix j)).n * 16777216) := Int.mul_le_mul_of_nonneg_left (by omega) (by omega)
        unfold tpI
        try dsimp only
        omega)
      (fun j hj => by
        try dsimp only
        rw [hx j (by omega), hx (j + 1) (by omega)]
        have := two_n (one (2 * j) (by omega)) (one (2 * (j + 1)) (by omega)) (pairwise_at hV.two (show 2 * j < 2 * (j + 1) by omega) (by omega))
        omega)
      (fun j hj => by
        try dsimp only
        rw [hx j (by omega), hx (j + 1) (by omega)]
        exact two_spread (one (2 * j) (by omega)) (one (2 * (j + 1)) (by omega)) (pairwise_at hV.two (show 2 * j < 2 * (j + 1) by omega) (by omega)))
      (fun j hj => by
        try dsimp only
        rw [hx j (by omega), hx (j + 1) (by omega)]
        have f := far (2 * j) (by omega)
        have oa := one (2 * j) (by omega)
        have ob := one (2 * j + 2) (by omega)
        rw [show 2 * (j + 1) = 2 * j + 2 by omega]
        have ra := one_right oa (by omega)
        have rb := one_right ob (by omega)
        generalize mkAt l (2 * j) = a at *
        generalize mkAt l (2 * j + 2) = b at *
        have eK : (((6 * kn - 1 : Nat)) : Int) = 6 * (kn : Int) - 1 := by omega
        rw [eK]
        by_cases c : (6 * (kn : Int) - 1) * a.n ≤ 6 * kn * b.n
        · refine .inr ?_
          have nf : ¬ topN a.n a.s a.q * b.n.toNat * (6 * (kn : Int) - 1).toNat ≤ topN b.n b.s b.q * a.n.toNat * (6 * (kn : Int)).toNat := fun h => f ⟨ra, rb, ⟨g4, g5⟩, c, h⟩
          have nf := Int.ofNat_lt.2 (Nat.lt_of_not_le nf)
          rw [Int.natCast_mul, Int.natCast_mul, Int.natCast_mul, Int.natCast_mul, (right_tp ra).2, (right_tp rb).2, Int.toNat_of_nonneg (show 0 ≤ a.n by have := ra.1; omega), Int.toNat_of_nonneg (show 0 ≤ 6 * (kn : Int) by omega), Int.toNat_of_nonneg (show 0 ≤ b.n by have := rb.1; omega), Int.toNat_of_nonneg (show 0 ≤ 6 * (kn : Int) - 1 by omega)] at nf
          unfold tpM
          grind
        · refine .inl ?_
          grind)
    have e : (12 * (kn : Int)) * (3 * ((Lib.bitLen cn : Nat) : Int) + 24) = ((12 * kn * (3 * Lib.bitLen cn + 24) : Nat) : Int) := by
      rw [Int.natCast_mul, Int.natCast_mul, Int.natCast_add, Int.natCast_mul]; rfl
    rw [e]
    have h1 : (6 * kn - 1) * (3 * Lib.bitLen cn + 24) ≤ 6 * kn * (3 * Lib.bitLen cn + 24) := Nat.mul_le_mul_right _ (by omega)
    have h2 : 12 * kn * (3 * Lib.bitLen cn + 24) = 2 * (6 * kn * (3 * Lib.bitLen cn + 24)) := by rw [← Nat.mul_assoc, ← Nat.mul_assoc]
    omega
end Go.Proofs.Ytaiepjcnncajcaa
end
section
/- Marks of smooth histograms: words; small functions. -/
set_option linter.unusedVariables false
set_option linter.unusedSimpArgs false
set_option linter.unusedSectionVars false
set_option linter.unnecessarySimpa false
namespace Go.Proofs.Ytaiepjcnncajcaa
open Go.RowKit
/-- The cells of a list of marks. -/
def mcells (l : List Mk) : List Value := l.flatMap fun m => [.int .i64 m.seq, .int .i64 m.t, .int .i64 m.n, .int .i64 m.s, .int .i64 m.q, .int .i64 m.lo, .int .i64 m.hi]
theorem mcells_nil : mcells [] = [] := rfl
theorem mcells_cons (m : Mk) (l : List Mk) : mcells (m :: l) = .int .i64 m.seq :: .int .i64 m.t :: .int .i64 m.n :: .int .i64 m.s :: .int .i64 m.q :: .int .i64 m.lo :: .int .i64 m.hi :: mcells l := rfl
theorem mcells_append (a b : List Mk) : mcells (a ++ b) = mcells a ++ mcells b := by unfold mcells; rw [List.flatMap_append]
theorem mcells_len : ∀ l : List Mk, (mcells l).length = l.length * 7
  | [] => rfl
  | m :: l => by rw [mcells_cons]; simp only [List.length_cons, mcells_len l]; omega
theorem mcells_at : ∀ (l : List Mk) (i : Nat), i < l.length → (mcells l)[i * 7]? = some (.int .i64 (mkAt l i).seq) ∧ (mcells l)[i * 7 + 1]? = some (.int .i64 (mkAt l i).t) ∧ (mcells l)[i * 7 + 2]? = some (.int .i64 (mkAt l i).n) ∧ (mcells l)[i * 7 + 3]? = some (.int .i64 (mkAt l i).s) ∧ (mcells l)[i * 7 + 4]? = some (.int .i64 (mkAt l i).q) ∧ (mcells l)[i * 7 + 5]? = some (.int .i64 (mkAt l i).lo) ∧ (mcells l)[i * 7 + 6]? = some (.int .i64 (mkAt l i).hi)
  | [], i, h => absurd h (by simp)
  | m :: l, 0, _ => ⟨rfl, rfl, rfl, rfl, rfl, rfl, rfl⟩
  | m :: l, i + 1, h => by
    have ih := mcells_at l i (by simpa using h)
    rw [mcells_cons, show (i + 1) * 7 = i * 7 + 1 + 1 + 1 + 1 + 1 + 1 + 1 by omega, show i * 7 + 1 + 1 + 1 + 1 + 1 + 1 + 1 + 1 = (i * 7 + 1) + 1 + 1 + 1 + 1 + 1 + 1 + 1 by omega, show i * 7 + 1 + 1 + 1 + 1 + 1 + 1 + 1 + 2 = (i * 7 + 2) + 1 + 1 + 1 + 1 + 1 + 1 + 1 by omega, show i * 7 + 1 + 1 + 1 + 1 + 1 + 1 + 1 + 3 = (i * 7 + 3) + 1 + 1 + 1 + 1 + 1 + 1 + 1 by omega, show i * 7 + 1 + 1 + 1 + 1 + 1 + 1 + 1 + 4 = (i * 7 + 4) + 1 + 1 + 1 + 1 + 1 + 1 + 1 by omega, show i * 7 + 1 + 1 + 1 + 1 + 1 + 1 + 1 + 5 = (i * 7 + 5) + 1 + 1 + 1 + 1 + 1 + 1 + 1 by omega, show i * 7 + 1 + 1 + 1 + 1 + 1 + 1 + 1 + 6 = (i * 7 + 6) + 1 + 1 + 1 + 1 + 1 + 1 + 1 by omega]
    simp only [List.getElem?_cons_succ]
    exact ih
theorem mcells_one (l : List Mk) : ∀ u ∈ mcells l, u.oneCell' = true := by
  intro u hu
  unfold mcells at hu
  rw [List.mem_flatMap] at hu
  obtain ⟨t, _, ht⟩ := hu
  simp at ht
  rcases ht with rfl | rfl | rfl | rfl | rfl | rfl | rfl <;> rfl
def I64 (x : Int) : Prop := -9223372036854775808 ≤ x ∧ x ≤ 9223372036854775807
/-- A mark's numbers are numbers of 64 bits. -/
def M64 (m : Mk) : Prop := I64 m.seq ∧ I64 m.t ∧ I64 m.n ∧ I64 m.s ∧ I64 m.q ∧ I64 m.lo ∧ I64 m.hi
theorem M64_zero : M64 Mk.zero := by unfold M64 I64 Mk.zero; simp
/-- The seven cells of a mark. -/
def MkCells (w : World) (a : Addr) (m : Mk) : Prop := w.cell? a = some (.int .i64 m.seq) ∧ w.cell? ⟨a.block, a.off + 1, none⟩ = some (.int .i64 m.t) ∧ w.cell? ⟨a.block, a.off + 2, none⟩ = some (.int .i64 m.n) ∧ w.cell? ⟨a.block, a.off + 3, none⟩ = some (.int .i64 m.s) ∧ w.cell? ⟨a.block, a.off + 4, none⟩ = some (.int .i64 m.q) ∧ w.cell? ⟨a.block, a.off + 5, none⟩ = some (.int .i64 m.lo) ∧ w.cell? ⟨a.block, a.off + 6, none⟩ = some (.int .i64 m.hi)
section
variable {w w' : World} {B m : Nat} {A : Option Addr} {l : List Mk}
theorem Reads.mk_len (h : Reads w B 7 A m (mcells l)) : l.length = m := by have := h.1; rw [mcells_len] at this; omega
theorem mk_lit (a : Addr) (j : Nat) (h : j ≠ 0) : a.add j = ⟨a.block, a.off + j, none⟩ := by unfold Addr.add; rw [if_neg h]
theorem MkCells.keep {a : Addr} {x : Mk} (h : MkCells w a x) (hk : ∀ p : Addr, p.block = a.block → w'.cell? p = w.cell? p) : MkCells w' a x :=
  ⟨(hk _ rfl).trans h.1, (hk ⟨a.block, a.off + 1, none⟩ rfl).trans h.2.1, (hk ⟨a.block, a.off + 2, none⟩ rfl).trans h.2.2.1, (hk ⟨a.block, a.off + 3, none⟩ rfl).trans h.2.2.2.1, (hk ⟨a.block, a.off + 4, none⟩ rfl).trans h.2.2.2.2.1, (hk ⟨a.block, a.off + 5, none⟩ rfl).trans h.2.2.2.2.2.1, (hk ⟨a.block, a.off + 6, none⟩ rfl).trans h.2.2.2.2.2.2⟩
theorem MkCells.below {a : Addr} {x : Mk} (h : MkCells w a x) (hb : Below B w w') (hlt : a.block < B) : MkCells w' a x := h.keep fun p hp => hb.cell (by rw [hp]; exact hlt)
theorem Reads.mk {i : Nat} (h : Reads w B 7 A m (mcells l)) (hi : i < m) : ∃ ad, A = some ad ∧ ad.block < B ∧ MkCells w (ad.add (i * 7)) (mkAt l i) := by
  obtain ⟨ad, e, hb, hc⟩ := h.2 (by omega)
  have ht := mcells_at l i (by rw [h.mk_len]; exact hi)
  refine ⟨ad, e, hb, hc _ _ ht.1, ?_, ?_, ?_, ?_, ?_, ?_⟩
  · rw [← mk_lit _ 1 (by decide), add_of_add]
    exact hc _ _ ht.2.1
  · rw [← mk_lit _ 2 (by decide), add_of_add]
    exact hc _ _ ht.2.2.1
  · rw [← mk_lit _ 3 (by decide), add_of_add]
    exact hc _ _ ht.2.2.2.1
  · rw [← mk_lit _ 4 (by decide), add_of_add]
    exact hc _ _ ht.2.2.2.2.1
  · rw [← mk_lit _ 5 (by decide), add_of_add]
    exact hc _ _ ht.2.2.2.2.2.1
  · rw [← mk_lit _ 6 (by decide), add_of_add]
    exact hc _ _ ht.2.2.2.2.2.2
end
/-- Marks as an argument. -/
structure MIn (A : Option Addr) (m c : Nat) (l : List Mk) (w : World) : Prop where
  reads : Reads w w.heap.size 7 A m (mcells l)
  mB : ∀ i, M64 (mkAt l i)
  mc : m ≤ c
  cB : c ≤ maxLen
section
variable {w w' : World} {m c : Nat} {A : Option Addr} {l : List Mk}
theorem MIn.max (h : MIn A m c l w) : m ≤ 9223372036854775807 := by
  have := h.mc
  have := h.cB
  unfold maxLen at *
  omega
theorem MIn.len (h : MIn A m c l w) : l.length = m := h.reads.mk_len
theorem MIn.below (h : MIn A m c l w) (hb : Below w.heap.size w w') : MIn A m c l w' := ⟨(h.reads.below hb).more hb.size, h.mB, h.mc, h.cB⟩
end
theorem info_mk : (Try.prog.info? 33).map (fun i => (i.zero, i.size, i.bytes)) = some (some (.agg #[.int .i64 0, .int .i64 0, .int .i64 0, .int .i64 0, .int .i64 0, .int .i64 0, .int .i64 0]), 7, 56) := by kernel_rfl
theorem mul_small {n x : Int} (h0 : 0 ≤ n) (h1 : n ≤ 65536) (h2 : -4096 ≤ x) (h3 : x ≤ 4096) : -268435456 ≤ n * x ∧ n * x ≤ 268435456 := by
  constructor
  · have : n * (-4096) ≤ n * x := Int.mul_le_mul_of_nonneg_left h2 h0
    omega
  · have : n * x ≤ n * 4096 := Int.mul_le_mul_of_nonneg_left h3 h0
    omega
theorem pfits_0 (n lo hi s q : Int) (w : World) (hn0 : 0 ≤ n) (hn1 : n ≤ 65536) (l0 : -4096 ≤ lo) (l1 : lo ≤ 4096) (g0 : -4096 ≤ hi) (g1 : hi ≤ 4096)  (h : s < n * lo) : Calls Try.prog 100 #[.int .i64 n, .int .i64 lo, .int .i64 hi, .int .i64 s, .int .i64 q] w fun e w' => e = .returned (.bool false) ∧ w' = w := by
  have b1 := mul_small hn0 hn1 l0 l1
  have b2 := mul_small hn0 hn1 g0 g1
  have wl : IntKind.i64.wrap (n * lo) = n * lo := IntWalk.i64_in _ (by omega)
  have wh : IntKind.i64.wrap (n * hi) = n * hi := IntWalk.i64_in _ (by omega)
  have wn2 : IntKind.i64.wrap (n * 4096) = n * 4096 := IntWalk.i64_in _ (by omega)
  have wn3 : IntKind.i64.wrap (n * 4096 * 4096) = n * 4096 * 4096 := IntWalk.i64_in _ (by omega)
  go_enter Try.func100, Try.ntmps100
  go_wp2_with fail
  go_ret
  exact ⟨by first | rfl | exact ret_bool (by simp; omega) | exact ret_bool (by simp [*]), rfl⟩
theorem pfits_1 (n lo hi s q : Int) (w : World) (hn0 : 0 ≤ n) (hn1 : n ≤ 65536) (l0 : -4096 ≤ lo) (l1 : lo ≤ 4096) (g0 : -4096 ≤ hi) (g1 : hi ≤ 4096) (h0 : n * lo ≤ s) (h : n * hi < s) : Calls Try.prog 100 #[.int .i64 n, .int .i64 lo, .int .i64 hi, .int .i64 s, .int .i64 q] w fun e w' => e = .returned (.bool false) ∧ w' = w := by
  have b1 := mul_small hn0 hn1 l0 l1
  have b2 := mul_small hn0 hn1 g0 g1
  have wl : IntKind.i64.wrap (n * lo) = n * lo := IntWalk.i64_in _ (by omega)
  have wh : IntKind.i64.wrap (n * hi) = n * hi := IntWalk.i64_in _ (by omega)
  have wn2 : IntKind.i64.wrap (n * 4096) = n * 4096 := IntWalk.i64_in _ (by omega)
  have wn3 : IntKind.i64.wrap (n * 4096 * 4096) = n * 4096 * 4096 := IntWalk.i64_in _ (by omega)
  go_enter Try.func100, Try.ntmps100
  go_wp2_with fail
  go_ret
  exact ⟨by first | rfl | exact ret_bool (by simp; omega) | exact ret_bool (by simp [*]), rfl⟩
theorem pfits_2 (n lo hi s q : Int) (w : World) (hn0 : 0 ≤ n) (hn1 : n ≤ 65536) (l0 : -4096 ≤ lo) (l1 : lo ≤ 4096) (g0 : -4096 ≤ hi) (g1 : hi ≤ 4096) (h0 : n * lo ≤ s) (h1 : s ≤ n * hi) (h : q < 0) : Calls Try.prog 100 #[.int .i64 n, .int .i64 lo, .int .i64 hi, .int .i64 s, .int .i64 q] w fun e w' => e = .returned (.bool false) ∧ w' = w := by
  have b1 := mul_small hn0 hn1 l0 l1
  have b2 := mul_small hn0 hn1 g0 g1
  have wl : IntKind.i64.wrap (n * lo) = n * lo := IntWalk.i64_in _ (by omega)
  have wh : IntKind.i64.wrap (n * hi) = n * hi := IntWalk.i64_in _ (by omega)
  have wn2 : IntKind.i64.wrap (n * 4096) = n * 4096 := IntWalk.i64_in _ (by omega)
  have wn3 : IntKind.i64.wrap (n * 4096 * 4096) = n * 4096 * 4096 := IntWalk.i64_in _ (by omega)
  go_enter Try.func100, Try.ntmps100
  go_wp2_with fail
  go_ret
  exact ⟨by first | rfl | exact ret_bool (by simp; omega) | exact ret_bool (by simp [*]), rfl⟩
theorem pfits_3 (n lo hi s q : Int) (w : World) (hn0 : 0 ≤ n) (hn1 : n ≤ 65536) (l0 : -4096 ≤ lo) (l1 : lo ≤ 4096) (g0 : -4096 ≤ hi) (g1 : hi ≤ 4096) (h0 : n * lo ≤ s) (h1 : s ≤ n * hi) (h2 : 0 ≤ q) (h : n * 4096 * 4096 < q) : Calls Try.prog 100 #[.int .i64 n, .int .i64 lo, .int .i64 hi, .int .i64 s, .int .i64 q] w fun e w' => e = .returned (.bool false) ∧ w' = w := by
  have b1 := mul_small hn0 hn1 l0 l1
  have b2 := mul_small hn0 hn1 g0 g1
  have wl : IntKind.i64.wrap (n * lo) = n * lo := IntWalk.i64_in _ (by omega)
  have wh : IntKind.i64.wrap (n * hi) = n * hi := IntWalk.i64_in _ (by omega)
  have wn2 : IntKind.i64.wrap (n * 4096) = n * 4096 := IntWalk.i64_in _ (by omega)
  have wn3 : IntKind.i64.wrap (n * 4096 * 4096) = n * 4096 * 4096 := IntWalk.i64_in _ (by omega)
  go_enter Try.func100, Try.ntmps100
  go_wp2_with fail
  go_ret
  exact ⟨by first | rfl | exact ret_bool (by simp; omega) | exact ret_bool (by simp [*]), rfl⟩
theorem pfits_4 (n lo hi s q : Int) (w : World) (hn0 : 0 ≤ n) (hn1 : n ≤ 65536) (l0 : -4096 ≤ lo) (l1 : lo ≤ 4096) (g0 : -4096 ≤ hi) (g1 : hi ≤ 4096) (h0 : n * lo ≤ s) (h1 : s ≤ n * hi) (h2 : 0 ≤ q) (h3 : q ≤ n * 4096 * 4096) (h : n * q < s * s) : Calls Try.prog 100 #[.int .i64 n, .int .i64 lo, .int .i64 hi, .int .i64 s, .int .i64 q] w fun e w' => e = .returned (.bool false) ∧ w' = w := by
  have b1 := mul_small hn0 hn1 l0 l1
  have b2 := mul_small hn0 hn1 g0 g1
  have wl : IntKind.i64.wrap (n * lo) = n * lo := IntWalk.i64_in _ (by omega)
  have wh : IntKind.i64.wrap (n * hi) = n * hi := IntWalk.i64_in _ (by omega)
  have wn2 : IntKind.i64.wrap (n * 4096) = n * 4096 := IntWalk.i64_in _ (by omega)
  have wn3 : IntKind.i64.wrap (n * 4096 * 4096) = n * 4096 * 4096 := IntWalk.i64_in _ (by omega)
  have b3 := sq_bound (s := s) (B := 268435456) (by omega) (by omega)
  have b4 : 0 ≤ n * q ∧ n * q ≤ 65536 * 1099511627776 := ⟨Int.mul_nonneg hn0 h2, Int.mul_le_mul hn1 (by omega) h2 (by decide)⟩
  have wss : IntKind.i64.wrap (s * s) = s * s := IntWalk.i64_in _ (by omega)
  have wnq : IntKind.i64.wrap (n * q) = n * q := IntWalk.i64_in _ (by omega)
  go_enter Try.func100, Try.ntmps100
  go_wp2_with fail
  go_ret
  exact ⟨by first | rfl | exact ret_bool (by simp; omega) | exact ret_bool (by simp [*]), rfl⟩
theorem pfits_5 (n lo hi s q : Int) (w : World) (hn0 : 0 ≤ n) (hn1 : n ≤ 65536) (l0 : -4096 ≤ lo) (l1 : lo ≤ 4096) (g0 : -4096 ≤ hi) (g1 : hi ≤ 4096) (h0 : n * lo ≤ s) (h1 : s ≤ n * hi) (h2 : 0 ≤ q) (h3 : q ≤ n * 4096 * 4096) (h4 : s * s ≤ n * q) : Calls Try.prog 100 #[.int .i64 n, .int .i64 lo, .int .i64 hi, .int .i64 s, .int .i64 q] w fun e w' => e = .returned (.bool true) ∧ w' = w := by
  have b1 := mul_small hn0 hn1 l0 l1
  have b2 := mul_small hn0 hn1 g0 g1
  have wl : IntKind.i64.wrap (n * lo) = n * lo := IntWalk.i64_in _ (by omega)
  have wh : IntKind.i64.wrap (n * hi) = n * hi := IntWalk.i64_in _ (by omega)
  have wn2 : IntKind.i64.wrap (n * 4096) = n * 4096 := IntWalk.i64_in _ (by omega)
  have wn3 : IntKind.i64.wrap (n * 4096 * 4096) = n * 4096 * 4096 := IntWalk.i64_in _ (by omega)
  have b3 := sq_bound (s := s) (B := 268435456) (by omega) (by omega)
  have b4 : 0 ≤ n * q ∧ n * q ≤ 65536 * 1099511627776 := ⟨Int.mul_nonneg hn0 h2, Int.mul_le_mul hn1 (by omega) h2 (by decide)⟩
  have wss : IntKind.i64.wrap (s * s) = s * s := IntWalk.i64_in _ (by omega)
  have wnq : IntKind.i64.wrap (n * q) = n * q := IntWalk.i64_in _ (by omega)
  go_enter Try.func100, Try.ntmps100
  go_wp2_with fail
  go_ret
  exact ⟨by first | rfl | exact ret_bool (by simp; omega) | exact ret_bool (by simp [*]), rfl⟩
theorem pfits (n lo hi s q : Int) (w : World) (hn0 : 0 ≤ n) (hn1 : n ≤ 65536) (l0 : -4096 ≤ lo) (l1 : lo ≤ 4096) (g0 : -4096 ≤ hi) (g1 : hi ≤ 4096) : Calls Try.prog 100 #[.int .i64 n, .int .i64 lo, .int .i64 hi, .int .i64 s, .int .i64 q] w fun e w' => e = .returned (.bool (decide (n * lo ≤ s ∧ s ≤ n * hi ∧ 0 ≤ q ∧ q ≤ n * 4096 * 4096 ∧ s * s ≤ n * q))) ∧ w' = w := by
  by_cases h0 : n * lo ≤ s
  · skip
    by_cases h1 : s ≤ n * hi
    · skip
      by_cases h2 : 0 ≤ q
      · skip
        by_cases h3 : q ≤ n * 4096 * 4096
        · skip
          by_cases h4 : s * s ≤ n * q
          · skip
            rw [show decide (n * lo ≤ s ∧ s ≤ n * hi ∧ 0 ≤ q ∧ q ≤ n * 4096 * 4096 ∧ s * s ≤ n * q) = true from decide_eq_true ⟨h0, h1, h2, h3, h4⟩]
            exact pfits_5 n lo hi s q w hn0 hn1 l0 l1 g0 g1 h0 h1 h2 h3 h4
          · rw [show decide (n * lo ≤ s ∧ s ≤ n * hi ∧ 0 ≤ q ∧ q ≤ n * 4096 * 4096 ∧ s * s ≤ n * q) = false from decide_eq_false (fun a => h4 a.2.2.2.2)]
            exact pfits_4 n lo hi s q w hn0 hn1 l0 l1 g0 g1 h0 h1 h2 h3 (Int.not_le.1 h4)
        · rw [show decide (n * lo ≤ s ∧ s ≤ n * hi ∧ 0 ≤ q ∧ q ≤ n * 4096 * 4096 ∧ s * s ≤ n * q) = false from decide_eq_false (fun a => h3 a.2.2.2.1)]
          exact pfits_3 n lo hi s q w hn0 hn1 l0 l1 g0 g1 h0 h1 h2 (Int.not_le.1 h3)
      · rw [show decide (n * lo ≤ s ∧ s ≤ n * hi ∧ 0 ≤ q ∧ q ≤ n * 4096 * 4096 ∧ s * s ≤ n * q) = false from decide_eq_false (fun a => h2 a.2.2.1)]
        exact pfits_2 n lo hi s q w hn0 hn1 l0 l1 g0 g1 h0 h1 (Int.not_le.1 h2)
    · rw [show decide (n * lo ≤ s ∧ s ≤ n * hi ∧ 0 ≤ q ∧ q ≤ n * 4096 * 4096 ∧ s * s ≤ n * q) = false from decide_eq_false (fun a => h1 a.2.1)]
      exact pfits_1 n lo hi s q w hn0 hn1 l0 l1 g0 g1 h0 (Int.not_le.1 h1)
  · rw [show decide (n * lo ≤ s ∧ s ≤ n * hi ∧ 0 ≤ q ∧ q ≤ n * 4096 * 4096 ∧ s * s ≤ n * q) = false from decide_eq_false (fun a => h0 a.1)]
    exact pfits_0 n lo hi s q w hn0 hn1 l0 l1 g0 g1  (Int.not_le.1 h0)
theorem pfitsP (n lo hi s q : Int) (w : World) (hn0 : 0 ≤ n) (hn1 : n ≤ 65536) (l0 : -4096 ≤ lo) (l1 : lo ≤ 4096) (g0 : -4096 ≤ hi) (g1 : hi ≤ 4096) : Calls Try.prog 100 #[.int .i64 n, .int .i64 lo, .int .i64 hi, .int .i64 s, .int .i64 q] w fun e w' => e = .returned (.bool (decide (partP n lo hi s q))) ∧ w' = w := by
  have e : decide (partP n lo hi s q) = decide (n * lo ≤ s ∧ s ≤ n * hi ∧ 0 ≤ q ∧ q ≤ n * 4096 * 4096 ∧ s * s ≤ n * q) := by
    by_cases h : partP n lo hi s q
    · exact (decide_eq_true h).trans (decide_eq_true (p := n * lo ≤ s ∧ s ≤ n * hi ∧ 0 ≤ q ∧ q ≤ n * 4096 * 4096 ∧ s * s ≤ n * q) h).symm
    · exact (decide_eq_false h).trans (decide_eq_false (p := n * lo ≤ s ∧ s ≤ n * hi ∧ 0 ≤ q ∧ q ≤ n * 4096 * 4096 ∧ s * s ≤ n * q) h).symm
  rw [e]
  exact pfits n lo hi s q w hn0 hn1 l0 l1 g0 g1
theorem ptick_2 (now : Int) (w : World)  (h0 : 0 ≤ now) (h1 : now ≤ 16777216) : Calls Try.prog 99 #[.int .i64 now] w fun e w' => e = .returned (.bool true) ∧ w' = w := by
  go_enter Try.func99, Try.ntmps99
  go_wp2_with fail
  go_ret
  exact ⟨by first | rfl | exact ret_bool (by simp; omega), rfl⟩
theorem pfirst_yes (now wd : Int) (w : World) (n0 : 0 ≤ now) (n1 : now ≤ 16777216) (d0 : 1 ≤ wd) (d1 : wd ≤ 1048576) (h : 0 ≤ now - wd + 1) : Calls Try.prog 103 #[.int .i64 now, .int .i64 wd] w fun e w' => e = .returned (.int .i64 (now - wd + 1)) ∧ w' = w := by
  have PT := Lib.hid (fun w => ptick_2 now w n0 n1)
  have w1 : IntKind.i64.wrap (now - wd) = now - wd := IntWalk.i64_in _ (by omega)
  have w2 : IntKind.i64.wrap (now - wd + 1) = now - wd + 1 := IntWalk.i64_in _ (by omega)
  go_enter Try.func103, Try.ntmps103
  go_wp2_with (go_at_call 99; with_reducible refine (PT.out _).mono ?_; rintro e w9 ⟨rfl, h9⟩; obtain rfl := h9.symm)
  go_ret
  exact ⟨by first | rfl | exact ret_i64 (by omega), rfl⟩
theorem pfirst_no (now wd : Int) (w : World) (n0 : 0 ≤ now) (n1 : now ≤ 16777216) (d0 : 1 ≤ wd) (d1 : wd ≤ 1048576) (h : now - wd + 1 < 0) : Calls Try.prog 103 #[.int .i64 now, .int .i64 wd] w fun e w' => e = .returned (.int .i64 0) ∧ w' = w := by
  have PT := Lib.hid (fun w => ptick_2 now w n0 n1)
  have w1 : IntKind.i64.wrap (now - wd) = now - wd := IntWalk.i64_in _ (by omega)
  have w2 : IntKind.i64.wrap (now - wd + 1) = now - wd + 1 := IntWalk.i64_in _ (by omega)
  go_enter Try.func103, Try.ntmps103
  go_wp2_with (go_at_call 99; with_reducible refine (PT.out _).mono ?_; rintro e w9 ⟨rfl, h9⟩; obtain rfl := h9.symm)
  go_ret
  exact ⟨by first | rfl | exact ret_i64 (by omega), rfl⟩
theorem plive_yes_true (now wd t : Int) (w : World) (n0 : 0 ≤ now) (n1 : now ≤ 16777216) (d0 : 1 ≤ wd) (d1 : wd ≤ 1048576) (t0 : 0 ≤ t) (t1 : t ≤ now) (h : 0 ≤ now - wd + 1) (hl : now - wd < t) : Calls Try.prog 77 #[.int .i64 now, .int .i64 wd, .int .i64 t] w fun e w' => e = .returned (.bool true) ∧ w' = w := by
  have PT := Lib.hid (fun w => ptick_2 t w t0 (by omega))
  have PF := Lib.hid (fun w => pfirst_yes now wd w n0 n1 d0 d1 h)
  go_enter Try.func77, Try.ntmps77
  go_wp2_with (first | (go_at_call 99; with_reducible refine (PT.out _).mono ?_; rintro e w9 ⟨rfl, h9⟩; obtain rfl := h9.symm) | (go_at_call 103; with_reducible refine (PF.out _).mono ?_; rintro e w9 ⟨rfl, h9⟩; obtain rfl := h9.symm))
  go_ret
  exact ⟨by first | rfl | exact ret_bool (by simp; omega), rfl⟩
theorem plive_yes_false (now wd t : Int) (w : World) (n0 : 0 ≤ now) (n1 : now ≤ 16777216) (d0 : 1 ≤ wd) (d1 : wd ≤ 1048576) (t0 : 0 ≤ t) (t1 : t ≤ now) (h : 0 ≤ now - wd + 1) (hl : ¬ now - wd < t) : Calls Try.prog 77 #[.int .i64 now, .int .i64 wd, .int .i64 t] w fun e w' => e = .returned (.bool false) ∧ w' = w := by
  have PT := Lib.hid (fun w => ptick_2 t w t0 (by omega))
  have PF := Lib.hid (fun w => pfirst_yes now wd w n0 n1 d0 d1 h)
  go_enter Try.func77, Try.ntmps77
  go_wp2_with (first | (go_at_call 99; with_reducible refine (PT.out _).mono ?_; rintro e w9 ⟨rfl, h9⟩; obtain rfl := h9.symm) | (go_at_call 103; with_reducible refine (PF.out _).mono ?_; rintro e w9 ⟨rfl, h9⟩; obtain rfl := h9.symm))
  go_ret
  exact ⟨by first | rfl | exact ret_bool (by simp; omega), rfl⟩
theorem plive_no_true (now wd t : Int) (w : World) (n0 : 0 ≤ now) (n1 : now ≤ 16777216) (d0 : 1 ≤ wd) (d1 : wd ≤ 1048576) (t0 : 0 ≤ t) (t1 : t ≤ now) (h : now - wd + 1 < 0) (hl : now - wd < t) : Calls Try.prog 77 #[.int .i64 now, .int .i64 wd, .int .i64 t] w fun e w' => e = .returned (.bool true) ∧ w' = w := by
  have PT := Lib.hid (fun w => ptick_2 t w t0 (by omega))
  have PF := Lib.hid (fun w => pfirst_no now wd w n0 n1 d0 d1 h)
  go_enter Try.func77, Try.ntmps77
  go_wp2_with (first | (go_at_call 99; with_reducible refine (PT.out _).mono ?_; rintro e w9 ⟨rfl, h9⟩; obtain rfl := h9.symm) | (go_at_call 103; with_reducible refine (PF.out _).mono ?_; rintro e w9 ⟨rfl, h9⟩; obtain rfl := h9.symm))
  go_ret
  exact ⟨by first | rfl | exact ret_bool (by simp; omega), rfl⟩
theorem plive (now wd t : Int) (w : World) (n0 : 0 ≤ now) (n1 : now ≤ 16777216) (d0 : 1 ≤ wd) (d1 : wd ≤ 1048576) (t0 : 0 ≤ t) (t1 : t ≤ now) : Calls Try.prog 77 #[.int .i64 now, .int .i64 wd, .int .i64 t] w fun e w' => e = .returned (.bool (decide (now - wd < t))) ∧ w' = w := by
  by_cases h : 0 ≤ now - wd + 1
  · by_cases hl : now - wd < t
    · rw [decide_eq_true hl]
      exact plive_yes_true now wd t w n0 n1 d0 d1 t0 t1 h hl
    · rw [decide_eq_false hl]
      exact plive_yes_false now wd t w n0 n1 d0 d1 t0 t1 h hl
  · rw [decide_eq_true (by omega)]
    exact plive_no_true now wd t w n0 n1 d0 d1 t0 t1 (by omega) (by omega)
end Go.Proofs.Ytaiepjcnncajcaa
end
section
/- Marks of smooth histograms: the program's check, walked. -/
set_option linter.unusedVariables false
set_option linter.unusedSimpArgs false
set_option linter.unusedSectionVars false
set_option linter.unnecessarySimpa false
namespace Go.Proofs.Ytaiepjcnncajcaa
open Go.RowKit
theorem mvalid_bad {l : List Mk} {seq cap now wd least : Int} {i : Nat} (hi : i < l.length) (h : ¬ atP l seq cap now wd least i) : decide (mvalid l seq cap now wd least) = false := decide_eq_false (fun a => h (a.2.2.1 i hi))
/-- What a place asks, flat. -/
theorem at_flat {l : List Mk} {seq cap now wd least : Int} {i : Nat} {sq tk n s q lo hi : Int} (hM : mkAt l i = ⟨sq, tk, n, s, q, lo, hi⟩) : atP l seq cap now wd least i ↔ (1 ≤ sq ∧ sq ≤ seq ∧ n = seq - sq + 1 ∧ n ≤ cap ∧ 0 ≤ tk ∧ tk ≤ now) ∧ (least ≤ lo ∧ hi ≤ 4096 ∧ lo ≤ hi ∧ partP n lo hi s q) ∧ ((0 < i ∨ l.length = 1) → now - wd < tk) ∧ (0 < i → twoP (mkAt l (i - 1)) (mkAt l i)) := by
  unfold atP
  rw [hM]
  constructor
  · rintro ⟨⟨a1, a2, a3, a4, a5, a6, a7, a8, a9, a10⟩, b, c⟩
    exact ⟨⟨a1, a2, a3, a4, a5, a6⟩, ⟨a7, a8, a9, a10⟩, b, c⟩
  · rintro ⟨⟨a1, a2, a3, a4, a5, a6⟩, ⟨a7, a8, a9, a10⟩, b, c⟩
    exact ⟨⟨a1, a2, a3, a4, a5, a6, a7, a8, a9, a10⟩, b, c⟩
theorem two_flat {osq otk on os oq olo ohi sq tk n s q lo hi : Int} : twoP ⟨osq, otk, on, os, oq, olo, ohi⟩ ⟨sq, tk, n, s, q, lo, hi⟩ ↔ osq < sq ∧ otk ≤ tk ∧ olo ≤ lo ∧ hi ≤ ohi ∧ partP (on - n) olo ohi (os - s) (oq - q) := Iff.rfl
set_option maxRecDepth 100000 in
theorem pmvalid_a (A : Option Addr) (m c : Nat) (l : List Mk) (seq cap now wd least : Int) (w : World) (h : seq < 0) : Calls Try.prog 66 #[.slice A m c, .int .i64 seq, .int .i64 cap, .int .i64 now, .int .i64 wd, .int .i64 least] w fun e w' => e = .returned (.bool (decide (mvalid l seq cap now wd least))) ∧ Below w.heap.size w w' := by
  have E := Lib.hid (show decide (mvalid l seq cap now wd least) = false from decide_eq_false (fun a => absurd a.1 (by omega)))
  go_enter Try.func66, Try.ntmps66
  go_wp2
  go_ret
  exact ⟨ret_bool E.out.symm, Below.refl _ _⟩
set_option maxRecDepth 100000 in
theorem pmvalid_b (A : Option Addr) (m c : Nat) (l : List Mk) (seq cap now wd least : Int) (w : World) (h0 : 0 ≤ seq) (h : 1099511627776 < seq) : Calls Try.prog 66 #[.slice A m c, .int .i64 seq, .int .i64 cap, .int .i64 now, .int .i64 wd, .int .i64 least] w fun e w' => e = .returned (.bool (decide (mvalid l seq cap now wd least))) ∧ Below w.heap.size w w' := by
  have E := Lib.hid (show decide (mvalid l seq cap now wd least) = false from decide_eq_false (fun a => absurd a.2.1 (by omega)))
  go_enter Try.func66, Try.ntmps66
  go_wp2
  go_ret
  exact ⟨ret_bool E.out.symm, Below.refl _ _⟩
set_option maxRecDepth 100000 in
set_option maxHeartbeats 8000000 in
theorem pmvalid_one (A : Option Addr) (c : Nat) (l : List Mk) (seq cap now wd least : Int) (w : World) (hin : MIn A 1 c l w) (sB : I64 seq) (c0 : 1 ≤ cap) (c1 : cap ≤ 65536) (n0 : 0 ≤ now) (n1 : now ≤ 16777216) (d0 : 1 ≤ wd) (d1 : wd ≤ 1048576) (e0 : -4096 ≤ least) (s0 : 0 ≤ seq) (s1 : seq ≤ 1099511627776) : Calls Try.prog 66 #[.slice A 1 c, .int .i64 seq, .int .i64 cap, .int .i64 now, .int .i64 wd, .int .i64 least] w fun e w' => e = .returned (.bool (decide (mvalid l seq cap now wd least))) ∧ Below w.heap.size w w' := by
  have HR := Lib.hid hin
  have HL := Lib.hid hin.len
  have mB := hin.max
  have t0 : ¬ seq < 0 := by omega
  have t1 : ¬ 1099511627776 < seq := by omega
  clear hin sB
  go_enter Try.func66, Try.ntmps66
  go_wp2
  clear t0 t1
  go_loopw [25] (fun i wr => ∃ j : Nat, j ≤ 1 ∧ i = .int .i64 (j : Nat) ∧ RowKit.Hid (∀ e, e < j → atP l seq cap now wd least e) ∧ Below w.heap.size w wr) (fun i _ => 1 - (intOf i).toNat)
  case atStart => exact ⟨0, by omega, rfl, Lib.hid (fun e h => absurd h (by omega)), Below.refl _ _⟩
  case round =>
    obtain ⟨j, hj, rfl, HA, o⟩ := hrel
    by_cases hlt : j < 1
    · obtain rfl : j = 0 := by omega
      obtain ⟨ad, rfl, hadb, ht0⟩ := HR.out.reads.mk hlt
      have hB := HR.out.mB 0
      have ht0 : MkCells w ad (mkAt l 0) := ht0
      generalize hM : mkAt l 0 = mj at ht0 hB
      obtain ⟨sq, tk, n, s, q, lo, hi⟩ := mj
      obtain ⟨q0, q1, q2, q3, q4, q5, q6⟩ := ht0.below o hadb
      have AT := Lib.hid (at_flat (seq := seq) (cap := cap) (now := now) (wd := wd) (least := least) hM)
      have HM := Lib.hid hM
      obtain ⟨hB0, hB1, hB2, hB3, hB4, hB5, hB6⟩ := hB
      unfold I64 at hB0 hB1 hB2 hB3 hB4 hB5 hB6
      have i1 : (0 : Int) < 1 := by omega
      dsimp only at q0 q1 q2 q3 q4 q5 q6 hB0 hB1 hB2 hB3 hB4 hB5 hB6
      clear hM ht0
      go_upto_region 6 with (fail)
      have K : Row (wr.alloc (.cells #[.int .i64 sq, .int .i64 tk, .int .i64 n, .int .i64 s, .int .i64 q, .int .i64 lo, .int .i64 hi] 33)) wr.heap.size 33 #[.int .i64 sq, .int .i64 tk, .int .i64 n, .int .i64 s, .int .i64 q, .int .i64 lo, .int .i64 hi] := row_new rfl
      have z0 := o.size
      replace o := o.alloc o.size (.cells #[.int .i64 sq, .int .i64 tk, .int .i64 n, .int .i64 s, .int .i64 q, .int .i64 lo, .int .i64 hi] 33)
      have zm : wr.heap.size < (wr.alloc (.cells #[.int .i64 sq, .int .i64 tk, .int .i64 n, .int .i64 s, .int .i64 q, .int .i64 lo, .int .i64 hi] 33)).heap.size := row_lt K
      generalize (wr.alloc (.cells #[.int .i64 sq, .int .i64 tk, .int .i64 n, .int .i64 s, .int .i64 q, .int .i64 lo, .int .i64 hi] 33)) = w3 at K o zm ⊢
      generalize wr.heap.size = mb at K z0 zm ⊢
      clear q0 q1 q2 q3 q4 q5 q6
      obtain ⟨K0, K1, K2, K3, K4, K5, K6, Kf0, Kf1, Kf2, Kf3, Kf4, Kf5, Kf6⟩ := row_seven K
      by_cases x0 : sq < 1
      · skip
        have E := Lib.hid (mvalid_bad (l := l) (seq := seq) (cap := cap) (now := now) (wd := wd) (least := least) (i := 0) (by rw [HL.out]; exact hlt) (fun a => absurd (AT.out.1 a).1.1 (by omega)))
        go_wp2_with fail
        go_ret
        exact ⟨ret_bool E.out.symm, o⟩
      · skip
        by_cases x1 : seq < sq
        · skip
          have E := Lib.hid (mvalid_bad (l := l) (seq := seq) (cap := cap) (now := now) (wd := wd) (least := least) (i := 0) (by rw [HL.out]; exact hlt) (fun a => absurd (AT.out.1 a).1.2.1 (by omega)))
          go_wp2_with fail
          go_ret
          exact ⟨ret_bool E.out.symm, o⟩
        · skip
          by_cases x2 : n ≠ seq - sq + 1
          · skip
            have wn1 : IntKind.i64.wrap (seq - sq) = seq - sq := IntWalk.i64_in _ (by omega)
            have wn2 : IntKind.i64.wrap (seq - sq + 1) = seq - sq + 1 := IntWalk.i64_in _ (by omega)
            have dn : (n != seq - sq + 1) = true := by simpa using x2
            have E := Lib.hid (mvalid_bad (l := l) (seq := seq) (cap := cap) (now := now) (wd := wd) (least := least) (i := 0) (by rw [HL.out]; exact hlt) (fun a => absurd (AT.out.1 a).1.2.2.1 (by omega)))
            go_wp2_with fail
            go_ret
            exact ⟨ret_bool E.out.symm, o⟩
          · skip
            by_cases x3 : cap < n
            · skip
              have wn1 : IntKind.i64.wrap (seq - sq) = seq - sq := IntWalk.i64_in _ (by omega)
              have wn2 : IntKind.i64.wrap (seq - sq + 1) = seq - sq + 1 := IntWalk.i64_in _ (by omega)
              have dn : (n != seq - sq + 1) = false := by simp; omega
              have E := Lib.hid (mvalid_bad (l := l) (seq := seq) (cap := cap) (now := now) (wd := wd) (least := least) (i := 0) (by rw [HL.out]; exact hlt) (fun a => absurd (AT.out.1 a).1.2.2.2.1 (by omega)))
              go_wp2_with fail
              go_ret
              exact ⟨ret_bool E.out.symm, o⟩
            · skip
              by_cases x4 : tk < 0
              · skip
                have wn1 : IntKind.i64.wrap (seq - sq) = seq - sq := IntWalk.i64_in _ (by omega)
                have wn2 : IntKind.i64.wrap (seq - sq + 1) = seq - sq + 1 := IntWalk.i64_in _ (by omega)
                have dn : (n != seq - sq + 1) = false := by simp; omega
                have E := Lib.hid (mvalid_bad (l := l) (seq := seq) (cap := cap) (now := now) (wd := wd) (least := least) (i := 0) (by rw [HL.out]; exact hlt) (fun a => absurd (AT.out.1 a).1.2.2.2.2.1 (by omega)))
                go_wp2_with fail
                go_ret
                exact ⟨ret_bool E.out.symm, o⟩
              · skip
                by_cases x5 : now < tk
                · skip
                  have wn1 : IntKind.i64.wrap (seq - sq) = seq - sq := IntWalk.i64_in _ (by omega)
                  have wn2 : IntKind.i64.wrap (seq - sq + 1) = seq - sq + 1 := IntWalk.i64_in _ (by omega)
                  have dn : (n != seq - sq + 1) = false := by simp; omega
                  have E := Lib.hid (mvalid_bad (l := l) (seq := seq) (cap := cap) (now := now) (wd := wd) (least := least) (i := 0) (by rw [HL.out]; exact hlt) (fun a => absurd (AT.out.1 a).1.2.2.2.2.2 (by omega)))
                  go_wp2_with fail
                  go_ret
                  exact ⟨ret_bool E.out.symm, o⟩
                · skip
                  have wn1 : IntKind.i64.wrap (seq - sq) = seq - sq := IntWalk.i64_in _ (by omega)
                  have wn2 : IntKind.i64.wrap (seq - sq + 1) = seq - sq + 1 := IntWalk.i64_in _ (by omega)
                  have dn : (n != seq - sq + 1) = false := by simp; omega
                  go_upto_region 8 with (fail)
                  have x2a : n + sq ≤ seq + 1 := by omega
                  have x2b : seq + 1 ≤ n + sq := by omega
                  clear dn wn1 wn2 x2
                  by_cases y0 : lo < least
                  · skip
                    have E := Lib.hid (mvalid_bad (l := l) (seq := seq) (cap := cap) (now := now) (wd := wd) (least := least) (i := 0) (by rw [HL.out]; exact hlt) (fun a => absurd (AT.out.1 a).2.1.1 (by omega)))
                    go_wp2_with fail
                    go_ret
                    exact ⟨ret_bool E.out.symm, o⟩
                  · skip
                    by_cases y1 : 4096 < hi
                    · skip
                      have E := Lib.hid (mvalid_bad (l := l) (seq := seq) (cap := cap) (now := now) (wd := wd) (least := least) (i := 0) (by rw [HL.out]; exact hlt) (fun a => absurd (AT.out.1 a).2.1.2.1 (by omega)))
                      go_wp2_with fail
                      go_ret
                      exact ⟨ret_bool E.out.symm, o⟩
                    · skip
                      by_cases y2 : hi < lo
                      · skip
                        have E := Lib.hid (mvalid_bad (l := l) (seq := seq) (cap := cap) (now := now) (wd := wd) (least := least) (i := 0) (by rw [HL.out]; exact hlt) (fun a => absurd (AT.out.1 a).2.1.2.2.1 (by omega)))
                        go_wp2_with fail
                        go_ret
                        exact ⟨ret_bool E.out.symm, o⟩
                      · skip
                        have PF := fun w => pfitsP n lo hi s q w (by omega) (by omega) (by omega) (by omega) (by omega) (by omega)
                        by_cases y3 : partP n lo hi s q
                        rotate_left
                        · rw [decide_eq_false y3] at PF
                          replace PF := Lib.hid PF
                          clear HA
                          have E := Lib.hid (mvalid_bad (l := l) (seq := seq) (cap := cap) (now := now) (wd := wd) (least := least) (i := 0) (by rw [HL.out]; exact hlt) (fun a => y3 (AT.out.1 a).2.1.2.2.2))
                          go_wp2_with (go_at_call 100; with_reducible refine (PF.out _).mono ?_; rintro e w9 ⟨rfl, h9⟩; obtain rfl := h9.symm)
                          go_ret
                          exact ⟨ret_bool E.out.symm, o⟩
                        rw [decide_eq_true y3] at PF
                        replace PF := Lib.hid PF
                        have Y3 := Lib.hid y3
                        clear y3
                        go_upto_region 10 with (go_at_call 100; with_reducible refine (PF.out _).mono ?_; rintro e w9 ⟨rfl, h9⟩; obtain rfl := h9.symm)
                        clear PF
                        have PL := fun w => plive now wd tk w n0 n1 d0 d1 (by omega) (by omega)
                        by_cases lv : now - wd < tk
                        rotate_left
                        · rw [decide_eq_false lv] at PL
                          replace PL := Lib.hid PL
                          clear HA
                          have E := Lib.hid (mvalid_bad (l := l) (seq := seq) (cap := cap) (now := now) (wd := wd) (least := least) (i := 0) (by rw [HL.out]; exact hlt) (fun a => lv ((AT.out.1 a).2.2.1 (.inr HL.out))))
                          go_wp2_with (go_at_call 77; with_reducible refine (PL.out _).mono ?_; rintro e w9 ⟨rfl, h9⟩; obtain rfl := h9.symm)
                          go_ret
                          exact ⟨ret_bool E.out.symm, o⟩
                        rw [decide_eq_true lv] at PL
                        replace PL := Lib.hid PL
                        have LV := Lib.hid lv
                        clear lv
                        go_upto_region 12 with (go_at_call 77; with_reducible refine (PL.out _).mono ?_; rintro e w9 ⟨rfl, h9⟩; obtain rfl := h9.symm)
                        clear PL
                        have HA2 : RowKit.Hid (∀ e, e < 0 + 1 → atP l seq cap now wd least e) := Lib.hid (fun e he => by
                          rcases Nat.lt_or_ge e 0 with g | g
                          · exact HA.out e g
                          · rw [show e = 0 by omega]
                            exact (AT.out.2 ⟨⟨by omega, by omega, by omega, by omega, by omega, by omega⟩, ⟨by omega, by omega, by omega, Y3.out⟩, (fun _ => LV.out), (fun h => absurd h (by omega))⟩))
                        go_wp2
                        go_roundw
                        case rel => exact ⟨0 + 1, by omega, by go_num, HA2, o⟩
                        case measure => simp [intOf]
    · have i1 : ¬ (j : Int) < 1 := by omega
      obtain rfl : j = 1 := by omega
      have m0 : (1 : Nat) ≠ 0 := by decide
      obtain ⟨ad, rfl, hadb, ht0⟩ := HR.out.reads.mk (i := 0) (by omega)
      have hOP := HA.out 0 (by omega)
      have ht0 : MkCells w ad (mkAt l 0) := ht0
      generalize hM : mkAt l 0 = mj at ht0
      obtain ⟨sq, tk, n, s, q, lo, hi⟩ := mj
      obtain ⟨⟨b1, b2, b3, b4, b5, b6⟩, ⟨b7, b8, b9, ⟨f1, f2, f3, f4, f5⟩⟩, _⟩ := (at_flat hM).1 hOP
      obtain ⟨q0, q1, q2, q3, q4, q5, q6⟩ := ht0.below o hadb
      have bm1 := mul_small (n := n) (x := lo) (by omega) (by omega) (by omega) (by omega)
      have bm2 := mul_small (n := n) (x := hi) (by omega) (by omega) (by omega) (by omega)
      have bss := sq_bound (s := s) (B := 268435456) (by omega) (by omega)
      have wss : IntKind.i64.wrap (s * s) = s * s := IntWalk.i64_in _ (by omega)
      have LS : RowKit.Hid (mvalid l seq cap now wd least ↔ sq = seq ∧ lo = s ∧ hi = s ∧ q = s * s) := Lib.hid (by
        have e1 : l.length - 1 = 0 := by rw [HL.out]
        have e2 : l.length ≠ 0 := by rw [HL.out]; exact m0
        constructor
        · intro a
          have := a.2.2.2 e2
          rw [e1, hM] at this
          exact this
        · intro a
          refine ⟨s0, s1, fun i hi => HA.out i (by rw [HL.out] at hi; exact hi), fun _ => ?_⟩
          rw [e1, hM]
          exact a)
      dsimp only at q0 q1 q2 q3 q4 q5 q6
      clear hM ht0 hOP HA f1 f2 f3 f4 f5 bm1 bm2 bss b1 b2 b3 b4 b5 b6 b7 b8 b9
      go_upto_region 20 with (fail)
      have K : Row (wr.alloc (.cells #[.int .i64 sq, .int .i64 tk, .int .i64 n, .int .i64 s, .int .i64 q, .int .i64 lo, .int .i64 hi] 33)) wr.heap.size 33 #[.int .i64 sq, .int .i64 tk, .int .i64 n, .int .i64 s, .int .i64 q, .int .i64 lo, .int .i64 hi] := row_new rfl
      have z0 := o.size
      replace o := o.alloc o.size (.cells #[.int .i64 sq, .int .i64 tk, .int .i64 n, .int .i64 s, .int .i64 q, .int .i64 lo, .int .i64 hi] 33)
      generalize (wr.alloc (.cells #[.int .i64 sq, .int .i64 tk, .int .i64 n, .int .i64 s, .int .i64 q, .int .i64 lo, .int .i64 hi] 33)) = w3 at K o ⊢
      generalize wr.heap.size = mb at K z0 ⊢
      clear q0 q1 q2 q3 q4 q5 q6
      obtain ⟨K0, K1, K2, K3, K4, K5, K6, Kf0, Kf1, Kf2, Kf3, Kf4, Kf5, Kf6⟩ := row_seven K
      by_cases x0 : sq = seq
      rotate_left
      · have u0 : (sq == seq) = false := by simpa using x0
        have E := Lib.hid (show decide (mvalid l seq cap now wd least) = false from decide_eq_false (fun a => x0 (LS.out.1 a).1))
        clear x0
        go_wp2
        go_ret
        exact ⟨ret_bool E.out.symm, o⟩
      have u0 : (sq == seq) = true := by simpa using x0
      have X0 := Lib.hid x0
      clear x0
      by_cases x1 : lo = s
      rotate_left
      · have u1 : (lo == s) = false := by simpa using x1
        have E := Lib.hid (show decide (mvalid l seq cap now wd least) = false from decide_eq_false (fun a => x1 (LS.out.1 a).2.1))
        clear x1
        go_wp2
        go_ret
        exact ⟨ret_bool E.out.symm, o⟩
      have u1 : (lo == s) = true := by simpa using x1
      have X1 := Lib.hid x1
      clear x1
      by_cases x2 : hi = s
      rotate_left
      · have u2 : (hi == s) = false := by simpa using x2
        have E := Lib.hid (show decide (mvalid l seq cap now wd least) = false from decide_eq_false (fun a => x2 (LS.out.1 a).2.2.1))
        clear x2
        go_wp2
        go_ret
        exact ⟨ret_bool E.out.symm, o⟩
      have u2 : (hi == s) = true := by simpa using x2
      have X2 := Lib.hid x2
      clear x2
      by_cases x3 : q = s * s
      rotate_left
      · have u3 : (q == s * s) = false := by simpa using x3
        have E := Lib.hid (show decide (mvalid l seq cap now wd least) = false from decide_eq_false (fun a => x3 (LS.out.1 a).2.2.2))
        clear x3
        go_wp2
        go_ret
        exact ⟨ret_bool E.out.symm, o⟩
      have u3 : (q == s * s) = true := by simpa using x3
      have X3 := Lib.hid x3
      clear x3
      have E := Lib.hid (show decide (mvalid l seq cap now wd least) = true from decide_eq_true (LS.out.2 ⟨X0.out, X1.out, X2.out, X3.out⟩))
      go_wp2
      go_ret
      exact ⟨ret_bool E.out.symm, o⟩
set_option maxRecDepth 100000 in
set_option maxHeartbeats 8000000 in
theorem pmvalid_main (A : Option Addr) (m c : Nat) (l : List Mk) (seq cap now wd least : Int) (w : World) (hin : MIn A m c l w) (sB : I64 seq) (c0 : 1 ≤ cap) (c1 : cap ≤ 65536) (n0 : 0 ≤ now) (n1 : now ≤ 16777216) (d0 : 1 ≤ wd) (d1 : wd ≤ 1048576) (e0 : -4096 ≤ least) (s0 : 0 ≤ seq) (s1 : seq ≤ 1099511627776) (m1 : m ≠ 1) : Calls Try.prog 66 #[.slice A m c, .int .i64 seq, .int .i64 cap, .int .i64 now, .int .i64 wd, .int .i64 least] w fun e w' => e = .returned (.bool (decide (mvalid l seq cap now wd least))) ∧ Below w.heap.size w w' := by
  have M1 := Lib.hid m1
  clear m1
  have HR := Lib.hid hin
  have HL := Lib.hid hin.len
  have mB := hin.max
  have t0 : ¬ seq < 0 := by omega
  have t1 : ¬ 1099511627776 < seq := by omega
  clear hin sB
  go_enter Try.func66, Try.ntmps66
  go_wp2
  clear t0 t1
  go_loopw [25] (fun i wr => ∃ j : Nat, j ≤ m ∧ i = .int .i64 (j : Nat) ∧ RowKit.Hid (∀ e, e < j → atP l seq cap now wd least e) ∧ Below w.heap.size w wr) (fun i _ => m - (intOf i).toNat)
  case atStart => exact ⟨0, by omega, rfl, Lib.hid (fun e h => absurd h (by omega)), Below.refl _ _⟩
  case round =>
    obtain ⟨j, hj, rfl, HA, o⟩ := hrel
    by_cases hlt : j < m
    · obtain ⟨ad, rfl, hadb, ht0⟩ := HR.out.reads.mk hlt
      have hB := HR.out.mB j
      generalize hM : mkAt l j = mj at ht0 hB
      obtain ⟨sq, tk, n, s, q, lo, hi⟩ := mj
      obtain ⟨q0, q1, q2, q3, q4, q5, q6⟩ := ht0.below o (by rw [block_of_add]; exact hadb)
      have AT := Lib.hid (at_flat (seq := seq) (cap := cap) (now := now) (wd := wd) (least := least) hM)
      have HM := Lib.hid hM
      obtain ⟨hB0, hB1, hB2, hB3, hB4, hB5, hB6⟩ := hB
      unfold I64 at hB0 hB1 hB2 hB3 hB4 hB5 hB6
      have i1 : (j : Int) < (m : Int) := by omega
      have i2 : (0 : Int) ≤ (j : Int) := by omega
      dsimp only at q0 q1 q2 q3 q4 q5 q6 hB0 hB1 hB2 hB3 hB4 hB5 hB6
      clear hM ht0
      go_upto_region 6 with (fail)
      have K : Row (wr.alloc (.cells #[.int .i64 sq, .int .i64 tk, .int .i64 n, .int .i64 s, .int .i64 q, .int .i64 lo, .int .i64 hi] 33)) wr.heap.size 33 #[.int .i64 sq, .int .i64 tk, .int .i64 n, .int .i64 s, .int .i64 q, .int .i64 lo, .int .i64 hi] := row_new rfl
      have z0 := o.size
      replace o := o.alloc o.size (.cells #[.int .i64 sq, .int .i64 tk, .int .i64 n, .int .i64 s, .int .i64 q, .int .i64 lo, .int .i64 hi] 33)
      have zm : wr.heap.size < (wr.alloc (.cells #[.int .i64 sq, .int .i64 tk, .int .i64 n, .int .i64 s, .int .i64 q, .int .i64 lo, .int .i64 hi] 33)).heap.size := row_lt K
      generalize (wr.alloc (.cells #[.int .i64 sq, .int .i64 tk, .int .i64 n, .int .i64 s, .int .i64 q, .int .i64 lo, .int .i64 hi] 33)) = w3 at K o zm ⊢
      generalize wr.heap.size = mb at K z0 zm ⊢
      clear q0 q1 q2 q3 q4 q5 q6
      obtain ⟨K0, K1, K2, K3, K4, K5, K6, Kf0, Kf1, Kf2, Kf3, Kf4, Kf5, Kf6⟩ := row_seven K
      by_cases x0 : sq < 1
      · skip
        have E := Lib.hid (mvalid_bad (l := l) (seq := seq) (cap := cap) (now := now) (wd := wd) (least := least) (i := j) (by rw [HL.out]; exact hlt) (fun a => absurd (AT.out.1 a).1.1 (by omega)))
        go_wp2_with fail
        go_ret
        exact ⟨ret_bool E.out.symm, o⟩
      · skip
        by_cases x1 : seq < sq
        · skip
          have E := Lib.hid (mvalid_bad (l := l) (seq := seq) (cap := cap) (now := now) (wd := wd) (least := least) (i := j) (by rw [HL.out]; exact hlt) (fun a => absurd (AT.out.1 a).1.2.1 (by omega)))
          go_wp2_with fail
          go_ret
          exact ⟨ret_bool E.out.symm, o⟩
        · skip
          by_cases x2 : n ≠ seq - sq + 1
          · skip
            have wn1 : IntKind.i64.wrap (seq - sq) = seq - sq := IntWalk.i64_in _ (by omega)
            have wn2 : IntKind.i64.wrap (seq - sq + 1) = seq - sq + 1 := IntWalk.i64_in _ (by omega)
            have dn : (n != seq - sq + 1) = true := by simpa using x2
            have E := Lib.hid (mvalid_bad (l := l) (seq := seq) (cap := cap) (now := now) (wd := wd) (least := least) (i := j) (by rw [HL.out]; exact hlt) (fun a => absurd (AT.out.1 a).1.2.2.1 (by omega)))
            go_wp2_with fail
            go_ret
            exact ⟨ret_bool E.out.symm, o⟩
          · skip
            by_cases x3 : cap < n
            · skip
              have wn1 : IntKind.i64.wrap (seq - sq) = seq - sq := IntWalk.i64_in _ (by omega)
              have wn2 : IntKind.i64.wrap (seq - sq + 1) = seq - sq + 1 := IntWalk.i64_in _ (by omega)
              have dn : (n != seq - sq + 1) = false := by simp; omega
              have E := Lib.hid (mvalid_bad (l := l) (seq := seq) (cap := cap) (now := now) (wd := wd) (least := least) (i := j) (by rw [HL.out]; exact hlt) (fun a => absurd (AT.out.1 a).1.2.2.2.1 (by omega)))
              go_wp2_with fail
              go_ret
              exact ⟨ret_bool E.out.symm, o⟩
            · skip
              by_cases x4 : tk < 0
              · skip
                have wn1 : IntKind.i64.wrap (seq - sq) = seq - sq := IntWalk.i64_in _ (by omega)
                have wn2 : IntKind.i64.wrap (seq - sq + 1) = seq - sq + 1 := IntWalk.i64_in _ (by omega)
                have dn : (n != seq - sq + 1) = false := by simp; omega
                have E := Lib.hid (mvalid_bad (l := l) (seq := seq) (cap := cap) (now := now) (wd := wd) (least := least) (i := j) (by rw [HL.out]; exact hlt) (fun a => absurd (AT.out.1 a).1.2.2.2.2.1 (by omega)))
                go_wp2_with fail
                go_ret
                exact ⟨ret_bool E.out.symm, o⟩
              · skip
                by_cases x5 : now < tk
                · skip
                  have wn1 : IntKind.i64.wrap (seq - sq) = seq - sq := IntWalk.i64_in _ (by omega)
                  have wn2 : IntKind.i64.wrap (seq - sq + 1) = seq - sq + 1 := IntWalk.i64_in _ (by omega)
                  have dn : (n != seq - sq + 1) = false := by simp; omega
                  have E := Lib.hid (mvalid_bad (l := l) (seq := seq) (cap := cap) (now := now) (wd := wd) (least := least) (i := j) (by rw [HL.out]; exact hlt) (fun a => absurd (AT.out.1 a).1.2.2.2.2.2 (by omega)))
                  go_wp2_with fail
                  go_ret
                  exact ⟨ret_bool E.out.symm, o⟩
                · skip
                  have wn1 : IntKind.i64.wrap (seq - sq) = seq - sq := IntWalk.i64_in _ (by omega)
                  have wn2 : IntKind.i64.wrap (seq - sq + 1) = seq - sq + 1 := IntWalk.i64_in _ (by omega)
                  have dn : (n != seq - sq + 1) = false := by simp; omega
                  go_upto_region 8 with (fail)
                  have x2a : n + sq ≤ seq + 1 := by omega
                  have x2b : seq + 1 ≤ n + sq := by omega
                  clear dn wn1 wn2 x2
                  by_cases y0 : lo < least
                  · skip
                    have E := Lib.hid (mvalid_bad (l := l) (seq := seq) (cap := cap) (now := now) (wd := wd) (least := least) (i := j) (by rw [HL.out]; exact hlt) (fun a => absurd (AT.out.1 a).2.1.1 (by omega)))
                    go_wp2_with fail
                    go_ret
                    exact ⟨ret_bool E.out.symm, o⟩
                  · skip
                    by_cases y1 : 4096 < hi
                    · skip
                      have E := Lib.hid (mvalid_bad (l := l) (seq := seq) (cap := cap) (now := now) (wd := wd) (least := least) (i := j) (by rw [HL.out]; exact hlt) (fun a => absurd (AT.out.1 a).2.1.2.1 (by omega)))
                      go_wp2_with fail
                      go_ret
                      exact ⟨ret_bool E.out.symm, o⟩
                    · skip
                      by_cases y2 : hi < lo
                      · skip
                        have E := Lib.hid (mvalid_bad (l := l) (seq := seq) (cap := cap) (now := now) (wd := wd) (least := least) (i := j) (by rw [HL.out]; exact hlt) (fun a => absurd (AT.out.1 a).2.1.2.2.1 (by omega)))
                        go_wp2_with fail
                        go_ret
                        exact ⟨ret_bool E.out.symm, o⟩
                      · skip
                        have PF := fun w => pfitsP n lo hi s q w (by omega) (by omega) (by omega) (by omega) (by omega) (by omega)
                        by_cases y3 : partP n lo hi s q
                        rotate_left
                        · rw [decide_eq_false y3] at PF
                          replace PF := Lib.hid PF
                          clear HA
                          have E := Lib.hid (mvalid_bad (l := l) (seq := seq) (cap := cap) (now := now) (wd := wd) (least := least) (i := j) (by rw [HL.out]; exact hlt) (fun a => y3 (AT.out.1 a).2.1.2.2.2))
                          go_wp2_with (go_at_call 100; with_reducible refine (PF.out _).mono ?_; rintro e w9 ⟨rfl, h9⟩; obtain rfl := h9.symm)
                          go_ret
                          exact ⟨ret_bool E.out.symm, o⟩
                        rw [decide_eq_true y3] at PF
                        replace PF := Lib.hid PF
                        have Y3 := Lib.hid y3
                        clear y3
                        go_upto_region 10 with (go_at_call 100; with_reducible refine (PF.out _).mono ?_; rintro e w9 ⟨rfl, h9⟩; obtain rfl := h9.symm)
                        clear PF
                        have PL := fun w => plive now wd tk w n0 n1 d0 d1 (by omega) (by omega)
                        by_cases j0 : j = 0
                        · skip
                          subst j0
                          by_cases m1 : m = 1
                          · skip
                            exact absurd m1 M1.out
                          · skip
                            have m1b : ((m : Int) == 1) = false := by simp; omega
                            clear PL
                            go_upto_region 12 with (fail)
                            have HA2 : RowKit.Hid (∀ e, e < 0 + 1 → atP l seq cap now wd least e) := Lib.hid (fun e he => by
                              rcases Nat.lt_or_ge e 0 with g | g
                              · exact HA.out e g
                              · rw [show e = 0 by omega]
                                exact (AT.out.2 ⟨⟨by omega, by omega, by omega, by omega, by omega, by omega⟩, ⟨by omega, by omega, by omega, Y3.out⟩, (fun h => absurd h (by rw [HL.out]; omega)), (fun h => absurd h (by omega))⟩))
                            go_wp2
                            go_roundw
                            case rel => exact ⟨0 + 1, by omega, by go_num, HA2, o⟩
                            case measure => simp [intOf]; omega
                        · skip
                          have jp : (0 : Int) < (j : Int) := by omega
                          have jb : ((j : Int) == 0) = false := by simp; omega
                          by_cases lv : now - wd < tk
                          rotate_left
                          · rw [decide_eq_false lv] at PL
                            replace PL := Lib.hid PL
                            clear HA
                            have E := Lib.hid (mvalid_bad (l := l) (seq := seq) (cap := cap) (now := now) (wd := wd) (least := least) (i := j) (by rw [HL.out]; exact hlt) (fun a => lv ((AT.out.1 a).2.2.1 (.inl (by omega)))))
                            go_wp2_with (go_at_call 77; with_reducible refine (PL.out _).mono ?_; rintro e w9 ⟨rfl, h9⟩; obtain rfl := h9.symm)
                            go_ret
                            exact ⟨ret_bool E.out.symm, o⟩
                          rw [decide_eq_true lv] at PL
                          replace PL := Lib.hid PL
                          have LV := Lib.hid lv
                          clear lv
                          go_upto_region 12 with (go_at_call 77; with_reducible refine (PL.out _).mono ?_; rintro e w9 ⟨rfl, h9⟩; obtain rfl := h9.symm)
                          clear PL
                          obtain ⟨p, hp⟩ : ∃ p : Nat, j = p + 1 := ⟨j - 1, by omega⟩
                          have HP := Lib.hid hp
                          obtain ⟨ad', ea, _, ht1⟩ := HR.out.reads.mk (i := p) (by omega)
                          obtain rfl : ad = ad' := by injection ea
                          have hOP := HA.out p (by omega)
                          generalize hO : mkAt l p = mo at ht1
                          obtain ⟨osq, otk, on, os, oq, olo, ohi⟩ := mo
                          obtain ⟨⟨b1, b2, b3, b4, b5, b6⟩, ⟨b7, b8, b9, B10⟩, _⟩ := (at_flat hO).1 hOP
                          obtain ⟨q0, q1, q2, q3, q4, q5, q6⟩ := ht1.below o (by rw [block_of_add]; exact hadb)
                          have hp1 : mkAt l (j - 1) = ⟨osq, otk, on, os, oq, olo, ohi⟩ := by rw [hp]; exact hO
                          have hp2 : mkAt l j = ⟨sq, tk, n, s, q, lo, hi⟩ := HM.out
                          have TW : RowKit.Hid (twoP (mkAt l (j - 1)) (mkAt l j) ↔ osq < sq ∧ otk ≤ tk ∧ olo ≤ lo ∧ hi ≤ ohi ∧ partP (on - n) olo ohi (os - s) (oq - q)) := Lib.hid (by rw [hp1, hp2]; exact two_flat)
                          dsimp only at q0 q1 q2 q3 q4 q5 q6
                          have wj : IntKind.i64.wrap ((j : Int) - 1) = (p : Int) := by rw [IntWalk.i64_in _ (by omega)]; omega
                          have p1 : (p : Int) < (m : Int) := by omega
                          have p0 : (0 : Int) ≤ (p : Int) := by omega
                          have b3a : on + osq ≤ seq + 1 := by omega
                          have b3b : seq + 1 ≤ on + osq := by omega
                          obtain ⟨f1, f2, f3, f4, f5⟩ := B10
                          obtain ⟨g1, g2, g3, g4, g5⟩ := Y3.out
                          have bo1 := mul_small (n := on) (x := olo) (by omega) (by omega) (by omega) (by omega)
                          have bo2 := mul_small (n := on) (x := ohi) (by omega) (by omega) (by omega) (by omega)
                          have bm1 := mul_small (n := n) (x := lo) (by omega) (by omega) (by omega) (by omega)
                          have bm2 := mul_small (n := n) (x := hi) (by omega) (by omega) (by omega) (by omega)
                          have wd1 : IntKind.i64.wrap (on - n) = on - n := IntWalk.i64_in _ (by omega)
                          have wd2 : IntKind.i64.wrap (os - s) = os - s := IntWalk.i64_in _ (by omega)
                          have wd3 : IntKind.i64.wrap (oq - q) = oq - q := IntWalk.i64_in _ (by omega)
                          clear hO ht1 ea hp1 hp2 f1 f2 f3 f4 f5 g1 g2 g3 g4 g5 bo1 bo2 bm1 bm2 hp hOP b3
                          go_upto_region 14 with (fail)
                          have O : Row (w3.alloc (.cells #[.int .i64 osq, .int .i64 otk, .int .i64 on, .int .i64 os, .int .i64 oq, .int .i64 olo, .int .i64 ohi] 33)) w3.heap.size 33 #[.int .i64 osq, .int .i64 otk, .int .i64 on, .int .i64 os, .int .i64 oq, .int .i64 olo, .int .i64 ohi] := row_new rfl
                          replace K := row_alloc K (.cells #[.int .i64 osq, .int .i64 otk, .int .i64 on, .int .i64 os, .int .i64 oq, .int .i64 olo, .int .i64 ohi] 33)
                          have z1 := o.size
                          replace o := o.alloc o.size (.cells #[.int .i64 osq, .int .i64 otk, .int .i64 on, .int .i64 os, .int .i64 oq, .int .i64 olo, .int .i64 ohi] 33)
                          generalize (w3.alloc (.cells #[.int .i64 osq, .int .i64 otk, .int .i64 on, .int .i64 os, .int .i64 oq, .int .i64 olo, .int .i64 ohi] 33)) = w4 at O K o ⊢
                          generalize w3.heap.size = ob at O z1 ⊢
                          clear q0 q1 q2 q3 q4 q5 q6 K0 K1 K2 K3 K4 K5 K6 Kf0 Kf1 Kf2 Kf3 Kf4 Kf5 Kf6
                          obtain ⟨K0, K1, K2, K3, K4, K5, K6, Kf0, Kf1, Kf2, Kf3, Kf4, Kf5, Kf6⟩ := row_seven K
                          obtain ⟨O0, O1, O2, O3, O4, O5, O6, Of0, Of1, Of2, Of3, Of4, Of5, Of6⟩ := row_seven O
                          by_cases v0 : sq ≤ osq
                          · skip
                            have E := Lib.hid (mvalid_bad (l := l) (seq := seq) (cap := cap) (now := now) (wd := wd) (least := least) (i := j) (by rw [HL.out]; exact hlt) (fun a => absurd (TW.out.1 ((AT.out.1 a).2.2.2 (by omega))).1 (by omega)))
                            go_wp2_with fail
                            go_ret
                            exact ⟨ret_bool E.out.symm, o⟩
                          · skip
                            by_cases v1 : tk < otk
                            · skip
                              have E := Lib.hid (mvalid_bad (l := l) (seq := seq) (cap := cap) (now := now) (wd := wd) (least := least) (i := j) (by rw [HL.out]; exact hlt) (fun a => absurd (TW.out.1 ((AT.out.1 a).2.2.2 (by omega))).2.1 (by omega)))
                              go_wp2_with fail
                              go_ret
                              exact ⟨ret_bool E.out.symm, o⟩
                            · skip
                              by_cases v2 : lo < olo
                              · skip
                                have E := Lib.hid (mvalid_bad (l := l) (seq := seq) (cap := cap) (now := now) (wd := wd) (least := least) (i := j) (by rw [HL.out]; exact hlt) (fun a => absurd (TW.out.1 ((AT.out.1 a).2.2.2 (by omega))).2.2.1 (by omega)))
                                go_wp2_with fail
                                go_ret
                                exact ⟨ret_bool E.out.symm, o⟩
                              · skip
                                by_cases v3 : ohi < hi
                                · skip
                                  have E := Lib.hid (mvalid_bad (l := l) (seq := seq) (cap := cap) (now := now) (wd := wd) (least := least) (i := j) (by rw [HL.out]; exact hlt) (fun a => absurd (TW.out.1 ((AT.out.1 a).2.2.2 (by omega))).2.2.2.1 (by omega)))
                                  go_wp2_with fail
                                  go_ret
                                  exact ⟨ret_bool E.out.symm, o⟩
                                · skip
                                  have PF := fun w => pfitsP (on - n) olo ohi (os - s) (oq - q) w (by omega) (by omega) (by omega) (by omega) (by omega) (by omega)
                                  by_cases v4 : partP (on - n) olo ohi (os - s) (oq - q)
                                  rotate_left
                                  · rw [decide_eq_false v4] at PF
                                    replace PF := Lib.hid PF
                                    clear HA
                                    have E := Lib.hid (mvalid_bad (l := l) (seq := seq) (cap := cap) (now := now) (wd := wd) (least := least) (i := j) (by rw [HL.out]; exact hlt) (fun a => v4 (TW.out.1 ((AT.out.1 a).2.2.2 (by omega))).2.2.2.2))
                                    go_wp2_with (go_at_call 100; with_reducible refine (PF.out _).mono ?_; rintro e w9 ⟨rfl, h9⟩; obtain rfl := h9.symm)
                                    go_ret
                                    exact ⟨ret_bool E.out.symm, o⟩
                                  rw [decide_eq_true v4] at PF
                                  replace PF := Lib.hid PF
                                  have V4 := Lib.hid v4
                                  clear v4
                                  go_upto_region 16 with (go_at_call 100; with_reducible refine (PF.out _).mono ?_; rintro e w9 ⟨rfl, h9⟩; obtain rfl := h9.symm)
                                  clear PF
                                  have HA2 : RowKit.Hid (∀ e, e < j + 1 → atP l seq cap now wd least e) := Lib.hid (fun e he => by
                                    rcases Nat.lt_or_ge e j with g | g
                                    · exact HA.out e g
                                    · rw [show e = j by omega]
                                      exact (AT.out.2 ⟨⟨by omega, by omega, by omega, by omega, by omega, by omega⟩, ⟨by omega, by omega, by omega, Y3.out⟩, (fun _ => LV.out), (fun _ => TW.out.2 ⟨by omega, by omega, by omega, by omega, V4.out⟩)⟩))
                                  go_wp2
                                  go_roundw
                                  case rel => exact ⟨j + 1, by omega, by go_num, HA2, o⟩
                                  case measure => simp [intOf]; omega
    · have i1 : ¬ (j : Int) < (m : Int) := by omega
      obtain rfl : j = m := by omega
      by_cases m0 : j = 0
      · have m0b : ((j : Int) == 0) = true := by simp; omega
        have E := Lib.hid (show decide (mvalid l seq cap now wd least) = true from decide_eq_true ⟨s0, s1, fun i hi => HA.out i (by rw [HL.out] at hi; exact hi), fun h => absurd (HL.out.trans m0) h⟩)
        clear HA
        go_wp2
        go_ret
        exact ⟨ret_bool E.out.symm, o⟩
      · have m0b : ((j : Int) == 0) = false := by simp; omega
        obtain ⟨p, hp⟩ : ∃ p : Nat, j = p + 1 := ⟨j - 1, by omega⟩
        obtain ⟨ad, rfl, hadb, ht0⟩ := HR.out.reads.mk (i := p) (by omega)
        have hOP := HA.out p (by omega)
        generalize hM : mkAt l p = mj at ht0
        obtain ⟨sq, tk, n, s, q, lo, hi⟩ := mj
        obtain ⟨⟨b1, b2, b3, b4, b5, b6⟩, ⟨b7, b8, b9, ⟨f1, f2, f3, f4, f5⟩⟩, _⟩ := (at_flat hM).1 hOP
        obtain ⟨q0, q1, q2, q3, q4, q5, q6⟩ := ht0.below o (by rw [block_of_add]; exact hadb)
        have bm1 := mul_small (n := n) (x := lo) (by omega) (by omega) (by omega) (by omega)
        have bm2 := mul_small (n := n) (x := hi) (by omega) (by omega) (by omega) (by omega)
        have bss := sq_bound (s := s) (B := 268435456) (by omega) (by omega)
        have wss : IntKind.i64.wrap (s * s) = s * s := IntWalk.i64_in _ (by omega)
        have LS : RowKit.Hid (mvalid l seq cap now wd least ↔ sq = seq ∧ lo = s ∧ hi = s ∧ q = s * s) := Lib.hid (by
          have e1 : l.length - 1 = p := by rw [HL.out, hp]; rfl
          have e2 : l.length ≠ 0 := by rw [HL.out]; exact m0
          constructor
          · intro a
            have := a.2.2.2 e2
            rw [e1, hM] at this
            exact this
          · intro a
            refine ⟨s0, s1, fun i hi => HA.out i (by rw [HL.out] at hi; exact hi), fun _ => ?_⟩
            rw [e1, hM]
            exact a)
        have wj : IntKind.i64.wrap ((j : Int) - 1) = (p : Int) := by rw [IntWalk.i64_in _ (by omega)]; omega
        have p1 : (p : Int) < (j : Int) := by omega
        have p0 : (0 : Int) ≤ (p : Int) := by omega
        dsimp only at q0 q1 q2 q3 q4 q5 q6
        clear hM ht0 hOP HA hp f1 f2 f3 f4 f5 bm1 bm2 bss b1 b2 b3 b4 b5 b6 b7 b8 b9
        go_upto_region 20 with (fail)
        have K : Row (wr.alloc (.cells #[.int .i64 sq, .int .i64 tk, .int .i64 n, .int .i64 s, .int .i64 q, .int .i64 lo, .int .i64 hi] 33)) wr.heap.size 33 #[.int .i64 sq, .int .i64 tk, .int .i64 n, .int .i64 s, .int .i64 q, .int .i64 lo, .int .i64 hi] := row_new rfl
        have z0 := o.size
        replace o := o.alloc o.size (.cells #[.int .i64 sq, .int .i64 tk, .int .i64 n, .int .i64 s, .int .i64 q, .int .i64 lo, .int .i64 hi] 33)
        generalize (wr.alloc (.cells #[.int .i64 sq, .int .i64 tk, .int .i64 n, .int .i64 s, .int .i64 q, .int .i64 lo, .int .i64 hi] 33)) = w3 at K o ⊢
        generalize wr.heap.size = mb at K z0 ⊢
        clear q0 q1 q2 q3 q4 q5 q6
        obtain ⟨K0, K1, K2, K3, K4, K5, K6, Kf0, Kf1, Kf2, Kf3, Kf4, Kf5, Kf6⟩ := row_seven K
        by_cases x0 : sq = seq
        rotate_left
        · have u0 : (sq == seq) = false := by simpa using x0
          have E := Lib.hid (show decide (mvalid l seq cap now wd least) = false from decide_eq_false (fun a => x0 (LS.out.1 a).1))
          clear x0
          go_wp2
          go_ret
          exact ⟨ret_bool E.out.symm, o⟩
        have u0 : (sq == seq) = true := by simpa using x0
        have X0 := Lib.hid x0
        clear x0
        by_cases x1 : lo = s
        rotate_left
        · have u1 : (lo == s) = false := by simpa using x1
          have E := Lib.hid (show decide (mvalid l seq cap now wd least) = false from decide_eq_false (fun a => x1 (LS.out.1 a).2.1))
          clear x1
          go_wp2
          go_ret
          exact ⟨ret_bool E.out.symm, o⟩
        have u1 : (lo == s) = true := by simpa using x1
        have X1 := Lib.hid x1
        clear x1
        by_cases x2 : hi = s
        rotate_left
        · have u2 : (hi == s) = false := by simpa using x2
          have E := Lib.hid (show decide (mvalid l seq cap now wd least) = false from decide_eq_false (fun a => x2 (LS.out.1 a).2.2.1))
          clear x2
          go_wp2
          go_ret
          exact ⟨ret_bool E.out.symm, o⟩
        have u2 : (hi == s) = true := by simpa using x2
        have X2 := Lib.hid x2
        clear x2
        by_cases x3 : q = s * s
        rotate_left
        · have u3 : (q == s * s) = false := by simpa using x3
          have E := Lib.hid (show decide (mvalid l seq cap now wd least) = false from decide_eq_false (fun a => x3 (LS.out.1 a).2.2.2))
          clear x3
          go_wp2
          go_ret
          exact ⟨ret_bool E.out.symm, o⟩
        have u3 : (q == s * s) = true := by simpa using x3
        have X3 := Lib.hid x3
        clear x3
        have E := Lib.hid (show decide (mvalid l seq cap now wd least) = true from decide_eq_true (LS.out.2 ⟨X0.out, X1.out, X2.out, X3.out⟩))
        go_wp2
        go_ret
        exact ⟨ret_bool E.out.symm, o⟩
theorem pmvalid (A : Option Addr) (m c : Nat) (l : List Mk) (seq cap now wd least : Int) (w : World) (hin : MIn A m c l w) (sB : I64 seq) (c0 : 1 ≤ cap) (c1 : cap ≤ 65536) (n0 : 0 ≤ now) (n1 : now ≤ 16777216) (d0 : 1 ≤ wd) (d1 : wd ≤ 1048576) (e0 : -4096 ≤ least) : Calls Try.prog 66 #[.slice A m c, .int .i64 seq, .int .i64 cap, .int .i64 now, .int .i64 wd, .int .i64 least] w fun e w' => e = .returned (.bool (decide (mvalid l seq cap now wd least))) ∧ Below w.heap.size w w' := by
  by_cases h : seq < 0
  · exact pmvalid_a A m c l seq cap now wd least w h
  · by_cases h1 : 1099511627776 < seq
    · exact pmvalid_b A m c l seq cap now wd least w (by omega) h1
    · by_cases m1 : m = 1
      · subst m1
        exact pmvalid_one A c l seq cap now wd least w hin sB c0 c1 n0 n1 d0 d1 e0 (by omega) (by omega)
      · exact pmvalid_main A m c l seq cap now wd least w hin sB c0 c1 n0 n1 d0 d1 e0 (by omega) (by omega) m1
end Go.Proofs.Ytaiepjcnncajcaa
end
section
/- A region in the order of its text, whose operations only read and whose callees only read, walked once by the quiet walk. -/
set_option linter.unusedVariables false
set_option linter.unusedSimpArgs false
set_option linter.unusedSectionVars false
set_option linter.unnecessarySimpa false
namespace Go.Proofs.Ytaiepjcnncajcaa
open Go
end Go.Proofs.Ytaiepjcnncajcaa
end
section
/- Marks of smooth histograms: the reference's check, walked. -/
set_option linter.unusedVariables false
set_option linter.unusedSimpArgs false
set_option linter.unusedSectionVars false
set_option linter.unnecessarySimpa false
namespace Go.Proofs.Ytaiepjcnncajcaa
open Go.RowKit
end Go.Proofs.Ytaiepjcnncajcaa
end
section
/- Spread histograms: the checks of a histogram of the variance, walked. -/
set_option linter.unusedVariables false
set_option linter.unusedSimpArgs false
set_option linter.unusedSectionVars false
set_option linter.unnecessarySimpa false
namespace Go.Proofs.Ytaiepjcnncajcaa
open Go.RowKit
theorem pgoodD (wd k cap now : Int) (w : World) : Calls Try.prog 38 #[.int .i64 wd, .int .i64 k, .int .i64 cap, .int .i64 now] w fun e w' => e = .returned (.bool (decide (spGood wd k cap now))) ∧ w' = w := by
  have h := pgood wd k cap now w
  rw [show decide (1 ≤ wd ∧ wd ≤ 1048576 ∧ 1 ≤ k ∧ k ≤ 64 ∧ 1 ≤ cap ∧ cap ≤ 65536 ∧ 0 ≤ now ∧ now ≤ 16777216) = decide (spGood wd k cap now) from decide_eq_decide.2 Iff.rfl] at h
  exact h
set_option maxRecDepth 100000 in
theorem pvalP_a (A : Option Addr) (m c : Nat) (l : List Mk) (wd k cap now seq : Int) (w : World) (h : ¬ spGood wd k cap now) : Calls Try.prog 27 #[.agg #[.int .i64 wd, .int .i64 k, .int .i64 cap, .int .i64 now, .int .i64 seq, .slice A m c]] w fun e w' => e = .returned (.int .i64 (spvalE wd k cap now seq l)) ∧ Below w.heap.size w w' := by
  have E := Lib.hid (spvalE_no (wd := wd) (k := k) (cap := cap) (now := now) (seq := seq) (l := l) (fun a => h a.1))
  have PG := fun w => pgoodD wd k cap now w
  rw [decide_eq_false h] at PG
  replace PG := Lib.hid PG
  clear h
  go_enter Try.func27, Try.ntmps27
  go_upto_region 1 with (fail)
  have X : Row (w.alloc (.cells #[.int .i64 wd, .int .i64 k, .int .i64 cap, .int .i64 now, .int .i64 seq, .slice A m c] 24)) w.heap.size 24 #[.int .i64 wd, .int .i64 k, .int .i64 cap, .int .i64 now, .int .i64 seq, .slice A m c] := row_new rfl
  have o : Below w.heap.size w (w.alloc (.cells #[.int .i64 wd, .int .i64 k, .int .i64 cap, .int .i64 now, .int .i64 seq, .slice A m c] 24)) := by (repeat (first | exact Below.refl _ _ | refine Below.setCell ?_ (by first | (simp; done) | (simp; omega) | omega) _ | refine Below.alloc ?_ (by first | (simp; done) | (simp; omega) | omega) _ | refine Below.drew ?_ | refine Below.trans ?_ (Below.mono (by assumption) (by first | (simp; done) | (simp; omega) | omega))))
  generalize (w.alloc (.cells #[.int .i64 wd, .int .i64 k, .int .i64 cap, .int .i64 now, .int .i64 seq, .slice A m c] 24)) = w1 at X o ⊢
  obtain ⟨X0, X1, X2, X3, X4, X5, Xf0, Xf1, Xf2, Xf3, Xf4, Xf5⟩ := row_six X
  go_wp2_with (go_at_call 38; with_reducible refine (PG.out _).mono ?_; rintro e w9 ⟨rfl, h9⟩; obtain rfl := h9.symm)
  go_ret
  exact ⟨ret_i64 E.out.symm, o⟩
set_option maxRecDepth 100000 in
theorem pvalP_b (A : Option Addr) (m c : Nat) (l : List Mk) (wd k cap now seq : Int) (w : World) (hin : MIn A m c l w) (sB : I64 seq) (hG : spGood wd k cap now) (hV : ¬ mvalid l seq cap now wd (-4096)) : Calls Try.prog 27 #[.agg #[.int .i64 wd, .int .i64 k, .int .i64 cap, .int .i64 now, .int .i64 seq, .slice A m c]] w fun e w' => e = .returned (.int .i64 (spvalE wd k cap now seq l)) ∧ Below w.heap.size w w' := by
  have E := Lib.hid (spvalE_no (wd := wd) (k := k) (cap := cap) (now := now) (seq := seq) (l := l) (fun a => hV a.2.1))
  have PG := fun w => pgoodD wd k cap now w
  rw [decide_eq_true hG] at PG
  replace PG := Lib.hid PG
  obtain ⟨d0, d1, k0, k1, c0, c1, n0, n1⟩ := hG
  have PV := fun w' (hb : Below w.heap.size w w') => pmvalid A m c l seq cap now wd (-4096) w' (hin.below hb) sB c0 c1 n0 n1 d0 d1 (Int.le_refl _)
  rw [decide_eq_false hV] at PV
  replace PV := Lib.hid PV
  clear hV hin sB
  go_enter Try.func27, Try.ntmps27
  go_upto_region 1 with (fail)
  have X : Row (w.alloc (.cells #[.int .i64 wd, .int .i64 k, .int .i64 cap, .int .i64 now, .int .i64 seq, .slice A m c] 24)) w.heap.size 24 #[.int .i64 wd, .int .i64 k, .int .i64 cap, .int .i64 now, .int .i64 seq, .slice A m c] := row_new rfl
  have o : Below w.heap.size w (w.alloc (.cells #[.int .i64 wd, .int .i64 k, .int .i64 cap, .int .i64 now, .int .i64 seq, .slice A m c] 24)) := by (repeat (first | exact Below.refl _ _ | refine Below.setCell ?_ (by first | (simp; done) | (simp; omega) | omega) _ | refine Below.alloc ?_ (by first | (simp; done) | (simp; omega) | omega) _ | refine Below.drew ?_ | refine Below.trans ?_ (Below.mono (by assumption) (by first | (simp; done) | (simp; omega) | omega))))
  generalize (w.alloc (.cells #[.int .i64 wd, .int .i64 k, .int .i64 cap, .int .i64 now, .int .i64 seq, .slice A m c] 24)) = w1 at X o ⊢
  obtain ⟨X0, X1, X2, X3, X4, X5, Xf0, Xf1, Xf2, Xf3, Xf4, Xf5⟩ := row_six X
  have PV1 := Lib.hid (PV.out w1 o)
  clear PV
  go_wp2_with (first | (go_at_call 38; with_reducible refine (PG.out _).mono ?_; rintro e w9 ⟨rfl, h9⟩; obtain rfl := h9.symm) | (go_at_call 66; with_reducible refine (PV1.out).mono ?_; rintro e w2 ⟨rfl, hb2⟩; replace X := row_call X hb2; replace o := o.trans (hb2.mono o.size); clear X0 Xf0 X1 Xf1 X2 Xf2 X3 Xf3 X4 Xf4 X5 Xf5 hb2; obtain ⟨X0, X1, X2, X3, X4, X5, Xf0, Xf1, Xf2, Xf3, Xf4, Xf5⟩ := row_six X))
  go_ret
  exact ⟨ret_i64 E.out.symm, o⟩
set_option maxRecDepth 100000 in
set_option maxHeartbeats 8000000 in
theorem pvalP_c (A : Option Addr) (m c : Nat) (l : List Mk) (wd k cap now seq : Int) (w : World) (hin : MIn A m c l w) (sB : I64 seq) (hG : spGood wd k cap now) (hV : mvalid l seq cap now wd (-4096)) : Calls Try.prog 27 #[.agg #[.int .i64 wd, .int .i64 k, .int .i64 cap, .int .i64 now, .int .i64 seq, .slice A m c]] w fun e w' => e = .returned (.int .i64 (spvalE wd k cap now seq l)) ∧ Below w.heap.size w w' := by
  have HG := Lib.hid hG
  have HV := Lib.hid hV
  have HR := Lib.hid hin
  have HL := Lib.hid hin.len
  have mB := hin.max
  have PG := fun w => pgoodD wd k cap now w
  rw [decide_eq_true hG] at PG
  replace PG := Lib.hid PG
  obtain ⟨d0, d1, k0, k1, c0, c1, n0, n1⟩ := hG
  have PV := fun w' (hb : Below w.heap.size w w') => pmvalid A m c l seq cap now wd (-4096) w' (hin.below hb) sB c0 c1 n0 n1 d0 d1 (Int.le_refl _)
  rw [decide_eq_true hV] at PV
  replace PV := Lib.hid PV
  clear hV hin sB
  go_enter Try.func27, Try.ntmps27
  go_upto_region 1 with (fail)
  have X : Row (w.alloc (.cells #[.int .i64 wd, .int .i64 k, .int .i64 cap, .int .i64 now, .int .i64 seq, .slice A m c] 24)) w.heap.size 24 #[.int .i64 wd, .int .i64 k, .int .i64 cap, .int .i64 now, .int .i64 seq, .slice A m c] := row_new rfl
  have o : Below w.heap.size w (w.alloc (.cells #[.int .i64 wd, .int .i64 k, .int .i64 cap, .int .i64 now, .int .i64 seq, .slice A m c] 24)) := by (repeat (first | exact Below.refl _ _ | refine Below.setCell ?_ (by first | (simp; done) | (simp; omega) | omega) _ | refine Below.alloc ?_ (by first | (simp; done) | (simp; omega) | omega) _ | refine Below.drew ?_ | refine Below.trans ?_ (Below.mono (by assumption) (by first | (simp; done) | (simp; omega) | omega))))
  generalize (w.alloc (.cells #[.int .i64 wd, .int .i64 k, .int .i64 cap, .int .i64 now, .int .i64 seq, .slice A m c] 24)) = w1 at X o ⊢
  obtain ⟨X0, X1, X2, X3, X4, X5, Xf0, Xf1, Xf2, Xf3, Xf4, Xf5⟩ := row_six X
  have PV1 := Lib.hid (PV.out w1 o)
  clear PV
  go_upto_region 4 with (first | (go_at_call 38; with_reducible refine (PG.out _).mono ?_; rintro e w9 ⟨rfl, h9⟩; obtain rfl := h9.symm) | (go_at_call 66; with_reducible refine (PV1.out).mono ?_; rintro e w2 ⟨rfl, hb2⟩; replace X := row_call X hb2; replace o := o.trans (hb2.mono o.size); clear X0 Xf0 X1 Xf1 X2 Xf2 X3 Xf3 X4 Xf4 X5 Xf5 hb2; obtain ⟨X0, X1, X2, X3, X4, X5, Xf0, Xf1, Xf2, Xf3, Xf4, Xf5⟩ := row_six X))
  clear PG PV1
  obtain ⟨xb, hxb⟩ : ∃ x, x = w.heap.size := ⟨_, rfl⟩
  have zx : w.heap.size ≤ xb := by omega
  rw [← hxb] at X X0 Xf0 X1 Xf1 X2 Xf2 X3 Xf3 X4 Xf4 X5 Xf5 ⊢
  clear hxb X0 Xf0 X1 Xf1 X2 Xf2 X3 Xf3 X4 Xf4 X5 Xf5
  go_loopw [3] (fun i wr => ∃ j : Nat, 2 ≤ j ∧ (j ≤ m ∨ j = 2) ∧ i = .int .i64 (j : Nat) ∧ RowKit.Hid (∀ e, e < j → spAt k l e) ∧ Row wr xb 24 #[.int .i64 wd, .int .i64 k, .int .i64 cap, .int .i64 now, .int .i64 seq, .slice A m c] ∧ Below w.heap.size w wr) (fun i _ => m - (intOf i).toNat)
  case atStart => exact ⟨2, by omega, .inr rfl, rfl, Lib.hid (fun e h h2 => absurd h2 (by omega)), X, o⟩
  case round =>
    clear X o
    obtain ⟨j, hj2, hj, rfl, HA, X, o⟩ := hrel
    by_cases hlt : j < m
    · obtain ⟨ad, rfl, hadb, ht0⟩ := HR.out.reads.mk hlt
      obtain ⟨ad', ea, _, htz⟩ := HR.out.reads.mk (i := j - 2) (by omega)
      obtain rfl : ad = ad' := by injection ea
      obtain ⟨p, hp⟩ : ∃ p : Nat, j = p + 2 := ⟨j - 2, by omega⟩
      have wj : IntKind.i64.wrap ((j : Int) - 2) = (p : Int) := by rw [IntWalk.i64_in _ (by omega)]; omega
      have p1 : (p : Int) < (m : Int) := by omega
      have p0' : (0 : Int) ≤ (p : Int) := by omega
      rw [show j - 2 = p by omega] at htz
      have hb0 : (ad.add (j * 7)).block < w.heap.size := by rw [block_of_add]; exact hadb
      have hbz : (ad.add (p * 7)).block < w.heap.size := by rw [block_of_add]; exact hadb
      have HSP := Lib.hid (show spAt k l j ↔ ¬ closeM k (mkAt l p) (mkAt l j) by unfold spAt; rw [show j - 2 = p by omega]; exact ⟨fun h => h hj2, fun h _ => h⟩)
      have PC := fun w => pclose (mkAt l p).seq (mkAt l p).t (mkAt l p).n (mkAt l p).s (mkAt l p).q (mkAt l p).lo (mkAt l p).hi (mkAt l j).seq (mkAt l j).t (mkAt l j).n (mkAt l j).s (mkAt l j).q (mkAt l j).lo (mkAt l j).hi k w
      obtain ⟨nv, hnv⟩ : ∃ nv, decide (closeP (mkAt l p).n (mkAt l p).s (mkAt l p).q (mkAt l j).n (mkAt l j).s (mkAt l j).q k) = nv := ⟨_, rfl⟩
      rw [hnv] at PC
      have HNV := Lib.hid (show decide (closeM k (mkAt l p) (mkAt l j)) = nv from hnv)
      have HNX := Lib.hid (fun (h : spAt k l j) => (show ∀ e, e < j + 1 → spAt k l e from fun e he => by
        rcases Nat.lt_or_ge e j with g | g
        · exact HA.out e g
        · rw [show e = j by omega]; exact h))
      generalize hmz : mkAt l p = mz at htz PC hnv
      generalize hm0 : mkAt l j = m0 at ht0 PC hnv
      obtain ⟨zsq, ztk, zn, zs, zq, zlo, zhi⟩ := mz
      obtain ⟨sq, tk, n, s, q, lo, hi⟩ := m0
      dsimp only at PC
      replace PC := Lib.hid PC
      have HTz := Lib.hid htz
      have HT0 := Lib.hid ht0
      have i1 : (j : Int) < (m : Int) := by omega
      have i2 : (0 : Int) ≤ (j : Int) := by omega
      clear hmz hm0 hnv htz ht0 ea hp
      obtain ⟨X0, X1, X2, X3, X4, X5, Xf0, Xf1, Xf2, Xf3, Xf4, Xf5⟩ := row_six X
      go_upto_region 6 with (fail)
      clear X0 Xf0 X1 Xf1 X2 Xf2 X3 Xf3 X4 Xf4 X5 Xf5
      cases nv
      · skip
        refine wp_region_free0 [0, 1, 2, 3, 4, 6, 7, 8, 9, 11, 5, 10, 12] [] [0, 1, 2, 3, 4, 5, 6, 7, 8, 9, 10, 11, 12] 13 (fun w' => Row w' (xb) 24 #[.int .i64 wd, .int .i64 k, .int .i64 cap, .int .i64 now, .int .i64 seq, .slice (some ad) m c] ∧ Below w.heap.size w w') (by kernel_rfl) (by kernel_rfl) (fun _ _ d _ _ h => by cases d <;> exact h) ?_ ?_
        · exact ⟨X, o.drew⟩
        (refine plan_pure ?_ rfl rfl (fun w' => ?_) ?_; rotate_left; (go_simp; try with_reducible rfl); simp only [Act.put, List.setIfInBounds_toArray, List.set_cons_zero, List.set_cons_succ])
        (refine plan_val ?_ rfl rfl rfl (fun w' hS => ?_) ?_; rotate_left; (obtain ⟨X0, X1, X2, X3, X4, X5, Xf0, Xf1, Xf2, Xf3, Xf4, Xf5⟩ := row_six hS.1; obtain ⟨q0, q1, q2, q3, q4, q5, q6⟩ := HTz.out.below hS.2 hbz; dsimp only at q0 q1 q2 q3 q4 q5 q6; obtain ⟨p0, p1, p2, p3, p4, p5, p6⟩ := HT0.out.below hS.2 hb0; dsimp only at p0 p1 p2 p3 p4 p5 p6; go_simp; try with_reducible rfl); simp only [Act.put, List.setIfInBounds_toArray, List.set_cons_zero, List.set_cons_succ])
        (refine plan_pure ?_ rfl rfl (fun w' => ?_) ?_; rotate_left; (go_simp; try with_reducible rfl); simp only [Act.put, List.setIfInBounds_toArray, List.set_cons_zero, List.set_cons_succ])
        (refine plan_pure ?_ rfl rfl (fun w' => ?_) ?_; rotate_left; (go_simp; try with_reducible rfl); simp only [Act.put, List.setIfInBounds_toArray, List.set_cons_zero, List.set_cons_succ])
        (refine plan_pure ?_ rfl rfl (fun w' => ?_) ?_; rotate_left; (go_simp; try with_reducible rfl); simp only [Act.put, List.setIfInBounds_toArray, List.set_cons_zero, List.set_cons_succ])
        (refine plan_pure ?_ rfl rfl (fun w' => ?_) ?_; rotate_left; (go_simp; try with_reducible rfl); simp only [Act.put, List.setIfInBounds_toArray, List.set_cons_zero, List.set_cons_succ])
        (refine plan_val ?_ rfl rfl rfl (fun w' hS => ?_) ?_; rotate_left; (obtain ⟨X0, X1, X2, X3, X4, X5, Xf0, Xf1, Xf2, Xf3, Xf4, Xf5⟩ := row_six hS.1; obtain ⟨q0, q1, q2, q3, q4, q5, q6⟩ := HTz.out.below hS.2 hbz; dsimp only at q0 q1 q2 q3 q4 q5 q6; obtain ⟨p0, p1, p2, p3, p4, p5, p6⟩ := HT0.out.below hS.2 hb0; dsimp only at p0 p1 p2 p3 p4 p5 p6; go_simp; try with_reducible rfl); simp only [Act.put, List.setIfInBounds_toArray, List.set_cons_zero, List.set_cons_succ])
        (refine plan_pure ?_ rfl rfl (fun w' => ?_) ?_; rotate_left; (go_simp; try with_reducible rfl); simp only [Act.put, List.setIfInBounds_toArray, List.set_cons_zero, List.set_cons_succ])
        (refine plan_pure ?_ rfl rfl (fun w' => ?_) ?_; rotate_left; (go_simp; try with_reducible rfl); simp only [Act.put, List.setIfInBounds_toArray, List.set_cons_zero, List.set_cons_succ])
        (refine plan_pure ?_ rfl rfl (fun w' => ?_) ?_; rotate_left; (go_simp; try with_reducible rfl); simp only [Act.put, List.setIfInBounds_toArray, List.set_cons_zero, List.set_cons_succ])
        (refine plan_val ?_ rfl rfl rfl (fun w' hS => ?_) ?_; rotate_left; (obtain ⟨X0, X1, X2, X3, X4, X5, Xf0, Xf1, Xf2, Xf3, Xf4, Xf5⟩ := row_six hS.1; obtain ⟨q0, q1, q2, q3, q4, q5, q6⟩ := HTz.out.below hS.2 hbz; dsimp only at q0 q1 q2 q3 q4 q5 q6; obtain ⟨p0, p1, p2, p3, p4, p5, p6⟩ := HT0.out.below hS.2 hb0; dsimp only at p0 p1 p2 p3 p4 p5 p6; go_simp; try with_reducible rfl); simp only [Act.put, List.setIfInBounds_toArray, List.set_cons_zero, List.set_cons_succ])
        (refine plan_val ?_ rfl rfl rfl (fun w' hS => ?_) ?_; rotate_left; (obtain ⟨X0, X1, X2, X3, X4, X5, Xf0, Xf1, Xf2, Xf3, Xf4, Xf5⟩ := row_six hS.1; obtain ⟨q0, q1, q2, q3, q4, q5, q6⟩ := HTz.out.below hS.2 hbz; dsimp only at q0 q1 q2 q3 q4 q5 q6; obtain ⟨p0, p1, p2, p3, p4, p5, p6⟩ := HT0.out.below hS.2 hb0; dsimp only at p0 p1 p2 p3 p4 p5 p6; go_simp; try with_reducible rfl); simp only [Act.put, List.setIfInBounds_toArray, List.set_cons_zero, List.set_cons_succ])
        (refine plan_val ?_ rfl rfl rfl (fun w' hS => ?_) ?_; rotate_left; (obtain ⟨X0, X1, X2, X3, X4, X5, Xf0, Xf1, Xf2, Xf3, Xf4, Xf5⟩ := row_six hS.1; obtain ⟨q0, q1, q2, q3, q4, q5, q6⟩ := HTz.out.below hS.2 hbz; dsimp only at q0 q1 q2 q3 q4 q5 q6; obtain ⟨p0, p1, p2, p3, p4, p5, p6⟩ := HT0.out.below hS.2 hb0; dsimp only at p0 p1 p2 p3 p4 p5 p6; go_simp; try with_reducible rfl); simp only [Act.put, List.setIfInBounds_toArray, List.set_cons_zero, List.set_cons_succ])
        refine plan_nil ?_
        intro w4 L
        simp only [List.drop_succ_cons, List.drop_zero]
        try simp only [Act.put, List.setIfInBounds_toArray, List.set_cons_zero, List.set_cons_succ]
        obtain ⟨X, o⟩ := L
        go_wp2_with fail
        refine (PC.out _).mono ?_
        rintro e w5 ⟨rfl, hb5⟩
        replace X := row_call X hb5
        replace o := o.trans (hb5.mono o.size)
        clear hb5 PC
        have HA2 := Lib.hid (HNX.out (HSP.out.2 (of_decide_eq_false HNV.out)))
        go_wp2
        go_roundw
        case rel => exact ⟨j + 1, by omega, .inl (by omega), (by first | go_num | exact congrArg (Value.int .i64) (by omega)), HA2, X, o⟩
        case measure => simp [intOf]; omega
      · skip
        refine wp_region_free0 [0, 1, 2, 3, 4, 6, 7, 8, 9, 11, 5, 10, 12] [] [0, 1, 2, 3, 4, 5, 6, 7, 8, 9, 10, 11, 12] 13 (fun w' => Row w' (xb) 24 #[.int .i64 wd, .int .i64 k, .int .i64 cap, .int .i64 now, .int .i64 seq, .slice (some ad) m c] ∧ Below w.heap.size w w') (by kernel_rfl) (by kernel_rfl) (fun _ _ d _ _ h => by cases d <;> exact h) ?_ ?_
        · exact ⟨X, o.drew⟩
        (refine plan_pure ?_ rfl rfl (fun w' => ?_) ?_; rotate_left; (go_simp; try with_reducible rfl); simp only [Act.put, List.setIfInBounds_toArray, List.set_cons_zero, List.set_cons_succ])
        (refine plan_val ?_ rfl rfl rfl (fun w' hS => ?_) ?_; rotate_left; (obtain ⟨X0, X1, X2, X3, X4, X5, Xf0, Xf1, Xf2, Xf3, Xf4, Xf5⟩ := row_six hS.1; obtain ⟨q0, q1, q2, q3, q4, q5, q6⟩ := HTz.out.below hS.2 hbz; dsimp only at q0 q1 q2 q3 q4 q5 q6; obtain ⟨p0, p1, p2, p3, p4, p5, p6⟩ := HT0.out.below hS.2 hb0; dsimp only at p0 p1 p2 p3 p4 p5 p6; go_simp; try with_reducible rfl); simp only [Act.put, List.setIfInBounds_toArray, List.set_cons_zero, List.set_cons_succ])
        (refine plan_pure ?_ rfl rfl (fun w' => ?_) ?_; rotate_left; (go_simp; try with_reducible rfl); simp only [Act.put, List.setIfInBounds_toArray, List.set_cons_zero, List.set_cons_succ])
        (refine plan_pure ?_ rfl rfl (fun w' => ?_) ?_; rotate_left; (go_simp; try with_reducible rfl); simp only [Act.put, List.setIfInBounds_toArray, List.set_cons_zero, List.set_cons_succ])
        (refine plan_pure ?_ rfl rfl (fun w' => ?_) ?_; rotate_left; (go_simp; try with_reducible rfl); simp only [Act.put, List.setIfInBounds_toArray, List.set_cons_zero, List.set_cons_succ])
        (refine plan_pure ?_ rfl rfl (fun w' => ?_) ?_; rotate_left; (go_simp; try with_reducible rfl); simp only [Act.put, List.setIfInBounds_toArray, List.set_cons_zero, List.set_cons_succ])
        (refine plan_val ?_ rfl rfl rfl (fun w' hS => ?_) ?_; rotate_left; (obtain ⟨X0, X1, X2, X3, X4, X5, Xf0, Xf1, Xf2, Xf3, Xf4, Xf5⟩ := row_six hS.1; obtain ⟨q0, q1, q2, q3, q4, q5, q6⟩ := HTz.out.below hS.2 hbz; dsimp only at q0 q1 q2 q3 q4 q5 q6; obtain ⟨p0, p1, p2, p3, p4, p5, p6⟩ := HT0.out.below hS.2 hb0; dsimp only at p0 p1 p2 p3 p4 p5 p6; go_simp; try with_reducible rfl); simp only [Act.put, List.setIfInBounds_toArray, List.set_cons_zero, List.set_cons_succ])
        (refine plan_pure ?_ rfl rfl (fun w' => ?_) ?_; rotate_left; (go_simp; try with_reducible rfl); simp only [Act.put, List.setIfInBounds_toArray, List.set_cons_zero, List.set_cons_succ])
        (refine plan_pure ?_ rfl rfl (fun w' => ?_) ?_; rotate_left; (go_simp; try with_reducible rfl); simp only [Act.put, List.setIfInBounds_toArray, List.set_cons_zero, List.set_cons_succ])
        (refine plan_pure ?_ rfl rfl (fun w' => ?_) ?_; rotate_left; (go_simp; try with_reducible rfl); simp only [Act.put, List.setIfInBounds_toArray, List.set_cons_zero, List.set_cons_succ])
        (refine plan_val ?_ rfl rfl rfl (fun w' hS => ?_) ?_; rotate_left; (obtain ⟨X0, X1, X2, X3, X4, X5, Xf0, Xf1, Xf2, Xf3, Xf4, Xf5⟩ := row_six hS.1; obtain ⟨q0, q1, q2, q3, q4, q5, q6⟩ := HTz.out.below hS.2 hbz; dsimp only at q0 q1 q2 q3 q4 q5 q6; obtain ⟨p0, p1, p2, p3, p4, p5, p6⟩ := HT0.out.below hS.2 hb0; dsimp only at p0 p1 p2 p3 p4 p5 p6; go_simp; try with_reducible rfl); simp only [Act.put, List.setIfInBounds_toArray, List.set_cons_zero, List.set_cons_succ])
        (refine plan_val ?_ rfl rfl rfl (fun w' hS => ?_) ?_; rotate_left; (obtain ⟨X0, X1, X2, X3, X4, X5, Xf0, Xf1, Xf2, Xf3, Xf4, Xf5⟩ := row_six hS.1; obtain ⟨q0, q1, q2, q3, q4, q5, q6⟩ := HTz.out.below hS.2 hbz; dsimp only at q0 q1 q2 q3 q4 q5 q6; obtain ⟨p0, p1, p2, p3, p4, p5, p6⟩ := HT0.out.below hS.2 hb0; dsimp only at p0 p1 p2 p3 p4 p5 p6; go_simp; try with_reducible rfl); simp only [Act.put, List.setIfInBounds_toArray, List.set_cons_zero, List.set_cons_succ])
        (refine plan_val ?_ rfl rfl rfl (fun w' hS => ?_) ?_; rotate_left; (obtain ⟨X0, X1, X2, X3, X4, X5, Xf0, Xf1, Xf2, Xf3, Xf4, Xf5⟩ := row_six hS.1; obtain ⟨q0, q1, q2, q3, q4, q5, q6⟩ := HTz.out.below hS.2 hbz; dsimp only at q0 q1 q2 q3 q4 q5 q6; obtain ⟨p0, p1, p2, p3, p4, p5, p6⟩ := HT0.out.below hS.2 hb0; dsimp only at p0 p1 p2 p3 p4 p5 p6; go_simp; try with_reducible rfl); simp only [Act.put, List.setIfInBounds_toArray, List.set_cons_zero, List.set_cons_succ])
        refine plan_nil ?_
        intro w4 L
        simp only [List.drop_succ_cons, List.drop_zero]
        try simp only [Act.put, List.setIfInBounds_toArray, List.set_cons_zero, List.set_cons_succ]
        obtain ⟨X, o⟩ := L
        go_wp2_with fail
        refine (PC.out _).mono ?_
        rintro e w5 ⟨rfl, hb5⟩
        replace X := row_call X hb5
        replace o := o.trans (hb5.mono o.size)
        clear hb5 PC
        have E := Lib.hid (spvalE_no (wd := wd) (k := k) (cap := cap) (now := now) (seq := seq) (l := l) (fun a => (HSP.out.1 (a.2.2 j (by rw [HL.out]; exact hlt))) (of_decide_eq_true HNV.out)))
        go_wp2
        go_ret
        exact ⟨ret_i64 E.out.symm, o⟩
    · have i1 : ¬ (j : Int) < (m : Int) := by omega
      have E := Lib.hid (spvalE_yes (wd := wd) (k := k) (cap := cap) (now := now) (seq := seq) (l := l) ⟨HG.out, HV.out, fun i hi => by
        by_cases h2 : 2 ≤ i
        · exact HA.out i (by rw [HL.out] at hi; omega)
        · exact fun h => absurd h h2⟩)
      obtain ⟨X0, X1, X2, X3, X4, X5, Xf0, Xf1, Xf2, Xf3, Xf4, Xf5⟩ := row_six X
      go_wp2
      go_ret
      exact ⟨ret_i64 E.out.symm, o⟩
theorem pvalP (A : Option Addr) (m c : Nat) (l : List Mk) (wd k cap now seq : Int) (w : World) (hin : MIn A m c l w) (sB : I64 seq) : Calls Try.prog 27 #[.agg #[.int .i64 wd, .int .i64 k, .int .i64 cap, .int .i64 now, .int .i64 seq, .slice A m c]] w fun e w' => e = .returned (.int .i64 (spvalE wd k cap now seq l)) ∧ Below w.heap.size w w' := by
  by_cases hG : spGood wd k cap now
  · by_cases hV : mvalid l seq cap now wd (-4096)
    · exact pvalP_c A m c l wd k cap now seq w hin sB hG hV
    · exact pvalP_b A m c l wd k cap now seq w hin sB hG hV
  · exact pvalP_a A m c l wd k cap now seq w hG
end Go.Proofs.Ytaiepjcnncajcaa
end
section
/- Rows of the call's own that ownsRow tells of: what keeps them; what an argument reads behind a store elsewhere. -/
set_option linter.unusedVariables false
set_option linter.unusedSimpArgs false
set_option linter.unusedSectionVars false
set_option linter.unnecessarySimpa false
namespace Go.Proofs.Ytaiepjcnncajcaa
open Go.RowKit
theorem orow_keep {w w' : World} {base : Nat} {e : TypeId} {size : Nat} {v : Value} {n : Nat} {xs : List Value} (h : w.ownsRow base e size v n xs) (hg : ∀ g, v.ownBlock = some g → w'.heap[g]? = w.heap[g]?) : w'.ownsRow base e size v n xs := by
  refine ⟨h.1, ?_⟩
  rcases h.2 with hn | ⟨g, cap, cur, rfl, hb, hgg, rest⟩
  · exact .inl hn
  · exact .inr ⟨g, cap, cur, rfl, hb, by rw [hg g rfl]; exact hgg, rest⟩
theorem orow_other {w : World} {base : Nat} {e : TypeId} {size : Nat} {v : Value} {n : Nat} {xs : List Value} (h : w.ownsRow base e size v n xs) {p : Addr} (hne : v.ownBlock ≠ some p.block) (u : Value) : (w.setCell p u).ownsRow base e size v n xs :=
  orow_keep h fun g he => Below.heap_setCell w p u g (fun x => hne (x ▸ he))
theorem orow_new {w : World} {base : Nat} {e : TypeId} {size : Nat} {v : Value} {n b : Nat} {xs : List Value} (h : w.ownsRow base e size v n xs) (hb : w.heap.size ≤ b) : v.ownBlock ≠ some b := fun e => by
  have := (h.lt b e).2
  omega
theorem orow_old {w : World} {base : Nat} {e : TypeId} {size : Nat} {v : Value} {n b : Nat} {xs : List Value} (h : w.ownsRow base e size v n xs) (hb : b < base) : v.ownBlock ≠ some b := fun e => by
  have := (h.lt b e).1
  omega
theorem orow_forms {w : World} {base : Nat} {e : TypeId} {size : Nat} {v : Value} {n : Nat} {xs : List Value} (h : w.ownsRow base e size v n xs) :
    ∃ A c, v = .slice A n c ∧ Reads w w.heap.size size A n xs ∧ n ≤ c ∧ c ≤ maxLen ∧ ∀ a, A = some a → base ≤ a.block ∧ a.block < w.heap.size := by
  rcases h.2 with ⟨rfl, rfl⟩ | ⟨g, cap, cur, rfl, hb, hgg, h1, h2, _⟩
  · exact ⟨none, 0, rfl, Reads.of_own h, Nat.le_refl _, Nat.zero_le _, fun a e => by cases e⟩
  · exact ⟨_, cap, rfl, Reads.of_own h, h1, h2, fun a e => by cases e; exact h.lt _ rfl⟩
theorem reads_keep {w w' : World} {B size n : Nat} {A : Option Addr} {xs : List Value} (h : Reads w B size A n xs) (hk : ∀ a, A = some a → a.block < B → w'.heap[a.block]? = w.heap[a.block]?) : Reads w' B size A n xs := by
  refine ⟨h.1, fun hn => ?_⟩
  obtain ⟨ad, e, hb, hc⟩ := h.2 hn
  refine ⟨ad, e, hb, fun j u hu => ?_⟩
  have hq : (ad.add j).block = ad.block := block_of_add ..
  exact (World.cell?_of_block (w := w) (w' := w') (a := ad.add j) (by rw [hq]; exact hk ad e hb)).trans (hc j u hu)
end Go.Proofs.Ytaiepjcnncajcaa
end
section
/- Marks of smooth histograms: a value more in all marks, walked. -/
set_option linter.unusedVariables false
set_option linter.unusedSimpArgs false
set_option linter.unusedSectionVars false
set_option linter.unnecessarySimpa false
namespace Go.Proofs.Ytaiepjcnncajcaa
open Go.RowKit
/-- What a call that answers marks of its own leaves. -/
def MRet (n : Nat) (l : List Mk) (w : World) (e : Ending) (w' : World) : Prop := ∃ v, e = .returned v ∧ w'.ownsRow w.heap.size 33 7 v n (mcells l) ∧ Below w.heap.size w w'
/-- Small numbers. -/
def SmallM (m : Mk) : Prop := (0 ≤ m.n ∧ m.n ≤ 65536) ∧ (-268435456 ≤ m.s ∧ m.s ≤ 268435456) ∧ 0 ≤ m.q ∧ m.q ≤ 1099511627776
theorem mk_take {l : List Mk} {j : Nat} (h : j < l.length) : l.take (j + 1) = l.take j ++ [mkAt l j] := by
  rw [List.take_succ_eq_append_getElem h]
  unfold mkAt
  rw [List.getD_eq_getElem?_getD, List.getElem?_eq_getElem h]
  rfl
theorem SmallM.of_one {seq cap now w least : Int} {m : Mk} (h : oneP seq cap now w least m) (hc : cap ≤ 65536) (hl : -4096 ≤ least) : SmallM m := by
  obtain ⟨h1, h2, h3, h4, h5, h6, h7, h8, h9, p1, p2, p3, p4, p5⟩ := h
  have b1 := mul_small (n := m.n) (x := m.lo) (by omega) (by omega) (by omega) (by omega)
  have b2 := mul_small (n := m.n) (x := m.hi) (by omega) (by omega) (by omega) (by omega)
  exact ⟨by omega, by omega, by omega, by omega⟩
set_option maxRecDepth 100000 in
set_option maxHeartbeats 4000000 in
theorem pmadd (A : Option Addr) (m c : Nat) (l : List Mk) (seq t v : Int) (w : World) (hin : MIn A m c l w) (hm : m ≤ 1000000) (hS : ∀ i, i < m → SmallM (mkAt l i)) (v0 : -4096 ≤ v) (v1 : v ≤ 4096) :
    Calls Try.prog 69 #[.slice A m c, .int .i64 seq, .int .i64 t, .int .i64 v] w fun e w' => MRet (m + 1) (incl l seq t v) w e w' := by
  have HR := Lib.hid hin
  have HL := Lib.hid hin.len
  have HS := Lib.hid hS
  have hvv := vv_small v0 v1
  have wvv : IntKind.i64.wrap (v * v) = v * v := IntWalk.i64_in _ (by omega)
  obtain ⟨i0, hi0, iz0, iz1, iz2⟩ := info_parts info_mk
  clear hin hS
  go_enter Try.func69, Try.ntmps69
  go_wp2
  go_loopw [9, 14] (fun u i wr => ∃ j : Nat, j ≤ m ∧ i = .int .i64 (j : Nat) ∧ wr.ownsRow w.heap.size 33 7 u j (mcells ((l.take j).map (inc v))) ∧ Below w.heap.size w wr) (fun _ i _ => m - (intOf i).toNat)
  case atStart => exact ⟨0, by omega, rfl, World.ownsRow_nil _ _ _ _, Below.refl _ _⟩
  case round =>
    obtain ⟨j, hj, rfl, own, o⟩ := hrel
    by_cases hlt : j < m
    · obtain ⟨ad, rfl, hadb, ht0⟩ := HR.out.reads.mk hlt
      have hS1 := HS.out j hlt
      have HE : RowKit.Hid (mcells ((l.take (j + 1)).map (inc v)) = mcells ((l.take j).map (inc v)) ++ mcells [inc v (mkAt l j)]) := Lib.hid (by rw [mk_take (by rw [HL.out]; exact hlt), List.map_append, mcells_append]; rfl)
      generalize mkAt l j = mj at ht0 hS1 HE
      obtain ⟨sq, tk, n, s, q, lo, hi⟩ := mj
      obtain ⟨p0, p1, p2, p3, p4, p5, p6⟩ := ht0.below o (by rw [block_of_add]; exact hadb)
      obtain ⟨⟨n0, n1⟩, ⟨s0, s1⟩, q0, q1⟩ := hS1
      dsimp only at p0 p1 p2 p3 p4 p5 p6 n0 n1 s0 s1 q0 q1
      have HX : RowKit.Hid (mcells [inc v (⟨sq, tk, n, s, q, lo, hi⟩ : Mk)] = (#[.int .i64 sq, .int .i64 tk, .int .i64 (n + 1), .int .i64 (s + v), .int .i64 (q + v * v), .int .i64 (min lo v), .int .i64 (max hi v)] : Array Value).toList) := Lib.hid rfl
      have wn : IntKind.i64.wrap (n + 1) = n + 1 := IntWalk.i64_in _ (by omega)
      have ws : IntKind.i64.wrap (s + v) = s + v := IntWalk.i64_in _ (by omega)
      have wq : IntKind.i64.wrap (q + v * v) = q + v * v := IntWalk.i64_in _ (by omega)
      clear ht0 n0 n1 s0 s1 q0 q1 hvv
      have i1 : (j : Int) < (m : Int) := by omega
      have i2 : (0 : Int) ≤ (j : Int) := by omega
      go_upto_region 5 with (fail)
      have K : Row (wr.alloc (.cells #[.int .i64 sq, .int .i64 tk, .int .i64 n, .int .i64 s, .int .i64 q, .int .i64 lo, .int .i64 hi] 33)) wr.heap.size 33 #[.int .i64 sq, .int .i64 tk, .int .i64 n, .int .i64 s, .int .i64 q, .int .i64 lo, .int .i64 hi] := row_new rfl
      have zo := o.size
      have kn : u9.ownBlock ≠ some wr.heap.size := orow_new own (Nat.le_refl _)
      replace own := own.alloc (.cells #[.int .i64 sq, .int .i64 tk, .int .i64 n, .int .i64 s, .int .i64 q, .int .i64 lo, .int .i64 hi] 33)
      replace o := o.alloc o.size (.cells #[.int .i64 sq, .int .i64 tk, .int .i64 n, .int .i64 s, .int .i64 q, .int .i64 lo, .int .i64 hi] 33)
      generalize wr.alloc (.cells #[.int .i64 sq, .int .i64 tk, .int .i64 n, .int .i64 s, .int .i64 q, .int .i64 lo, .int .i64 hi] 33) = w3 at own o K ⊢
      generalize wr.heap.size = mb at K kn zo ⊢
      clear p0 p1 p2 p3 p4 p5 p6
      obtain ⟨K0, K1, K2, K3, K4, K5, K6, Kf0, Kf1, Kf2, Kf3, Kf4, Kf5, Kf6⟩ := row_seven K
      have KR := Lib.hid K
      clear K
      go_upto_region 9 with (fail)
      replace own := orow_other (p := ⟨mb, 2, none⟩) own kn (.int .i64 (n + 1))
      replace o := o.setCell (p := ⟨mb, 2, none⟩) (by show w.heap.size ≤ mb; omega) (.int .i64 (n + 1))
      replace own := orow_other (p := ⟨mb, 3, none⟩) own kn (.int .i64 (s + v))
      replace o := o.setCell (p := ⟨mb, 3, none⟩) (by show w.heap.size ≤ mb; omega) (.int .i64 (s + v))
      replace own := orow_other (p := ⟨mb, 4, none⟩) own kn (.int .i64 (q + v * v))
      replace o := o.setCell (p := ⟨mb, 4, none⟩) (by show w.heap.size ≤ mb; omega) (.int .i64 (q + v * v))
      replace own := orow_other (p := ⟨mb, 5, none⟩) own kn (.int .i64 (min lo v))
      replace o := o.setCell (p := ⟨mb, 5, none⟩) (by show w.heap.size ≤ mb; omega) (.int .i64 (min lo v))
      replace own := orow_other (p := ⟨mb, 6, none⟩) own kn (.int .i64 (max hi v))
      replace o := o.setCell (p := ⟨mb, 6, none⟩) (by show w.heap.size ≤ mb; omega) (.int .i64 (max hi v))
      have K : Row (((((w3.setCell ⟨mb, 2, none⟩ (.int .i64 (n + 1))).setCell ⟨mb, 3, none⟩ (.int .i64 (s + v))).setCell ⟨mb, 4, none⟩ (.int .i64 (q + v * v))).setCell ⟨mb, 5, none⟩ (.int .i64 (min lo v))).setCell ⟨mb, 6, none⟩ (.int .i64 (max hi v))) mb 33 #[.int .i64 sq, .int .i64 tk, .int .i64 (n + 1), .int .i64 (s + v), .int .i64 (q + v * v), .int .i64 (min lo v), .int .i64 (max hi v)] := (row_set (row_set (row_set (row_set (row_set KR.out 2 (.int .i64 (n + 1))) 3 (.int .i64 (s + v))) 4 (.int .i64 (q + v * v))) 5 (.int .i64 (min lo v))) 6 (.int .i64 (max hi v)))
      generalize (((((w3.setCell ⟨mb, 2, none⟩ (.int .i64 (n + 1))).setCell ⟨mb, 3, none⟩ (.int .i64 (s + v))).setCell ⟨mb, 4, none⟩ (.int .i64 (q + v * v))).setCell ⟨mb, 5, none⟩ (.int .i64 (min lo v))).setCell ⟨mb, 6, none⟩ (.int .i64 (max hi v))) = w4 at own o K ⊢
      clear K0 K1 K2 K3 K4 K5 K6 Kf0 Kf1 Kf2 Kf3 Kf4 Kf5 Kf6 KR
      obtain ⟨K0, K1, K2, K3, K4, K5, K6, Kf0, Kf1, Kf2, Kf3, Kf4, Kf5, Kf6⟩ := row_seven K
      have hbl := own.lt
      have OWN := Lib.hid own
      have zo := o.size
      clear own
      go_wp2_with (at_builtin; refine wpList_push rfl _ _ 22 rfl 33 i0 (.agg #[.int .i64 0, .int .i64 0, .int .i64 0, .int .i64 0, .int .i64 0, .int .i64 0, .int .i64 0]) 7 56 Try.underlying22 hi0 iz0 iz1 iz2 rfl (by decide) w.heap.size u9 j (mcells ((l.take j).map (inc v))) rfl OWN.out #[.int .i64 sq, .int .i64 tk, .int .i64 (n + 1), .int .i64 (s + v), .int .i64 (q + v * v), .int .i64 (min lo v), .int .i64 (max hi v)] rfl rfl (by simp [Value.oneCell']) (by unfold maxLen; omega) (by omega) (by omega) ?_; intro g' c4 w9 own9 hg9 hat9 hgr9)
      have own : w9.ownsRow w.heap.size 33 7 (.slice (some ⟨g', 0, none⟩) (j + 1) c4) (j + 1) (mcells ((l.take (j + 1)).map (inc v))) := by
        rw [HE.out, HX.out]
        exact own9.row hg9
      replace o := below_grown (o.alloc o.size (.cells #[.int .i64 sq, .int .i64 tk, .int .i64 (n + 1), .int .i64 (s + v), .int .i64 (q + v * v), .int .i64 (min lo v), .int .i64 (max hi v)] 33)) hgr9 (fun b e => (hbl b e).1) (by simp; omega)
      clear own9 hgr9 hat9 OWN zo
      go_wp2
      go_roundw
      case rel => exact ⟨j + 1, by omega, by go_num, own, o⟩
      case measure => simp [intOf]; omega
    · have i1 : ¬ (j : Int) < (m : Int) := by omega
      obtain rfl : j = m := by omega
      have HE : RowKit.Hid (mcells (incl l seq t v) = mcells ((l.take j).map (inc v)) ++ (#[.int .i64 seq, .int .i64 t, .int .i64 1, .int .i64 v, .int .i64 (v * v), .int .i64 v, .int .i64 v] : Array Value).toList) := Lib.hid (by
        unfold incl
        rw [mcells_append, List.take_of_length_le (by rw [HL.out]; exact Nat.le_refl _)]
        rfl)
      have hbl := own.lt
      have OWN := Lib.hid own
      have zo := o.size
      clear own hvv
      go_wp2_with (at_builtin; refine wpList_push rfl _ _ 22 rfl 33 i0 (.agg #[.int .i64 0, .int .i64 0, .int .i64 0, .int .i64 0, .int .i64 0, .int .i64 0, .int .i64 0]) 7 56 Try.underlying22 hi0 iz0 iz1 iz2 rfl (by decide) w.heap.size u9 j (mcells ((l.take j).map (inc v))) rfl OWN.out #[.int .i64 seq, .int .i64 t, .int .i64 1, .int .i64 v, .int .i64 (v * v), .int .i64 v, .int .i64 v] rfl rfl (by simp [Value.oneCell']) (by unfold maxLen; omega) (by omega) (by omega) ?_; intro g' c4 w9 own9 hg9 hat9 hgr9)
      have own : w9.ownsRow w.heap.size 33 7 (.slice (some ⟨g', 0, none⟩) (j + 1) c4) (j + 1) (mcells (incl l seq t v)) := by
        rw [HE.out]
        exact own9.row hg9
      replace o := below_grown (o.alloc o.size (.cells #[.int .i64 seq, .int .i64 t, .int .i64 1, .int .i64 v, .int .i64 (v * v), .int .i64 v, .int .i64 v] 33)) hgr9 (fun b e => (hbl b e).1) (by simp; omega)
      clear own9 hgr9 hat9 OWN zo
      go_wp2
      go_ret
      exact ⟨_, rfl, own, o⟩
end Go.Proofs.Ytaiepjcnncajcaa
end
section
/- Marks of smooth histograms: the marks between each mark and the last one behind it that is close to it fall away, walked. -/
set_option linter.unusedVariables false
set_option linter.unusedSimpArgs false
set_option linter.unusedSectionVars false
set_option linter.unnecessarySimpa false
namespace Go.Proofs.Ytaiepjcnncajcaa
open Go.RowKit
set_option maxRecDepth 100000 in
set_option maxHeartbeats 4000000 in
theorem pprune (near : Mk → Mk → Bool) (fc : FuncId) (xb : Nat) (A : Option Addr) (m c : Nat) (l : List Mk) (w : World) (hin : MIn A m c l w) (hm : m ≤ 1000000)
    (hfc : ∀ (args : Array Value) (w : World), Sem.run Try.prog (callFunc fc args) w = .ok (.enter fc args) w)
    (HN : ∀ (i j : Nat) (w' : World), i < j → j < m → Below w.heap.size w w' → Calls Try.prog fc #[.agg #[.int .i64 (mkAt l i).seq, .int .i64 (mkAt l i).t, .int .i64 (mkAt l i).n, .int .i64 (mkAt l i).s, .int .i64 (mkAt l i).q, .int .i64 (mkAt l i).lo, .int .i64 (mkAt l i).hi], .agg #[.int .i64 (mkAt l j).seq, .int .i64 (mkAt l j).t, .int .i64 (mkAt l j).n, .int .i64 (mkAt l j).s, .int .i64 (mkAt l j).q, .int .i64 (mkAt l j).lo, .int .i64 (mkAt l j).hi], .pointer (some ⟨xb, 0, none⟩)] w' fun e w'' => e = .returned (.bool (near (mkAt l i) (mkAt l j))) ∧ Below w'.heap.size w' w'') :
    Calls Try.prog 68 #[.slice A m c, .func (.func fc) #[] #[.pointer (some ⟨xb, 0, none⟩)]] w fun e w' => MRet (prune near l).length (prune near l) w e w' := by
  have HR := Lib.hid hin
  have HL := Lib.hid hin.len
  replace HN := Lib.hid HN
  have HFC := Lib.hid hfc
  clear hfc
  obtain ⟨i0, hi0, iz0, iz1, iz2⟩ := info_parts info_mk
  clear hin
  go_enter Try.func68, Try.ntmps68
  go_wp2
  go_loopw [5, 6] (fun u i wr => ∃ (k : Nat) (p : List Mk), k ≤ m ∧ i = .int .i64 (k : Nat) ∧ wr.ownsRow w.heap.size 33 7 u p.length (mcells p) ∧ RowKit.Hid (p ++ prune near (l.drop k) = prune near l) ∧ p.length ≤ k ∧ Below w.heap.size w wr) (fun _ i _ => m - (intOf i).toNat)
  case atStart => exact ⟨0, [], by omega, rfl, World.ownsRow_nil _ _ _ _, Lib.hid rfl, by simp, Below.refl _ _⟩
  case round =>
    obtain ⟨k, p, hk, rfl, own, HP, hpl, o⟩ := hrel
    by_cases hlt : k < m
    · obtain ⟨ad, rfl, hadb, hta⟩ := HR.out.reads.mk hlt
      have HE : RowKit.Hid (mcells (p ++ [mkAt l k]) = mcells p ++ mcells [mkAt l k]) := Lib.hid (mcells_append _ _)
      have HD : RowKit.Hid (prune near (l.drop k) = mkAt l k :: prune near (l.drop (k + 1 + lastN (near (mkAt l k)) (l.drop (k + 1))))) := Lib.hid (by
        rw [drop_mk (by rw [HL.out]; exact hlt), prune_cons, List.drop_drop])
      obtain ⟨N, hN⟩ : ∃ N, N = k + 1 + lastN (near (mkAt l k)) (l.drop (k + 1)) := ⟨_, rfl⟩
      have HNx := Lib.hid hN
      have hN0 : k + 1 ≤ N := by omega
      have hN1 : N ≤ m := by
        have := HL.out
        by_cases e : l.drop (k + 1) = []
        · rw [hN, e]
          have : lastN (near (mkAt l k)) [] = 0 := rfl
          omega
        · have := lastN_le (near (mkAt l k)) _ e
          rw [List.length_drop] at this
          omega
      generalize hA : mkAt l k = ma at hta HE
      have HAm := Lib.hid hA
      obtain ⟨sq, tk, n, s, q, lo, hi⟩ := ma
      have HA0 := Lib.hid hta
      obtain ⟨p0, p1, p2, p3, p4, p5, p6⟩ := hta.below o (by rw [block_of_add]; exact hadb)
      dsimp only at p0 p1 p2 p3 p4 p5 p6
      have HX : RowKit.Hid (mcells [(⟨sq, tk, n, s, q, lo, hi⟩ : Mk)] = (#[.int .i64 sq, .int .i64 tk, .int .i64 n, .int .i64 s, .int .i64 q, .int .i64 lo, .int .i64 hi] : Array Value).toList) := Lib.hid rfl
      have i1 : (k : Int) < (m : Int) := by omega
      have i2 : (0 : Int) ≤ (k : Int) := by omega
      have hbl := own.lt
      have OWN := Lib.hid own
      have zo := o.size
      have wm : IntKind.i64.wrap ((m : Int) - 1) = (m : Int) - 1 := IntWalk.i64_in _ (by omega)
      have wk : IntKind.i64.wrap ((k : Int) + 1) = (k : Int) + 1 := IntWalk.i64_in _ (by omega)
      clear own hA hta hN
      go_upto_block 2 with (at_builtin; refine wpList_push rfl _ _ 22 rfl 33 i0 (.agg #[.int .i64 0, .int .i64 0, .int .i64 0, .int .i64 0, .int .i64 0, .int .i64 0, .int .i64 0]) 7 56 Try.underlying22 hi0 iz0 iz1 iz2 rfl (by decide) w.heap.size u5 p.length (mcells p) rfl OWN.out #[.int .i64 sq, .int .i64 tk, .int .i64 n, .int .i64 s, .int .i64 q, .int .i64 lo, .int .i64 hi] rfl rfl (by simp [Value.oneCell']) (by unfold maxLen; omega) (by omega) (by omega) ?_; intro g' c4 w9 own9 hg9 hat9 hgr9)
      have own : w9.ownsRow w.heap.size 33 7 (.slice (some ⟨g', 0, none⟩) (p.length + 1) c4) (p.length + 1) (mcells (p ++ [mkAt l k])) := by
        rw [HAm.out, HE.out, HX.out]
        exact own9.row hg9
      replace o := below_grown (o.alloc o.size (.cells #[.int .i64 sq, .int .i64 tk, .int .i64 n, .int .i64 s, .int .i64 q, .int .i64 lo, .int .i64 hi] 33)) hgr9 (fun b e => (hbl b e).1) (by simp; omega)
      clear own9 hgr9 hat9 OWN zo p0 p1 p2 p3 p4 p5 p6 hbl
      go_cut [7] (fun nx wx => nx = .int .i64 (N : Nat) ∧ wx.ownsRow w.heap.size 33 7 (.slice (some ⟨g', 0, none⟩) (p.length + 1) c4) (p.length + 1) (mcells (p ++ [mkAt l k])) ∧ Below w.heap.size w wx)
      case first =>
        go_wp2_with fail
        go_loopw [7, 8] (fun nx j wr => ∃ J : Nat, k ≤ J ∧ J < m ∧ nx = .int .i64 ((k : Int) + 1) ∧ j = .int .i64 (J : Nat) ∧ RowKit.Hid (∀ e, J < e → e < m → near (mkAt l k) (mkAt l e) = false) ∧ wr.ownsRow w.heap.size 33 7 (.slice (some ⟨g', 0, none⟩) (p.length + 1) c4) (p.length + 1) (mcells (p ++ [mkAt l k])) ∧ Below w.heap.size w wr) (fun _ j _ => (intOf j).toNat)
        case atStart => exact ⟨m - 1, by omega, by omega, rfl, congrArg (Value.int .i64) (by omega), Lib.hid (fun e h h' => absurd h (by omega)), own, o⟩
        case round =>
          clear own o
          obtain ⟨J, hJ0, hJ1, rfl, rfl, HF, own, o⟩ := hrel
          by_cases hjk : k < J
          · have g1 : (k : Int) < (J : Int) := by omega
            obtain ⟨ad', ea, _, htb⟩ := HR.out.reads.mk hJ1
            obtain rfl : ad = ad' := by injection ea
            have PN := fun w' hb => HN.out k J w' hjk hJ1 hb
            obtain ⟨nv, hnv⟩ : ∃ b, near (mkAt l k) (mkAt l J) = b := ⟨_, rfl⟩
            rw [hnv] at PN
            have HV := Lib.hid hnv
            rw [HAm.out] at PN
            generalize hB : mkAt l J = mb at htb PN
            obtain ⟨osq, otk, on, os, oq, olo, ohi⟩ := mb
            dsimp only at PN
            replace PN := Lib.hid PN
            have HB0 := Lib.hid htb
            clear hB htb ea hnv
            have j1 : (J : Int) < (m : Int) := by omega
            have j0 : (0 : Int) ≤ (J : Int) := by omega
            have wJ : IntKind.i64.wrap ((J : Int) - 1) = (J : Int) - 1 := IntWalk.i64_in _ (by omega)
            have own5 := own
            go_upto_region 9 with (fail)
            refine wp_region_free0 [1, 2, 3, 5, 6, 7, 0, 4, 8] [] [0, 1, 2, 3, 4, 5, 6, 7, 8] 9 (fun w' => World.ownsRow w' w.heap.size 33 7 (.slice (some ⟨g', 0, none⟩) (p.length + 1) c4) (p.length + 1) (mcells (p ++ [mkAt l k])) ∧ Below w.heap.size w w') (by kernel_rfl) (by kernel_rfl) (fun _ _ d _ _ h => by cases d <;> exact h) ?_ ?_
            · exact ⟨own, o.drew⟩
            (refine plan_pure ?_ rfl rfl (fun w' => ?_) ?_; rotate_left; (go_simp; try with_reducible rfl); simp only [Act.put, List.setIfInBounds_toArray, List.set_cons_zero, List.set_cons_succ])
            (refine plan_pure ?_ rfl rfl (fun w' => ?_) ?_; rotate_left; (go_simp; try with_reducible rfl); simp only [Act.put, List.setIfInBounds_toArray, List.set_cons_zero, List.set_cons_succ])
            (refine plan_pure ?_ rfl rfl (fun w' => ?_) ?_; rotate_left; (go_simp; try with_reducible rfl); simp only [Act.put, List.setIfInBounds_toArray, List.set_cons_zero, List.set_cons_succ])
            (refine plan_pure ?_ rfl rfl (fun w' => ?_) ?_; rotate_left; (go_simp; try with_reducible rfl); simp only [Act.put, List.setIfInBounds_toArray, List.set_cons_zero, List.set_cons_succ])
            (refine plan_pure ?_ rfl rfl (fun w' => ?_) ?_; rotate_left; (go_simp; try with_reducible rfl); simp only [Act.put, List.setIfInBounds_toArray, List.set_cons_zero, List.set_cons_succ])
            (refine plan_pure ?_ rfl rfl (fun w' => ?_) ?_; rotate_left; (go_simp; try with_reducible rfl); simp only [Act.put, List.setIfInBounds_toArray, List.set_cons_zero, List.set_cons_succ])
            (refine plan_pure ?_ rfl rfl (fun w' => ?_) ?_; rotate_left; (go_simp; try with_reducible rfl); simp only [Act.put, List.setIfInBounds_toArray, List.set_cons_zero, List.set_cons_succ])
            (refine plan_val ?_ rfl rfl rfl (fun w' hS => ?_) ?_; rotate_left; (obtain ⟨p0, p1, p2, p3, p4, p5, p6⟩ := HA0.out.below hS.2 (by rw [block_of_add]; exact hadb); obtain ⟨q0, q1, q2, q3, q4, q5, q6⟩ := HB0.out.below hS.2 (by rw [block_of_add]; exact hadb); dsimp only at p0 p1 p2 p3 p4 p5 p6 q0 q1 q2 q3 q4 q5 q6; go_simp; try with_reducible rfl); simp only [Act.put, List.setIfInBounds_toArray, List.set_cons_zero, List.set_cons_succ])
            (refine plan_val ?_ rfl rfl rfl (fun w' hS => ?_) ?_; rotate_left; (obtain ⟨p0, p1, p2, p3, p4, p5, p6⟩ := HA0.out.below hS.2 (by rw [block_of_add]; exact hadb); obtain ⟨q0, q1, q2, q3, q4, q5, q6⟩ := HB0.out.below hS.2 (by rw [block_of_add]; exact hadb); dsimp only at p0 p1 p2 p3 p4 p5 p6 q0 q1 q2 q3 q4 q5 q6; go_simp; try with_reducible rfl); simp only [Act.put, List.setIfInBounds_toArray, List.set_cons_zero, List.set_cons_succ])
            refine plan_nil ?_
            intro w5 L5
            simp only [List.drop_succ_cons, List.drop_zero]
            try simp only [Act.put, List.setIfInBounds_toArray, List.set_cons_zero, List.set_cons_succ]
            obtain ⟨own, o⟩ := L5
            clear own5
            go_wp2_with fail
            rw [HFC.out]
            simp only [Oper.upon]
            refine (PN.out _ o).mono ?_
            rintro e w6 ⟨rfl, hb6⟩
            replace own := orow_keep own (fun g e => hb6.block g (own.lt g e).2)
            replace o := o.trans (hb6.mono o.size)
            cases nv
            · go_wp2
              go_roundw
              case rel =>
                refine ⟨J - 1, by omega, by omega, rfl, congrArg (Value.int .i64) (by omega), Lib.hid (fun e h h' => ?_), own, o⟩
                rcases Nat.lt_or_ge J e with g | g
                · exact HF.out e g h'
                · rw [show e = J by omega]
                  exact HV.out
              case measure => simp [intOf]; omega
            · have HJ : RowKit.Hid (N = J) := Lib.hid (by
                rw [HNx.out, lastN_is (p := J - (k + 1)) (by rw [List.length_drop, HL.out]; omega) (by rw [mkAt_drop, show k + 1 + (J - (k + 1)) = J by omega]; exact HV.out) (fun i h1 h2 => by
                  rw [List.length_drop, HL.out] at h2
                  rw [mkAt_drop]
                  exact HF.out _ (by omega) (by omega))]
                omega)
              go_wp2
              go_meet
              exact ⟨by rw [HJ.out], own, o⟩
          · obtain rfl : J = k := by omega
            have g1 : ¬ (J : Int) < (J : Int) := by omega
            have HJ : RowKit.Hid ((N : Int) = (J : Int) + 1) := Lib.hid (by
              have e := HNx.out
              rw [lastN_none (fun i hi => by
                rw [List.length_drop, HL.out] at hi
                rw [mkAt_drop]
                exact HF.out _ (by omega) (by omega))] at e
              omega)
            go_wp2
            go_meet
            exact ⟨by rw [HJ.out], own, o⟩
      case rest =>
        clear own o
        obtain ⟨rfl, own, o⟩ := hcut
        go_wp2
        go_roundw
        case rel => exact ⟨N, p ++ [mkAt l k], hN1, rfl, by rw [List.length_append]; exact own, Lib.hid (by rw [← HP.out, HD.out, HNx.out]; simp), by rw [List.length_append]; simp; omega, o⟩
        case measure => simp [intOf]; omega
    · have i1 : ¬ (k : Int) < (m : Int) := by omega
      obtain rfl : k = m := by omega
      have HE : RowKit.Hid (p = prune near l) := Lib.hid (by
        rw [← HP.out, List.drop_of_length_le (by rw [HL.out]; exact Nat.le_refl _), prune_nil, List.append_nil])
      go_wp2
      go_ret
      exact ⟨_, rfl, by rw [← HE.out]; exact own, o⟩
end Go.Proofs.Ytaiepjcnncajcaa
end
section
/- Spread histograms: what a call that answers a state leaves; New. -/
set_option linter.unusedVariables false
set_option linter.unusedSimpArgs false
set_option linter.unusedSectionVars false
set_option linter.unnecessarySimpa false
namespace Go.Proofs.Ytaiepjcnncajcaa
open Go.RowKit
theorem M64.of_one {seq cap now w least : Int} {m : Mk} (h : oneP seq cap now w least m) (hs : seq ≤ 1099511627777) (hc : cap ≤ 65536) (hn : now ≤ 16777216) (hl : -4096 ≤ least) : M64 m := by
  obtain ⟨⟨n0, n1⟩, ⟨s0, s1⟩, q0, q1⟩ := SmallM.of_one h hc hl
  obtain ⟨h1, h2, h3, h4, h5, h6, h7, h8, h9, _⟩ := h
  unfold M64 I64
  omega
theorem mkAt_out {l : List Mk} {i : Nat} (h : l.length ≤ i) : mkAt l i = Mk.zero := by
  unfold mkAt
  rw [List.getD_eq_getElem?_getD, List.getElem?_eq_none h]
  rfl
theorem M64.all {l : List Mk} (h : ∀ m ∈ l, M64 m) (i : Nat) : M64 (mkAt l i) := by
  by_cases hi : i < l.length
  · exact h _ (mkAt_mem hi)
  · rw [mkAt_out (by omega)]
    exact M64_zero
/-- Marks of the call's own, as an argument. -/
theorem MIn.of_row {w : World} {base n : Nat} {v : Value} {l : List Mk} (h : w.ownsRow base 33 7 v n (mcells l)) (hB : ∀ i, M64 (mkAt l i)) : ∃ A c, v = .slice A n c ∧ MIn A n c l w ∧ ∀ a, A = some a → base ≤ a.block ∧ a.block < w.heap.size := by
  obtain ⟨A, c, rfl, hr, h1, h2, h3⟩ := orow_forms h
  exact ⟨A, c, rfl, ⟨hr, hB, h1, h2⟩, h3⟩
theorem MIn.keep {A : Option Addr} {m c : Nat} {l : List Mk} {w w' : World} (h : MIn A m c l w) (hs : w.heap.size ≤ w'.heap.size) (hk : ∀ a, A = some a → w'.heap[a.block]? = w.heap[a.block]?) : MIn A m c l w' := by
  refine ⟨⟨h.reads.1, fun hn => ?_⟩, h.mB, h.mc, h.cB⟩
  obtain ⟨ad, e, hb, hc⟩ := h.reads.2 hn
  exact ⟨ad, e, Nat.lt_of_lt_of_le hb hs, fun j u hu => (World.cell?_of_block (by rw [block_of_add]; exact hk ad e)).trans (hc j u hu)⟩
/-- What a call of an operation leaves: a state and an error. -/
def SpRet (A0 : Option Addr) (r : SpOut) (w : World) (e : Ending) (w' : World) : Prop :=
  ∃ (A : Option Addr) (m c : Nat), e = .returned (.tuple #[.agg #[.int .i64 r.wd, .int .i64 r.k, .int .i64 r.cap, .int .i64 r.now, .int .i64 r.seq, .slice A m c], .int .i64 r.f]) ∧ MIn A m c r.ms w' ∧ Below w.heap.size w w' ∧ ∀ a, A = some a → (w.heap.size ≤ a.block ∧ a.block < w'.heap.size) ∨ ∃ b, A0 = some b ∧ a.block = b.block
theorem min_nil {w : World} : MIn none 0 0 [] w := ⟨by simpa [mcells_nil] using Reads.none_, fun i => by rw [mkAt_out (by simp)]; exact M64_zero, Nat.le_refl _, Nat.zero_le _⟩
theorem spret_new {A0 : Option Addr} {w w' : World} {wd k cap now f : Int} (hb : Below w.heap.size w w') : SpRet A0 ⟨wd, k, cap, now, 0, [], f⟩ w (.returned (.tuple #[.agg #[.int .i64 wd, .int .i64 k, .int .i64 cap, .int .i64 now, .int .i64 0, .slice none 0 0], .int .i64 f])) w' :=
  ⟨none, 0, 0, rfl, min_nil, hb, fun a h => by cases h⟩
theorem spret_zero {A0 : Option Addr} {w w' : World} {f : Int} (hb : Below w.heap.size w w') : SpRet A0 (spZero f) w (.returned (.tuple #[.agg #[.int .i64 0, .int .i64 0, .int .i64 0, .int .i64 0, .int .i64 0, .slice none 0 0], .int .i64 f])) w' := spret_new hb
theorem spret_ok {A0 A : Option Addr} {m c : Nat} {w w' : World} {wd k cap now seq f : Int} {ms : List Mk} (h : MIn A m c ms w') (hb : Below w.heap.size w w') (hf : ∀ a, A = some a → (w.heap.size ≤ a.block ∧ a.block < w'.heap.size) ∨ ∃ b, A0 = some b ∧ a.block = b.block) :
    SpRet A0 ⟨wd, k, cap, now, seq, ms, f⟩ w (.returned (.tuple #[.agg #[.int .i64 wd, .int .i64 k, .int .i64 cap, .int .i64 now, .int .i64 seq, .slice A m c], .int .i64 f])) w' := ⟨A, m, c, rfl, h, hb, hf⟩
theorem spret_at {A0 : Option Addr} {r : SpOut} {wd k cap now seq f : Int} {ms : List Mk} {w w' : World} {e : Ending} (hr : r = ⟨wd, k, cap, now, seq, ms, f⟩) (h : SpRet A0 r w e w') :
    ∃ A m c, e = .returned (.tuple #[.agg #[.int .i64 wd, .int .i64 k, .int .i64 cap, .int .i64 now, .int .i64 seq, .slice A m c], .int .i64 f]) ∧ MIn A m c ms w' ∧ Below w.heap.size w w' ∧ ∀ a, A = some a → (w.heap.size ≤ a.block ∧ a.block < w'.heap.size) ∨ ∃ b, A0 = some b ∧ a.block = b.block := by
  subst hr
  exact h
theorem pspnew (wd k cap now : Int) (w : World) : Calls Try.prog 9 #[.int .i64 wd, .int .i64 k, .int .i64 cap, .int .i64 now] w fun e w' => SpRet none (spNew wd k cap now) w e w' := by
  by_cases h : spGood wd k cap now
  · unfold spNew
    rw [if_pos h]
    refine (pnew_yes wd k cap now w h).mono ?_
    rintro e w' ⟨rfl, hb⟩
    exact spret_new hb
  · unfold spNew
    rw [if_neg h]
    refine (pnew_no wd k cap now w h).mono ?_
    rintro e w' ⟨rfl, hb⟩
    exact spret_zero hb
end Go.Proofs.Ytaiepjcnncajcaa
end
section
/- Marks of smooth histograms: marks that a later tick makes superfluous, walked. -/
set_option linter.unusedVariables false
set_option linter.unusedSimpArgs false
set_option linter.unusedSectionVars false
set_option linter.unnecessarySimpa false
namespace Go.Proofs.Ytaiepjcnncajcaa
open Go.RowKit
/-- What a call leaves that answers the marks that stay: its argument's rear part, or marks of its own. -/
def MDrop (A0 : Option Addr) (l : List Mk) (w : World) (e : Ending) (w' : World) : Prop := ∃ (A : Option Addr) (m c : Nat), e = .returned (.slice A m c) ∧ MIn A m c l w' ∧ Below w.heap.size w w' ∧ ∀ a, A = some a → (w.heap.size ≤ a.block ∧ a.block < w'.heap.size) ∨ ∃ b, A0 = some b ∧ a.block = b.block
def lenV : Value → Nat
  | .slice _ n _ => n
  | _ => 0
theorem MIn.tail {ad : Addr} {m c : Nat} {a : Mk} {l : List Mk} {w : World} (h : MIn (some ad) m c (a :: l) w) : MIn (some ⟨ad.block, ad.off + 7, none⟩) (m - 1) (c - 1) l w := by
  rw [← mk_lit ad 7 (by decide)]
  have hl := h.len
  simp at hl
  refine ⟨⟨by have := h.reads.1; rw [mcells_cons] at this; simp at this; omega, fun hn => ?_⟩, fun i => h.mB (i + 1), by have := h.mc; omega, by have := h.cB; omega⟩
  obtain ⟨ad', e', hb, hc⟩ := h.reads.2 (by omega)
  obtain rfl : ad = ad' := by injection e'
  refine ⟨_, rfl, by rw [block_of_add]; exact hb, fun j u hu => ?_⟩
  rw [add_of_add]
  exact hc (7 + j) u (by rw [mcells_cons, show 7 + j = j + 1 + 1 + 1 + 1 + 1 + 1 + 1 by omega]; simpa using hu)
theorem MIn.zero {w : World} : MIn none 0 0 [] w := ⟨by simpa [mcells_nil] using Reads.none_, fun i => by unfold mkAt; simp; exact M64_zero, Nat.le_refl _, Nat.zero_le _⟩
theorem MIn.maxL {A : Option Addr} {m c : Nat} {l : List Mk} {w : World} (h : MIn A m c l w) : m ≤ maxLen := Nat.le_trans h.mc h.cB
theorem MIn.of_own {g m c : Nat} {l : List Mk} {w : World} (h : Own w 33 7 g m c (mcells l)) (hB : ∀ i, M64 (mkAt l i)) : MIn (some ⟨g, 0, none⟩) m c l w := ⟨h.reads, hB, h.cap.1, h.cap.2⟩
set_option maxHeartbeats 2000000 in
theorem pmdrop (A : Option Addr) (m c : Nat) (l : List Mk) (now wd : Int) (w : World) (hin : MIn A m c l w) (hmm : m ≤ 1000000) (n0 : 0 ≤ now) (n1 : now ≤ 16777216) (d0 : 1 ≤ wd) (d1 : wd ≤ 1048576) (hT : ∀ x ∈ l, 0 ≤ x.t ∧ x.t ≤ now) :
    Calls Try.prog 65 #[.slice A m c, .int .i64 now, .int .i64 wd] w fun e w' => MDrop A (dropM now wd l) w e w' := by
  have HT := Lib.hid hT
  clear hT
  obtain ⟨i0, hi0, iz0, iz1, iz2⟩ := info_parts info_mk
  go_enter Try.func65, Try.ntmps65
  go_wp2
  go_loopw [0] (fun s wr => ∃ (A' : Option Addr) (m' c' : Nat) (l' : List Mk), s = .slice A' m' c' ∧ MIn A' m' c' l' w ∧ m' ≤ m ∧ RowKit.Hid (dropM now wd l' = dropM now wd l ∧ (∀ x ∈ l', x ∈ l) ∧ ∀ a, A' = some a → ∃ b, A = some b ∧ a.block = b.block) ∧ w = wr) (fun s _ => lenV s)
  case atStart => exact ⟨A, m, c, l, rfl, hin, Nat.le_refl _, Lib.hid ⟨rfl, fun x h => h, fun a e => ⟨a, e, rfl⟩⟩, rfl⟩
  case round =>
    clear hin
    obtain ⟨A', m', c', l', rfl, hin', hm', HD, rfl⟩ := hrel
    have HI := Lib.hid hin'
    have HL := Lib.hid hin'.len
    have hcm := hin'.mc
    by_cases g2 : 2 ≤ m'
    · obtain ⟨ad, rfl, hadb, ht1⟩ := hin'.reads.mk (i := 1) (by omega)
      obtain ⟨a, b, r, rfl⟩ : ∃ a b r, l' = a :: b :: r := by
        have := hin'.len
        match l', this with
        | a :: b :: r, _ => exact ⟨a, b, r, rfl⟩
        | [], h => simp at h; omega
        | [a], h => simp at h; omega
      have q1 : w.cell? ⟨ad.block, ad.off + 7 + 1, none⟩ = some (.int .i64 b.t) := by
        have h := ht1.2.1
        rw [show ad.add (1 * 7) = ⟨ad.block, ad.off + 7, none⟩ from mk_lit ad 7 (by decide)] at h
        exact h
      have htb := HT.out b (HD.out.2.1 b (by simp))
      have PL := fun w => plive now wd b.t w n0 n1 d0 d1 htb.1 htb.2
      obtain ⟨tb, hb⟩ : ∃ x, x = b.t := ⟨_, rfl⟩
      rw [← hb] at q1 PL
      have HB := Lib.hid hb
      clear hb htb ht1 hin'
      have i1 : (1 : Int) < (m' : Int) := by omega
      have i3 : (1 : Int) ≤ (m' : Int) := by omega
      have i4 : (1 : Int) ≤ (c' : Int) := by omega
      have i5 : (m' : Int) ≤ (c' : Int) := by omega
      have i2 : ((m' : Int) == 1) = false := by simp; omega
      by_cases lv : now - wd < tb
      · rw [decide_eq_true lv] at PL
        replace PL := Lib.hid PL
        have HDr : RowKit.Hid (dropM now wd (a :: b :: r) = a :: b :: r) := Lib.hid (by rw [dropM_two, if_pos (by rw [← HB.out]; exact lv)])
        clear lv
        go_wp2_with (first | (go_at_call 77; with_reducible refine (PL.out _).mono ?_; rintro e w9 ⟨rfl, h9⟩; obtain rfl := h9.symm) | (at_builtin; refine wpList_clone rfl _ _ 22 rfl 33 i0 (.agg #[.int .i64 0, .int .i64 0, .int .i64 0, .int .i64 0, .int .i64 0, .int .i64 0, .int .i64 0]) 7 56 Try.underlying22 hi0 iz0 iz1 iz2 rfl (by decide) rfl w.heap.size (some ad) m' c' (mcells (a :: b :: r)) rfl HI.out.reads (Nat.le_refl _) (mcells_one _) HI.out.maxL (by omega) ?_; intro g c2 w2 own2 hg2 hb2 hz2))
        go_ret
        exact ⟨_, _, _, rfl, by rw [← HD.out.1, HDr.out]; exact MIn.of_own own2 HI.out.mB, hb2, fun a e => .inl (by cases e; exact ⟨hg2, own2.lt⟩)⟩
      · rw [decide_eq_false lv] at PL
        replace PL := Lib.hid PL
        have HDr : RowKit.Hid (dropM now wd (a :: b :: r) = dropM now wd (b :: r)) := Lib.hid (by rw [dropM_two, if_neg (by rw [← HB.out]; exact lv)])
        clear lv
        go_wp2_with (go_at_call 77; with_reducible refine (PL.out _).mono ?_; rintro e w9 ⟨rfl, h9⟩; obtain rfl := h9.symm)
        go_roundw
        case rel => exact ⟨_, m' - 1, c' - 1, b :: r, rfl, HI.out.tail, by omega, Lib.hid ⟨HDr.out ▸ HD.out.1, fun x hx => HD.out.2.1 x (by simp [hx]), fun x e => by cases e; exact HD.out.2.2 ad rfl⟩, by trivial⟩
        case measure => simp [lenV]; omega
    · by_cases g1 : m' = 1
      · subst g1
        obtain ⟨ad, rfl, hadb, ht0⟩ := hin'.reads.mk (i := 0) (by omega)
        obtain ⟨a, rfl⟩ : ∃ a, l' = [a] := by
          have := hin'.len
          match l', this with
          | [a], _ => exact ⟨a, rfl⟩
          | [], h => exact absurd h (by simp)
          | a :: b :: r, h => exact absurd h (by simp)
        have q1 : w.cell? ⟨ad.block, ad.off + 1, none⟩ = some (.int .i64 a.t) := ht0.2.1
        have hta := HT.out a (HD.out.2.1 a (by simp))
        have PL := fun w => plive now wd a.t w n0 n1 d0 d1 hta.1 hta.2
        obtain ⟨ta, hb⟩ : ∃ x, x = a.t := ⟨_, rfl⟩
        rw [← hb] at q1 PL
        have HB := Lib.hid hb
        clear hb hta ht0 hin'
        clear g2
        by_cases lv : now - wd < ta
        · rw [decide_eq_true lv] at PL
          replace PL := Lib.hid PL
          have HDr : RowKit.Hid (dropM now wd [a] = [a]) := Lib.hid (by rw [dropM_one, if_pos (by rw [← HB.out]; exact lv)])
          clear lv
          go_wp2_with (first | (go_at_call 77; with_reducible refine (PL.out _).mono ?_; rintro e w9 ⟨rfl, h9⟩; obtain rfl := h9.symm) | (at_builtin; refine wpList_clone rfl _ _ 22 rfl 33 i0 (.agg #[.int .i64 0, .int .i64 0, .int .i64 0, .int .i64 0, .int .i64 0, .int .i64 0, .int .i64 0]) 7 56 Try.underlying22 hi0 iz0 iz1 iz2 rfl (by decide) rfl w.heap.size (some ad) 1 c' (mcells [a]) rfl HI.out.reads (Nat.le_refl _) (mcells_one _) HI.out.maxL (by omega) ?_; intro g c2 w2 own2 hg2 hb2 hz2))
          go_ret
          exact ⟨_, _, _, rfl, by rw [← HD.out.1, HDr.out]; exact MIn.of_own own2 HI.out.mB, hb2, fun a e => .inl (by cases e; exact ⟨hg2, own2.lt⟩)⟩
        · rw [decide_eq_false lv] at PL
          replace PL := Lib.hid PL
          have HDr : RowKit.Hid (dropM now wd [a] = []) := Lib.hid (by rw [dropM_one, if_neg (by rw [← HB.out]; exact lv)])
          clear lv
          go_wp2_with (go_at_call 77; with_reducible refine (PL.out _).mono ?_; rintro e w9 ⟨rfl, h9⟩; obtain rfl := h9.symm)
          go_ret
          exact ⟨_, _, _, rfl, by rw [← HD.out.1, HDr.out]; exact MIn.zero, Below.refl _ _, fun a e => by cases e⟩
      · have i1 : ¬ (1 : Int) < (m' : Int) := by omega
        have i2 : ((m' : Int) == 1) = false := by simp; omega
        obtain rfl : l' = [] := by
          have := hin'.len
          match l', this with
          | [], _ => rfl
          | a :: r, h => simp at h; omega
        have HDr : RowKit.Hid (dropM now wd [] = []) := Lib.hid (dropM_nil _ _)
        clear hin' g1 g2
        go_wp2_with (first | (at_builtin; refine wpList_clone rfl _ _ 22 rfl 33 i0 (.agg #[.int .i64 0, .int .i64 0, .int .i64 0, .int .i64 0, .int .i64 0, .int .i64 0, .int .i64 0]) 7 56 Try.underlying22 hi0 iz0 iz1 iz2 rfl (by decide) rfl w.heap.size A' m' c' (mcells []) rfl HI.out.reads (Nat.le_refl _) (mcells_one _) HI.out.maxL (by omega) ?_; intro g c2 w2 own2 hg2 hb2 hz2))
        go_ret
        exact ⟨_, _, _, rfl, by rw [← HD.out.1, HDr.out]; exact MIn.of_own own2 HI.out.mB, hb2, fun a e => .inl (by cases e; exact ⟨hg2, own2.lt⟩)⟩
end Go.Proofs.Ytaiepjcnncajcaa
end
