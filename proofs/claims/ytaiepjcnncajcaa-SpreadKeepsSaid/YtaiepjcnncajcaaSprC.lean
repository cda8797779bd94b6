/- Spreads of marks: parameters; the empty histograms; the bound of the number of marks; the example, walked. -/
import Derived.Test.YtaiepjcnncajcaaSprB
set_option linter.unusedVariables false
set_option linter.unusedSimpArgs false
set_option linter.unusedSectionVars false
set_option linter.unnecessarySimpa false
namespace Go.Proofs.Ytaiepjcnncajcaa
open Go.RowKit Go.Shelf
theorem pgood_0 (wd k cap now : Int) (w : World)  (h : wd < 1) : Calls Try.prog 38 #[.int .i64 wd, .int .i64 k, .int .i64 cap, .int .i64 now] w fun e w' => e = .returned (.bool false) ∧ w' = w := by
  go_enter Try.func38, Try.ntmps38
  go_wp2_with fail
  go_ret
  exact ⟨by first | rfl | exact ret_bool (by simp; omega), rfl⟩
theorem pgood_1 (wd k cap now : Int) (w : World) (h0 : 1 ≤ wd) (h : 1048576 < wd) : Calls Try.prog 38 #[.int .i64 wd, .int .i64 k, .int .i64 cap, .int .i64 now] w fun e w' => e = .returned (.bool false) ∧ w' = w := by
  go_enter Try.func38, Try.ntmps38
  go_wp2_with fail
  go_ret
  exact ⟨by first | rfl | exact ret_bool (by simp; omega), rfl⟩
theorem pgood_2 (wd k cap now : Int) (w : World) (h0 : 1 ≤ wd) (h1 : wd ≤ 1048576) (h : k < 1) : Calls Try.prog 38 #[.int .i64 wd, .int .i64 k, .int .i64 cap, .int .i64 now] w fun e w' => e = .returned (.bool false) ∧ w' = w := by
  go_enter Try.func38, Try.ntmps38
  go_wp2_with fail
  go_ret
  exact ⟨by first | rfl | exact ret_bool (by simp; omega), rfl⟩
theorem pgood_3 (wd k cap now : Int) (w : World) (h0 : 1 ≤ wd) (h1 : wd ≤ 1048576) (h2 : 1 ≤ k) (h : 64 < k) : Calls Try.prog 38 #[.int .i64 wd, .int .i64 k, .int .i64 cap, .int .i64 now] w fun e w' => e = .returned (.bool false) ∧ w' = w := by
  go_enter Try.func38, Try.ntmps38
  go_wp2_with fail
  go_ret
  exact ⟨by first | rfl | exact ret_bool (by simp; omega), rfl⟩
theorem pgood_4 (wd k cap now : Int) (w : World) (h0 : 1 ≤ wd) (h1 : wd ≤ 1048576) (h2 : 1 ≤ k) (h3 : k ≤ 64) (h : cap < 1) : Calls Try.prog 38 #[.int .i64 wd, .int .i64 k, .int .i64 cap, .int .i64 now] w fun e w' => e = .returned (.bool false) ∧ w' = w := by
  go_enter Try.func38, Try.ntmps38
  go_wp2_with fail
  go_ret
  exact ⟨by first | rfl | exact ret_bool (by simp; omega), rfl⟩
theorem pgood_5 (wd k cap now : Int) (w : World) (h0 : 1 ≤ wd) (h1 : wd ≤ 1048576) (h2 : 1 ≤ k) (h3 : k ≤ 64) (h4 : 1 ≤ cap) (h : 65536 < cap) : Calls Try.prog 38 #[.int .i64 wd, .int .i64 k, .int .i64 cap, .int .i64 now] w fun e w' => e = .returned (.bool false) ∧ w' = w := by
  go_enter Try.func38, Try.ntmps38
  go_wp2_with fail
  go_ret
  exact ⟨by first | rfl | exact ret_bool (by simp; omega), rfl⟩
theorem pgood_6 (wd k cap now : Int) (w : World) (h0 : 1 ≤ wd) (h1 : wd ≤ 1048576) (h2 : 1 ≤ k) (h3 : k ≤ 64) (h4 : 1 ≤ cap) (h5 : cap ≤ 65536) (h : now < 0) : Calls Try.prog 38 #[.int .i64 wd, .int .i64 k, .int .i64 cap, .int .i64 now] w fun e w' => e = .returned (.bool false) ∧ w' = w := by
  go_enter Try.func38, Try.ntmps38
  go_wp2_with fail
  go_ret
  exact ⟨by first | rfl | exact ret_bool (by simp; omega), rfl⟩
theorem pgood_7 (wd k cap now : Int) (w : World) (h0 : 1 ≤ wd) (h1 : wd ≤ 1048576) (h2 : 1 ≤ k) (h3 : k ≤ 64) (h4 : 1 ≤ cap) (h5 : cap ≤ 65536) (h6 : 0 ≤ now) (h : 16777216 < now) : Calls Try.prog 38 #[.int .i64 wd, .int .i64 k, .int .i64 cap, .int .i64 now] w fun e w' => e = .returned (.bool false) ∧ w' = w := by
  go_enter Try.func38, Try.ntmps38
  go_wp2_with fail
  go_ret
  exact ⟨by first | rfl | exact ret_bool (by simp; omega), rfl⟩
theorem pgood_8 (wd k cap now : Int) (w : World) (h0 : 1 ≤ wd) (h1 : wd ≤ 1048576) (h2 : 1 ≤ k) (h3 : k ≤ 64) (h4 : 1 ≤ cap) (h5 : cap ≤ 65536) (h6 : 0 ≤ now) (h7 : now ≤ 16777216) : Calls Try.prog 38 #[.int .i64 wd, .int .i64 k, .int .i64 cap, .int .i64 now] w fun e w' => e = .returned (.bool true) ∧ w' = w := by
  go_enter Try.func38, Try.ntmps38
  go_wp2_with fail
  go_ret
  exact ⟨by first | rfl | exact ret_bool (by simp; omega), rfl⟩
theorem pgood (wd k cap now : Int) (w : World) : Calls Try.prog 38 #[.int .i64 wd, .int .i64 k, .int .i64 cap, .int .i64 now] w fun e w' => e = .returned (.bool (decide (1 ≤ wd ∧ wd ≤ 1048576 ∧ 1 ≤ k ∧ k ≤ 64 ∧ 1 ≤ cap ∧ cap ≤ 65536 ∧ 0 ≤ now ∧ now ≤ 16777216))) ∧ w' = w := by
  by_cases h0 : 1 ≤ wd
  · skip
    by_cases h1 : wd ≤ 1048576
    · skip
      by_cases h2 : 1 ≤ k
      · skip
        by_cases h3 : k ≤ 64
        · skip
          by_cases h4 : 1 ≤ cap
          · skip
            by_cases h5 : cap ≤ 65536
            · skip
              by_cases h6 : 0 ≤ now
              · skip
                by_cases h7 : now ≤ 16777216
                · skip
                  rw [show decide (1 ≤ wd ∧ wd ≤ 1048576 ∧ 1 ≤ k ∧ k ≤ 64 ∧ 1 ≤ cap ∧ cap ≤ 65536 ∧ 0 ≤ now ∧ now ≤ 16777216) = true from decide_eq_true ⟨h0, h1, h2, h3, h4, h5, h6, h7⟩]
                  exact pgood_8 wd k cap now w h0 h1 h2 h3 h4 h5 h6 h7
                · rw [show decide (1 ≤ wd ∧ wd ≤ 1048576 ∧ 1 ≤ k ∧ k ≤ 64 ∧ 1 ≤ cap ∧ cap ≤ 65536 ∧ 0 ≤ now ∧ now ≤ 16777216) = false from decide_eq_false (fun a => h7 a.2.2.2.2.2.2.2)]
                  exact pgood_7 wd k cap now w h0 h1 h2 h3 h4 h5 h6 (by omega)
              · rw [show decide (1 ≤ wd ∧ wd ≤ 1048576 ∧ 1 ≤ k ∧ k ≤ 64 ∧ 1 ≤ cap ∧ cap ≤ 65536 ∧ 0 ≤ now ∧ now ≤ 16777216) = false from decide_eq_false (fun a => h6 a.2.2.2.2.2.2.1)]
                exact pgood_6 wd k cap now w h0 h1 h2 h3 h4 h5 (by omega)
            · rw [show decide (1 ≤ wd ∧ wd ≤ 1048576 ∧ 1 ≤ k ∧ k ≤ 64 ∧ 1 ≤ cap ∧ cap ≤ 65536 ∧ 0 ≤ now ∧ now ≤ 16777216) = false from decide_eq_false (fun a => h5 a.2.2.2.2.2.1)]
              exact pgood_5 wd k cap now w h0 h1 h2 h3 h4 (by omega)
          · rw [show decide (1 ≤ wd ∧ wd ≤ 1048576 ∧ 1 ≤ k ∧ k ≤ 64 ∧ 1 ≤ cap ∧ cap ≤ 65536 ∧ 0 ≤ now ∧ now ≤ 16777216) = false from decide_eq_false (fun a => h4 a.2.2.2.2.1)]
            exact pgood_4 wd k cap now w h0 h1 h2 h3 (by omega)
        · rw [show decide (1 ≤ wd ∧ wd ≤ 1048576 ∧ 1 ≤ k ∧ k ≤ 64 ∧ 1 ≤ cap ∧ cap ≤ 65536 ∧ 0 ≤ now ∧ now ≤ 16777216) = false from decide_eq_false (fun a => h3 a.2.2.2.1)]
          exact pgood_3 wd k cap now w h0 h1 h2 (by omega)
      · rw [show decide (1 ≤ wd ∧ wd ≤ 1048576 ∧ 1 ≤ k ∧ k ≤ 64 ∧ 1 ≤ cap ∧ cap ≤ 65536 ∧ 0 ≤ now ∧ now ≤ 16777216) = false from decide_eq_false (fun a => h2 a.2.2.1)]
        exact pgood_2 wd k cap now w h0 h1 (by omega)
    · rw [show decide (1 ≤ wd ∧ wd ≤ 1048576 ∧ 1 ≤ k ∧ k ≤ 64 ∧ 1 ≤ cap ∧ cap ≤ 65536 ∧ 0 ≤ now ∧ now ≤ 16777216) = false from decide_eq_false (fun a => h1 a.2.1)]
      exact pgood_1 wd k cap now w h0 (by omega)
  · rw [show decide (1 ≤ wd ∧ wd ≤ 1048576 ∧ 1 ≤ k ∧ k ≤ 64 ∧ 1 ≤ cap ∧ cap ≤ 65536 ∧ 0 ≤ now ∧ now ≤ 16777216) = false from decide_eq_false (fun a => h0 a.1)]
    exact pgood_0 wd k cap now w  (by omega)
theorem rwindow_0 (wd : Int) (w : World)  (h : wd < 1) : Calls Try.prog 82 #[.int .i64 wd] w fun e w' => e = .returned (.bool false) ∧ w' = w := by
  go_enter Try.func82, Try.ntmps82
  go_wp2_with fail
  go_ret
  exact ⟨by first | rfl | exact ret_bool (by simp; omega), rfl⟩
theorem rwindow_1 (wd : Int) (w : World) (h0 : 1 ≤ wd) (h : 1048576 < wd) : Calls Try.prog 82 #[.int .i64 wd] w fun e w' => e = .returned (.bool false) ∧ w' = w := by
  go_enter Try.func82, Try.ntmps82
  go_wp2_with fail
  go_ret
  exact ⟨by first | rfl | exact ret_bool (by simp; omega), rfl⟩
theorem rwindow_2 (wd : Int) (w : World) (h0 : 1 ≤ wd) (h1 : wd ≤ 1048576) : Calls Try.prog 82 #[.int .i64 wd] w fun e w' => e = .returned (.bool true) ∧ w' = w := by
  go_enter Try.func82, Try.ntmps82
  go_wp2_with fail
  go_ret
  exact ⟨by first | rfl | exact ret_bool (by simp; omega), rfl⟩
theorem rwindow (wd : Int) (w : World) : Calls Try.prog 82 #[.int .i64 wd] w fun e w' => e = .returned (.bool (decide (1 ≤ wd ∧ wd ≤ 1048576))) ∧ w' = w := by
  by_cases h0 : 1 ≤ wd
  · skip
    by_cases h1 : wd ≤ 1048576
    · skip
      rw [show decide (1 ≤ wd ∧ wd ≤ 1048576) = true from decide_eq_true ⟨h0, h1⟩]
      exact rwindow_2 wd w h0 h1
    · rw [show decide (1 ≤ wd ∧ wd ≤ 1048576) = false from decide_eq_false (fun a => h1 a.2)]
      exact rwindow_1 wd w h0 (by omega)
  · rw [show decide (1 ≤ wd ∧ wd ≤ 1048576) = false from decide_eq_false (fun a => h0 a.1)]
    exact rwindow_0 wd w  (by omega)
theorem rtick_0 (now : Int) (w : World)  (h : now < 0) : Calls Try.prog 83 #[.int .i64 now] w fun e w' => e = .returned (.bool false) ∧ w' = w := by
  go_enter Try.func83, Try.ntmps83
  go_wp2_with fail
  go_ret
  exact ⟨by first | rfl | exact ret_bool (by simp; omega), rfl⟩
theorem rtick_1 (now : Int) (w : World) (h0 : 0 ≤ now) (h : 16777216 < now) : Calls Try.prog 83 #[.int .i64 now] w fun e w' => e = .returned (.bool false) ∧ w' = w := by
  go_enter Try.func83, Try.ntmps83
  go_wp2_with fail
  go_ret
  exact ⟨by first | rfl | exact ret_bool (by simp; omega), rfl⟩
theorem rtick_2 (now : Int) (w : World) (h0 : 0 ≤ now) (h1 : now ≤ 16777216) : Calls Try.prog 83 #[.int .i64 now] w fun e w' => e = .returned (.bool true) ∧ w' = w := by
  go_enter Try.func83, Try.ntmps83
  go_wp2_with fail
  go_ret
  exact ⟨by first | rfl | exact ret_bool (by simp; omega), rfl⟩
theorem rtick (now : Int) (w : World) : Calls Try.prog 83 #[.int .i64 now] w fun e w' => e = .returned (.bool (decide (0 ≤ now ∧ now ≤ 16777216))) ∧ w' = w := by
  by_cases h0 : 0 ≤ now
  · skip
    by_cases h1 : now ≤ 16777216
    · skip
      rw [show decide (0 ≤ now ∧ now ≤ 16777216) = true from decide_eq_true ⟨h0, h1⟩]
      exact rtick_2 now w h0 h1
    · rw [show decide (0 ≤ now ∧ now ≤ 16777216) = false from decide_eq_false (fun a => h1 a.2)]
      exact rtick_1 now w h0 (by omega)
  · rw [show decide (0 ≤ now ∧ now ≤ 16777216) = false from decide_eq_false (fun a => h0 a.1)]
    exact rtick_0 now w  (by omega)
theorem rmayk_0 (k : Int) (w : World)  (h : k < 1) : Calls Try.prog 40 #[.int .i64 k] w fun e w' => e = .returned (.bool false) ∧ w' = w := by
  go_enter Try.func40, Try.ntmps40
  go_wp2_with fail
  go_ret
  exact ⟨by first | rfl | exact ret_bool (by simp; omega), rfl⟩
theorem rmayk_1 (k : Int) (w : World) (h0 : 1 ≤ k) (h : 64 < k) : Calls Try.prog 40 #[.int .i64 k] w fun e w' => e = .returned (.bool false) ∧ w' = w := by
  go_enter Try.func40, Try.ntmps40
  go_wp2_with fail
  go_ret
  exact ⟨by first | rfl | exact ret_bool (by simp; omega), rfl⟩
theorem rmayk_2 (k : Int) (w : World) (h0 : 1 ≤ k) (h1 : k ≤ 64) : Calls Try.prog 40 #[.int .i64 k] w fun e w' => e = .returned (.bool true) ∧ w' = w := by
  go_enter Try.func40, Try.ntmps40
  go_wp2_with fail
  go_ret
  exact ⟨by first | rfl | exact ret_bool (by simp; omega), rfl⟩
theorem rmayk (k : Int) (w : World) : Calls Try.prog 40 #[.int .i64 k] w fun e w' => e = .returned (.bool (decide (1 ≤ k ∧ k ≤ 64))) ∧ w' = w := by
  by_cases h0 : 1 ≤ k
  · skip
    by_cases h1 : k ≤ 64
    · skip
      rw [show decide (1 ≤ k ∧ k ≤ 64) = true from decide_eq_true ⟨h0, h1⟩]
      exact rmayk_2 k w h0 h1
    · rw [show decide (1 ≤ k ∧ k ≤ 64) = false from decide_eq_false (fun a => h1 a.2)]
      exact rmayk_1 k w h0 (by omega)
  · rw [show decide (1 ≤ k ∧ k ≤ 64) = false from decide_eq_false (fun a => h0 a.1)]
    exact rmayk_0 k w  (by omega)
theorem rmay_0 (wd cap now : Int) (w : World)  (h : wd < 1) : Calls Try.prog 39 #[.int .i64 wd, .int .i64 cap, .int .i64 now] w fun e w' => e = .returned (.bool false) ∧ w' = w := by
  go_enter Try.func39, Try.ntmps39
  go_wp2_with (go_at_call 82; with_reducible refine ((rwindow_0 _ _ h)).mono ?_; rintro e w9 ⟨rfl, h9⟩; obtain rfl := h9.symm)
  go_ret
  exact ⟨by first | rfl | exact ret_bool (by simp; omega), rfl⟩
theorem rmay_1 (wd cap now : Int) (w : World) (h0 : 1 ≤ wd) (h : 1048576 < wd) : Calls Try.prog 39 #[.int .i64 wd, .int .i64 cap, .int .i64 now] w fun e w' => e = .returned (.bool false) ∧ w' = w := by
  go_enter Try.func39, Try.ntmps39
  go_wp2_with (go_at_call 82; with_reducible refine ((rwindow_1 _ _ h0 h)).mono ?_; rintro e w9 ⟨rfl, h9⟩; obtain rfl := h9.symm)
  go_ret
  exact ⟨by first | rfl | exact ret_bool (by simp; omega), rfl⟩
theorem rmay_2 (wd cap now : Int) (w : World) (h0 : 1 ≤ wd) (h1 : wd ≤ 1048576) (h : cap < 1) : Calls Try.prog 39 #[.int .i64 wd, .int .i64 cap, .int .i64 now] w fun e w' => e = .returned (.bool false) ∧ w' = w := by
  go_enter Try.func39, Try.ntmps39
  go_wp2_with (go_at_call 82; with_reducible refine ((rwindow_2 _ _ h0 h1)).mono ?_; rintro e w9 ⟨rfl, h9⟩; obtain rfl := h9.symm)
  go_ret
  exact ⟨by first | rfl | exact ret_bool (by simp; omega), rfl⟩
theorem rmay_3 (wd cap now : Int) (w : World) (h0 : 1 ≤ wd) (h1 : wd ≤ 1048576) (h2 : 1 ≤ cap) (h : 65536 < cap) : Calls Try.prog 39 #[.int .i64 wd, .int .i64 cap, .int .i64 now] w fun e w' => e = .returned (.bool false) ∧ w' = w := by
  go_enter Try.func39, Try.ntmps39
  go_wp2_with (go_at_call 82; with_reducible refine ((rwindow_2 _ _ h0 h1)).mono ?_; rintro e w9 ⟨rfl, h9⟩; obtain rfl := h9.symm)
  go_ret
  exact ⟨by first | rfl | exact ret_bool (by simp; omega), rfl⟩
theorem rmay_4 (wd cap now : Int) (w : World) (h0 : 1 ≤ wd) (h1 : wd ≤ 1048576) (h2 : 1 ≤ cap) (h3 : cap ≤ 65536) (h : now < 0) : Calls Try.prog 39 #[.int .i64 wd, .int .i64 cap, .int .i64 now] w fun e w' => e = .returned (.bool false) ∧ w' = w := by
  go_enter Try.func39, Try.ntmps39
  go_wp2_with (first | (go_at_call 82; with_reducible refine ((rwindow_2 _ _ h0 h1)).mono ?_; rintro e w9 ⟨rfl, h9⟩; obtain rfl := h9.symm) | (go_at_call 83; with_reducible refine ((rtick_0 _ _ h)).mono ?_; rintro e w9 ⟨rfl, h9⟩; obtain rfl := h9.symm))
  go_ret
  exact ⟨by first | rfl | exact ret_bool (by simp; omega), rfl⟩
theorem rmay_5 (wd cap now : Int) (w : World) (h0 : 1 ≤ wd) (h1 : wd ≤ 1048576) (h2 : 1 ≤ cap) (h3 : cap ≤ 65536) (h4 : 0 ≤ now) (h : 16777216 < now) : Calls Try.prog 39 #[.int .i64 wd, .int .i64 cap, .int .i64 now] w fun e w' => e = .returned (.bool false) ∧ w' = w := by
  go_enter Try.func39, Try.ntmps39
  go_wp2_with (first | (go_at_call 82; with_reducible refine ((rwindow_2 _ _ h0 h1)).mono ?_; rintro e w9 ⟨rfl, h9⟩; obtain rfl := h9.symm) | (go_at_call 83; with_reducible refine ((rtick_1 _ _ h4 h)).mono ?_; rintro e w9 ⟨rfl, h9⟩; obtain rfl := h9.symm))
  go_ret
  exact ⟨by first | rfl | exact ret_bool (by simp; omega), rfl⟩
theorem rmay_6 (wd cap now : Int) (w : World) (h0 : 1 ≤ wd) (h1 : wd ≤ 1048576) (h2 : 1 ≤ cap) (h3 : cap ≤ 65536) (h4 : 0 ≤ now) (h5 : now ≤ 16777216) : Calls Try.prog 39 #[.int .i64 wd, .int .i64 cap, .int .i64 now] w fun e w' => e = .returned (.bool true) ∧ w' = w := by
  go_enter Try.func39, Try.ntmps39
  go_wp2_with (first | (go_at_call 82; with_reducible refine ((rwindow_2 _ _ h0 h1)).mono ?_; rintro e w9 ⟨rfl, h9⟩; obtain rfl := h9.symm) | (go_at_call 83; with_reducible refine ((rtick_2 _ _ h4 h5)).mono ?_; rintro e w9 ⟨rfl, h9⟩; obtain rfl := h9.symm))
  go_ret
  exact ⟨by first | rfl | exact ret_bool (by simp; omega), rfl⟩
theorem rmay (wd cap now : Int) (w : World) : Calls Try.prog 39 #[.int .i64 wd, .int .i64 cap, .int .i64 now] w fun e w' => e = .returned (.bool (decide (1 ≤ wd ∧ wd ≤ 1048576 ∧ 1 ≤ cap ∧ cap ≤ 65536 ∧ 0 ≤ now ∧ now ≤ 16777216))) ∧ w' = w := by
  by_cases h0 : 1 ≤ wd
  · skip
    by_cases h1 : wd ≤ 1048576
    · skip
      by_cases h2 : 1 ≤ cap
      · skip
        by_cases h3 : cap ≤ 65536
        · skip
          by_cases h4 : 0 ≤ now
          · skip
            by_cases h5 : now ≤ 16777216
            · skip
              rw [show decide (1 ≤ wd ∧ wd ≤ 1048576 ∧ 1 ≤ cap ∧ cap ≤ 65536 ∧ 0 ≤ now ∧ now ≤ 16777216) = true from decide_eq_true ⟨h0, h1, h2, h3, h4, h5⟩]
              exact rmay_6 wd cap now w h0 h1 h2 h3 h4 h5
            · rw [show decide (1 ≤ wd ∧ wd ≤ 1048576 ∧ 1 ≤ cap ∧ cap ≤ 65536 ∧ 0 ≤ now ∧ now ≤ 16777216) = false from decide_eq_false (fun a => h5 a.2.2.2.2.2)]
              exact rmay_5 wd cap now w h0 h1 h2 h3 h4 (by omega)
          · rw [show decide (1 ≤ wd ∧ wd ≤ 1048576 ∧ 1 ≤ cap ∧ cap ≤ 65536 ∧ 0 ≤ now ∧ now ≤ 16777216) = false from decide_eq_false (fun a => h4 a.2.2.2.2.1)]
            exact rmay_4 wd cap now w h0 h1 h2 h3 (by omega)
        · rw [show decide (1 ≤ wd ∧ wd ≤ 1048576 ∧ 1 ≤ cap ∧ cap ≤ 65536 ∧ 0 ≤ now ∧ now ≤ 16777216) = false from decide_eq_false (fun a => h3 a.2.2.2.1)]
          exact rmay_3 wd cap now w h0 h1 h2 (by omega)
      · rw [show decide (1 ≤ wd ∧ wd ≤ 1048576 ∧ 1 ≤ cap ∧ cap ≤ 65536 ∧ 0 ≤ now ∧ now ≤ 16777216) = false from decide_eq_false (fun a => h2 a.2.2.1)]
        exact rmay_2 wd cap now w h0 h1 (by omega)
    · rw [show decide (1 ≤ wd ∧ wd ≤ 1048576 ∧ 1 ≤ cap ∧ cap ≤ 65536 ∧ 0 ≤ now ∧ now ≤ 16777216) = false from decide_eq_false (fun a => h1 a.2.1)]
      exact rmay_1 wd cap now w h0 (by omega)
  · rw [show decide (1 ≤ wd ∧ wd ≤ 1048576 ∧ 1 ≤ cap ∧ cap ≤ 65536 ∧ 0 ≤ now ∧ now ≤ 16777216) = false from decide_eq_false (fun a => h0 a.1)]
    exact rmay_0 wd cap now w  (by omega)
theorem pnew_yes (wd k cap now : Int) (w : World) (h : 1 ≤ wd ∧ wd ≤ 1048576 ∧ 1 ≤ k ∧ k ≤ 64 ∧ 1 ≤ cap ∧ cap ≤ 65536 ∧ 0 ≤ now ∧ now ≤ 16777216) : Calls Try.prog 9 #[.int .i64 wd, .int .i64 k, .int .i64 cap, .int .i64 now] w fun e w' => e = .returned (.tuple #[.agg #[.int .i64 wd, .int .i64 k, .int .i64 cap, .int .i64 now, .int .i64 0, .slice none 0 0], .int .i64 0]) ∧ Below w.heap.size w w' := by
  have PG := fun w => pgood wd k cap now w
  rw [decide_eq_true h] at PG
  have PG := Lib.hid PG
  clear h
  go_enter Try.func9, Try.ntmps9
  go_wp2_with (go_at_call 38; with_reducible refine (PG.out _).mono ?_; rintro e w9 ⟨rfl, h9⟩; obtain rfl := h9.symm)
  exact bodyPost_ret (v := .tuple #[.agg #[.int .i64 wd, .int .i64 k, .int .i64 cap, .int .i64 now, .int .i64 0, .slice none 0 0], .int .i64 0]) (by simp [results, Try.results9, go_sem, List.getElem?_toArray]) rfl ⟨rfl, by (repeat (first | exact Below.refl _ _ | refine Below.setCell ?_ (by first | (simp; done) | (simp; omega) | omega) _ | refine Below.alloc ?_ (by first | (simp; done) | (simp; omega) | omega) _ | refine Below.drew ?_ | refine Below.trans ?_ (Below.mono (by assumption) (by first | (simp; done) | (simp; omega) | omega))))⟩
theorem pnew_no (wd k cap now : Int) (w : World) (h : ¬ (1 ≤ wd ∧ wd ≤ 1048576 ∧ 1 ≤ k ∧ k ≤ 64 ∧ 1 ≤ cap ∧ cap ≤ 65536 ∧ 0 ≤ now ∧ now ≤ 16777216)) : Calls Try.prog 9 #[.int .i64 wd, .int .i64 k, .int .i64 cap, .int .i64 now] w fun e w' => e = .returned (.tuple #[.agg #[.int .i64 0, .int .i64 0, .int .i64 0, .int .i64 0, .int .i64 0, .slice none 0 0], .int .i64 1]) ∧ Below w.heap.size w w' := by
  have PG := fun w => pgood wd k cap now w
  rw [decide_eq_false h] at PG
  have PG := Lib.hid PG
  clear h
  go_enter Try.func9, Try.ntmps9
  go_wp2_with (go_at_call 38; with_reducible refine (PG.out _).mono ?_; rintro e w9 ⟨rfl, h9⟩; obtain rfl := h9.symm)
  exact bodyPost_ret (v := .tuple #[.agg #[.int .i64 0, .int .i64 0, .int .i64 0, .int .i64 0, .int .i64 0, .slice none 0 0], .int .i64 1]) (by simp [results, Try.results9, go_sem, List.getElem?_toArray]) rfl ⟨rfl, by (repeat (first | exact Below.refl _ _ | refine Below.setCell ?_ (by first | (simp; done) | (simp; omega) | omega) _ | refine Below.alloc ?_ (by first | (simp; done) | (simp; omega) | omega) _ | refine Below.drew ?_ | refine Below.trans ?_ (Below.mono (by assumption) (by first | (simp; done) | (simp; omega) | omega))))⟩
theorem rnew_yes (wd k cap now : Int) (w : World) (h : 1 ≤ wd ∧ wd ≤ 1048576 ∧ 1 ≤ k ∧ k ≤ 64 ∧ 1 ≤ cap ∧ cap ≤ 65536 ∧ 0 ≤ now ∧ now ≤ 16777216) : Calls Try.prog 10 #[.int .i64 wd, .int .i64 k, .int .i64 cap, .int .i64 now] w fun e w' => e = .returned (.tuple #[.agg #[.int .i64 wd, .int .i64 k, .int .i64 cap, .int .i64 now, .int .i64 0, .slice none 0 0], .int .i64 0]) ∧ Below w.heap.size w w' := by
  have PG := fun w => rmay wd cap now w
  rw [decide_eq_true (by omega)] at PG
  have PG := Lib.hid PG
  have PK := fun w => rmayk k w
  rw [decide_eq_true (by omega)] at PK
  have PK := Lib.hid PK
  clear h
  go_enter Try.func10, Try.ntmps10
  go_wp2_with (first | (go_at_call 39; with_reducible refine (PG.out _).mono ?_; rintro e w9 ⟨rfl, h9⟩; obtain rfl := h9.symm) | (go_at_call 40; with_reducible refine (PK.out _).mono ?_; rintro e w9 ⟨rfl, h9⟩; obtain rfl := h9.symm))
  exact bodyPost_ret (v := .tuple #[.agg #[.int .i64 wd, .int .i64 k, .int .i64 cap, .int .i64 now, .int .i64 0, .slice none 0 0], .int .i64 0]) (by simp [results, Try.results10, go_sem, List.getElem?_toArray]) rfl ⟨rfl, by (repeat (first | exact Below.refl _ _ | refine Below.setCell ?_ (by first | (simp; done) | (simp; omega) | omega) _ | refine Below.alloc ?_ (by first | (simp; done) | (simp; omega) | omega) _ | refine Below.drew ?_ | refine Below.trans ?_ (Below.mono (by assumption) (by first | (simp; done) | (simp; omega) | omega))))⟩
theorem rnew_no_m (wd k cap now : Int) (w : World) (h : ¬ (1 ≤ wd ∧ wd ≤ 1048576 ∧ 1 ≤ k ∧ k ≤ 64 ∧ 1 ≤ cap ∧ cap ≤ 65536 ∧ 0 ≤ now ∧ now ≤ 16777216)) (hm : ¬ (1 ≤ wd ∧ wd ≤ 1048576 ∧ 1 ≤ cap ∧ cap ≤ 65536 ∧ 0 ≤ now ∧ now ≤ 16777216)) : Calls Try.prog 10 #[.int .i64 wd, .int .i64 k, .int .i64 cap, .int .i64 now] w fun e w' => e = .returned (.tuple #[.agg #[.int .i64 0, .int .i64 0, .int .i64 0, .int .i64 0, .int .i64 0, .slice none 0 0], .int .i64 1]) ∧ Below w.heap.size w w' := by
  have PG := fun w => rmay wd cap now w
  rw [decide_eq_false hm] at PG
  have PG := Lib.hid PG
  clear h hm
  go_enter Try.func10, Try.ntmps10
  go_wp2_with (go_at_call 39; with_reducible refine (PG.out _).mono ?_; rintro e w9 ⟨rfl, h9⟩; obtain rfl := h9.symm)
  exact bodyPost_ret (v := .tuple #[.agg #[.int .i64 0, .int .i64 0, .int .i64 0, .int .i64 0, .int .i64 0, .slice none 0 0], .int .i64 1]) (by simp [results, Try.results10, go_sem, List.getElem?_toArray]) rfl ⟨rfl, by (repeat (first | exact Below.refl _ _ | refine Below.setCell ?_ (by first | (simp; done) | (simp; omega) | omega) _ | refine Below.alloc ?_ (by first | (simp; done) | (simp; omega) | omega) _ | refine Below.drew ?_ | refine Below.trans ?_ (Below.mono (by assumption) (by first | (simp; done) | (simp; omega) | omega))))⟩
theorem rnew_no_k (wd k cap now : Int) (w : World) (h : ¬ (1 ≤ wd ∧ wd ≤ 1048576 ∧ 1 ≤ k ∧ k ≤ 64 ∧ 1 ≤ cap ∧ cap ≤ 65536 ∧ 0 ≤ now ∧ now ≤ 16777216)) (hm : 1 ≤ wd ∧ wd ≤ 1048576 ∧ 1 ≤ cap ∧ cap ≤ 65536 ∧ 0 ≤ now ∧ now ≤ 16777216) : Calls Try.prog 10 #[.int .i64 wd, .int .i64 k, .int .i64 cap, .int .i64 now] w fun e w' => e = .returned (.tuple #[.agg #[.int .i64 0, .int .i64 0, .int .i64 0, .int .i64 0, .int .i64 0, .slice none 0 0], .int .i64 1]) ∧ Below w.heap.size w w' := by
  have PG := fun w => rmay wd cap now w
  rw [decide_eq_true hm] at PG
  have PG := Lib.hid PG
  have PK := fun w => rmayk k w
  rw [decide_eq_false (by omega)] at PK
  have PK := Lib.hid PK
  clear h hm
  go_enter Try.func10, Try.ntmps10
  go_wp2_with (first | (go_at_call 39; with_reducible refine (PG.out _).mono ?_; rintro e w9 ⟨rfl, h9⟩; obtain rfl := h9.symm) | (go_at_call 40; with_reducible refine (PK.out _).mono ?_; rintro e w9 ⟨rfl, h9⟩; obtain rfl := h9.symm))
  exact bodyPost_ret (v := .tuple #[.agg #[.int .i64 0, .int .i64 0, .int .i64 0, .int .i64 0, .int .i64 0, .slice none 0 0], .int .i64 1]) (by simp [results, Try.results10, go_sem, List.getElem?_toArray]) rfl ⟨rfl, by (repeat (first | exact Below.refl _ _ | refine Below.setCell ?_ (by first | (simp; done) | (simp; omega) | omega) _ | refine Below.alloc ?_ (by first | (simp; done) | (simp; omega) | omega) _ | refine Below.drew ?_ | refine Below.trans ?_ (Below.mono (by assumption) (by first | (simp; done) | (simp; omega) | omega))))⟩
theorem rnew_no (wd k cap now : Int) (w : World) (h : ¬ (1 ≤ wd ∧ wd ≤ 1048576 ∧ 1 ≤ k ∧ k ≤ 64 ∧ 1 ≤ cap ∧ cap ≤ 65536 ∧ 0 ≤ now ∧ now ≤ 16777216)) : Calls Try.prog 10 #[.int .i64 wd, .int .i64 k, .int .i64 cap, .int .i64 now] w fun e w' => e = .returned (.tuple #[.agg #[.int .i64 0, .int .i64 0, .int .i64 0, .int .i64 0, .int .i64 0, .slice none 0 0], .int .i64 1]) ∧ Below w.heap.size w w' := by
  by_cases hm : 1 ≤ wd ∧ wd ≤ 1048576 ∧ 1 ≤ cap ∧ cap ≤ 65536 ∧ 0 ≤ now ∧ now ≤ 16777216
  · exact rnew_no_k wd k cap now w h hm
  · exact rnew_no_m wd k cap now w h hm
theorem rsamemarks_nil (w : World) : Calls Try.prog 41 #[.slice none 0 0, .slice none 0 0] w fun e w' => e = .returned (.bool true) ∧ w' = w := by
  go_enter Try.func41, Try.ntmps41
  go_wp2
  go_loopw [13] (fun i wr => i = .int .i64 0 ∧ wr = w) (fun _ _ => 0)
  case atStart => exact ⟨rfl, rfl⟩
  case round =>
    obtain ⟨rfl, rfl⟩ := hrel
    go_wp2
    go_ret
    exact ⟨rfl, rfl⟩
theorem rsame_nil (wd k cap now sq : Int) (w : World) : Calls Try.prog 11 #[.agg #[.int .i64 wd, .int .i64 k, .int .i64 cap, .int .i64 now, .int .i64 sq, .slice none 0 0], .agg #[.int .i64 wd, .int .i64 k, .int .i64 cap, .int .i64 now, .int .i64 sq, .slice none 0 0]] w fun e w' => e = .returned (.bool true) ∧ Below w.heap.size w w' := by
  go_enter Try.func11, Try.ntmps11
  go_wp2_with (go_at_call 41; with_reducible refine (rsamemarks_nil _).mono ?_; rintro e w9 ⟨rfl, h9⟩; obtain rfl := h9.symm)
  go_ret
  exact ⟨rfl, by (repeat (first | exact Below.refl _ _ | refine Below.setCell ?_ (by first | (simp; done) | (simp; omega) | omega) _ | refine Below.alloc ?_ (by first | (simp; done) | (simp; omega) | omega) _ | refine Below.drew ?_ | refine Below.trans ?_ (Below.mono (by assumption) (by first | (simp; done) | (simp; omega) | omega))))⟩
theorem nbits (x : Nat) (h : x < 9223372036854775808) (w : World) : Calls Try.prog 42 #[.int .i64 x] w fun e w' => e = .returned (.int .i64 (Lib.bitLen x : Nat)) ∧ w' = w := by
  have PL := fun w => len64 (x : Int) w (by omega) (by omega)
  rw [Int.toNat_natCast] at PL
  generalize Lib.bitLen x = b at PL ⊢
  have PL := Lib.hid PL
  have t0 : ¬ (x : Int) < 0 := by omega
  have wx : IntKind.u64.wrap (x : Int) = (x : Int) := IntWalk.u64_in _ (by omega)
  clear h
  go_enter Try.func42, Try.ntmps42
  go_wp2_with (go_at_call 84; with_reducible refine (PL.out _).mono ?_; rintro e w9 ⟨rfl, h9⟩; obtain rfl := h9.symm)
  go_ret
  exact ⟨rfl, rfl⟩
theorem rbits (x : Nat) (h : x < 9223372036854775808) (w : World) : Calls Try.prog 43 #[.int .i64 x] w fun e w' => e = .returned (.int .i64 (Lib.bitLen x : Nat)) ∧ w' = w := by
  have hl : Lib.bitLen x ≤ 64 := bits_le 64 x
  generalize hb : Lib.bitLen x = b at hl ⊢
  have HB := Lib.hid hb
  clear hb
  go_enter Try.func43, Try.ntmps43
  go_wp2
  go_loopw [0, 3] (fun n k wr => ∃ (y j : Nat), n = .int .i64 (y : Nat) ∧ k = .int .i64 (j : Nat) ∧ y < 9223372036854775808 ∧ j ≤ 64 ∧ RowKit.Hid (j + Lib.bitLen y = b) ∧ wr = w) (fun n _ _ => (intOf n).toNat)
  case atStart => exact ⟨x, 0, rfl, rfl, h, by omega, Lib.hid (by rw [HB.out]; omega), rfl⟩
  case round =>
    obtain ⟨y, j, rfl, rfl, hy, hj, HS, rfl⟩ := hrel
    by_cases hz : y = 0
    · subst hz
      have hs := HS.out
      rw [bits_zero] at hs
      have hs : j = b := by omega
      subst hs
      go_wp2
      go_ret
      exact ⟨rfl, rfl⟩
    · have hs := bits_step hz (by omega)
      have hs2 := HS.out
      have t0 : (0 : Int) < (y : Int) := by omega
      have td : IntKind.i64.wrap ((y : Int).tdiv 2) = ((y / 2 : Nat) : Int) := by
        rw [Int.tdiv_eq_ediv_of_nonneg (by omega), IntWalk.i64_in _ (by omega)]
        omega
      have HS2 : RowKit.Hid ((j + 1) + Lib.bitLen (y / 2) = b) := Lib.hid (by omega)
      have hjb : j + 1 ≤ 64 := by omega
      clear hs hs2
      go_wp2
      go_roundw
      case rel => exact ⟨y / 2, j + 1, rfl, by go_num, by omega, hjb, HS2, by trivial⟩
      case measure => simp [intOf]; omega
def mostV (k cap : Int) : Int := (if 1 ≤ k ∧ k ≤ 64 ∧ 1 ≤ cap ∧ cap ≤ 65536 then 12 * k * (3 * (Lib.bitLen cap.toNat : Nat) + 24) + 4 else 0)
theorem most_small {k b : Int} (h0 : 1 ≤ k) (h1 : k ≤ 64) (h2 : 0 ≤ b) (h3 : b ≤ 64) : 0 ≤ 12 * k * (3 * b + 24) ∧ 12 * k * (3 * b + 24) ≤ 165888 := by
  constructor
  · exact Int.mul_nonneg (by omega) (by omega)
  · have : 12 * k * (3 * b + 24) ≤ 768 * 216 := Int.mul_le_mul (by omega) (by omega) (by omega) (by decide)
    exact this
theorem pmost_yes (k cap : Int) (w : World) (h : 1 ≤ k ∧ k ≤ 64 ∧ 1 ≤ cap ∧ cap ≤ 65536) : Calls Try.prog 12 #[.int .i64 k, .int .i64 cap] w fun e w' => e = .returned (.int .i64 (mostV k cap)) ∧ w' = w := by
  unfold mostV
  rw [if_pos h]
  obtain ⟨cn, rfl⟩ : ∃ cn : Nat, cap = (cn : Int) := ⟨cap.toNat, by omega⟩
  rw [Int.toNat_natCast]
  have PB := fun w => nbits cn (by omega) w
  have bb : Lib.bitLen cn ≤ 64 := bits_le 64 cn
  generalize Lib.bitLen cn = b at PB bb ⊢
  have PB := Lib.hid PB
  have ms := most_small (k := k) (b := (b : Int)) h.1 h.2.1 (by omega) (by omega)
  have PG := fun w => pgood 1 k (cn : Nat) 0 w
  rw [decide_eq_true (by omega)] at PG
  have PG := Lib.hid PG
  have w1 : IntKind.i64.wrap (12 * k) = 12 * k := IntWalk.i64_in _ (by omega)
  have w2 : IntKind.i64.wrap (3 * (b : Int)) = 3 * (b : Int) := IntWalk.i64_in _ (by omega)
  have w3 : IntKind.i64.wrap (3 * (b : Int) + 24) = 3 * (b : Int) + 24 := IntWalk.i64_in _ (by omega)
  have w4 : IntKind.i64.wrap (12 * k * (3 * (b : Int) + 24)) = 12 * k * (3 * (b : Int) + 24) := IntWalk.i64_in _ (by omega)
  have w5 : IntKind.i64.wrap (12 * k * (3 * (b : Int) + 24) + 4) = 12 * k * (3 * (b : Int) + 24) + 4 := IntWalk.i64_in _ (by omega)
  clear h ms
  go_enter Try.func12, Try.ntmps12
  go_wp2_with (first | (go_at_call 38; with_reducible refine (PG.out _).mono ?_; rintro e w9 ⟨rfl, h9⟩; obtain rfl := h9.symm) | (go_at_call 42; with_reducible refine (PB.out _).mono ?_; rintro e w9 ⟨rfl, h9⟩; obtain rfl := h9.symm))
  go_ret
  exact ⟨rfl, rfl⟩
theorem pmost_no (k cap : Int) (w : World) (h : ¬ (1 ≤ k ∧ k ≤ 64 ∧ 1 ≤ cap ∧ cap ≤ 65536)) : Calls Try.prog 12 #[.int .i64 k, .int .i64 cap] w fun e w' => e = .returned (.int .i64 (mostV k cap)) ∧ w' = w := by
  unfold mostV
  rw [if_neg h]
  have PG := fun w => pgood 1 k cap 0 w
  rw [decide_eq_false (by omega)] at PG
  have PG := Lib.hid PG
  clear h
  go_enter Try.func12, Try.ntmps12
  go_wp2_with (go_at_call 38; with_reducible refine (PG.out _).mono ?_; rintro e w9 ⟨rfl, h9⟩; obtain rfl := h9.symm)
  go_ret
  exact ⟨rfl, rfl⟩
theorem pmost (k cap : Int) (w : World) : Calls Try.prog 12 #[.int .i64 k, .int .i64 cap] w fun e w' => e = .returned (.int .i64 (mostV k cap)) ∧ w' = w := by
  by_cases h : 1 ≤ k ∧ k ≤ 64 ∧ 1 ≤ cap ∧ cap ≤ 65536
  · exact pmost_yes k cap w h
  · exact pmost_no k cap w h
theorem rmost_yes (k cap : Int) (w : World) (h : 1 ≤ k ∧ k ≤ 64 ∧ 1 ≤ cap ∧ cap ≤ 65536) : Calls Try.prog 13 #[.int .i64 k, .int .i64 cap] w fun e w' => e = .returned (.int .i64 (mostV k cap)) ∧ w' = w := by
  unfold mostV
  rw [if_pos h]
  obtain ⟨cn, rfl⟩ : ∃ cn : Nat, cap = (cn : Int) := ⟨cap.toNat, by omega⟩
  rw [Int.toNat_natCast]
  have PB := fun w => rbits cn (by omega) w
  have bb : Lib.bitLen cn ≤ 64 := bits_le 64 cn
  generalize Lib.bitLen cn = b at PB bb ⊢
  have PB := Lib.hid PB
  have ms := most_small (k := k) (b := (b : Int)) h.1 h.2.1 (by omega) (by omega)
  have PG := fun w => rmayk k w
  rw [decide_eq_true (by omega)] at PG
  have PG := Lib.hid PG
  have t0 : ¬ (cn : Int) < 1 := by omega
  have t1 : ¬ (65536 : Int) < (cn : Int) := by omega
  have w1 : IntKind.i64.wrap (12 * k) = 12 * k := IntWalk.i64_in _ (by omega)
  have w2 : IntKind.i64.wrap (3 * (b : Int)) = 3 * (b : Int) := IntWalk.i64_in _ (by omega)
  have w3 : IntKind.i64.wrap (3 * (b : Int) + 24) = 3 * (b : Int) + 24 := IntWalk.i64_in _ (by omega)
  have w4 : IntKind.i64.wrap (12 * k * (3 * (b : Int) + 24)) = 12 * k * (3 * (b : Int) + 24) := IntWalk.i64_in _ (by omega)
  have w5 : IntKind.i64.wrap (12 * k * (3 * (b : Int) + 24) + 4) = 12 * k * (3 * (b : Int) + 24) + 4 := IntWalk.i64_in _ (by omega)
  clear h ms
  go_enter Try.func13, Try.ntmps13
  go_wp2_with (first | (go_at_call 40; with_reducible refine (PG.out _).mono ?_; rintro e w9 ⟨rfl, h9⟩; obtain rfl := h9.symm) | (go_at_call 43; with_reducible refine (PB.out _).mono ?_; rintro e w9 ⟨rfl, h9⟩; obtain rfl := h9.symm))
  go_ret
  exact ⟨rfl, rfl⟩
theorem rmost_no_k (k cap : Int) (w : World) (hk : ¬ (1 ≤ k ∧ k ≤ 64)) : Calls Try.prog 13 #[.int .i64 k, .int .i64 cap] w fun e w' => e = .returned (.int .i64 0) ∧ w' = w := by
  have PG := fun w => rmayk k w
  rw [decide_eq_false hk] at PG
  have PG := Lib.hid PG
  clear hk
  go_enter Try.func13, Try.ntmps13
  go_wp2_with (go_at_call 40; with_reducible refine (PG.out _).mono ?_; rintro e w9 ⟨rfl, h9⟩; obtain rfl := h9.symm)
  go_ret
  exact ⟨rfl, rfl⟩
theorem rmost_no_a (k cap : Int) (w : World) (hk : 1 ≤ k ∧ k ≤ 64) (hc : cap < 1) : Calls Try.prog 13 #[.int .i64 k, .int .i64 cap] w fun e w' => e = .returned (.int .i64 0) ∧ w' = w := by
  have PG := fun w => rmayk k w
  rw [decide_eq_true hk] at PG
  have PG := Lib.hid PG
  clear hk
  go_enter Try.func13, Try.ntmps13
  go_wp2_with (go_at_call 40; with_reducible refine (PG.out _).mono ?_; rintro e w9 ⟨rfl, h9⟩; obtain rfl := h9.symm)
  go_ret
  exact ⟨rfl, rfl⟩
theorem rmost_no_b (k cap : Int) (w : World) (hk : 1 ≤ k ∧ k ≤ 64) (hc0 : 1 ≤ cap) (hc : 65536 < cap) : Calls Try.prog 13 #[.int .i64 k, .int .i64 cap] w fun e w' => e = .returned (.int .i64 0) ∧ w' = w := by
  have PG := fun w => rmayk k w
  rw [decide_eq_true hk] at PG
  have PG := Lib.hid PG
  clear hk
  go_enter Try.func13, Try.ntmps13
  go_wp2_with (go_at_call 40; with_reducible refine (PG.out _).mono ?_; rintro e w9 ⟨rfl, h9⟩; obtain rfl := h9.symm)
  go_ret
  exact ⟨rfl, rfl⟩
theorem rmost_no (k cap : Int) (w : World) (h : ¬ (1 ≤ k ∧ k ≤ 64 ∧ 1 ≤ cap ∧ cap ≤ 65536)) : Calls Try.prog 13 #[.int .i64 k, .int .i64 cap] w fun e w' => e = .returned (.int .i64 (mostV k cap)) ∧ w' = w := by
  unfold mostV
  rw [if_neg h]
  by_cases hk : 1 ≤ k ∧ k ≤ 64
  · by_cases hc : cap < 1
    · exact rmost_no_a k cap w hk hc
    · exact rmost_no_b k cap w hk (by omega) (by omega)
  · exact rmost_no_k k cap w hk
theorem rmost (k cap : Int) (w : World) : Calls Try.prog 13 #[.int .i64 k, .int .i64 cap] w fun e w' => e = .returned (.int .i64 (mostV k cap)) ∧ w' = w := by
  by_cases h : 1 ≤ k ∧ k ≤ 64 ∧ 1 ≤ cap ∧ cap ≤ 65536
  · exact rmost_yes k cap w h
  · exact rmost_no k cap w h
theorem awake14 (w : World) : Calls Try.prog 14 #[] w fun e w' => e = .returned (.bool true) ∧ Below w.heap.size w w' := by
  have PO := fun w => pof_yes 0 0 3 9 41 1 6 w (by unfold rightP; omega)
  rw [show ratA 3 9 41 = 14 by decide, show ratB 3 9 41 = 1 by decide] at PO
  have PO := Lib.hid PO
  go_enter Try.func14, Try.ntmps14
  go_wp2_with (go_at_call 15; with_reducible refine (PO.out _).mono ?_; rintro e w1 ⟨rfl, hb1⟩; have hz1 := hb1.size; (try simp at hz1); have o1 : Below w.heap.size w w1 := (by (repeat (first | exact Below.refl _ _ | refine Below.setCell ?_ (by first | (simp; done) | (simp; omega) | omega) _ | refine Below.alloc ?_ (by first | (simp; done) | (simp; omega) | omega) _ | refine Below.drew ?_ | refine Below.trans ?_ (Below.mono (by assumption) (by first | (simp; done) | (simp; omega) | omega))))))
  go_ret
  exact ⟨rfl, by (repeat (first | exact Below.refl _ _ | refine Below.setCell ?_ (by first | (simp; done) | (simp; omega) | omega) _ | refine Below.alloc ?_ (by first | (simp; done) | (simp; omega) | omega) _ | refine Below.drew ?_ | refine Below.trans ?_ (Below.mono (by assumption) (by first | (simp; done) | (simp; omega) | omega))))⟩
set_option maxHeartbeats 2000000 in
theorem spreadNew_yes (wd k cap now : Int) (w : World) (h : 1 ≤ wd ∧ wd ≤ 1048576 ∧ 1 ≤ k ∧ k ≤ 64 ∧ 1 ≤ cap ∧ cap ≤ 65536 ∧ 0 ≤ now ∧ now ≤ 16777216) : Calls Try.prog 3 #[.int .i64 wd, .int .i64 k, .int .i64 cap, .int .i64 now] w fun e w' => e = .returned (.bool true) ∧ Below w.heap.size w w' := by
  have P1 := Lib.hid (fun w => pnew_yes wd k cap now w h)
  have P2 := Lib.hid (fun w => rnew_yes wd k cap now w h)
  have M1 := fun w => pmost k cap w
  have M2 := fun w => rmost k cap w
  generalize mostV k cap = mv at M1 M2
  have M1 := Lib.hid M1
  have M2 := Lib.hid M2
  clear h
  go_enter Try.func3, Try.ntmps3
  go_wp2_with fail
  refine (P1.out _).mono ?_
  rintro e w1 ⟨rfl, hb1⟩
  have hz1 := hb1.size
  go_wp2_with fail
  refine (P2.out _).mono ?_
  rintro e w2 ⟨rfl, hb2⟩
  have hz2 := hb2.size
  simp at hz2
  go_upto_region 3 with (fail)
  have r1 : Row (w2.alloc (.cells #[.int .i64 wd, .int .i64 k, .int .i64 cap, .int .i64 now, .int .i64 0, .slice none 0 0] 24)) w1.heap.size 24 #[.int .i64 wd, .int .i64 k, .int .i64 cap, .int .i64 now, .int .i64 0, .slice none 0 0] := row_alloc (row_call (row_new rfl) hb2) _
  have r2 : Row (w2.alloc (.cells #[.int .i64 wd, .int .i64 k, .int .i64 cap, .int .i64 now, .int .i64 0, .slice none 0 0] 24)) w2.heap.size 24 #[.int .i64 wd, .int .i64 k, .int .i64 cap, .int .i64 now, .int .i64 0, .slice none 0 0] := row_new rfl
  have ob : Below w.heap.size w (w2.alloc (.cells #[.int .i64 wd, .int .i64 k, .int .i64 cap, .int .i64 now, .int .i64 0, .slice none 0 0] 24)) := by (repeat (first | exact Below.refl _ _ | refine Below.setCell ?_ (by first | (simp; done) | (simp; omega) | omega) _ | refine Below.alloc ?_ (by first | (simp; done) | (simp; omega) | omega) _ | refine Below.drew ?_ | refine Below.trans ?_ (Below.mono (by assumption) (by first | (simp; done) | (simp; omega) | omega))))
  generalize w2.alloc (.cells #[.int .i64 wd, .int .i64 k, .int .i64 cap, .int .i64 now, .int .i64 0, .slice none 0 0] 24) = w3 at r1 r2 ob ⊢
  generalize w1.heap.size = b5 at r1 ⊢
  generalize w2.heap.size = b7 at r2 ⊢
  clear hb1 hb2 hz1 hz2
  have zb := ob.size
  obtain ⟨A0, A1, A2, A3, A4, A5, _, _, _, _, _, _⟩ := row_six r1
  obtain ⟨B0, B1, B2, B3, B4, B5, _, _, _, _, _, _⟩ := row_six r2
  go_wp2_with (first | (go_at_call 11; refine (rsame_nil wd k cap now 0 _).mono ?_; rintro e w4 ⟨rfl, hb4⟩; have hz4 := hb4.size) | (go_at_call 12; with_reducible refine (M1.out _).mono ?_; rintro e w9 ⟨rfl, h9⟩; obtain rfl := h9.symm) | (go_at_call 13; with_reducible refine (M2.out _).mono ?_; rintro e w9 ⟨rfl, h9⟩; obtain rfl := h9.symm) | (go_at_call 14; refine (awake14 _).mono ?_; rintro e w5 ⟨rfl, hb5⟩; have hz5 := hb5.size))
  go_ret
  exact ⟨rfl, by (repeat (first | exact Below.refl _ _ | refine Below.setCell ?_ (by first | (simp; done) | (simp; omega) | omega) _ | refine Below.alloc ?_ (by first | (simp; done) | (simp; omega) | omega) _ | refine Below.drew ?_ | refine Below.trans ?_ (Below.mono (by assumption) (by first | (simp; done) | (simp; omega) | omega))))⟩
set_option maxHeartbeats 2000000 in
theorem spreadNew_no (wd k cap now : Int) (w : World) (h : ¬ (1 ≤ wd ∧ wd ≤ 1048576 ∧ 1 ≤ k ∧ k ≤ 64 ∧ 1 ≤ cap ∧ cap ≤ 65536 ∧ 0 ≤ now ∧ now ≤ 16777216)) : Calls Try.prog 3 #[.int .i64 wd, .int .i64 k, .int .i64 cap, .int .i64 now] w fun e w' => e = .returned (.bool true) ∧ Below w.heap.size w w' := by
  have P1 := Lib.hid (fun w => pnew_no wd k cap now w h)
  have P2 := Lib.hid (fun w => rnew_no wd k cap now w h)
  have M1 := fun w => pmost k cap w
  have M2 := fun w => rmost k cap w
  generalize mostV k cap = mv at M1 M2
  have M1 := Lib.hid M1
  have M2 := Lib.hid M2
  clear h
  go_enter Try.func3, Try.ntmps3
  go_wp2_with fail
  refine (P1.out _).mono ?_
  rintro e w1 ⟨rfl, hb1⟩
  have hz1 := hb1.size
  go_wp2_with fail
  refine (P2.out _).mono ?_
  rintro e w2 ⟨rfl, hb2⟩
  have hz2 := hb2.size
  simp at hz2
  go_upto_region 3 with (fail)
  have r1 : Row (w2.alloc (.cells #[.int .i64 0, .int .i64 0, .int .i64 0, .int .i64 0, .int .i64 0, .slice none 0 0] 24)) w1.heap.size 24 #[.int .i64 0, .int .i64 0, .int .i64 0, .int .i64 0, .int .i64 0, .slice none 0 0] := row_alloc (row_call (row_new rfl) hb2) _
  have r2 : Row (w2.alloc (.cells #[.int .i64 0, .int .i64 0, .int .i64 0, .int .i64 0, .int .i64 0, .slice none 0 0] 24)) w2.heap.size 24 #[.int .i64 0, .int .i64 0, .int .i64 0, .int .i64 0, .int .i64 0, .slice none 0 0] := row_new rfl
  have ob : Below w.heap.size w (w2.alloc (.cells #[.int .i64 0, .int .i64 0, .int .i64 0, .int .i64 0, .int .i64 0, .slice none 0 0] 24)) := by (repeat (first | exact Below.refl _ _ | refine Below.setCell ?_ (by first | (simp; done) | (simp; omega) | omega) _ | refine Below.alloc ?_ (by first | (simp; done) | (simp; omega) | omega) _ | refine Below.drew ?_ | refine Below.trans ?_ (Below.mono (by assumption) (by first | (simp; done) | (simp; omega) | omega))))
  generalize w2.alloc (.cells #[.int .i64 0, .int .i64 0, .int .i64 0, .int .i64 0, .int .i64 0, .slice none 0 0] 24) = w3 at r1 r2 ob ⊢
  generalize w1.heap.size = b5 at r1 ⊢
  generalize w2.heap.size = b7 at r2 ⊢
  clear hb1 hb2 hz1 hz2
  have zb := ob.size
  obtain ⟨A0, A1, A2, A3, A4, A5, _, _, _, _, _, _⟩ := row_six r1
  obtain ⟨B0, B1, B2, B3, B4, B5, _, _, _, _, _, _⟩ := row_six r2
  go_wp2_with (first | (go_at_call 11; refine (rsame_nil 0 0 0 0 0 _).mono ?_; rintro e w4 ⟨rfl, hb4⟩; have hz4 := hb4.size) | (go_at_call 12; with_reducible refine (M1.out _).mono ?_; rintro e w9 ⟨rfl, h9⟩; obtain rfl := h9.symm) | (go_at_call 13; with_reducible refine (M2.out _).mono ?_; rintro e w9 ⟨rfl, h9⟩; obtain rfl := h9.symm) | (go_at_call 14; refine (awake14 _).mono ?_; rintro e w5 ⟨rfl, hb5⟩; have hz5 := hb5.size))
  go_ret
  exact ⟨rfl, by (repeat (first | exact Below.refl _ _ | refine Below.setCell ?_ (by first | (simp; done) | (simp; omega) | omega) _ | refine Below.alloc ?_ (by first | (simp; done) | (simp; omega) | omega) _ | refine Below.drew ?_ | refine Below.trans ?_ (Below.mono (by assumption) (by first | (simp; done) | (simp; omega) | omega))))⟩
theorem spreadNew (wd k cap now : Int) (w : World) : Calls Try.prog 3 #[.int .i64 wd, .int .i64 k, .int .i64 cap, .int .i64 now] w fun e w' => e = .returned (.bool true) ∧ Below w.heap.size w w' := by
  by_cases h : 1 ≤ wd ∧ wd ≤ 1048576 ∧ 1 ≤ k ∧ k ≤ 64 ∧ 1 ≤ cap ∧ cap ≤ 65536 ∧ 0 ≤ now ∧ now ≤ 16777216
  · exact spreadNew_yes wd k cap now w h
  · exact spreadNew_no wd k cap now w h
end Go.Proofs.Ytaiepjcnncajcaa
