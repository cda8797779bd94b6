/- Spreads of marks: parameters; the empty histograms; the bound of the number of marks; the example, walked. -/
import Derived.Test.YthknkdjpfanlnaaSprB
set_option linter.unusedVariables false
set_option linter.unusedSimpArgs false
set_option linter.unusedSectionVars false
set_option linter.unnecessarySimpa false
namespace Go.Proofs.Ythknkdjpfanlnaa
open Go.RowKit Go.Shelf
theorem pgood_0 (wd k cap now : Int) (w : World)  (h : wd < 1) : Calls Try.prog 74 #[.int .i64 wd, .int .i64 k, .int .i64 cap, .int .i64 now] w fun e w' => e = .returned (.bool false) ∧ w' = w := by
  go_enter Try.func74, Try.ntmps74
  go_wp2_with fail
  go_ret
  exact ⟨by first | rfl | exact ret_bool (by simp; omega), rfl⟩
theorem pgood_1 (wd k cap now : Int) (w : World) (h0 : 1 ≤ wd) (h : 1048576 < wd) : Calls Try.prog 74 #[.int .i64 wd, .int .i64 k, .int .i64 cap, .int .i64 now] w fun e w' => e = .returned (.bool false) ∧ w' = w := by
  go_enter Try.func74, Try.ntmps74
  go_wp2_with fail
  go_ret
  exact ⟨by first | rfl | exact ret_bool (by simp; omega), rfl⟩
theorem pgood_2 (wd k cap now : Int) (w : World) (h0 : 1 ≤ wd) (h1 : wd ≤ 1048576) (h : k < 1) : Calls Try.prog 74 #[.int .i64 wd, .int .i64 k, .int .i64 cap, .int .i64 now] w fun e w' => e = .returned (.bool false) ∧ w' = w := by
  go_enter Try.func74, Try.ntmps74
  go_wp2_with fail
  go_ret
  exact ⟨by first | rfl | exact ret_bool (by simp; omega), rfl⟩
theorem pgood_3 (wd k cap now : Int) (w : World) (h0 : 1 ≤ wd) (h1 : wd ≤ 1048576) (h2 : 1 ≤ k) (h : 64 < k) : Calls Try.prog 74 #[.int .i64 wd, .int .i64 k, .int .i64 cap, .int .i64 now] w fun e w' => e = .returned (.bool false) ∧ w' = w := by
  go_enter Try.func74, Try.ntmps74
  go_wp2_with fail
  go_ret
  exact ⟨by first | rfl | exact ret_bool (by simp; omega), rfl⟩
theorem pgood_4 (wd k cap now : Int) (w : World) (h0 : 1 ≤ wd) (h1 : wd ≤ 1048576) (h2 : 1 ≤ k) (h3 : k ≤ 64) (h : cap < 1) : Calls Try.prog 74 #[.int .i64 wd, .int .i64 k, .int .i64 cap, .int .i64 now] w fun e w' => e = .returned (.bool false) ∧ w' = w := by
  go_enter Try.func74, Try.ntmps74
  go_wp2_with fail
  go_ret
  exact ⟨by first | rfl | exact ret_bool (by simp; omega), rfl⟩
theorem pgood_5 (wd k cap now : Int) (w : World) (h0 : 1 ≤ wd) (h1 : wd ≤ 1048576) (h2 : 1 ≤ k) (h3 : k ≤ 64) (h4 : 1 ≤ cap) (h : 65536 < cap) : Calls Try.prog 74 #[.int .i64 wd, .int .i64 k, .int .i64 cap, .int .i64 now] w fun e w' => e = .returned (.bool false) ∧ w' = w := by
  go_enter Try.func74, Try.ntmps74
  go_wp2_with fail
  go_ret
  exact ⟨by first | rfl | exact ret_bool (by simp; omega), rfl⟩
theorem pgood_6 (wd k cap now : Int) (w : World) (h0 : 1 ≤ wd) (h1 : wd ≤ 1048576) (h2 : 1 ≤ k) (h3 : k ≤ 64) (h4 : 1 ≤ cap) (h5 : cap ≤ 65536) (h : now < 0) : Calls Try.prog 74 #[.int .i64 wd, .int .i64 k, .int .i64 cap, .int .i64 now] w fun e w' => e = .returned (.bool false) ∧ w' = w := by
  go_enter Try.func74, Try.ntmps74
  go_wp2_with fail
  go_ret
  exact ⟨by first | rfl | exact ret_bool (by simp; omega), rfl⟩
theorem pgood_7 (wd k cap now : Int) (w : World) (h0 : 1 ≤ wd) (h1 : wd ≤ 1048576) (h2 : 1 ≤ k) (h3 : k ≤ 64) (h4 : 1 ≤ cap) (h5 : cap ≤ 65536) (h6 : 0 ≤ now) (h : 16777216 < now) : Calls Try.prog 74 #[.int .i64 wd, .int .i64 k, .int .i64 cap, .int .i64 now] w fun e w' => e = .returned (.bool false) ∧ w' = w := by
  go_enter Try.func74, Try.ntmps74
  go_wp2_with fail
  go_ret
  exact ⟨by first | rfl | exact ret_bool (by simp; omega), rfl⟩
theorem pgood_8 (wd k cap now : Int) (w : World) (h0 : 1 ≤ wd) (h1 : wd ≤ 1048576) (h2 : 1 ≤ k) (h3 : k ≤ 64) (h4 : 1 ≤ cap) (h5 : cap ≤ 65536) (h6 : 0 ≤ now) (h7 : now ≤ 16777216) : Calls Try.prog 74 #[.int .i64 wd, .int .i64 k, .int .i64 cap, .int .i64 now] w fun e w' => e = .returned (.bool true) ∧ w' = w := by
  go_enter Try.func74, Try.ntmps74
  go_wp2_with fail
  go_ret
  exact ⟨by first | rfl | exact ret_bool (by simp; omega), rfl⟩
theorem pgood (wd k cap now : Int) (w : World) : Calls Try.prog 74 #[.int .i64 wd, .int .i64 k, .int .i64 cap, .int .i64 now] w fun e w' => e = .returned (.bool (decide (1 ≤ wd ∧ wd ≤ 1048576 ∧ 1 ≤ k ∧ k ≤ 64 ∧ 1 ≤ cap ∧ cap ≤ 65536 ∧ 0 ≤ now ∧ now ≤ 16777216))) ∧ w' = w := by
  by_cases h0 : 1 ≤ wd
  · skip
    by_cases h1 : wd ≤ 1048576
    · skip
      by_cases h2 : 1 ≤ k
      · skip
        by_cases h3 : k ≤ 64
        · skip
          by_cases h4 : 1 ≤ cap
          · skip
            by_cases h5 : cap ≤ 65536
            · skip
              by_cases h6 : 0 ≤ now
              · skip
                by_cases h7 : now ≤ 16777216
                · skip
                  rw [show decide (1 ≤ wd ∧ wd ≤ 1048576 ∧ 1 ≤ k ∧ k ≤ 64 ∧ 1 ≤ cap ∧ cap ≤ 65536 ∧ 0 ≤ now ∧ now ≤ 16777216) = true from decide_eq_true ⟨h0, h1, h2, h3, h4, h5, h6, h7⟩]
                  exact pgood_8 wd k cap now w h0 h1 h2 h3 h4 h5 h6 h7
                · rw [show decide (1 ≤ wd ∧ wd ≤ 1048576 ∧ 1 ≤ k ∧ k ≤ 64 ∧ 1 ≤ cap ∧ cap ≤ 65536 ∧ 0 ≤ now ∧ now ≤ 16777216) = false from decide_eq_false (fun a => h7 a.2.2.2.2.2.2.2)]
                  exact pgood_7 wd k cap now w h0 h1 h2 h3 h4 h5 h6 (by omega)
              · rw [show decide (1 ≤ wd ∧ wd ≤ 1048576 ∧ 1 ≤ k ∧ k ≤ 64 ∧ 1 ≤ cap ∧ cap ≤ 65536 ∧ 0 ≤ now ∧ now ≤ 16777216) = false from decide_eq_false (fun a => h6 a.2.2.2.2.2.2.1)]
                exact pgood_6 wd k cap now w h0 h1 h2 h3 h4 h5 (by omega)
            · rw [show decide (1 ≤ wd ∧ wd ≤ 1048576 ∧ 1 ≤ k ∧ k ≤ 64 ∧ 1 ≤ cap ∧ cap ≤ 65536 ∧ 0 ≤ now ∧ now ≤ 16777216) = false from decide_eq_false (fun a => h5 a.2.2.2.2.2.1)]
              exact pgood_5 wd k cap now w h0 h1 h2 h3 h4 (by omega)
          · rw [show decide (1 ≤ wd ∧ wd ≤ 1048576 ∧ 1 ≤ k ∧ k ≤ 64 ∧ 1 ≤ cap ∧ cap ≤ 65536 ∧ 0 ≤ now ∧ now ≤ 16777216) = false from decide_eq_false (fun a => h4 a.2.2.2.2.1)]
            exact pgood_4 wd k cap now w h0 h1 h2 h3 (by omega)
        · rw [show decide (1 ≤ wd ∧ wd ≤ 1048576 ∧ 1 ≤ k ∧ k ≤ 64 ∧ 1 ≤ cap ∧ cap ≤ 65536 ∧ 0 ≤ now ∧ now ≤ 16777216) = false from decide_eq_false (fun a => h3 a.2.2.2.1)]
          exact pgood_3 wd k cap now w h0 h1 h2 (by omega)
      · rw [show decide (1 ≤ wd ∧ wd ≤ 1048576 ∧ 1 ≤ k ∧ k ≤ 64 ∧ 1 ≤ cap ∧ cap ≤ 65536 ∧ 0 ≤ now ∧ now ≤ 16777216) = false from decide_eq_false (fun a => h2 a.2.2.1)]
        exact pgood_2 wd k cap now w h0 h1 (by omega)
    · rw [show decide (1 ≤ wd ∧ wd ≤ 1048576 ∧ 1 ≤ k ∧ k ≤ 64 ∧ 1 ≤ cap ∧ cap ≤ 65536 ∧ 0 ≤ now ∧ now ≤ 16777216) = false from decide_eq_false (fun a => h1 a.2.1)]
      exact pgood_1 wd k cap now w h0 (by omega)
  · rw [show decide (1 ≤ wd ∧ wd ≤ 1048576 ∧ 1 ≤ k ∧ k ≤ 64 ∧ 1 ≤ cap ∧ cap ≤ 65536 ∧ 0 ≤ now ∧ now ≤ 16777216) = false from decide_eq_false (fun a => h0 a.1)]
    exact pgood_0 wd k cap now w  (by omega)
theorem rwindow_0 (wd : Int) (w : World)  (h : wd < 1) : Calls Try.prog 76 #[.int .i64 wd] w fun e w' => e = .returned (.bool false) ∧ w' = w := by
  go_enter Try.func76, Try.ntmps76
  go_wp2_with fail
  go_ret
  exact ⟨by first | rfl | exact ret_bool (by simp; omega), rfl⟩
theorem rwindow_1 (wd : Int) (w : World) (h0 : 1 ≤ wd) (h : 1048576 < wd) : Calls Try.prog 76 #[.int .i64 wd] w fun e w' => e = .returned (.bool false) ∧ w' = w := by
  go_enter Try.func76, Try.ntmps76
  go_wp2_with fail
  go_ret
  exact ⟨by first | rfl | exact ret_bool (by simp; omega), rfl⟩
theorem rwindow_2 (wd : Int) (w : World) (h0 : 1 ≤ wd) (h1 : wd ≤ 1048576) : Calls Try.prog 76 #[.int .i64 wd] w fun e w' => e = .returned (.bool true) ∧ w' = w := by
  go_enter Try.func76, Try.ntmps76
  go_wp2_with fail
  go_ret
  exact ⟨by first | rfl | exact ret_bool (by simp; omega), rfl⟩
theorem rwindow (wd : Int) (w : World) : Calls Try.prog 76 #[.int .i64 wd] w fun e w' => e = .returned (.bool (decide (1 ≤ wd ∧ wd ≤ 1048576))) ∧ w' = w := by
  by_cases h0 : 1 ≤ wd
  · skip
    by_cases h1 : wd ≤ 1048576
    · skip
      rw [show decide (1 ≤ wd ∧ wd ≤ 1048576) = true from decide_eq_true ⟨h0, h1⟩]
      exact rwindow_2 wd w h0 h1
    · rw [show decide (1 ≤ wd ∧ wd ≤ 1048576) = false from decide_eq_false (fun a => h1 a.2)]
      exact rwindow_1 wd w h0 (by omega)
  · rw [show decide (1 ≤ wd ∧ wd ≤ 1048576) = false from decide_eq_false (fun a => h0 a.1)]
    exact rwindow_0 wd w  (by omega)
theorem rtick_0 (now : Int) (w : World)  (h : now < 0) : Calls Try.prog 77 #[.int .i64 now] w fun e w' => e = .returned (.bool false) ∧ w' = w := by
  go_enter Try.func77, Try.ntmps77
  go_wp2_with fail
  go_ret
  exact ⟨by first | rfl | exact ret_bool (by simp; omega), rfl⟩
theorem rtick_1 (now : Int) (w : World) (h0 : 0 ≤ now) (h : 16777216 < now) : Calls Try.prog 77 #[.int .i64 now] w fun e w' => e = .returned (.bool false) ∧ w' = w := by
  go_enter Try.func77, Try.ntmps77
  go_wp2_with fail
  go_ret
  exact ⟨by first | rfl | exact ret_bool (by simp; omega), rfl⟩
theorem rtick_2 (now : Int) (w : World) (h0 : 0 ≤ now) (h1 : now ≤ 16777216) : Calls Try.prog 77 #[.int .i64 now] w fun e w' => e = .returned (.bool true) ∧ w' = w := by
  go_enter Try.func77, Try.ntmps77
  go_wp2_with fail
  go_ret
  exact ⟨by first | rfl | exact ret_bool (by simp; omega), rfl⟩
theorem rtick (now : Int) (w : World) : Calls Try.prog 77 #[.int .i64 now] w fun e w' => e = .returned (.bool (decide (0 ≤ now ∧ now ≤ 16777216))) ∧ w' = w := by
  by_cases h0 : 0 ≤ now
  · skip
    by_cases h1 : now ≤ 16777216
    · skip
      rw [show decide (0 ≤ now ∧ now ≤ 16777216) = true from decide_eq_true ⟨h0, h1⟩]
      exact rtick_2 now w h0 h1
    · rw [show decide (0 ≤ now ∧ now ≤ 16777216) = false from decide_eq_false (fun a => h1 a.2)]
      exact rtick_1 now w h0 (by omega)
  · rw [show decide (0 ≤ now ∧ now ≤ 16777216) = false from decide_eq_false (fun a => h0 a.1)]
    exact rtick_0 now w  (by omega)
theorem rmayk_0 (k : Int) (w : World)  (h : k < 1) : Calls Try.prog 42 #[.int .i64 k] w fun e w' => e = .returned (.bool false) ∧ w' = w := by
  go_enter Try.func42, Try.ntmps42
  go_wp2_with fail
  go_ret
  exact ⟨by first | rfl | exact ret_bool (by simp; omega), rfl⟩
theorem rmayk_1 (k : Int) (w : World) (h0 : 1 ≤ k) (h : 64 < k) : Calls Try.prog 42 #[.int .i64 k] w fun e w' => e = .returned (.bool false) ∧ w' = w := by
  go_enter Try.func42, Try.ntmps42
  go_wp2_with fail
  go_ret
  exact ⟨by first | rfl | exact ret_bool (by simp; omega), rfl⟩
theorem rmayk_2 (k : Int) (w : World) (h0 : 1 ≤ k) (h1 : k ≤ 64) : Calls Try.prog 42 #[.int .i64 k] w fun e w' => e = .returned (.bool true) ∧ w' = w := by
  go_enter Try.func42, Try.ntmps42
  go_wp2_with fail
  go_ret
  exact ⟨by first | rfl | exact ret_bool (by simp; omega), rfl⟩
theorem rmayk (k : Int) (w : World) : Calls Try.prog 42 #[.int .i64 k] w fun e w' => e = .returned (.bool (decide (1 ≤ k ∧ k ≤ 64))) ∧ w' = w := by
  by_cases h0 : 1 ≤ k
  · skip
    by_cases h1 : k ≤ 64
    · skip
      rw [show decide (1 ≤ k ∧ k ≤ 64) = true from decide_eq_true ⟨h0, h1⟩]
      exact rmayk_2 k w h0 h1
    · rw [show decide (1 ≤ k ∧ k ≤ 64) = false from decide_eq_false (fun a => h1 a.2)]
      exact rmayk_1 k w h0 (by omega)
  · rw [show decide (1 ≤ k ∧ k ≤ 64) = false from decide_eq_false (fun a => h0 a.1)]
    exact rmayk_0 k w  (by omega)
theorem rmay_0 (wd cap now : Int) (w : World)  (h : wd < 1) : Calls Try.prog 41 #[.int .i64 wd, .int .i64 cap, .int .i64 now] w fun e w' => e = .returned (.bool false) ∧ w' = w := by
  go_enter Try.func41, Try.ntmps41
  go_wp2_with (go_at_call 76; with_reducible refine ((rwindow_0 _ _ h)).mono ?_; rintro e w9 ⟨rfl, h9⟩; obtain rfl := h9.symm)
  go_ret
  exact ⟨by first | rfl | exact ret_bool (by simp; omega), rfl⟩
theorem rmay_1 (wd cap now : Int) (w : World) (h0 : 1 ≤ wd) (h : 1048576 < wd) : Calls Try.prog 41 #[.int .i64 wd, .int .i64 cap, .int .i64 now] w fun e w' => e = .returned (.bool false) ∧ w' = w := by
  go_enter Try.func41, Try.ntmps41
  go_wp2_with (go_at_call 76; with_reducible refine ((rwindow_1 _ _ h0 h)).mono ?_; rintro e w9 ⟨rfl, h9⟩; obtain rfl := h9.symm)
  go_ret
  exact ⟨by first | rfl | exact ret_bool (by simp; omega), rfl⟩
theorem rmay_2 (wd cap now : Int) (w : World) (h0 : 1 ≤ wd) (h1 : wd ≤ 1048576) (h : cap < 1) : Calls Try.prog 41 #[.int .i64 wd, .int .i64 cap, .int .i64 now] w fun e w' => e = .returned (.bool false) ∧ w' = w := by
  go_enter Try.func41, Try.ntmps41
  go_wp2_with (go_at_call 76; with_reducible refine ((rwindow_2 _ _ h0 h1)).mono ?_; rintro e w9 ⟨rfl, h9⟩; obtain rfl := h9.symm)
  go_ret
  exact ⟨by first | rfl | exact ret_bool (by simp; omega), rfl⟩
theorem rmay_3 (wd cap now : Int) (w : World) (h0 : 1 ≤ wd) (h1 : wd ≤ 1048576) (h2 : 1 ≤ cap) (h : 65536 < cap) : Calls Try.prog 41 #[.int .i64 wd, .int .i64 cap, .int .i64 now] w fun e w' => e = .returned (.bool false) ∧ w' = w := by
  go_enter Try.func41, Try.ntmps41
  go_wp2_with (go_at_call 76; with_reducible refine ((rwindow_2 _ _ h0 h1)).mono ?_; rintro e w9 ⟨rfl, h9⟩; obtain rfl := h9.symm)
  go_ret
  exact ⟨by first | rfl | exact ret_bool (by simp; omega), rfl⟩
theorem rmay_4 (wd cap now : Int) (w : World) (h0 : 1 ≤ wd) (h1 : wd ≤ 1048576) (h2 : 1 ≤ cap) (h3 : cap ≤ 65536) (h : now < 0) : Calls Try.prog 41 #[.int .i64 wd, .int .i64 cap, .int .i64 now] w fun e w' => e = .returned (.bool false) ∧ w' = w := by
  go_enter Try.func41, Try.ntmps41
  go_wp2_with (first | (go_at_call 76; with_reducible refine ((rwindow_2 _ _ h0 h1)).mono ?_; rintro e w9 ⟨rfl, h9⟩; obtain rfl := h9.symm) | (go_at_call 77; with_reducible refine ((rtick_0 _ _ h)).mono ?_; rintro e w9 ⟨rfl, h9⟩; obtain rfl := h9.symm))
  go_ret
  exact ⟨by first | rfl | exact ret_bool (by simp; omega), rfl⟩
theorem rmay_5 (wd cap now : Int) (w : World) (h0 : 1 ≤ wd) (h1 : wd ≤ 1048576) (h2 : 1 ≤ cap) (h3 : cap ≤ 65536) (h4 : 0 ≤ now) (h : 16777216 < now) : Calls Try.prog 41 #[.int .i64 wd, .int .i64 cap, .int .i64 now] w fun e w' => e = .returned (.bool false) ∧ w' = w := by
  go_enter Try.func41, Try.ntmps41
  go_wp2_with (first | (go_at_call 76; with_reducible refine ((rwindow_2 _ _ h0 h1)).mono ?_; rintro e w9 ⟨rfl, h9⟩; obtain rfl := h9.symm) | (go_at_call 77; with_reducible refine ((rtick_1 _ _ h4 h)).mono ?_; rintro e w9 ⟨rfl, h9⟩; obtain rfl := h9.symm))
  go_ret
  exact ⟨by first | rfl | exact ret_bool (by simp; omega), rfl⟩
theorem rmay_6 (wd cap now : Int) (w : World) (h0 : 1 ≤ wd) (h1 : wd ≤ 1048576) (h2 : 1 ≤ cap) (h3 : cap ≤ 65536) (h4 : 0 ≤ now) (h5 : now ≤ 16777216) : Calls Try.prog 41 #[.int .i64 wd, .int .i64 cap, .int .i64 now] w fun e w' => e = .returned (.bool true) ∧ w' = w := by
  go_enter Try.func41, Try.ntmps41
  go_wp2_with (first | (go_at_call 76; with_reducible refine ((rwindow_2 _ _ h0 h1)).mono ?_; rintro e w9 ⟨rfl, h9⟩; obtain rfl := h9.symm) | (go_at_call 77; with_reducible refine ((rtick_2 _ _ h4 h5)).mono ?_; rintro e w9 ⟨rfl, h9⟩; obtain rfl := h9.symm))
  go_ret
  exact ⟨by first | rfl | exact ret_bool (by simp; omega), rfl⟩
theorem rmay (wd cap now : Int) (w : World) : Calls Try.prog 41 #[.int .i64 wd, .int .i64 cap, .int .i64 now] w fun e w' => e = .returned (.bool (decide (1 ≤ wd ∧ wd ≤ 1048576 ∧ 1 ≤ cap ∧ cap ≤ 65536 ∧ 0 ≤ now ∧ now ≤ 16777216))) ∧ w' = w := by
  by_cases h0 : 1 ≤ wd
  · skip
    by_cases h1 : wd ≤ 1048576
    · skip
      by_cases h2 : 1 ≤ cap
      · skip
        by_cases h3 : cap ≤ 65536
        · skip
          by_cases h4 : 0 ≤ now
          · skip
            by_cases h5 : now ≤ 16777216
            · skip
              rw [show decide (1 ≤ wd ∧ wd ≤ 1048576 ∧ 1 ≤ cap ∧ cap ≤ 65536 ∧ 0 ≤ now ∧ now ≤ 16777216) = true from decide_eq_true ⟨h0, h1, h2, h3, h4, h5⟩]
              exact rmay_6 wd cap now w h0 h1 h2 h3 h4 h5
            · rw [show decide (1 ≤ wd ∧ wd ≤ 1048576 ∧ 1 ≤ cap ∧ cap ≤ 65536 ∧ 0 ≤ now ∧ now ≤ 16777216) = false from decide_eq_false (fun a => h5 a.2.2.2.2.2)]
              exact rmay_5 wd cap now w h0 h1 h2 h3 h4 (by omega)
          · rw [show decide (1 ≤ wd ∧ wd ≤ 1048576 ∧ 1 ≤ cap ∧ cap ≤ 65536 ∧ 0 ≤ now ∧ now ≤ 16777216) = false from decide_eq_false (fun a => h4 a.2.2.2.2.1)]
            exact rmay_4 wd cap now w h0 h1 h2 h3 (by omega)
        · rw [show decide (1 ≤ wd ∧ wd ≤ 1048576 ∧ 1 ≤ cap ∧ cap ≤ 65536 ∧ 0 ≤ now ∧ now ≤ 16777216) = false from decide_eq_false (fun a => h3 a.2.2.2.1)]
          exact rmay_3 wd cap now w h0 h1 h2 (by omega)
      · rw [show decide (1 ≤ wd ∧ wd ≤ 1048576 ∧ 1 ≤ cap ∧ cap ≤ 65536 ∧ 0 ≤ now ∧ now ≤ 16777216) = false from decide_eq_false (fun a => h2 a.2.2.1)]
        exact rmay_2 wd cap now w h0 h1 (by omega)
    · rw [show decide (1 ≤ wd ∧ wd ≤ 1048576 ∧ 1 ≤ cap ∧ cap ≤ 65536 ∧ 0 ≤ now ∧ now ≤ 16777216) = false from decide_eq_false (fun a => h1 a.2.1)]
      exact rmay_1 wd cap now w h0 (by omega)
  · rw [show decide (1 ≤ wd ∧ wd ≤ 1048576 ∧ 1 ≤ cap ∧ cap ≤ 65536 ∧ 0 ≤ now ∧ now ≤ 16777216) = false from decide_eq_false (fun a => h0 a.1)]
    exact rmay_0 wd cap now w  (by omega)
theorem rsamemarks_nil (w : World) : Calls Try.prog 49 #[.slice none 0 0, .slice none 0 0] w fun e w' => e = .returned (.bool true) ∧ w' = w := by
  go_enter Try.func49, Try.ntmps49
  go_wp2
  go_loopw [13] (fun i wr => i = .int .i64 0 ∧ wr = w) (fun _ _ => 0)
  case atStart => exact ⟨rfl, rfl⟩
  case round =>
    obtain ⟨rfl, rfl⟩ := hrel
    go_wp2
    go_ret
    exact ⟨rfl, rfl⟩
theorem nbits (x : Nat) (h : x < 9223372036854775808) (w : World) : Calls Try.prog 58 #[.int .i64 x] w fun e w' => e = .returned (.int .i64 (Lib.bitLen x : Nat)) ∧ w' = w := by
  have PL := fun w => len64 (x : Int) w (by omega) (by omega)
  rw [Int.toNat_natCast] at PL
  generalize Lib.bitLen x = b at PL ⊢
  have PL := Lib.hid PL
  have t0 : ¬ (x : Int) < 0 := by omega
  have wx : IntKind.u64.wrap (x : Int) = (x : Int) := IntWalk.u64_in _ (by omega)
  clear h
  go_enter Try.func58, Try.ntmps58
  go_wp2_with (go_at_call 83; with_reducible refine (PL.out _).mono ?_; rintro e w9 ⟨rfl, h9⟩; obtain rfl := h9.symm)
  go_ret
  exact ⟨rfl, rfl⟩
theorem rbits (x : Nat) (h : x < 9223372036854775808) (w : World) : Calls Try.prog 59 #[.int .i64 x] w fun e w' => e = .returned (.int .i64 (Lib.bitLen x : Nat)) ∧ w' = w := by
  have hl : Lib.bitLen x ≤ 64 := bits_le 64 x
  generalize hb : Lib.bitLen x = b at hl ⊢
  have HB := Lib.hid hb
  clear hb
  go_enter Try.func59, Try.ntmps59
  go_wp2
  go_loopw [0, 3] (fun n k wr => ∃ (y j : Nat), n = .int .i64 (y : Nat) ∧ k = .int .i64 (j : Nat) ∧ y < 9223372036854775808 ∧ j ≤ 64 ∧ RowKit.Hid (j + Lib.bitLen y = b) ∧ wr = w) (fun n _ _ => (intOf n).toNat)
  case atStart => exact ⟨x, 0, rfl, rfl, h, by omega, Lib.hid (by rw [HB.out]; omega), rfl⟩
  case round =>
    obtain ⟨y, j, rfl, rfl, hy, hj, HS, rfl⟩ := hrel
    by_cases hz : y = 0
    · subst hz
      have hs := HS.out
      rw [bits_zero] at hs
      have hs : j = b := by omega
      subst hs
      go_wp2
      go_ret
      exact ⟨rfl, rfl⟩
    · have hs := bits_step hz (by omega)
      have hs2 := HS.out
      have t0 : (0 : Int) < (y : Int) := by omega
      have td : IntKind.i64.wrap ((y : Int).tdiv 2) = ((y / 2 : Nat) : Int) := by
        rw [Int.tdiv_eq_ediv_of_nonneg (by omega), IntWalk.i64_in _ (by omega)]
        omega
      have HS2 : RowKit.Hid ((j + 1) + Lib.bitLen (y / 2) = b) := Lib.hid (by omega)
      have hjb : j + 1 ≤ 64 := by omega
      clear hs hs2
      go_wp2
      go_roundw
      case rel => exact ⟨y / 2, j + 1, rfl, by go_num, by omega, hjb, HS2, by trivial⟩
      case measure => simp [intOf]; omega
def mostV (k cap : Int) : Int := (if 1 ≤ k ∧ k ≤ 64 ∧ 1 ≤ cap ∧ cap ≤ 65536 then 12 * k * (3 * (Lib.bitLen cap.toNat : Nat) + 24) + 4 else 0)
theorem most_small {k b : Int} (h0 : 1 ≤ k) (h1 : k ≤ 64) (h2 : 0 ≤ b) (h3 : b ≤ 64) : 0 ≤ 12 * k * (3 * b + 24) ∧ 12 * k * (3 * b + 24) ≤ 165888 := by
  constructor
  · exact Int.mul_nonneg (by omega) (by omega)
  · have : 12 * k * (3 * b + 24) ≤ 768 * 216 := Int.mul_le_mul (by omega) (by omega) (by omega) (by decide)
    exact this
end Go.Proofs.Ythknkdjpfanlnaa
