/- Spreads of marks: which marks have one, walked. -/
import Derived.Test.YtaiepjcnncajcaaMathSpr
import Derived.Test.YtaiepjcnncajcaaGcd
import Derived.Test.YtaiepjcnncajcaaVec
import Derived.Lib.Hide
import Derived.Deep.Cut
import Derived.IntWalk
set_option linter.unusedVariables false
set_option linter.unusedSimpArgs false
set_option linter.unusedSectionVars false
set_option linter.unnecessarySimpa false
namespace Go.Proofs.Ytaiepjcnncajcaa
open Go.RowKit Go.Shelf
theorem ret_i64 {k : IntKind} {a b : Int} (h : a = b) : Ending.returned (.int k a) = .returned (.int k b) := by rw [h]
theorem ret_bool {a b : Bool} (h : a = b) : Ending.returned (.bool a) = .returned (.bool b) := by rw [h]
theorem pright_0 (sq tk n s q lw hg : Int) (w : World)  (h : n < 1) : Calls Try.prog 44 #[.agg #[.int .i64 sq, .int .i64 tk, .int .i64 n, .int .i64 s, .int .i64 q, .int .i64 lw, .int .i64 hg]] w fun e w' => e = .returned (.bool false) ∧ Below w.heap.size w w' := by
  go_enter Try.func44, Try.ntmps44
  go_wp2
  go_ret
  exact ⟨by first | rfl | exact ret_bool (by simp; omega), by (repeat (first | exact Below.refl _ _ | refine Below.setCell ?_ (by first | (simp; done) | (simp; omega) | omega) _ | refine Below.alloc ?_ (by first | (simp; done) | (simp; omega) | omega) _ | refine Below.drew ?_ | refine Below.trans ?_ (Below.mono (by assumption) (by first | (simp; done) | (simp; omega) | omega))))⟩
theorem pright_1 (sq tk n s q lw hg : Int) (w : World) (h0 : 1 ≤ n) (h : 65536 < n) : Calls Try.prog 44 #[.agg #[.int .i64 sq, .int .i64 tk, .int .i64 n, .int .i64 s, .int .i64 q, .int .i64 lw, .int .i64 hg]] w fun e w' => e = .returned (.bool false) ∧ Below w.heap.size w w' := by
  go_enter Try.func44, Try.ntmps44
  go_wp2
  go_ret
  exact ⟨by first | rfl | exact ret_bool (by simp; omega), by (repeat (first | exact Below.refl _ _ | refine Below.setCell ?_ (by first | (simp; done) | (simp; omega) | omega) _ | refine Below.alloc ?_ (by first | (simp; done) | (simp; omega) | omega) _ | refine Below.drew ?_ | refine Below.trans ?_ (Below.mono (by assumption) (by first | (simp; done) | (simp; omega) | omega))))⟩
theorem pright_2 (sq tk n s q lw hg : Int) (w : World) (h0 : 1 ≤ n) (h1 : n ≤ 65536) (h : s < -n * 4096) : Calls Try.prog 44 #[.agg #[.int .i64 sq, .int .i64 tk, .int .i64 n, .int .i64 s, .int .i64 q, .int .i64 lw, .int .i64 hg]] w fun e w' => e = .returned (.bool false) ∧ Below w.heap.size w w' := by
  have wn : IntKind.i64.wrap (-n) = -n := IntWalk.i64_in _ (by omega)
  have wnm : IntKind.i64.wrap (-n * 4096) = -n * 4096 := IntWalk.i64_in _ (by omega)
  have wn2 : IntKind.i64.wrap (n * 4096) = n * 4096 := IntWalk.i64_in _ (by omega)
  have wn3 : IntKind.i64.wrap (n * 4096 * 4096) = n * 4096 * 4096 := IntWalk.i64_in _ (by omega)
  go_enter Try.func44, Try.ntmps44
  go_wp2
  go_ret
  exact ⟨by first | rfl | exact ret_bool (by simp; omega), by (repeat (first | exact Below.refl _ _ | refine Below.setCell ?_ (by first | (simp; done) | (simp; omega) | omega) _ | refine Below.alloc ?_ (by first | (simp; done) | (simp; omega) | omega) _ | refine Below.drew ?_ | refine Below.trans ?_ (Below.mono (by assumption) (by first | (simp; done) | (simp; omega) | omega))))⟩
theorem pright_3 (sq tk n s q lw hg : Int) (w : World) (h0 : 1 ≤ n) (h1 : n ≤ 65536) (h2 : -n * 4096 ≤ s) (h : n * 4096 < s) : Calls Try.prog 44 #[.agg #[.int .i64 sq, .int .i64 tk, .int .i64 n, .int .i64 s, .int .i64 q, .int .i64 lw, .int .i64 hg]] w fun e w' => e = .returned (.bool false) ∧ Below w.heap.size w w' := by
  have wn : IntKind.i64.wrap (-n) = -n := IntWalk.i64_in _ (by omega)
  have wnm : IntKind.i64.wrap (-n * 4096) = -n * 4096 := IntWalk.i64_in _ (by omega)
  have wn2 : IntKind.i64.wrap (n * 4096) = n * 4096 := IntWalk.i64_in _ (by omega)
  have wn3 : IntKind.i64.wrap (n * 4096 * 4096) = n * 4096 * 4096 := IntWalk.i64_in _ (by omega)
  go_enter Try.func44, Try.ntmps44
  go_wp2
  go_ret
  exact ⟨by first | rfl | exact ret_bool (by simp; omega), by (repeat (first | exact Below.refl _ _ | refine Below.setCell ?_ (by first | (simp; done) | (simp; omega) | omega) _ | refine Below.alloc ?_ (by first | (simp; done) | (simp; omega) | omega) _ | refine Below.drew ?_ | refine Below.trans ?_ (Below.mono (by assumption) (by first | (simp; done) | (simp; omega) | omega))))⟩
theorem pright_4 (sq tk n s q lw hg : Int) (w : World) (h0 : 1 ≤ n) (h1 : n ≤ 65536) (h2 : -n * 4096 ≤ s) (h3 : s ≤ n * 4096) (h : q < 0) : Calls Try.prog 44 #[.agg #[.int .i64 sq, .int .i64 tk, .int .i64 n, .int .i64 s, .int .i64 q, .int .i64 lw, .int .i64 hg]] w fun e w' => e = .returned (.bool false) ∧ Below w.heap.size w w' := by
  have wn : IntKind.i64.wrap (-n) = -n := IntWalk.i64_in _ (by omega)
  have wnm : IntKind.i64.wrap (-n * 4096) = -n * 4096 := IntWalk.i64_in _ (by omega)
  have wn2 : IntKind.i64.wrap (n * 4096) = n * 4096 := IntWalk.i64_in _ (by omega)
  have wn3 : IntKind.i64.wrap (n * 4096 * 4096) = n * 4096 * 4096 := IntWalk.i64_in _ (by omega)
  go_enter Try.func44, Try.ntmps44
  go_wp2
  go_ret
  exact ⟨by first | rfl | exact ret_bool (by simp; omega), by (repeat (first | exact Below.refl _ _ | refine Below.setCell ?_ (by first | (simp; done) | (simp; omega) | omega) _ | refine Below.alloc ?_ (by first | (simp; done) | (simp; omega) | omega) _ | refine Below.drew ?_ | refine Below.trans ?_ (Below.mono (by assumption) (by first | (simp; done) | (simp; omega) | omega))))⟩
theorem pright_5 (sq tk n s q lw hg : Int) (w : World) (h0 : 1 ≤ n) (h1 : n ≤ 65536) (h2 : -n * 4096 ≤ s) (h3 : s ≤ n * 4096) (h4 : 0 ≤ q) (h : n * 4096 * 4096 < q) : Calls Try.prog 44 #[.agg #[.int .i64 sq, .int .i64 tk, .int .i64 n, .int .i64 s, .int .i64 q, .int .i64 lw, .int .i64 hg]] w fun e w' => e = .returned (.bool false) ∧ Below w.heap.size w w' := by
  have wn : IntKind.i64.wrap (-n) = -n := IntWalk.i64_in _ (by omega)
  have wnm : IntKind.i64.wrap (-n * 4096) = -n * 4096 := IntWalk.i64_in _ (by omega)
  have wn2 : IntKind.i64.wrap (n * 4096) = n * 4096 := IntWalk.i64_in _ (by omega)
  have wn3 : IntKind.i64.wrap (n * 4096 * 4096) = n * 4096 * 4096 := IntWalk.i64_in _ (by omega)
  go_enter Try.func44, Try.ntmps44
  go_wp2
  go_ret
  exact ⟨by first | rfl | exact ret_bool (by simp; omega), by (repeat (first | exact Below.refl _ _ | refine Below.setCell ?_ (by first | (simp; done) | (simp; omega) | omega) _ | refine Below.alloc ?_ (by first | (simp; done) | (simp; omega) | omega) _ | refine Below.drew ?_ | refine Below.trans ?_ (Below.mono (by assumption) (by first | (simp; done) | (simp; omega) | omega))))⟩
theorem pright_6 (sq tk n s q lw hg : Int) (w : World) (h0 : 1 ≤ n) (h1 : n ≤ 65536) (h2 : -n * 4096 ≤ s) (h3 : s ≤ n * 4096) (h4 : 0 ≤ q) (h5 : q ≤ n * 4096 * 4096) (h : n * q < s * s) : Calls Try.prog 44 #[.agg #[.int .i64 sq, .int .i64 tk, .int .i64 n, .int .i64 s, .int .i64 q, .int .i64 lw, .int .i64 hg]] w fun e w' => e = .returned (.bool false) ∧ Below w.heap.size w w' := by
  have wn : IntKind.i64.wrap (-n) = -n := IntWalk.i64_in _ (by omega)
  have wnm : IntKind.i64.wrap (-n * 4096) = -n * 4096 := IntWalk.i64_in _ (by omega)
  have wn2 : IntKind.i64.wrap (n * 4096) = n * 4096 := IntWalk.i64_in _ (by omega)
  have wn3 : IntKind.i64.wrap (n * 4096 * 4096) = n * 4096 * 4096 := IntWalk.i64_in _ (by omega)
  have b1 := sq_small h0 h1 h2 h3
  have b2 := nq_small h0 h1 h4 h5
  have wss : IntKind.i64.wrap (s * s) = s * s := IntWalk.i64_in _ (by omega)
  have wnq : IntKind.i64.wrap (n * q) = n * q := IntWalk.i64_in _ (by omega)
  go_enter Try.func44, Try.ntmps44
  go_wp2
  go_ret
  exact ⟨by first | rfl | exact ret_bool (decide_eq_false (Int.not_le.2 h)) | exact ret_bool (by simp [h0, h1, h2, h3, h4, h5, h]) | exact ret_bool (by simp; omega), by (repeat (first | exact Below.refl _ _ | refine Below.setCell ?_ (by first | (simp; done) | (simp; omega) | omega) _ | refine Below.alloc ?_ (by first | (simp; done) | (simp; omega) | omega) _ | refine Below.drew ?_ | refine Below.trans ?_ (Below.mono (by assumption) (by first | (simp; done) | (simp; omega) | omega))))⟩
theorem pright_7 (sq tk n s q lw hg : Int) (w : World) (h0 : 1 ≤ n) (h1 : n ≤ 65536) (h2 : -n * 4096 ≤ s) (h3 : s ≤ n * 4096) (h4 : 0 ≤ q) (h5 : q ≤ n * 4096 * 4096) (h6 : s * s ≤ n * q) : Calls Try.prog 44 #[.agg #[.int .i64 sq, .int .i64 tk, .int .i64 n, .int .i64 s, .int .i64 q, .int .i64 lw, .int .i64 hg]] w fun e w' => e = .returned (.bool true) ∧ Below w.heap.size w w' := by
  have wn : IntKind.i64.wrap (-n) = -n := IntWalk.i64_in _ (by omega)
  have wnm : IntKind.i64.wrap (-n * 4096) = -n * 4096 := IntWalk.i64_in _ (by omega)
  have wn2 : IntKind.i64.wrap (n * 4096) = n * 4096 := IntWalk.i64_in _ (by omega)
  have wn3 : IntKind.i64.wrap (n * 4096 * 4096) = n * 4096 * 4096 := IntWalk.i64_in _ (by omega)
  have b1 := sq_small h0 h1 h2 h3
  have b2 := nq_small h0 h1 h4 h5
  have wss : IntKind.i64.wrap (s * s) = s * s := IntWalk.i64_in _ (by omega)
  have wnq : IntKind.i64.wrap (n * q) = n * q := IntWalk.i64_in _ (by omega)
  go_enter Try.func44, Try.ntmps44
  go_wp2
  go_ret
  exact ⟨by first | rfl | exact ret_bool (decide_eq_true h6) | exact ret_bool (by simp [h0, h1, h2, h3, h4, h5, h6]) | exact ret_bool (by simp; omega), by (repeat (first | exact Below.refl _ _ | refine Below.setCell ?_ (by first | (simp; done) | (simp; omega) | omega) _ | refine Below.alloc ?_ (by first | (simp; done) | (simp; omega) | omega) _ | refine Below.drew ?_ | refine Below.trans ?_ (Below.mono (by assumption) (by first | (simp; done) | (simp; omega) | omega))))⟩
theorem pright (sq tk n s q lw hg : Int) (w : World) : Calls Try.prog 44 #[.agg #[.int .i64 sq, .int .i64 tk, .int .i64 n, .int .i64 s, .int .i64 q, .int .i64 lw, .int .i64 hg]] w fun e w' => e = .returned (.bool (decide (rightP n s q))) ∧ Below w.heap.size w w' := by
  by_cases h0 : 1 ≤ n
  · skip
    by_cases h1 : n ≤ 65536
    · skip
      by_cases h2 : -n * 4096 ≤ s
      · skip
        by_cases h3 : s ≤ n * 4096
        · skip
          by_cases h4 : 0 ≤ q
          · skip
            by_cases h5 : q ≤ n * 4096 * 4096
            · skip
              by_cases h6 : s * s ≤ n * q
              · skip
                rw [show decide (rightP n s q) = true from decide_eq_true ⟨h0, h1, h2, h3, h4, h5, h6⟩]
                exact pright_7 sq tk n s q lw hg w h0 h1 h2 h3 h4 h5 h6
              · rw [show decide (rightP n s q) = false from decide_eq_false (fun a => h6 a.2.2.2.2.2.2)]
                exact pright_6 sq tk n s q lw hg w h0 h1 h2 h3 h4 h5 (Int.not_le.1 h6)
            · rw [show decide (rightP n s q) = false from decide_eq_false (fun a => h5 a.2.2.2.2.2.1)]
              exact pright_5 sq tk n s q lw hg w h0 h1 h2 h3 h4 (Int.not_le.1 h5)
          · rw [show decide (rightP n s q) = false from decide_eq_false (fun a => h4 a.2.2.2.2.1)]
            exact pright_4 sq tk n s q lw hg w h0 h1 h2 h3 (Int.not_le.1 h4)
        · rw [show decide (rightP n s q) = false from decide_eq_false (fun a => h3 a.2.2.2.1)]
          exact pright_3 sq tk n s q lw hg w h0 h1 h2 (Int.not_le.1 h3)
      · rw [show decide (rightP n s q) = false from decide_eq_false (fun a => h2 a.2.2.1)]
        exact pright_2 sq tk n s q lw hg w h0 h1 (Int.not_le.1 h2)
    · rw [show decide (rightP n s q) = false from decide_eq_false (fun a => h1 a.2.1)]
      exact pright_1 sq tk n s q lw hg w h0 (Int.not_le.1 h1)
  · rw [show decide (rightP n s q) = false from decide_eq_false (fun a => h0 a.1)]
    exact pright_0 sq tk n s q lw hg w  (Int.not_le.1 h0)
theorem rright_0 (sq tk n s q lw hg : Int) (w : World)  (h : n < 1) : Calls Try.prog 47 #[.agg #[.int .i64 sq, .int .i64 tk, .int .i64 n, .int .i64 s, .int .i64 q, .int .i64 lw, .int .i64 hg]] w fun e w' => e = .returned (.bool false) ∧ Below w.heap.size w w' := by
  go_enter Try.func47, Try.ntmps47
  go_wp2
  go_ret
  exact ⟨by first | rfl | exact ret_bool (by simp; omega), by (repeat (first | exact Below.refl _ _ | refine Below.setCell ?_ (by first | (simp; done) | (simp; omega) | omega) _ | refine Below.alloc ?_ (by first | (simp; done) | (simp; omega) | omega) _ | refine Below.drew ?_ | refine Below.trans ?_ (Below.mono (by assumption) (by first | (simp; done) | (simp; omega) | omega))))⟩
theorem rright_1 (sq tk n s q lw hg : Int) (w : World) (h0 : 1 ≤ n) (h : 65536 < n) : Calls Try.prog 47 #[.agg #[.int .i64 sq, .int .i64 tk, .int .i64 n, .int .i64 s, .int .i64 q, .int .i64 lw, .int .i64 hg]] w fun e w' => e = .returned (.bool false) ∧ Below w.heap.size w w' := by
  go_enter Try.func47, Try.ntmps47
  go_wp2
  go_ret
  exact ⟨by first | rfl | exact ret_bool (by simp; omega), by (repeat (first | exact Below.refl _ _ | refine Below.setCell ?_ (by first | (simp; done) | (simp; omega) | omega) _ | refine Below.alloc ?_ (by first | (simp; done) | (simp; omega) | omega) _ | refine Below.drew ?_ | refine Below.trans ?_ (Below.mono (by assumption) (by first | (simp; done) | (simp; omega) | omega))))⟩
theorem rright_2 (sq tk n s q lw hg : Int) (w : World) (h0 : 1 ≤ n) (h1 : n ≤ 65536) (h : s < -n * 4096) : Calls Try.prog 47 #[.agg #[.int .i64 sq, .int .i64 tk, .int .i64 n, .int .i64 s, .int .i64 q, .int .i64 lw, .int .i64 hg]] w fun e w' => e = .returned (.bool false) ∧ Below w.heap.size w w' := by
  have wn : IntKind.i64.wrap (-n) = -n := IntWalk.i64_in _ (by omega)
  have wnm : IntKind.i64.wrap (-n * 4096) = -n * 4096 := IntWalk.i64_in _ (by omega)
  have wn2 : IntKind.i64.wrap (n * 4096) = n * 4096 := IntWalk.i64_in _ (by omega)
  have wn3 : IntKind.i64.wrap (n * 4096 * 4096) = n * 4096 * 4096 := IntWalk.i64_in _ (by omega)
  go_enter Try.func47, Try.ntmps47
  go_wp2
  go_ret
  exact ⟨by first | rfl | exact ret_bool (by simp; omega), by (repeat (first | exact Below.refl _ _ | refine Below.setCell ?_ (by first | (simp; done) | (simp; omega) | omega) _ | refine Below.alloc ?_ (by first | (simp; done) | (simp; omega) | omega) _ | refine Below.drew ?_ | refine Below.trans ?_ (Below.mono (by assumption) (by first | (simp; done) | (simp; omega) | omega))))⟩
theorem rright_3 (sq tk n s q lw hg : Int) (w : World) (h0 : 1 ≤ n) (h1 : n ≤ 65536) (h2 : -n * 4096 ≤ s) (h : n * 4096 < s) : Calls Try.prog 47 #[.agg #[.int .i64 sq, .int .i64 tk, .int .i64 n, .int .i64 s, .int .i64 q, .int .i64 lw, .int .i64 hg]] w fun e w' => e = .returned (.bool false) ∧ Below w.heap.size w w' := by
  have wn : IntKind.i64.wrap (-n) = -n := IntWalk.i64_in _ (by omega)
  have wnm : IntKind.i64.wrap (-n * 4096) = -n * 4096 := IntWalk.i64_in _ (by omega)
  have wn2 : IntKind.i64.wrap (n * 4096) = n * 4096 := IntWalk.i64_in _ (by omega)
  have wn3 : IntKind.i64.wrap (n * 4096 * 4096) = n * 4096 * 4096 := IntWalk.i64_in _ (by omega)
  go_enter Try.func47, Try.ntmps47
  go_wp2
  go_ret
  exact ⟨by first | rfl | exact ret_bool (by simp; omega), by (repeat (first | exact Below.refl _ _ | refine Below.setCell ?_ (by first | (simp; done) | (simp; omega) | omega) _ | refine Below.alloc ?_ (by first | (simp; done) | (simp; omega) | omega) _ | refine Below.drew ?_ | refine Below.trans ?_ (Below.mono (by assumption) (by first | (simp; done) | (simp; omega) | omega))))⟩
theorem rright_4 (sq tk n s q lw hg : Int) (w : World) (h0 : 1 ≤ n) (h1 : n ≤ 65536) (h2 : -n * 4096 ≤ s) (h3 : s ≤ n * 4096) (h : q < 0) : Calls Try.prog 47 #[.agg #[.int .i64 sq, .int .i64 tk, .int .i64 n, .int .i64 s, .int .i64 q, .int .i64 lw, .int .i64 hg]] w fun e w' => e = .returned (.bool false) ∧ Below w.heap.size w w' := by
  have wn : IntKind.i64.wrap (-n) = -n := IntWalk.i64_in _ (by omega)
  have wnm : IntKind.i64.wrap (-n * 4096) = -n * 4096 := IntWalk.i64_in _ (by omega)
  have wn2 : IntKind.i64.wrap (n * 4096) = n * 4096 := IntWalk.i64_in _ (by omega)
  have wn3 : IntKind.i64.wrap (n * 4096 * 4096) = n * 4096 * 4096 := IntWalk.i64_in _ (by omega)
  go_enter Try.func47, Try.ntmps47
  go_wp2
  go_ret
  exact ⟨by first | rfl | exact ret_bool (by simp; omega), by (repeat (first | exact Below.refl _ _ | refine Below.setCell ?_ (by first | (simp; done) | (simp; omega) | omega) _ | refine Below.alloc ?_ (by first | (simp; done) | (simp; omega) | omega) _ | refine Below.drew ?_ | refine Below.trans ?_ (Below.mono (by assumption) (by first | (simp; done) | (simp; omega) | omega))))⟩
theorem rright_5 (sq tk n s q lw hg : Int) (w : World) (h0 : 1 ≤ n) (h1 : n ≤ 65536) (h2 : -n * 4096 ≤ s) (h3 : s ≤ n * 4096) (h4 : 0 ≤ q) (h : n * 4096 * 4096 < q) : Calls Try.prog 47 #[.agg #[.int .i64 sq, .int .i64 tk, .int .i64 n, .int .i64 s, .int .i64 q, .int .i64 lw, .int .i64 hg]] w fun e w' => e = .returned (.bool false) ∧ Below w.heap.size w w' := by
  have wn : IntKind.i64.wrap (-n) = -n := IntWalk.i64_in _ (by omega)
  have wnm : IntKind.i64.wrap (-n * 4096) = -n * 4096 := IntWalk.i64_in _ (by omega)
  have wn2 : IntKind.i64.wrap (n * 4096) = n * 4096 := IntWalk.i64_in _ (by omega)
  have wn3 : IntKind.i64.wrap (n * 4096 * 4096) = n * 4096 * 4096 := IntWalk.i64_in _ (by omega)
  go_enter Try.func47, Try.ntmps47
  go_wp2
  go_ret
  exact ⟨by first | rfl | exact ret_bool (by simp; omega), by (repeat (first | exact Below.refl _ _ | refine Below.setCell ?_ (by first | (simp; done) | (simp; omega) | omega) _ | refine Below.alloc ?_ (by first | (simp; done) | (simp; omega) | omega) _ | refine Below.drew ?_ | refine Below.trans ?_ (Below.mono (by assumption) (by first | (simp; done) | (simp; omega) | omega))))⟩
theorem rright_6 (sq tk n s q lw hg : Int) (w : World) (h0 : 1 ≤ n) (h1 : n ≤ 65536) (h2 : -n * 4096 ≤ s) (h3 : s ≤ n * 4096) (h4 : 0 ≤ q) (h5 : q ≤ n * 4096 * 4096) (h : n * q < s * s) : Calls Try.prog 47 #[.agg #[.int .i64 sq, .int .i64 tk, .int .i64 n, .int .i64 s, .int .i64 q, .int .i64 lw, .int .i64 hg]] w fun e w' => e = .returned (.bool false) ∧ Below w.heap.size w w' := by
  have wn : IntKind.i64.wrap (-n) = -n := IntWalk.i64_in _ (by omega)
  have wnm : IntKind.i64.wrap (-n * 4096) = -n * 4096 := IntWalk.i64_in _ (by omega)
  have wn2 : IntKind.i64.wrap (n * 4096) = n * 4096 := IntWalk.i64_in _ (by omega)
  have wn3 : IntKind.i64.wrap (n * 4096 * 4096) = n * 4096 * 4096 := IntWalk.i64_in _ (by omega)
  have b1 := sq_small h0 h1 h2 h3
  have b2 := nq_small h0 h1 h4 h5
  have wss : IntKind.i64.wrap (s * s) = s * s := IntWalk.i64_in _ (by omega)
  have wnq : IntKind.i64.wrap (n * q) = n * q := IntWalk.i64_in _ (by omega)
  go_enter Try.func47, Try.ntmps47
  go_wp2
  go_ret
  exact ⟨by first | rfl | exact ret_bool (decide_eq_false (Int.not_le.2 h)) | exact ret_bool (by simp [h0, h1, h2, h3, h4, h5, h]) | exact ret_bool (by simp; omega), by (repeat (first | exact Below.refl _ _ | refine Below.setCell ?_ (by first | (simp; done) | (simp; omega) | omega) _ | refine Below.alloc ?_ (by first | (simp; done) | (simp; omega) | omega) _ | refine Below.drew ?_ | refine Below.trans ?_ (Below.mono (by assumption) (by first | (simp; done) | (simp; omega) | omega))))⟩
theorem rright_7 (sq tk n s q lw hg : Int) (w : World) (h0 : 1 ≤ n) (h1 : n ≤ 65536) (h2 : -n * 4096 ≤ s) (h3 : s ≤ n * 4096) (h4 : 0 ≤ q) (h5 : q ≤ n * 4096 * 4096) (h6 : s * s ≤ n * q) : Calls Try.prog 47 #[.agg #[.int .i64 sq, .int .i64 tk, .int .i64 n, .int .i64 s, .int .i64 q, .int .i64 lw, .int .i64 hg]] w fun e w' => e = .returned (.bool true) ∧ Below w.heap.size w w' := by
  have wn : IntKind.i64.wrap (-n) = -n := IntWalk.i64_in _ (by omega)
  have wnm : IntKind.i64.wrap (-n * 4096) = -n * 4096 := IntWalk.i64_in _ (by omega)
  have wn2 : IntKind.i64.wrap (n * 4096) = n * 4096 := IntWalk.i64_in _ (by omega)
  have wn3 : IntKind.i64.wrap (n * 4096 * 4096) = n * 4096 * 4096 := IntWalk.i64_in _ (by omega)
  have b1 := sq_small h0 h1 h2 h3
  have b2 := nq_small h0 h1 h4 h5
  have wss : IntKind.i64.wrap (s * s) = s * s := IntWalk.i64_in _ (by omega)
  have wnq : IntKind.i64.wrap (n * q) = n * q := IntWalk.i64_in _ (by omega)
  go_enter Try.func47, Try.ntmps47
  go_wp2
  go_ret
  exact ⟨by first | rfl | exact ret_bool (decide_eq_true h6) | exact ret_bool (by simp [h0, h1, h2, h3, h4, h5, h6]) | exact ret_bool (by simp; omega), by (repeat (first | exact Below.refl _ _ | refine Below.setCell ?_ (by first | (simp; done) | (simp; omega) | omega) _ | refine Below.alloc ?_ (by first | (simp; done) | (simp; omega) | omega) _ | refine Below.drew ?_ | refine Below.trans ?_ (Below.mono (by assumption) (by first | (simp; done) | (simp; omega) | omega))))⟩
theorem rright (sq tk n s q lw hg : Int) (w : World) : Calls Try.prog 47 #[.agg #[.int .i64 sq, .int .i64 tk, .int .i64 n, .int .i64 s, .int .i64 q, .int .i64 lw, .int .i64 hg]] w fun e w' => e = .returned (.bool (decide (rightP n s q))) ∧ Below w.heap.size w w' := by
  by_cases h0 : 1 ≤ n
  · skip
    by_cases h1 : n ≤ 65536
    · skip
      by_cases h2 : -n * 4096 ≤ s
      · skip
        by_cases h3 : s ≤ n * 4096
        · skip
          by_cases h4 : 0 ≤ q
          · skip
            by_cases h5 : q ≤ n * 4096 * 4096
            · skip
              by_cases h6 : s * s ≤ n * q
              · skip
                rw [show decide (rightP n s q) = true from decide_eq_true ⟨h0, h1, h2, h3, h4, h5, h6⟩]
                exact rright_7 sq tk n s q lw hg w h0 h1 h2 h3 h4 h5 h6
              · rw [show decide (rightP n s q) = false from decide_eq_false (fun a => h6 a.2.2.2.2.2.2)]
                exact rright_6 sq tk n s q lw hg w h0 h1 h2 h3 h4 h5 (Int.not_le.1 h6)
            · rw [show decide (rightP n s q) = false from decide_eq_false (fun a => h5 a.2.2.2.2.2.1)]
              exact rright_5 sq tk n s q lw hg w h0 h1 h2 h3 h4 (Int.not_le.1 h5)
          · rw [show decide (rightP n s q) = false from decide_eq_false (fun a => h4 a.2.2.2.2.1)]
            exact rright_4 sq tk n s q lw hg w h0 h1 h2 h3 (Int.not_le.1 h4)
        · rw [show decide (rightP n s q) = false from decide_eq_false (fun a => h3 a.2.2.2.1)]
          exact rright_3 sq tk n s q lw hg w h0 h1 h2 (Int.not_le.1 h3)
      · rw [show decide (rightP n s q) = false from decide_eq_false (fun a => h2 a.2.2.1)]
        exact rright_2 sq tk n s q lw hg w h0 h1 (Int.not_le.1 h2)
    · rw [show decide (rightP n s q) = false from decide_eq_false (fun a => h1 a.2.1)]
      exact rright_1 sq tk n s q lw hg w h0 (Int.not_le.1 h1)
  · rw [show decide (rightP n s q) = false from decide_eq_false (fun a => h0 a.1)]
    exact rright_0 sq tk n s q lw hg w  (Int.not_le.1 h0)
end Go.Proofs.Ytaiepjcnncajcaa
