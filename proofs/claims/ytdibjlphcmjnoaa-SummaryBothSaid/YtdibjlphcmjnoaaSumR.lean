/- Summaries of a stream: the reference's check, walked. -/
import Derived.Test.YtdibjlphcmjnoaaSumQ
import Derived.Test.YtdibjlphcmjnoaaSym
set_option linter.unusedVariables false
set_option linter.unusedSimpArgs false
set_option linter.unusedSectionVars false
set_option linter.unnecessarySimpa false
namespace Go.Proofs.Ytdibjlphcmjnoaa
open Go.RowKit
theorem chkA {v g d n M W : Int} {EL Z0 G1 X0 X1 X2 X3 X4 X5 X7 X8 : Bool} (h0 : X0 = decide (-4096 ≤ v ∧ v ≤ 4096)) (h1 : X1 = (X0 && !decide (g < 1))) (h2 : X2 = (X1 && !decide (n < g))) (h3 : X3 = (X2 && !decide (d < 0))) (h4 : X4 = (X3 && !decide (n < d)))
    (h5 : X5 = (X4 && !decide (M < W))) (h7 : X7 = (X5 && !(G1 || Z0))) (h8 : X8 = (X7 && !(EL && Z0))) : X8 = true ↔ ((-4096 ≤ v ∧ v ≤ 4096) ∧ 1 ≤ g ∧ g ≤ n ∧ 0 ≤ d ∧ d ≤ n ∧ W ≤ M ∧ G1 = false ∧ Z0 = false) := by
  subst h8 h7 h5 h4 h3 h2 h1 h0
  cases EL <;> cases Z0 <;> cases G1 <;> simp [Int.not_lt, and_assoc] <;> omega
theorem chkB {v g d n M W pv : Int} {EL Z0 X0 X1 X2 X3 X4 X5 X6 X8 : Bool} (h0 : X0 = decide (-4096 ≤ v ∧ v ≤ 4096)) (h1 : X1 = (X0 && !decide (g < 1))) (h2 : X2 = (X1 && !decide (n < g))) (h3 : X3 = (X2 && !decide (d < 0))) (h4 : X4 = (X3 && !decide (n < d)))
    (h5 : X5 = (X4 && !decide (M < W))) (h6 : X6 = (X5 && !decide (v < pv))) (h8 : X8 = (X6 && !(EL && Z0))) : X8 = true ↔ ((-4096 ≤ v ∧ v ≤ 4096) ∧ 1 ≤ g ∧ g ≤ n ∧ 0 ≤ d ∧ d ≤ n ∧ W ≤ M ∧ pv ≤ v ∧ (EL = true → Z0 = false)) := by
  subst h8 h6 h5 h4 h3 h2 h1 h0
  cases EL <;> cases Z0 <;> simp [Int.not_lt, and_assoc] <;> omega
set_option maxRecDepth 100000 in
theorem rsval_k0 (k cap n : Int) (A : Option Addr) (m c : Nat) (ts : List Tup) (w : World) (hin : SIn k cap n A m c ts w) (h : k < 1) : Calls Try.prog 20 #[.agg #[.int .i64 k, .int .i64 cap, .int .i64 n, .slice A m c]] w fun e w' => e = .returned (.int .i64 (svalE k cap n ts)) ∧ Below w.heap.size w w' := by
  have hl := hin.len
  have E := Lib.hid (svalE_no (k := k) (cap := cap) (n := n) (ts := ts) (fun a => absurd a.1 (by omega)))
  have CN := fun w => rsnew k cap w
  rw [snew_no (by omega)] at CN
  have CN := Lib.hid CN
  clear hin hl
  go_enter Try.func20, Try.ntmps20
  go_wp2_with fail
  refine (CN.out _).mono ?_
  intro e w1 hq
  obtain ⟨A1, m1, c1, rfl, _, hb1, _⟩ := sret_at (show szero 1 = ⟨0, 0, 0, [], 1⟩ from rfl) hq
  clear hq CN
  have hz1 := hb1.size
  simp at hz1
  have X : Row w1 w.heap.size 24 #[.int .i64 k, .int .i64 cap, .int .i64 n, .slice A m c] := row_call (row_new rfl) hb1
  have o1 : Below w.heap.size w w1 := ((Below.refl _ _).alloc (Nat.le_refl _) (.cells #[.int .i64 k, .int .i64 cap, .int .i64 n, .slice A m c] 24)).trans (hb1.mono (by simp))
  go_upto_region 2 with (fail)
  have X := row_alloc X (.cells #[.int .i64 0, .int .i64 0, .int .i64 0, .slice A1 m1 c1] 24)
  have o1 := o1.alloc o1.size (.cells #[.int .i64 0, .int .i64 0, .int .i64 0, .slice A1 m1 c1] 24)
  generalize w1.alloc (.cells #[.int .i64 0, .int .i64 0, .int .i64 0, .slice A1 m1 c1] 24) = w2 at X o1 ⊢
  clear hb1 hz1
  obtain ⟨X0, X1, X2, X3, _, _, _, _⟩ := row_four X
  go_wp2
  go_ret
  exact ⟨ret_i64 E.out.symm, o1⟩
set_option maxRecDepth 100000 in
theorem rsval_k1 (k cap n : Int) (A : Option Addr) (m c : Nat) (ts : List Tup) (w : World) (hin : SIn k cap n A m c ts w) (h0 : 1 ≤ k) (h : 64 < k) : Calls Try.prog 20 #[.agg #[.int .i64 k, .int .i64 cap, .int .i64 n, .slice A m c]] w fun e w' => e = .returned (.int .i64 (svalE k cap n ts)) ∧ Below w.heap.size w w' := by
  have hl := hin.len
  have E := Lib.hid (svalE_no (k := k) (cap := cap) (n := n) (ts := ts) (fun a => absurd a.2.1 (by omega)))
  have CN := fun w => rsnew k cap w
  rw [snew_no (by omega)] at CN
  have CN := Lib.hid CN
  clear hin hl
  go_enter Try.func20, Try.ntmps20
  go_wp2_with fail
  refine (CN.out _).mono ?_
  intro e w1 hq
  obtain ⟨A1, m1, c1, rfl, _, hb1, _⟩ := sret_at (show szero 1 = ⟨0, 0, 0, [], 1⟩ from rfl) hq
  clear hq CN
  have hz1 := hb1.size
  simp at hz1
  have X : Row w1 w.heap.size 24 #[.int .i64 k, .int .i64 cap, .int .i64 n, .slice A m c] := row_call (row_new rfl) hb1
  have o1 : Below w.heap.size w w1 := ((Below.refl _ _).alloc (Nat.le_refl _) (.cells #[.int .i64 k, .int .i64 cap, .int .i64 n, .slice A m c] 24)).trans (hb1.mono (by simp))
  go_upto_region 2 with (fail)
  have X := row_alloc X (.cells #[.int .i64 0, .int .i64 0, .int .i64 0, .slice A1 m1 c1] 24)
  have o1 := o1.alloc o1.size (.cells #[.int .i64 0, .int .i64 0, .int .i64 0, .slice A1 m1 c1] 24)
  generalize w1.alloc (.cells #[.int .i64 0, .int .i64 0, .int .i64 0, .slice A1 m1 c1] 24) = w2 at X o1 ⊢
  clear hb1 hz1
  obtain ⟨X0, X1, X2, X3, _, _, _, _⟩ := row_four X
  go_wp2
  go_ret
  exact ⟨ret_i64 E.out.symm, o1⟩
set_option maxRecDepth 100000 in
theorem rsval_c0 (k cap n : Int) (A : Option Addr) (m c : Nat) (ts : List Tup) (w : World) (hin : SIn k cap n A m c ts w) (h0 : 1 ≤ k) (h1 : k ≤ 64) (h : cap < 2) : Calls Try.prog 20 #[.agg #[.int .i64 k, .int .i64 cap, .int .i64 n, .slice A m c]] w fun e w' => e = .returned (.int .i64 (svalE k cap n ts)) ∧ Below w.heap.size w w' := by
  have hl := hin.len
  have E := Lib.hid (svalE_no (k := k) (cap := cap) (n := n) (ts := ts) (fun a => absurd a.2.2.1 (by omega)))
  have CN := fun w => rsnew k cap w
  rw [snew_no (by omega)] at CN
  have CN := Lib.hid CN
  clear hin hl
  go_enter Try.func20, Try.ntmps20
  go_wp2_with fail
  refine (CN.out _).mono ?_
  intro e w1 hq
  obtain ⟨A1, m1, c1, rfl, _, hb1, _⟩ := sret_at (show szero 1 = ⟨0, 0, 0, [], 1⟩ from rfl) hq
  clear hq CN
  have hz1 := hb1.size
  simp at hz1
  have X : Row w1 w.heap.size 24 #[.int .i64 k, .int .i64 cap, .int .i64 n, .slice A m c] := row_call (row_new rfl) hb1
  have o1 : Below w.heap.size w w1 := ((Below.refl _ _).alloc (Nat.le_refl _) (.cells #[.int .i64 k, .int .i64 cap, .int .i64 n, .slice A m c] 24)).trans (hb1.mono (by simp))
  go_upto_region 2 with (fail)
  have X := row_alloc X (.cells #[.int .i64 0, .int .i64 0, .int .i64 0, .slice A1 m1 c1] 24)
  have o1 := o1.alloc o1.size (.cells #[.int .i64 0, .int .i64 0, .int .i64 0, .slice A1 m1 c1] 24)
  generalize w1.alloc (.cells #[.int .i64 0, .int .i64 0, .int .i64 0, .slice A1 m1 c1] 24) = w2 at X o1 ⊢
  clear hb1 hz1
  obtain ⟨X0, X1, X2, X3, _, _, _, _⟩ := row_four X
  go_wp2
  go_ret
  exact ⟨ret_i64 E.out.symm, o1⟩
set_option maxRecDepth 100000 in
theorem rsval_c1 (k cap n : Int) (A : Option Addr) (m c : Nat) (ts : List Tup) (w : World) (hin : SIn k cap n A m c ts w) (h0 : 1 ≤ k) (h1 : k ≤ 64) (h2 : 2 ≤ cap) (h : 65536 < cap) : Calls Try.prog 20 #[.agg #[.int .i64 k, .int .i64 cap, .int .i64 n, .slice A m c]] w fun e w' => e = .returned (.int .i64 (svalE k cap n ts)) ∧ Below w.heap.size w w' := by
  have hl := hin.len
  have E := Lib.hid (svalE_no (k := k) (cap := cap) (n := n) (ts := ts) (fun a => absurd a.2.2.2.1 (by omega)))
  have CN := fun w => rsnew k cap w
  rw [snew_no (by omega)] at CN
  have CN := Lib.hid CN
  clear hin hl
  go_enter Try.func20, Try.ntmps20
  go_wp2_with fail
  refine (CN.out _).mono ?_
  intro e w1 hq
  obtain ⟨A1, m1, c1, rfl, _, hb1, _⟩ := sret_at (show szero 1 = ⟨0, 0, 0, [], 1⟩ from rfl) hq
  clear hq CN
  have hz1 := hb1.size
  simp at hz1
  have X : Row w1 w.heap.size 24 #[.int .i64 k, .int .i64 cap, .int .i64 n, .slice A m c] := row_call (row_new rfl) hb1
  have o1 : Below w.heap.size w w1 := ((Below.refl _ _).alloc (Nat.le_refl _) (.cells #[.int .i64 k, .int .i64 cap, .int .i64 n, .slice A m c] 24)).trans (hb1.mono (by simp))
  go_upto_region 2 with (fail)
  have X := row_alloc X (.cells #[.int .i64 0, .int .i64 0, .int .i64 0, .slice A1 m1 c1] 24)
  have o1 := o1.alloc o1.size (.cells #[.int .i64 0, .int .i64 0, .int .i64 0, .slice A1 m1 c1] 24)
  generalize w1.alloc (.cells #[.int .i64 0, .int .i64 0, .int .i64 0, .slice A1 m1 c1] 24) = w2 at X o1 ⊢
  clear hb1 hz1
  obtain ⟨X0, X1, X2, X3, _, _, _, _⟩ := row_four X
  go_wp2
  go_ret
  exact ⟨ret_i64 E.out.symm, o1⟩
set_option maxRecDepth 100000 in
theorem rsval_n0 (k cap n : Int) (A : Option Addr) (m c : Nat) (ts : List Tup) (w : World) (hin : SIn k cap n A m c ts w) (h0 : 1 ≤ k) (h1 : k ≤ 64) (h2 : 2 ≤ cap) (h3 : cap ≤ 65536) (h : n < 0) : Calls Try.prog 20 #[.agg #[.int .i64 k, .int .i64 cap, .int .i64 n, .slice A m c]] w fun e w' => e = .returned (.int .i64 (svalE k cap n ts)) ∧ Below w.heap.size w w' := by
  have hl := hin.len
  have E := Lib.hid (svalE_no (k := k) (cap := cap) (n := n) (ts := ts) (fun a => absurd a.2.2.2.2.1 (by omega)))
  have CN := fun w => rsnew k cap w
  rw [snew_yes (by omega) (by omega) (by omega) (by omega)] at CN
  have CN := Lib.hid CN
  clear hin hl
  go_enter Try.func20, Try.ntmps20
  go_wp2_with fail
  refine (CN.out _).mono ?_
  intro e w1 hq
  obtain ⟨A1, m1, c1, rfl, _, hb1, _⟩ := sret_at rfl hq
  clear hq CN
  have hz1 := hb1.size
  simp at hz1
  have X : Row w1 w.heap.size 24 #[.int .i64 k, .int .i64 cap, .int .i64 n, .slice A m c] := row_call (row_new rfl) hb1
  have o1 : Below w.heap.size w w1 := ((Below.refl _ _).alloc (Nat.le_refl _) (.cells #[.int .i64 k, .int .i64 cap, .int .i64 n, .slice A m c] 24)).trans (hb1.mono (by simp))
  go_upto_region 2 with (fail)
  have X := row_alloc X (.cells #[.int .i64 k, .int .i64 cap, .int .i64 0, .slice A1 m1 c1] 24)
  have o1 := o1.alloc o1.size (.cells #[.int .i64 k, .int .i64 cap, .int .i64 0, .slice A1 m1 c1] 24)
  generalize w1.alloc (.cells #[.int .i64 k, .int .i64 cap, .int .i64 0, .slice A1 m1 c1] 24) = w2 at X o1 ⊢
  clear hb1 hz1
  obtain ⟨X0, X1, X2, X3, _, _, _, _⟩ := row_four X
  go_wp2
  go_ret
  exact ⟨ret_i64 E.out.symm, o1⟩
set_option maxRecDepth 100000 in
theorem rsval_n1 (k cap n : Int) (A : Option Addr) (m c : Nat) (ts : List Tup) (w : World) (hin : SIn k cap n A m c ts w) (h0 : 1 ≤ k) (h1 : k ≤ 64) (h2 : 2 ≤ cap) (h3 : cap ≤ 65536) (h4 : 0 ≤ n) (h : 1099511627776 < n) : Calls Try.prog 20 #[.agg #[.int .i64 k, .int .i64 cap, .int .i64 n, .slice A m c]] w fun e w' => e = .returned (.int .i64 (svalE k cap n ts)) ∧ Below w.heap.size w w' := by
  have hl := hin.len
  have E := Lib.hid (svalE_no (k := k) (cap := cap) (n := n) (ts := ts) (fun a => absurd a.2.2.2.2.2.1 (by omega)))
  have CN := fun w => rsnew k cap w
  rw [snew_yes (by omega) (by omega) (by omega) (by omega)] at CN
  have CN := Lib.hid CN
  clear hin hl
  go_enter Try.func20, Try.ntmps20
  go_wp2_with fail
  refine (CN.out _).mono ?_
  intro e w1 hq
  obtain ⟨A1, m1, c1, rfl, _, hb1, _⟩ := sret_at rfl hq
  clear hq CN
  have hz1 := hb1.size
  simp at hz1
  have X : Row w1 w.heap.size 24 #[.int .i64 k, .int .i64 cap, .int .i64 n, .slice A m c] := row_call (row_new rfl) hb1
  have o1 : Below w.heap.size w w1 := ((Below.refl _ _).alloc (Nat.le_refl _) (.cells #[.int .i64 k, .int .i64 cap, .int .i64 n, .slice A m c] 24)).trans (hb1.mono (by simp))
  go_upto_region 2 with (fail)
  have X := row_alloc X (.cells #[.int .i64 k, .int .i64 cap, .int .i64 0, .slice A1 m1 c1] 24)
  have o1 := o1.alloc o1.size (.cells #[.int .i64 k, .int .i64 cap, .int .i64 0, .slice A1 m1 c1] 24)
  generalize w1.alloc (.cells #[.int .i64 k, .int .i64 cap, .int .i64 0, .slice A1 m1 c1] 24) = w2 at X o1 ⊢
  clear hb1 hz1
  obtain ⟨X0, X1, X2, X3, _, _, _, _⟩ := row_four X
  go_wp2
  go_ret
  exact ⟨ret_i64 E.out.symm, o1⟩
set_option maxRecDepth 100000 in
theorem rsval_len (k cap n : Int) (A : Option Addr) (m c : Nat) (ts : List Tup) (w : World) (hin : SIn k cap n A m c ts w) (h0 : 1 ≤ k) (h1 : k ≤ 64) (h2 : 2 ≤ cap) (h3 : cap ≤ 65536) (h4 : 0 ≤ n) (h5 : n ≤ 1099511627776) (h : cap < (m : Int)) : Calls Try.prog 20 #[.agg #[.int .i64 k, .int .i64 cap, .int .i64 n, .slice A m c]] w fun e w' => e = .returned (.int .i64 (svalE k cap n ts)) ∧ Below w.heap.size w w' := by
  have hl := hin.len
  have E := Lib.hid (svalE_no (k := k) (cap := cap) (n := n) (ts := ts) (fun a => absurd a.2.2.2.2.2.2.1 (by omega)))
  have CN := fun w => rsnew k cap w
  rw [snew_yes (by omega) (by omega) (by omega) (by omega)] at CN
  have CN := Lib.hid CN
  clear hin hl
  go_enter Try.func20, Try.ntmps20
  go_wp2_with fail
  refine (CN.out _).mono ?_
  intro e w1 hq
  obtain ⟨A1, m1, c1, rfl, _, hb1, _⟩ := sret_at rfl hq
  clear hq CN
  have hz1 := hb1.size
  simp at hz1
  have X : Row w1 w.heap.size 24 #[.int .i64 k, .int .i64 cap, .int .i64 n, .slice A m c] := row_call (row_new rfl) hb1
  have o1 : Below w.heap.size w w1 := ((Below.refl _ _).alloc (Nat.le_refl _) (.cells #[.int .i64 k, .int .i64 cap, .int .i64 n, .slice A m c] 24)).trans (hb1.mono (by simp))
  go_upto_region 2 with (fail)
  have X := row_alloc X (.cells #[.int .i64 k, .int .i64 cap, .int .i64 0, .slice A1 m1 c1] 24)
  have o1 := o1.alloc o1.size (.cells #[.int .i64 k, .int .i64 cap, .int .i64 0, .slice A1 m1 c1] 24)
  generalize w1.alloc (.cells #[.int .i64 k, .int .i64 cap, .int .i64 0, .slice A1 m1 c1] 24) = w2 at X o1 ⊢
  clear hb1 hz1
  obtain ⟨X0, X1, X2, X3, _, _, _, _⟩ := row_four X
  go_wp2
  go_ret
  exact ⟨ret_i64 E.out.symm, o1⟩
set_option maxRecDepth 100000 in
theorem rsval_e0 (k cap n : Int) (A : Option Addr) (m c : Nat) (ts : List Tup) (w : World) (hin : SIn k cap n A m c ts w) (h0 : 1 ≤ k) (h1 : k ≤ 64) (h2 : 2 ≤ cap) (h3 : cap ≤ 65536) (h4 : 0 ≤ n) (h5 : n ≤ 1099511627776) (h6 : (m : Int) ≤ cap) (hn : n = 0) (hm : 0 < m) : Calls Try.prog 20 #[.agg #[.int .i64 k, .int .i64 cap, .int .i64 n, .slice A m c]] w fun e w' => e = .returned (.int .i64 (svalE k cap n ts)) ∧ Below w.heap.size w w' := by
  have hl := hin.len
  have E := Lib.hid (svalE_no (k := k) (cap := cap) (n := n) (ts := ts) (fun a => absurd (a.2.2.2.2.2.2.2.1 hn) (by omega)))
  have CN := fun w => rsnew k cap w
  rw [snew_yes (by omega) (by omega) (by omega) (by omega)] at CN
  have CN := Lib.hid CN
  clear hin hl
  have t1 : ((m : Int) == 0) = false := by simp; omega
  subst hn
  have w4 : ¬ (0 : Int) < 0 := by omega
  have w5 : ¬ 1099511627776 < (0 : Int) := by omega
  have w6 : ¬ cap < (m : Int) := by omega
  go_enter Try.func20, Try.ntmps20
  go_wp2_with fail
  refine (CN.out _).mono ?_
  intro e w1 hq
  obtain ⟨A1, m1, c1, rfl, _, hb1, _⟩ := sret_at rfl hq
  clear hq CN
  have hz1 := hb1.size
  simp at hz1
  have X : Row w1 w.heap.size 24 #[.int .i64 k, .int .i64 cap, .int .i64 0, .slice A m c] := row_call (row_new rfl) hb1
  have o1 : Below w.heap.size w w1 := ((Below.refl _ _).alloc (Nat.le_refl _) (.cells #[.int .i64 k, .int .i64 cap, .int .i64 0, .slice A m c] 24)).trans (hb1.mono (by simp))
  go_upto_region 2 with (fail)
  have X := row_alloc X (.cells #[.int .i64 k, .int .i64 cap, .int .i64 0, .slice A1 m1 c1] 24)
  have o1 := o1.alloc o1.size (.cells #[.int .i64 k, .int .i64 cap, .int .i64 0, .slice A1 m1 c1] 24)
  generalize w1.alloc (.cells #[.int .i64 k, .int .i64 cap, .int .i64 0, .slice A1 m1 c1] 24) = w2 at X o1 ⊢
  clear hb1 hz1
  obtain ⟨X0, X1, X2, X3, _, _, _, _⟩ := row_four X
  go_wp2
  go_ret
  exact ⟨ret_i64 E.out.symm, o1⟩
set_option maxRecDepth 100000 in
theorem rsval_e2 (k cap n : Int) (A : Option Addr) (m c : Nat) (ts : List Tup) (w : World) (hin : SIn k cap n A m c ts w) (h0 : 1 ≤ k) (h1 : k ≤ 64) (h2 : 2 ≤ cap) (h3 : cap ≤ 65536) (h4 : 0 ≤ n) (h5 : n ≤ 1099511627776) (h6 : (m : Int) ≤ cap) (hn : n ≠ 0) (hm : m = 0) : Calls Try.prog 20 #[.agg #[.int .i64 k, .int .i64 cap, .int .i64 n, .slice A m c]] w fun e w' => e = .returned (.int .i64 (svalE k cap n ts)) ∧ Below w.heap.size w w' := by
  have hl := hin.len
  have E := Lib.hid (svalE_no (k := k) (cap := cap) (n := n) (ts := ts) (fun a => absurd (a.2.2.2.2.2.2.2.2 hn).1 (by omega)))
  have CN := fun w => rsnew k cap w
  rw [snew_yes (by omega) (by omega) (by omega) (by omega)] at CN
  have CN := Lib.hid CN
  clear hin hl
  subst hm
  have hn1 : (n == 0) = false := by simpa using hn
  clear hn
  have w4 : ¬ n < 0 := by omega
  have w5 : ¬ 1099511627776 < n := by omega
  have w6 : ¬ cap < ((0 : Nat) : Int) := by omega
  go_enter Try.func20, Try.ntmps20
  go_wp2_with fail
  refine (CN.out _).mono ?_
  intro e w1 hq
  obtain ⟨A1, m1, c1, rfl, _, hb1, _⟩ := sret_at rfl hq
  clear hq CN
  have hz1 := hb1.size
  simp at hz1
  have X : Row w1 w.heap.size 24 #[.int .i64 k, .int .i64 cap, .int .i64 n, .slice A 0 c] := row_call (row_new rfl) hb1
  have o1 : Below w.heap.size w w1 := ((Below.refl _ _).alloc (Nat.le_refl _) (.cells #[.int .i64 k, .int .i64 cap, .int .i64 n, .slice A 0 c] 24)).trans (hb1.mono (by simp))
  go_upto_region 2 with (fail)
  have X := row_alloc X (.cells #[.int .i64 k, .int .i64 cap, .int .i64 0, .slice A1 m1 c1] 24)
  have o1 := o1.alloc o1.size (.cells #[.int .i64 k, .int .i64 cap, .int .i64 0, .slice A1 m1 c1] 24)
  generalize w1.alloc (.cells #[.int .i64 k, .int .i64 cap, .int .i64 0, .slice A1 m1 c1] 24) = w2 at X o1 ⊢
  clear hb1 hz1
  obtain ⟨X0, X1, X2, X3, _, _, _, _⟩ := row_four X
  go_wp2
  go_ret
  exact ⟨ret_i64 E.out.symm, o1⟩
set_option maxRecDepth 100000 in
theorem rsval_e1 (k cap n : Int) (A : Option Addr) (m c : Nat) (ts : List Tup) (w : World) (hin : SIn k cap n A m c ts w) (h0 : 1 ≤ k) (h1 : k ≤ 64) (h2 : 2 ≤ cap) (h3 : cap ≤ 65536) (h4 : 0 ≤ n) (h5 : n ≤ 1099511627776) (h6 : (m : Int) ≤ cap) (hn : n = 0) (hm : m = 0) : Calls Try.prog 20 #[.agg #[.int .i64 k, .int .i64 cap, .int .i64 n, .slice A m c]] w fun e w' => e = .returned (.int .i64 (svalE k cap n ts)) ∧ Below w.heap.size w w' := by
  have hl := hin.len
  have E := Lib.hid (svalE_yes (k := k) (cap := cap) (n := n) (ts := ts) ⟨h0, h1, h2, h3, h4, h5, by omega, fun _ => by omega, fun h => absurd hn h⟩)
  have CN := fun w => rsnew k cap w
  rw [snew_yes (by omega) (by omega) (by omega) (by omega)] at CN
  have CN := Lib.hid CN
  clear hin hl
  subst hm
  subst hn
  have w6 : ¬ cap < ((0 : Nat) : Int) := by omega
  go_enter Try.func20, Try.ntmps20
  go_wp2_with fail
  refine (CN.out _).mono ?_
  intro e w1 hq
  obtain ⟨A1, m1, c1, rfl, _, hb1, _⟩ := sret_at rfl hq
  clear hq CN
  have hz1 := hb1.size
  simp at hz1
  have X : Row w1 w.heap.size 24 #[.int .i64 k, .int .i64 cap, .int .i64 0, .slice A 0 c] := row_call (row_new rfl) hb1
  have o1 : Below w.heap.size w w1 := ((Below.refl _ _).alloc (Nat.le_refl _) (.cells #[.int .i64 k, .int .i64 cap, .int .i64 0, .slice A 0 c] 24)).trans (hb1.mono (by simp))
  go_upto_region 2 with (fail)
  have X := row_alloc X (.cells #[.int .i64 k, .int .i64 cap, .int .i64 0, .slice A1 m1 c1] 24)
  have o1 := o1.alloc o1.size (.cells #[.int .i64 k, .int .i64 cap, .int .i64 0, .slice A1 m1 c1] 24)
  generalize w1.alloc (.cells #[.int .i64 k, .int .i64 cap, .int .i64 0, .slice A1 m1 c1] 24) = w2 at X o1 ⊢
  clear hb1 hz1
  obtain ⟨X0, X1, X2, X3, _, _, _, _⟩ := row_four X
  go_wp2
  go_loopw [5, 49] (fun s i wr => s = .int .i64 0 ∧ i = .int .i64 0 ∧ wr = w2) (fun _ i _ => 0)
  case atStart => exact ⟨rfl, rfl, rfl⟩
  case round =>
    obtain ⟨rfl, rfl, rfl⟩ := hrel
    go_wp2
    go_ret
    exact ⟨ret_i64 E.out.symm, o1⟩
set_option maxRecDepth 100000 in
set_option maxHeartbeats 8000000 in
theorem rsval_main (k cap n : Int) (A : Option Addr) (m c : Nat) (ts : List Tup) (w : World) (hin : SIn k cap n A m c ts w) (h0 : 1 ≤ k) (h1 : k ≤ 64) (h2 : 2 ≤ cap) (h3 : cap ≤ 65536) (h4 : 0 ≤ n) (h5 : n ≤ 1099511627776) (h6 : (m : Int) ≤ cap) (hn : n ≠ 0) (hm : 0 < m) : Calls Try.prog 20 #[.agg #[.int .i64 k, .int .i64 cap, .int .i64 n, .slice A m c]] w fun e w' => e = .returned (.int .i64 (svalE k cap n ts)) ∧ Below w.heap.size w w' := by
  have hl := hin.len
  have HN := Lib.hid hn
  have HL := Lib.hid hl
  have HR := Lib.hid hin
  have CN := fun w => rsnew k cap w
  rw [snew_yes (by omega) (by omega) (by omega) (by omega)] at CN
  have CN := Lib.hid CN
  have hn1 : (n == 0) = false := by simpa using hn
  have hm1 : ((m : Int) == 0) = false := by simp; omega
  have M0 := smost_pos (n := n) (k := k)
  have M1 := smost_le h4 h0 hn
  have PM := fun A m c w1 => rmost k cap n A m c ts h4 h5 h0 w1
  generalize hM : smost n k = M at M0 M1 PM
  have HM := Lib.hid hM
  have PM := Lib.hid PM
  have w4 : ¬ n < 0 := by omega
  have w5 : ¬ 1099511627776 < n := by omega
  have w6 : ¬ cap < (m : Int) := by omega
  clear hin hl hn hM
  go_enter Try.func20, Try.ntmps20
  go_wp2_with fail
  refine (CN.out _).mono ?_
  intro e w1 hq
  obtain ⟨A1, m1, c1, rfl, _, hb1, _⟩ := sret_at rfl hq
  clear hq CN
  have hz1 := hb1.size
  simp at hz1
  have X : Row w1 w.heap.size 24 #[.int .i64 k, .int .i64 cap, .int .i64 n, .slice A m c] := row_call (row_new rfl) hb1
  have o1 : Below w.heap.size w w1 := ((Below.refl _ _).alloc (Nat.le_refl _) (.cells #[.int .i64 k, .int .i64 cap, .int .i64 n, .slice A m c] 24)).trans (hb1.mono (by simp))
  go_upto_region 2 with (fail)
  have X := row_alloc X (.cells #[.int .i64 k, .int .i64 cap, .int .i64 0, .slice A1 m1 c1] 24)
  have o1 := o1.alloc o1.size (.cells #[.int .i64 k, .int .i64 cap, .int .i64 0, .slice A1 m1 c1] 24)
  generalize w1.alloc (.cells #[.int .i64 k, .int .i64 cap, .int .i64 0, .slice A1 m1 c1] 24) = w2 at X o1 ⊢
  clear hb1 hz1
  obtain ⟨X0, X1, X2, X3, _, _, _, _⟩ := row_four X
  go_wp2
  clear w4 w5 w6
  go_loopw [5, 49] (fun s i wr => ∃ j : Nat, j ≤ m ∧ i = .int .i64 (j : Nat) ∧ s = .int .i64 (gsum ts j) ∧ RowKit.Hid (∀ e, e < j → tOK M ts e = true) ∧ RowKit.Hid (0 < j → (tupAt ts 0).g = 1 ∧ (tupAt ts 0).d = 0) ∧ RowKit.Hid (j = m → (tupAt ts (m - 1)).d = 0) ∧ Row wr w.heap.size 24 #[.int .i64 k, .int .i64 cap, .int .i64 n, .slice A m c] ∧ Below w.heap.size w wr) (fun _ i _ => m - (intOf i).toNat)
  case atStart => exact ⟨0, by omega, rfl, rfl, Lib.hid (fun e h => absurd h (by omega)), Lib.hid (fun h => absurd h (by omega)), Lib.hid (fun h => absurd h (by omega)), X, o1⟩
  case round =>
    clear X0 X1 X2 X3 X o1
    obtain ⟨j, hj, rfl, rfl, HA, HF, HZ, L1, L2⟩ := hrel
    by_cases hlt : j < m
    · obtain ⟨ad, rfl, hadb, ht0⟩ := HR.out.reads.tup hlt
      obtain ⟨hv, hg, hd⟩ := ht0.below L2 (by rw [block_of_add]; exact hadb)
      have i1 : (j : Int) < (m : Int) := by omega
      have i2 : (0 : Int) ≤ (j : Int) := by omega
      generalize hvv : (tupAt ts j).v = v at hv
      generalize hgg : (tupAt ts j).g = g at hg
      generalize hdd : (tupAt ts j).d = d at hd
      clear ht0
      have GS := gsum_small HA.out (by omega) M0 (by omega)
      obtain ⟨gs0, gs1⟩ := GS
      go_upto_region 8 with (fail)
      have K1 : Row (wr.alloc (.cells #[.int .i64 v, .int .i64 g, .int .i64 d] 66)) wr.heap.size 66 #[.int .i64 v, .int .i64 g, .int .i64 d] := row_new rfl
      have K2 := row_alloc L1 (.cells #[.int .i64 v, .int .i64 g, .int .i64 d] 66)
      have K3 := L2.alloc L2.size (.cells #[.int .i64 v, .int .i64 g, .int .i64 d] 66)
      generalize hss : gsum ts j = ss at gs0 gs1 ⊢
      have HSS := Lib.hid hss
      have HV := Lib.hid hvv
      have HG := Lib.hid hgg
      have HD := Lib.hid hdd
      generalize (wr.alloc (.cells #[.int .i64 v, .int .i64 g, .int .i64 d] 66)) = w3 at K1 K2 K3 ⊢
      generalize wr.heap.size = tb at K1 ⊢
      clear L1 L2 hv hg hd hvv hgg hdd hss
      have PV := fun w1 => rvalueB v w1
      obtain ⟨X0, hx0⟩ : ∃ b : Bool, b = decide (-4096 ≤ v ∧ v ≤ 4096) := ⟨_, rfl⟩
      rw [← hx0] at PV
      have PV := Lib.hid PV
      have HX0 := Lib.hid hx0
      clear hx0
      by_cases hj0 : j = 0
      · subst hj0
        have HO3 : RowKit.Hid ((0 : Nat) = 0 ∨ (tupAt ts (0 - 1)).v ≤ (tupAt ts 0).v) := Lib.hid (Or.inl rfl)
        have wm : IntKind.i64.wrap ((m : Int) - 1) = (m : Int) - 1 := IntWalk.i64_in _ (by omega)
        obtain ⟨EL, hel⟩ : ∃ b : Bool, ((0 : Int) == (m : Int) - 1) = b := ⟨_, rfl⟩
        obtain ⟨Z0, hz0⟩ : ∃ b : Bool, (d != 0) = b := ⟨_, rfl⟩
        have HEL := Lib.hid hel
        have HZ0 := Lib.hid hz0
        obtain ⟨G1, hg1⟩ : ∃ b : Bool, (g != 1) = b := ⟨_, rfl⟩
        have HG1 := Lib.hid hg1
        have L : Row w3 tb 66 #[.int .i64 v, .int .i64 g, .int .i64 d] ∧ Row w3 w.heap.size 24 #[.int .i64 k, .int .i64 cap, .int .i64 n, .slice (some ad) m c] ∧ Below w.heap.size w w3 := ⟨K1, K2, K3⟩
        refine wp_region_free0 [0, 1, 2, 3, 4, 5, 6, 7, 8, 9, 10, 11, 12, 13, 14, 15, 16, 17, 18, 19, 20, 21, 22, 23, 24, 25, 26, 27, 28, 29, 30, 31, 32, 33, 34, 35, 36, 37, 38, 39, 40, 41, 42, 43, 44, 45, 46, 47, 48, 49, 50, 51, 52, 53, 54, 55, 56, 57, 58, 59, 60, 61, 62, 63, 64, 65, 66, 67, 68, 69, 70, 71, 72, 73, 74, 75, 76, 77, 78, 79, 80] [] [0, 1, 2, 3, 4, 5, 6, 7, 8, 9, 10, 11, 12, 13, 14, 15, 16, 17, 18, 19, 20, 21, 22, 23, 24, 25, 26, 27, 28, 29, 30, 31, 32, 33, 34, 35, 36, 37, 38, 39, 40, 41, 42, 43, 44, 45, 46, 47, 48, 49, 50, 51, 52, 53, 54, 55, 56, 57, 58, 59, 60, 61, 62, 63, 64, 65, 66, 67, 68, 69, 70, 71, 72, 73, 74, 75, 76, 77, 78, 79, 80] 81 (fun w' => Row w' tb 66 #[.int .i64 v, .int .i64 g, .int .i64 d] ∧ Row w' w.heap.size 24 #[.int .i64 k, .int .i64 cap, .int .i64 n, .slice (some ad) m c] ∧ Below w.heap.size w w') (by kernel_rfl) (by kernel_rfl) (fun _ _ d _ _ h => by cases d <;> exact h) ?_ ?_
        · exact ⟨L.1, L.2.1, L.2.2.drew⟩
        (refine sym_pure ?_ rfl rfl rfl (fun w' => ?_) ?_; rotate_left; (go_simp; try with_reducible rfl); dsimp only [List.set_cons_zero, List.set_cons_succ])
        (refine sym_val ?_ rfl rfl rfl rfl (fun w' hS => ?_) ?_; rotate_left; (obtain ⟨B0, B1, B2, B3, B4, B5⟩ := row_three hS.1; obtain ⟨A0, A1, A2, A3, _, _, _, _⟩ := row_four hS.2.1; go_simp; try with_reducible rfl); dsimp only [List.set_cons_zero, List.set_cons_succ])
        refine sym_call (.bool X0) 37 #[.int .i64 v] rfl rfl rfl rfl (fun _ _ h hb => ⟨row_call h.1 hb, row_call h.2.1 hb, h.2.2.trans (hb.mono h.2.2.size)⟩) (fun w' hS => by obtain ⟨B0, B1, B2, B3, B4, B5⟩ := row_three hS.1; obtain ⟨A0, A1, A2, A3, _, _, _, _⟩ := row_four hS.2.1; go_simp) (fun w' hS => PV.out w') ?_
        dsimp only [List.set_cons_zero, List.set_cons_succ]
        (refine sym_pure ?_ rfl rfl rfl (fun w' => ?_) ?_; rotate_left; (go_simp; try with_reducible rfl); dsimp only [List.set_cons_zero, List.set_cons_succ])
        (refine sym_pure ?_ rfl rfl rfl (fun w' => ?_) ?_; rotate_left; (go_simp; try with_reducible rfl); dsimp only [List.set_cons_zero, List.set_cons_succ])
        (refine sym_pure_if X0 ?_ rfl rfl (asks_not rfl rfl rfl rfl) (fun hX w' => ?_) ?_; rotate_left; (go_simp; (try simp only [hX, gv_true]); (try go_simp); try with_reducible rfl); dsimp only [List.set_cons_zero, List.set_cons_succ])
        (refine sym_val_if X0 ?_ rfl rfl (asks_not rfl rfl rfl rfl) rfl (fun hX w' hS => ?_) ?_; rotate_left; (obtain ⟨B0, B1, B2, B3, B4, B5⟩ := row_three hS.1; obtain ⟨A0, A1, A2, A3, _, _, _, _⟩ := row_four hS.2.1; go_simp; (try simp only [hX, gv_true]); (try go_simp); try with_reducible rfl); dsimp only [List.set_cons_zero, List.set_cons_succ])
        (refine sym_pure_if X0 ?_ rfl rfl (asks_not rfl rfl rfl rfl) (fun hX w' => ?_) ?_; rotate_left; (go_simp; (try simp only [hX, gv_true]); (try go_simp); try with_reducible rfl); dsimp only [List.set_cons_zero, List.set_cons_succ])
        obtain ⟨X1, hx⟩ : ∃ b : Bool, b = (X0 && !decide (g < 1)) := ⟨_, rfl⟩
        have HX1 := Lib.hid hx
        clear hx
        refine sym_pure (.bool (!X1)) rfl rfl rfl (fun w' => ?_) ?_
        · go_simp; rw [HX1.out]; cases X0 <;> ((try simp only [gv_true, gv_false]); (try go_simp); try simp [gv_true, gv_false])
        dsimp only [List.set_cons_zero, List.set_cons_succ]
        (refine sym_pure ?_ rfl rfl rfl (fun w' => ?_) ?_; rotate_left; (go_simp; try with_reducible rfl); dsimp only [List.set_cons_zero, List.set_cons_succ])
        (refine sym_pure_if X1 ?_ rfl rfl (asks_not rfl rfl rfl rfl) (fun hX w' => ?_) ?_; rotate_left; (go_simp; (try simp only [hX, gv_true]); (try go_simp); try with_reducible rfl); dsimp only [List.set_cons_zero, List.set_cons_succ])
        (refine sym_val_if X1 ?_ rfl rfl (asks_not rfl rfl rfl rfl) rfl (fun hX w' hS => ?_) ?_; rotate_left; (obtain ⟨B0, B1, B2, B3, B4, B5⟩ := row_three hS.1; obtain ⟨A0, A1, A2, A3, _, _, _, _⟩ := row_four hS.2.1; go_simp; (try simp only [hX, gv_true]); (try go_simp); try with_reducible rfl); dsimp only [List.set_cons_zero, List.set_cons_succ])
        (refine sym_pure_if X1 ?_ rfl rfl (asks_not rfl rfl rfl rfl) (fun hX w' => ?_) ?_; rotate_left; (go_simp; (try simp only [hX, gv_true]); (try go_simp); try with_reducible rfl); dsimp only [List.set_cons_zero, List.set_cons_succ])
        (refine sym_val_if X1 ?_ rfl rfl (asks_not rfl rfl rfl rfl) rfl (fun hX w' hS => ?_) ?_; rotate_left; (obtain ⟨B0, B1, B2, B3, B4, B5⟩ := row_three hS.1; obtain ⟨A0, A1, A2, A3, _, _, _, _⟩ := row_four hS.2.1; go_simp; (try simp only [hX, gv_true]); (try go_simp); try with_reducible rfl); dsimp only [List.set_cons_zero, List.set_cons_succ])
        (refine sym_pure_if X1 ?_ rfl rfl (asks_not rfl rfl rfl rfl) (fun hX w' => ?_) ?_; rotate_left; (go_simp; (try simp only [hX, gv_true]); (try go_simp); try with_reducible rfl); dsimp only [List.set_cons_zero, List.set_cons_succ])
        obtain ⟨X2, hx⟩ : ∃ b : Bool, b = (X1 && !decide (n < g)) := ⟨_, rfl⟩
        have HX2 := Lib.hid hx
        clear hx
        refine sym_pure (.bool (!X2)) rfl rfl rfl (fun w' => ?_) ?_
        · go_simp; rw [HX2.out]; cases X1 <;> ((try simp only [gv_true, gv_false]); (try go_simp); try simp [gv_true, gv_false])
        dsimp only [List.set_cons_zero, List.set_cons_succ]
        (refine sym_pure ?_ rfl rfl rfl (fun w' => ?_) ?_; rotate_left; (go_simp; try with_reducible rfl); dsimp only [List.set_cons_zero, List.set_cons_succ])
        (refine sym_pure_if X2 ?_ rfl rfl (asks_not rfl rfl rfl rfl) (fun hX w' => ?_) ?_; rotate_left; (go_simp; (try simp only [hX, gv_true]); (try go_simp); try with_reducible rfl); dsimp only [List.set_cons_zero, List.set_cons_succ])
        (refine sym_val_if X2 ?_ rfl rfl (asks_not rfl rfl rfl rfl) rfl (fun hX w' hS => ?_) ?_; rotate_left; (obtain ⟨B0, B1, B2, B3, B4, B5⟩ := row_three hS.1; obtain ⟨A0, A1, A2, A3, _, _, _, _⟩ := row_four hS.2.1; go_simp; (try simp only [hX, gv_true]); (try go_simp); try with_reducible rfl); dsimp only [List.set_cons_zero, List.set_cons_succ])
        (refine sym_pure_if X2 ?_ rfl rfl (asks_not rfl rfl rfl rfl) (fun hX w' => ?_) ?_; rotate_left; (go_simp; (try simp only [hX, gv_true]); (try go_simp); try with_reducible rfl); dsimp only [List.set_cons_zero, List.set_cons_succ])
        obtain ⟨X3, hx⟩ : ∃ b : Bool, b = (X2 && !decide (d < 0)) := ⟨_, rfl⟩
        have HX3 := Lib.hid hx
        clear hx
        refine sym_pure (.bool (!X3)) rfl rfl rfl (fun w' => ?_) ?_
        · go_simp; rw [HX3.out]; cases X2 <;> ((try simp only [gv_true, gv_false]); (try go_simp); try simp [gv_true, gv_false])
        dsimp only [List.set_cons_zero, List.set_cons_succ]
        (refine sym_pure ?_ rfl rfl rfl (fun w' => ?_) ?_; rotate_left; (go_simp; try with_reducible rfl); dsimp only [List.set_cons_zero, List.set_cons_succ])
        (refine sym_pure_if X3 ?_ rfl rfl (asks_not rfl rfl rfl rfl) (fun hX w' => ?_) ?_; rotate_left; (go_simp; (try simp only [hX, gv_true]); (try go_simp); try with_reducible rfl); dsimp only [List.set_cons_zero, List.set_cons_succ])
        (refine sym_val_if X3 ?_ rfl rfl (asks_not rfl rfl rfl rfl) rfl (fun hX w' hS => ?_) ?_; rotate_left; (obtain ⟨B0, B1, B2, B3, B4, B5⟩ := row_three hS.1; obtain ⟨A0, A1, A2, A3, _, _, _, _⟩ := row_four hS.2.1; go_simp; (try simp only [hX, gv_true]); (try go_simp); try with_reducible rfl); dsimp only [List.set_cons_zero, List.set_cons_succ])
        (refine sym_pure_if X3 ?_ rfl rfl (asks_not rfl rfl rfl rfl) (fun hX w' => ?_) ?_; rotate_left; (go_simp; (try simp only [hX, gv_true]); (try go_simp); try with_reducible rfl); dsimp only [List.set_cons_zero, List.set_cons_succ])
        (refine sym_val_if X3 ?_ rfl rfl (asks_not rfl rfl rfl rfl) rfl (fun hX w' hS => ?_) ?_; rotate_left; (obtain ⟨B0, B1, B2, B3, B4, B5⟩ := row_three hS.1; obtain ⟨A0, A1, A2, A3, _, _, _, _⟩ := row_four hS.2.1; go_simp; (try simp only [hX, gv_true]); (try go_simp); try with_reducible rfl); dsimp only [List.set_cons_zero, List.set_cons_succ])
        (refine sym_pure_if X3 ?_ rfl rfl (asks_not rfl rfl rfl rfl) (fun hX w' => ?_) ?_; rotate_left; (go_simp; (try simp only [hX, gv_true]); (try go_simp); try with_reducible rfl); dsimp only [List.set_cons_zero, List.set_cons_succ])
        obtain ⟨X4, hx⟩ : ∃ b : Bool, b = (X3 && !decide (n < d)) := ⟨_, rfl⟩
        have HX4 := Lib.hid hx
        clear hx
        refine sym_pure (.bool (!X4)) rfl rfl rfl (fun w' => ?_) ?_
        · go_simp; rw [HX4.out]; cases X3 <;> ((try simp only [gv_true, gv_false]); (try go_simp); try simp [gv_true, gv_false])
        dsimp only [List.set_cons_zero, List.set_cons_succ]
        (refine sym_pure ?_ rfl rfl rfl (fun w' => ?_) ?_; rotate_left; (go_simp; try with_reducible rfl); dsimp only [List.set_cons_zero, List.set_cons_succ])
        (refine sym_pure_if X4 ?_ rfl rfl (asks_not rfl rfl rfl rfl) (fun hX w' => ?_) ?_; rotate_left; (go_simp; (try simp only [hX, gv_true]); (try go_simp); try with_reducible rfl); dsimp only [List.set_cons_zero, List.set_cons_succ])
        (refine sym_val_if X4 ?_ rfl rfl (asks_not rfl rfl rfl rfl) rfl (fun hX w' hS => ?_) ?_; rotate_left; (obtain ⟨B0, B1, B2, B3, B4, B5⟩ := row_three hS.1; obtain ⟨A0, A1, A2, A3, _, _, _, _⟩ := row_four hS.2.1; go_simp; (try simp only [hX, gv_true]); (try go_simp); try with_reducible rfl); dsimp only [List.set_cons_zero, List.set_cons_succ])
        (refine sym_pure_if X4 ?_ rfl rfl (asks_not rfl rfl rfl rfl) (fun hX w' => ?_) ?_; rotate_left; (go_simp; (try simp only [hX, gv_true]); (try go_simp); try with_reducible rfl); dsimp only [List.set_cons_zero, List.set_cons_succ])
        (refine sym_val_if X4 ?_ rfl rfl (asks_not rfl rfl rfl rfl) rfl (fun hX w' hS => ?_) ?_; rotate_left; (obtain ⟨B0, B1, B2, B3, B4, B5⟩ := row_three hS.1; obtain ⟨A0, A1, A2, A3, _, _, _, _⟩ := row_four hS.2.1; go_simp; (try simp only [hX, gv_true]); (try go_simp); try with_reducible rfl); dsimp only [List.set_cons_zero, List.set_cons_succ])
        (refine sym_pure_if X4 ?_ rfl rfl (asks_not rfl rfl rfl rfl) (fun hX w' => ?_) ?_; rotate_left; (go_simp; (try simp only [hX, gv_true]); (try go_simp); try with_reducible rfl); dsimp only [List.set_cons_zero, List.set_cons_succ])
        (refine sym_val_if X4 ?_ rfl rfl (asks_not rfl rfl rfl rfl) rfl (fun hX w' hS => ?_) ?_; rotate_left; (obtain ⟨B0, B1, B2, B3, B4, B5⟩ := row_three hS.1; obtain ⟨A0, A1, A2, A3, _, _, _, _⟩ := row_four hS.2.1; go_simp; (try simp only [hX, gv_true]); (try go_simp); try with_reducible rfl); dsimp only [List.set_cons_zero, List.set_cons_succ])
        refine sym_call_if X4 (.int .i64 M) 40 #[.agg #[.int .i64 k, .int .i64 cap, .int .i64 n, .slice (some ad) m c]] rfl rfl (asks_not rfl rfl rfl rfl) rfl (fun _ _ h hb => ⟨row_call h.1 hb, row_call h.2.1 hb, h.2.2.trans (hb.mono h.2.2.size)⟩) (fun hX w' hS => by obtain ⟨B0, B1, B2, B3, B4, B5⟩ := row_three hS.1; obtain ⟨A0, A1, A2, A3, _, _, _, _⟩ := row_four hS.2.1; go_simp; (try simp only [hX, gv_true]); (try go_simp)) (fun w' hS => PM.out _ _ _ w') ?_
        dsimp only [List.set_cons_zero, List.set_cons_succ]
        (refine sym_pure_if X4 ?_ rfl rfl (asks_not rfl rfl rfl rfl) (fun hX w' => ?_) ?_; rotate_left; (go_simp; (try simp only [hX, gv_true]); (try go_simp); try with_reducible rfl); dsimp only [List.set_cons_zero, List.set_cons_succ])
        obtain ⟨X5, hx⟩ : ∃ b : Bool, b = (X4 && !decide (M < IntKind.i64.wrap (g + d))) := ⟨_, rfl⟩
        have HX5 := Lib.hid hx
        clear hx
        refine sym_pure (.bool (!X5)) rfl rfl rfl (fun w' => ?_) ?_
        · go_simp; rw [HX5.out]; cases X4 <;> ((try simp only [gv_true, gv_false]); (try go_simp); try simp [gv_true, gv_false])
        dsimp only [List.set_cons_zero, List.set_cons_succ]
        (refine sym_pure ?_ rfl rfl rfl (fun w' => ?_) ?_; rotate_left; (go_simp; try with_reducible rfl); dsimp only [List.set_cons_zero, List.set_cons_succ])
        (refine sym_pure_if X5 ?_ rfl rfl (asks_not rfl rfl rfl rfl) (fun hX w' => ?_) ?_; rotate_left; (go_simp; (try simp only [hX, gv_true]); (try go_simp); try with_reducible rfl); dsimp only [List.set_cons_zero, List.set_cons_succ])
        (refine sym_pure_if X5 ?_ rfl rfl (asks_not rfl rfl rfl rfl) (fun hX w' => ?_) ?_; rotate_left; (go_simp; (try simp only [hX, gv_true]); (try go_simp); try with_reducible rfl); dsimp only [List.set_cons_zero, List.set_cons_succ])
        (refine sym_pure_if X5 ?_ rfl rfl (asks_not rfl rfl rfl rfl) (fun hX w' => ?_) ?_; rotate_left; (go_simp; (try simp only [hX, gv_true]); (try go_simp); try with_reducible rfl); dsimp only [List.set_cons_zero, List.set_cons_succ])
        refine sym_not rfl rfl (asks_never rfl rfl rfl rfl) ?_
        dsimp only [List.set_cons_zero, List.set_cons_succ]
        refine sym_not rfl rfl (asks_never rfl rfl rfl rfl) ?_
        dsimp only [List.set_cons_zero, List.set_cons_succ]
        refine sym_not rfl rfl (asks_never rfl rfl rfl rfl) ?_
        dsimp only [List.set_cons_zero, List.set_cons_succ]
        refine sym_not rfl rfl (asks_never rfl rfl rfl rfl) ?_
        dsimp only [List.set_cons_zero, List.set_cons_succ]
        refine sym_not rfl rfl (asks_never rfl rfl rfl rfl) ?_
        dsimp only [List.set_cons_zero, List.set_cons_succ]
        refine sym_not rfl rfl (asks_never rfl rfl rfl rfl) ?_
        dsimp only [List.set_cons_zero, List.set_cons_succ]
        refine sym_not rfl rfl (asks_never rfl rfl rfl rfl) ?_
        dsimp only [List.set_cons_zero, List.set_cons_succ]
        refine sym_not rfl rfl (asks_never rfl rfl rfl rfl) ?_
        dsimp only [List.set_cons_zero, List.set_cons_succ]
        refine sym_not rfl rfl (asks_never rfl rfl rfl rfl) ?_
        dsimp only [List.set_cons_zero, List.set_cons_succ]
        refine sym_not rfl rfl (asks_never rfl rfl rfl rfl) ?_
        dsimp only [List.set_cons_zero, List.set_cons_succ]
        refine sym_pure_if X5 (.bool false) rfl rfl (asks_not rfl rfl rfl rfl) (fun hX w' => ?_) ?_
        · go_simp; (try simp only [hX, gv_true]); ((try simp only [gv_true, gv_false]); (try go_simp); try simp [gv_true, gv_false])
        dsimp only [List.set_cons_zero, List.set_cons_succ]
        refine sym_pure (.bool (!X5)) rfl rfl rfl (fun w' => ?_) ?_
        · go_simp; cases X5 <;> ((try simp only [gv_true, gv_false]); (try go_simp); try simp [gv_true, gv_false])
        dsimp only [List.set_cons_zero, List.set_cons_succ]
        (refine sym_pure ?_ rfl rfl rfl (fun w' => ?_) ?_; rotate_left; (go_simp; try with_reducible rfl); dsimp only [List.set_cons_zero, List.set_cons_succ])
        (refine sym_pure_if X5 ?_ rfl rfl (asks_not rfl rfl rfl rfl) (fun hX w' => ?_) ?_; rotate_left; (go_simp; (try simp only [hX, gv_true]); (try go_simp); try with_reducible rfl); dsimp only [List.set_cons_zero, List.set_cons_succ])
        (refine sym_pure_if X5 ?_ rfl rfl (asks_not rfl rfl rfl rfl) (fun hX w' => ?_) ?_; rotate_left; (go_simp; (try simp only [hX, gv_true]); (try go_simp); try with_reducible rfl); dsimp only [List.set_cons_zero, List.set_cons_succ])
        (refine sym_pure_if X5 ?_ rfl rfl (asks_not rfl rfl rfl rfl) (fun hX w' => ?_) ?_; rotate_left; (go_simp; (try simp only [hX, gv_true]); (try go_simp); try with_reducible rfl); dsimp only [List.set_cons_zero, List.set_cons_succ])
        (refine sym_pure_if X5 ?_ rfl rfl (asks_so rfl rfl rfl rfl) (fun hX w' => ?_) ?_; rotate_left; (go_simp; (try simp only [hX, gv_true]); (try go_simp); try with_reducible rfl); dsimp only [List.set_cons_zero, List.set_cons_succ])
        (refine sym_val_if X5 ?_ rfl rfl (asks_so rfl rfl rfl rfl) rfl (fun hX w' hS => ?_) ?_; rotate_left; (obtain ⟨B0, B1, B2, B3, B4, B5⟩ := row_three hS.1; obtain ⟨A0, A1, A2, A3, _, _, _, _⟩ := row_four hS.2.1; go_simp; (try simp only [hX, gv_true]); (try go_simp); try with_reducible rfl); dsimp only [List.set_cons_zero, List.set_cons_succ])
        (refine sym_pure_if X5 ?_ rfl rfl (asks_so rfl rfl rfl rfl) (fun hX w' => ?_) ?_; rotate_left; (go_simp; (try simp only [hX, gv_true]); (try go_simp); try with_reducible rfl); dsimp only [List.set_cons_zero, List.set_cons_succ])
        (refine sym_pure_if X5 ?_ rfl rfl (asks_so rfl rfl rfl rfl) (fun hX w' => ?_) ?_; rotate_left; (go_simp; (try simp only [hX, gv_true]); (try go_simp); try with_reducible rfl); dsimp only [List.set_cons_zero, List.set_cons_succ])
        (refine sym_pure_if (X5 && !G1) ?_ rfl rfl (asks_but rfl rfl rfl rfl) (fun hX w' => ?_) ?_; rotate_left; (go_simp; (try simp only [hX, gv_true]); (try go_simp); try with_reducible rfl); dsimp only [List.set_cons_zero, List.set_cons_succ])
        (refine sym_val_if (X5 && !G1) ?_ rfl rfl (asks_but rfl rfl rfl rfl) rfl (fun hX w' hS => ?_) ?_; rotate_left; (obtain ⟨B0, B1, B2, B3, B4, B5⟩ := row_three hS.1; obtain ⟨A0, A1, A2, A3, _, _, _, _⟩ := row_four hS.2.1; go_simp; (try simp only [hX, gv_true]); (try go_simp); try with_reducible rfl); dsimp only [List.set_cons_zero, List.set_cons_succ])
        (refine sym_pure_if (X5 && !G1) ?_ rfl rfl (asks_but rfl rfl rfl rfl) (fun hX w' => ?_) ?_; rotate_left; (go_simp; (try simp only [hX, gv_true]); (try go_simp); try with_reducible rfl); dsimp only [List.set_cons_zero, List.set_cons_succ])
        refine sym_pure_if X5 (.bool (G1 || Z0)) rfl rfl (asks_so rfl rfl rfl rfl) (fun hX w' => ?_) ?_
        · go_simp; (try simp only [hX, gv_true, Bool.true_and]); cases G1 <;> ((try simp only [gv_true, gv_false]); (try go_simp); try simp [gv_true, gv_false])
        dsimp only [List.set_cons_zero, List.set_cons_succ]
        refine sym_pure_if X5 (.bool (G1 || Z0)) rfl rfl (asks_not rfl rfl rfl rfl) (fun hX w' => ?_) ?_
        · go_simp; (try simp only [hX, gv_true]); ((try simp only [gv_true, gv_false]); (try go_simp); try simp [gv_true, gv_false])
        dsimp only [List.set_cons_zero, List.set_cons_succ]
        obtain ⟨X7, hx⟩ : ∃ b : Bool, b = (X5 && !(G1 || Z0)) := ⟨_, rfl⟩
        have HX7 := Lib.hid hx
        clear hx
        refine sym_pure (.bool (!X7)) rfl rfl rfl (fun w' => ?_) ?_
        · go_simp; rw [HX7.out]; cases X5 <;> cases G1 <;> cases Z0 <;> ((try simp only [gv_true, gv_false]); (try go_simp); try simp [gv_true, gv_false])
        dsimp only [List.set_cons_zero, List.set_cons_succ]
        (refine sym_pure ?_ rfl rfl rfl (fun w' => ?_) ?_; rotate_left; (go_simp; try with_reducible rfl); dsimp only [List.set_cons_zero, List.set_cons_succ])
        (refine sym_pure_if X7 ?_ rfl rfl (asks_not rfl rfl rfl rfl) (fun hX w' => ?_) ?_; rotate_left; (go_simp; (try simp only [hX, gv_true]); (try go_simp); try with_reducible rfl); dsimp only [List.set_cons_zero, List.set_cons_succ])
        (refine sym_pure_if X7 ?_ rfl rfl (asks_not rfl rfl rfl rfl) (fun hX w' => ?_) ?_; rotate_left; (go_simp; (try simp only [hX, gv_true]); (try go_simp); try with_reducible rfl); dsimp only [List.set_cons_zero, List.set_cons_succ])
        (refine sym_val_if X7 ?_ rfl rfl (asks_not rfl rfl rfl rfl) rfl (fun hX w' hS => ?_) ?_; rotate_left; (obtain ⟨B0, B1, B2, B3, B4, B5⟩ := row_three hS.1; obtain ⟨A0, A1, A2, A3, _, _, _, _⟩ := row_four hS.2.1; go_simp; (try simp only [hX, gv_true]); (try go_simp); try with_reducible rfl); dsimp only [List.set_cons_zero, List.set_cons_succ])
        (refine sym_val_if X7 ?_ rfl rfl (asks_not rfl rfl rfl rfl) rfl (fun hX w' hS => ?_) ?_; rotate_left; (obtain ⟨B0, B1, B2, B3, B4, B5⟩ := row_three hS.1; obtain ⟨A0, A1, A2, A3, _, _, _, _⟩ := row_four hS.2.1; go_simp; (try simp only [hX, gv_true]); (try go_simp); try with_reducible rfl); dsimp only [List.set_cons_zero, List.set_cons_succ])
        (refine sym_pure_if X7 ?_ rfl rfl (asks_not rfl rfl rfl rfl) (fun hX w' => ?_) ?_; rotate_left; (go_simp; (try simp only [hX, gv_true]); (try go_simp); try with_reducible rfl); dsimp only [List.set_cons_zero, List.set_cons_succ])
        (refine sym_pure_if X7 ?_ rfl rfl (asks_not rfl rfl rfl rfl) (fun hX w' => ?_) ?_; rotate_left; (go_simp; (try simp only [hX, gv_true]); (try go_simp); try with_reducible rfl); dsimp only [List.set_cons_zero, List.set_cons_succ])
        (refine sym_pure_if X7 ?_ rfl rfl (asks_not rfl rfl rfl rfl) (fun hX w' => ?_) ?_; rotate_left; (go_simp; (try simp only [hX, gv_true]); (try go_simp); try with_reducible rfl); dsimp only [List.set_cons_zero, List.set_cons_succ])
        (refine sym_pure_if (X7 && EL) ?_ rfl rfl (asks_both rfl rfl rfl rfl) (fun hX w' => ?_) ?_; rotate_left; (go_simp; (try simp only [hX, gv_true]); (try go_simp); try with_reducible rfl); dsimp only [List.set_cons_zero, List.set_cons_succ])
        (refine sym_val_if (X7 && EL) ?_ rfl rfl (asks_both rfl rfl rfl rfl) rfl (fun hX w' hS => ?_) ?_; rotate_left; (obtain ⟨B0, B1, B2, B3, B4, B5⟩ := row_three hS.1; obtain ⟨A0, A1, A2, A3, _, _, _, _⟩ := row_four hS.2.1; go_simp; (try simp only [hX, gv_true]); (try go_simp); try with_reducible rfl); dsimp only [List.set_cons_zero, List.set_cons_succ])
        (refine sym_pure_if (X7 && EL) ?_ rfl rfl (asks_both rfl rfl rfl rfl) (fun hX w' => ?_) ?_; rotate_left; (go_simp; (try simp only [hX, gv_true]); (try go_simp); try with_reducible rfl); dsimp only [List.set_cons_zero, List.set_cons_succ])
        refine sym_pure_if X7 (.bool (EL && Z0)) rfl rfl (asks_not rfl rfl rfl rfl) (fun hX w' => ?_) ?_
        · go_simp; (try simp only [hX, gv_true, Bool.true_and]); cases EL <;> ((try simp only [gv_true, gv_false]); (try go_simp); try simp [gv_true, gv_false])
        dsimp only [List.set_cons_zero, List.set_cons_succ]
        obtain ⟨X8, hx⟩ : ∃ b : Bool, b = (X7 && !(EL && Z0)) := ⟨_, rfl⟩
        have HX8 := Lib.hid hx
        clear hx
        refine sym_pure (.bool (!X8)) rfl rfl rfl (fun w' => ?_) ?_
        · go_simp; rw [HX8.out]; cases X7 <;> cases EL <;> cases Z0 <;> ((try simp only [gv_true, gv_false]); (try go_simp); try simp [gv_true, gv_false])
        dsimp only [List.set_cons_zero, List.set_cons_succ]
        refine plan_nil ?_
        intro w4 L4
        simp only [List.append, List.drop_succ_cons, List.drop_zero]
        try simp only [Act.put, List.setIfInBounds_toArray, List.set_cons_zero, List.set_cons_succ]
        have CK := Lib.hid (chkA HX0.out HX1.out HX2.out HX3.out HX4.out HX5.out HX7.out HX8.out)
        clear HX1 HX2 HX3 HX4 HX5 HX7 HX8
        have r4 := L4.1
        have x4 := L4.2.1
        have o4 := L4.2.2
        clear L4 L hel hz0 hg1
        cases X8 with
        | false =>
          have E := Lib.hid (svalE_no (k := k) (cap := cap) (n := n) (ts := ts) (fun a => by
            have q := a.2.2.2.2.2.2.2.2 HN.out
            have q1 := tOK_of (q.2.1 0 (by rw [HL.out]; exact hlt))
            rw [HM.out, HV.out, HG.out, HD.out] at q1
            have wgd : IntKind.i64.wrap (g + d) = g + d := IntWalk.i64_in _ (by omega)
            refine Bool.false_ne_true (CK.out.2 ⟨⟨by omega, by omega⟩, by omega, by omega, by omega, by omega, by omega, by have := q.2.2.2.1; rw [HG.out] at this; rw [← HG1.out, this]; rfl, by have := q.2.2.2.2.1; rw [HD.out] at this; rw [← HZ0.out, this]; rfl⟩)))
          go_wp2
          go_ret
          exact ⟨ret_i64 E.out.symm, o4⟩
        | true =>
          have ck := CK.out.1 rfl
          have wgd : IntKind.i64.wrap (g + d) = g + d := IntWalk.i64_in _ (by omega)
          rw [wgd] at ck
          have CC := Lib.hid ck
          obtain ⟨⟨c3, c4⟩, e0', e1', e2', e3', e4', _⟩ := ck
          clear wgd
          have HB := Lib.hid (fun e (he : e < 0 + 1) => by
            rcases Nat.lt_or_ge e 0 with g1 | g1
            · exact HA.out e g1
            · rw [show e = 0 by omega]; exact tOK_mk ⟨by rw [HV.out]; omega, by rw [HV.out]; omega, HO3.out, by rw [HG.out]; omega, by rw [HD.out]; omega, by rw [HG.out]; omega, by rw [HD.out, HG.out]; omega⟩)
          have HS2 : RowKit.Hid (gsum ts (0 + 1) = ss + g) := Lib.hid (by rw [gsum, HSS.out, HG.out])
          have HF2 : RowKit.Hid (0 < 0 + 1 → (tupAt ts 0).g = 1 ∧ (tupAt ts 0).d = 0) := Lib.hid (fun _ => ⟨HG.out.trans (by have := CC.out.2.2.2.2.2.2.1; rw [← HG1.out] at this; simpa using this), HD.out.trans (by have := CC.out.2.2.2.2.2.2.2; rw [← HZ0.out] at this; simpa using this)⟩)
          have HZ2 : RowKit.Hid (0 + 1 = m → (tupAt ts (m - 1)).d = 0) := Lib.hid (fun h => by rw [← h]; exact HD.out.trans (by have := CC.out.2.2.2.2.2.2.2; rw [← HZ0.out] at this; simpa using this))
          obtain ⟨B0, B1, B2, B3, B4, B5⟩ := row_three r4
          obtain ⟨A0, A1, A2, A3, _, _, _, _⟩ := row_four x4
          go_upto_region 11 with (fail)
          by_cases e9 : n < ss + g
          · have E := Lib.hid (svalE_no (k := k) (cap := cap) (n := n) (ts := ts) (fun a => by
              have q := a.2.2.2.2.2.2.2.2 HN.out
              have q1 := gsum_step (a := 0 + 1) q.2.1 ts.length (by rw [HL.out]; exact hlt) (Nat.le_refl _)
              rw [HS2.out, q.2.2.1] at q1
              omega))
            go_wp2
            go_ret
            exact ⟨ret_i64 E.out.symm, o4⟩
          · have e9' : ss + g ≤ n := by omega
            clear e9
            go_wp2
            go_roundw
            case rel => exact ⟨0 + 1, by omega, by go_num, by rw [HS2.out], HB, HF2, HZ2, x4, o4⟩
            case measure => simp [intOf]; omega
      · obtain ⟨p, hp⟩ : ∃ p : Nat, j = p + 1 := ⟨j - 1, by omega⟩
        have HP := Lib.hid hp
        have ht1 := HR.out.reads.tup (i := p) (by omega)
        obtain ⟨ad', ea, _, ht1⟩ := ht1
        obtain rfl : ad = ad' := by injection ea with ea
        obtain ⟨hq, _, _⟩ := ht1.below K3 (by rw [block_of_add]; exact hadb)
        have HPV : RowKit.Hid ((tupAt ts (j - 1)).v = (tupAt ts p).v) := Lib.hid (by rw [hp]; rfl)
        generalize hqq : (tupAt ts p).v = pv at hq HPV
        have wj : IntKind.i64.wrap ((j : Int) - 1) = (p : Int) := by rw [IntWalk.i64_in _ (by omega)]; omega
        have jp : (0 : Int) < (j : Int) := by omega
        have jn : 0 < j := by omega
        have jz : ((j : Int) == 0) = false := by simp; omega
        have p1 : (p : Int) < (m : Int) := by omega
        have p0 : (0 : Int) ≤ (p : Int) := by omega
        clear ht1 hqq hp ea hj0
        have wm : IntKind.i64.wrap ((m : Int) - 1) = (m : Int) - 1 := IntWalk.i64_in _ (by omega)
        obtain ⟨EL, hel⟩ : ∃ b : Bool, (((j : Nat) : Int) == (m : Int) - 1) = b := ⟨_, rfl⟩
        obtain ⟨Z0, hz0⟩ : ∃ b : Bool, (d != 0) = b := ⟨_, rfl⟩
        have HEL := Lib.hid hel
        have HZ0 := Lib.hid hz0
        have L : Row w3 tb 66 #[.int .i64 v, .int .i64 g, .int .i64 d] ∧ Row w3 w.heap.size 24 #[.int .i64 k, .int .i64 cap, .int .i64 n, .slice (some ad) m c] ∧ w3.cell? (ad.add (p * 3)) = some (.int .i64 pv) ∧ Below w.heap.size w w3 := ⟨K1, K2, hq, K3⟩
        refine wp_region_free0 [0, 1, 2, 3, 4, 5, 6, 7, 8, 9, 10, 11, 12, 13, 14, 15, 16, 17, 18, 19, 20, 21, 22, 23, 24, 25, 26, 27, 28, 29, 30, 31, 32, 33, 34, 35, 36, 37, 38, 39, 40, 41, 42, 43, 44, 45, 46, 47, 48, 49, 50, 51, 52, 53, 54, 55, 56, 57, 58, 59, 60, 61, 62, 63, 64, 65, 66, 67, 68, 69, 70, 71, 72, 73, 74, 75, 76, 77, 78, 79, 80] [] [0, 1, 2, 3, 4, 5, 6, 7, 8, 9, 10, 11, 12, 13, 14, 15, 16, 17, 18, 19, 20, 21, 22, 23, 24, 25, 26, 27, 28, 29, 30, 31, 32, 33, 34, 35, 36, 37, 38, 39, 40, 41, 42, 43, 44, 45, 46, 47, 48, 49, 50, 51, 52, 53, 54, 55, 56, 57, 58, 59, 60, 61, 62, 63, 64, 65, 66, 67, 68, 69, 70, 71, 72, 73, 74, 75, 76, 77, 78, 79, 80] 81 (fun w' => Row w' tb 66 #[.int .i64 v, .int .i64 g, .int .i64 d] ∧ Row w' w.heap.size 24 #[.int .i64 k, .int .i64 cap, .int .i64 n, .slice (some ad) m c] ∧ w'.cell? (ad.add (p * 3)) = some (.int .i64 pv) ∧ Below w.heap.size w w') (by kernel_rfl) (by kernel_rfl) (fun _ _ d _ _ h => by cases d <;> exact h) ?_ ?_
        · exact ⟨L.1, L.2.1, L.2.2.1, L.2.2.2.drew⟩
        (refine sym_pure ?_ rfl rfl rfl (fun w' => ?_) ?_; rotate_left; (go_simp; try with_reducible rfl); dsimp only [List.set_cons_zero, List.set_cons_succ])
        (refine sym_val ?_ rfl rfl rfl rfl (fun w' hS => ?_) ?_; rotate_left; (obtain ⟨B0, B1, B2, B3, B4, B5⟩ := row_three hS.1; obtain ⟨A0, A1, A2, A3, _, _, _, _⟩ := row_four hS.2.1; have hq9 := hS.2.2.1; go_simp; try with_reducible rfl); dsimp only [List.set_cons_zero, List.set_cons_succ])
        refine sym_call (.bool X0) 37 #[.int .i64 v] rfl rfl rfl rfl (fun _ _ h hb => ⟨row_call h.1 hb, row_call h.2.1 hb, (hb.cell (by rw [block_of_add]; exact Nat.lt_of_lt_of_le hadb h.2.2.2.size)).trans h.2.2.1, h.2.2.2.trans (hb.mono h.2.2.2.size)⟩) (fun w' hS => by obtain ⟨B0, B1, B2, B3, B4, B5⟩ := row_three hS.1; obtain ⟨A0, A1, A2, A3, _, _, _, _⟩ := row_four hS.2.1; have hq9 := hS.2.2.1; go_simp) (fun w' hS => PV.out w') ?_
        dsimp only [List.set_cons_zero, List.set_cons_succ]
        (refine sym_pure ?_ rfl rfl rfl (fun w' => ?_) ?_; rotate_left; (go_simp; try with_reducible rfl); dsimp only [List.set_cons_zero, List.set_cons_succ])
        (refine sym_pure ?_ rfl rfl rfl (fun w' => ?_) ?_; rotate_left; (go_simp; try with_reducible rfl); dsimp only [List.set_cons_zero, List.set_cons_succ])
        (refine sym_pure_if X0 ?_ rfl rfl (asks_not rfl rfl rfl rfl) (fun hX w' => ?_) ?_; rotate_left; (go_simp; (try simp only [hX, gv_true]); (try go_simp); try with_reducible rfl); dsimp only [List.set_cons_zero, List.set_cons_succ])
        (refine sym_val_if X0 ?_ rfl rfl (asks_not rfl rfl rfl rfl) rfl (fun hX w' hS => ?_) ?_; rotate_left; (obtain ⟨B0, B1, B2, B3, B4, B5⟩ := row_three hS.1; obtain ⟨A0, A1, A2, A3, _, _, _, _⟩ := row_four hS.2.1; have hq9 := hS.2.2.1; go_simp; (try simp only [hX, gv_true]); (try go_simp); try with_reducible rfl); dsimp only [List.set_cons_zero, List.set_cons_succ])
        (refine sym_pure_if X0 ?_ rfl rfl (asks_not rfl rfl rfl rfl) (fun hX w' => ?_) ?_; rotate_left; (go_simp; (try simp only [hX, gv_true]); (try go_simp); try with_reducible rfl); dsimp only [List.set_cons_zero, List.set_cons_succ])
        obtain ⟨X1, hx⟩ : ∃ b : Bool, b = (X0 && !decide (g < 1)) := ⟨_, rfl⟩
        have HX1 := Lib.hid hx
        clear hx
        refine sym_pure (.bool (!X1)) rfl rfl rfl (fun w' => ?_) ?_
        · go_simp; rw [HX1.out]; cases X0 <;> ((try simp only [gv_true, gv_false]); (try go_simp); try simp [gv_true, gv_false])
        dsimp only [List.set_cons_zero, List.set_cons_succ]
        (refine sym_pure ?_ rfl rfl rfl (fun w' => ?_) ?_; rotate_left; (go_simp; try with_reducible rfl); dsimp only [List.set_cons_zero, List.set_cons_succ])
        (refine sym_pure_if X1 ?_ rfl rfl (asks_not rfl rfl rfl rfl) (fun hX w' => ?_) ?_; rotate_left; (go_simp; (try simp only [hX, gv_true]); (try go_simp); try with_reducible rfl); dsimp only [List.set_cons_zero, List.set_cons_succ])
        (refine sym_val_if X1 ?_ rfl rfl (asks_not rfl rfl rfl rfl) rfl (fun hX w' hS => ?_) ?_; rotate_left; (obtain ⟨B0, B1, B2, B3, B4, B5⟩ := row_three hS.1; obtain ⟨A0, A1, A2, A3, _, _, _, _⟩ := row_four hS.2.1; have hq9 := hS.2.2.1; go_simp; (try simp only [hX, gv_true]); (try go_simp); try with_reducible rfl); dsimp only [List.set_cons_zero, List.set_cons_succ])
        (refine sym_pure_if X1 ?_ rfl rfl (asks_not rfl rfl rfl rfl) (fun hX w' => ?_) ?_; rotate_left; (go_simp; (try simp only [hX, gv_true]); (try go_simp); try with_reducible rfl); dsimp only [List.set_cons_zero, List.set_cons_succ])
        (refine sym_val_if X1 ?_ rfl rfl (asks_not rfl rfl rfl rfl) rfl (fun hX w' hS => ?_) ?_; rotate_left; (obtain ⟨B0, B1, B2, B3, B4, B5⟩ := row_three hS.1; obtain ⟨A0, A1, A2, A3, _, _, _, _⟩ := row_four hS.2.1; have hq9 := hS.2.2.1; go_simp; (try simp only [hX, gv_true]); (try go_simp); try with_reducible rfl); dsimp only [List.set_cons_zero, List.set_cons_succ])
        (refine sym_pure_if X1 ?_ rfl rfl (asks_not rfl rfl rfl rfl) (fun hX w' => ?_) ?_; rotate_left; (go_simp; (try simp only [hX, gv_true]); (try go_simp); try with_reducible rfl); dsimp only [List.set_cons_zero, List.set_cons_succ])
        obtain ⟨X2, hx⟩ : ∃ b : Bool, b = (X1 && !decide (n < g)) := ⟨_, rfl⟩
        have HX2 := Lib.hid hx
        clear hx
        refine sym_pure (.bool (!X2)) rfl rfl rfl (fun w' => ?_) ?_
        · go_simp; rw [HX2.out]; cases X1 <;> ((try simp only [gv_true, gv_false]); (try go_simp); try simp [gv_true, gv_false])
        dsimp only [List.set_cons_zero, List.set_cons_succ]
        (refine sym_pure ?_ rfl rfl rfl (fun w' => ?_) ?_; rotate_left; (go_simp; try with_reducible rfl); dsimp only [List.set_cons_zero, List.set_cons_succ])
        (refine sym_pure_if X2 ?_ rfl rfl (asks_not rfl rfl rfl rfl) (fun hX w' => ?_) ?_; rotate_left; (go_simp; (try simp only [hX, gv_true]); (try go_simp); try with_reducible rfl); dsimp only [List.set_cons_zero, List.set_cons_succ])
        (refine sym_val_if X2 ?_ rfl rfl (asks_not rfl rfl rfl rfl) rfl (fun hX w' hS => ?_) ?_; rotate_left; (obtain ⟨B0, B1, B2, B3, B4, B5⟩ := row_three hS.1; obtain ⟨A0, A1, A2, A3, _, _, _, _⟩ := row_four hS.2.1; have hq9 := hS.2.2.1; go_simp; (try simp only [hX, gv_true]); (try go_simp); try with_reducible rfl); dsimp only [List.set_cons_zero, List.set_cons_succ])
        (refine sym_pure_if X2 ?_ rfl rfl (asks_not rfl rfl rfl rfl) (fun hX w' => ?_) ?_; rotate_left; (go_simp; (try simp only [hX, gv_true]); (try go_simp); try with_reducible rfl); dsimp only [List.set_cons_zero, List.set_cons_succ])
        obtain ⟨X3, hx⟩ : ∃ b : Bool, b = (X2 && !decide (d < 0)) := ⟨_, rfl⟩
        have HX3 := Lib.hid hx
        clear hx
        refine sym_pure (.bool (!X3)) rfl rfl rfl (fun w' => ?_) ?_
        · go_simp; rw [HX3.out]; cases X2 <;> ((try simp only [gv_true, gv_false]); (try go_simp); try simp [gv_true, gv_false])
        dsimp only [List.set_cons_zero, List.set_cons_succ]
        (refine sym_pure ?_ rfl rfl rfl (fun w' => ?_) ?_; rotate_left; (go_simp; try with_reducible rfl); dsimp only [List.set_cons_zero, List.set_cons_succ])
        (refine sym_pure_if X3 ?_ rfl rfl (asks_not rfl rfl rfl rfl) (fun hX w' => ?_) ?_; rotate_left; (go_simp; (try simp only [hX, gv_true]); (try go_simp); try with_reducible rfl); dsimp only [List.set_cons_zero, List.set_cons_succ])
        (refine sym_val_if X3 ?_ rfl rfl (asks_not rfl rfl rfl rfl) rfl (fun hX w' hS => ?_) ?_; rotate_left; (obtain ⟨B0, B1, B2, B3, B4, B5⟩ := row_three hS.1; obtain ⟨A0, A1, A2, A3, _, _, _, _⟩ := row_four hS.2.1; have hq9 := hS.2.2.1; go_simp; (try simp only [hX, gv_true]); (try go_simp); try with_reducible rfl); dsimp only [List.set_cons_zero, List.set_cons_succ])
        (refine sym_pure_if X3 ?_ rfl rfl (asks_not rfl rfl rfl rfl) (fun hX w' => ?_) ?_; rotate_left; (go_simp; (try simp only [hX, gv_true]); (try go_simp); try with_reducible rfl); dsimp only [List.set_cons_zero, List.set_cons_succ])
        (refine sym_val_if X3 ?_ rfl rfl (asks_not rfl rfl rfl rfl) rfl (fun hX w' hS => ?_) ?_; rotate_left; (obtain ⟨B0, B1, B2, B3, B4, B5⟩ := row_three hS.1; obtain ⟨A0, A1, A2, A3, _, _, _, _⟩ := row_four hS.2.1; have hq9 := hS.2.2.1; go_simp; (try simp only [hX, gv_true]); (try go_simp); try with_reducible rfl); dsimp only [List.set_cons_zero, List.set_cons_succ])
        (refine sym_pure_if X3 ?_ rfl rfl (asks_not rfl rfl rfl rfl) (fun hX w' => ?_) ?_; rotate_left; (go_simp; (try simp only [hX, gv_true]); (try go_simp); try with_reducible rfl); dsimp only [List.set_cons_zero, List.set_cons_succ])
        obtain ⟨X4, hx⟩ : ∃ b : Bool, b = (X3 && !decide (n < d)) := ⟨_, rfl⟩
        have HX4 := Lib.hid hx
        clear hx
        refine sym_pure (.bool (!X4)) rfl rfl rfl (fun w' => ?_) ?_
        · go_simp; rw [HX4.out]; cases X3 <;> ((try simp only [gv_true, gv_false]); (try go_simp); try simp [gv_true, gv_false])
        dsimp only [List.set_cons_zero, List.set_cons_succ]
        (refine sym_pure ?_ rfl rfl rfl (fun w' => ?_) ?_; rotate_left; (go_simp; try with_reducible rfl); dsimp only [List.set_cons_zero, List.set_cons_succ])
        (refine sym_pure_if X4 ?_ rfl rfl (asks_not rfl rfl rfl rfl) (fun hX w' => ?_) ?_; rotate_left; (go_simp; (try simp only [hX, gv_true]); (try go_simp); try with_reducible rfl); dsimp only [List.set_cons_zero, List.set_cons_succ])
        (refine sym_val_if X4 ?_ rfl rfl (asks_not rfl rfl rfl rfl) rfl (fun hX w' hS => ?_) ?_; rotate_left; (obtain ⟨B0, B1, B2, B3, B4, B5⟩ := row_three hS.1; obtain ⟨A0, A1, A2, A3, _, _, _, _⟩ := row_four hS.2.1; have hq9 := hS.2.2.1; go_simp; (try simp only [hX, gv_true]); (try go_simp); try with_reducible rfl); dsimp only [List.set_cons_zero, List.set_cons_succ])
        (refine sym_pure_if X4 ?_ rfl rfl (asks_not rfl rfl rfl rfl) (fun hX w' => ?_) ?_; rotate_left; (go_simp; (try simp only [hX, gv_true]); (try go_simp); try with_reducible rfl); dsimp only [List.set_cons_zero, List.set_cons_succ])
        (refine sym_val_if X4 ?_ rfl rfl (asks_not rfl rfl rfl rfl) rfl (fun hX w' hS => ?_) ?_; rotate_left; (obtain ⟨B0, B1, B2, B3, B4, B5⟩ := row_three hS.1; obtain ⟨A0, A1, A2, A3, _, _, _, _⟩ := row_four hS.2.1; have hq9 := hS.2.2.1; go_simp; (try simp only [hX, gv_true]); (try go_simp); try with_reducible rfl); dsimp only [List.set_cons_zero, List.set_cons_succ])
        (refine sym_pure_if X4 ?_ rfl rfl (asks_not rfl rfl rfl rfl) (fun hX w' => ?_) ?_; rotate_left; (go_simp; (try simp only [hX, gv_true]); (try go_simp); try with_reducible rfl); dsimp only [List.set_cons_zero, List.set_cons_succ])
        (refine sym_val_if X4 ?_ rfl rfl (asks_not rfl rfl rfl rfl) rfl (fun hX w' hS => ?_) ?_; rotate_left; (obtain ⟨B0, B1, B2, B3, B4, B5⟩ := row_three hS.1; obtain ⟨A0, A1, A2, A3, _, _, _, _⟩ := row_four hS.2.1; have hq9 := hS.2.2.1; go_simp; (try simp only [hX, gv_true]); (try go_simp); try with_reducible rfl); dsimp only [List.set_cons_zero, List.set_cons_succ])
        refine sym_call_if X4 (.int .i64 M) 40 #[.agg #[.int .i64 k, .int .i64 cap, .int .i64 n, .slice (some ad) m c]] rfl rfl (asks_not rfl rfl rfl rfl) rfl (fun _ _ h hb => ⟨row_call h.1 hb, row_call h.2.1 hb, (hb.cell (by rw [block_of_add]; exact Nat.lt_of_lt_of_le hadb h.2.2.2.size)).trans h.2.2.1, h.2.2.2.trans (hb.mono h.2.2.2.size)⟩) (fun hX w' hS => by obtain ⟨B0, B1, B2, B3, B4, B5⟩ := row_three hS.1; obtain ⟨A0, A1, A2, A3, _, _, _, _⟩ := row_four hS.2.1; have hq9 := hS.2.2.1; go_simp; (try simp only [hX, gv_true]); (try go_simp)) (fun w' hS => PM.out _ _ _ w') ?_
        dsimp only [List.set_cons_zero, List.set_cons_succ]
        (refine sym_pure_if X4 ?_ rfl rfl (asks_not rfl rfl rfl rfl) (fun hX w' => ?_) ?_; rotate_left; (go_simp; (try simp only [hX, gv_true]); (try go_simp); try with_reducible rfl); dsimp only [List.set_cons_zero, List.set_cons_succ])
        obtain ⟨X5, hx⟩ : ∃ b : Bool, b = (X4 && !decide (M < IntKind.i64.wrap (g + d))) := ⟨_, rfl⟩
        have HX5 := Lib.hid hx
        clear hx
        refine sym_pure (.bool (!X5)) rfl rfl rfl (fun w' => ?_) ?_
        · go_simp; rw [HX5.out]; cases X4 <;> ((try simp only [gv_true, gv_false]); (try go_simp); try simp [gv_true, gv_false])
        dsimp only [List.set_cons_zero, List.set_cons_succ]
        (refine sym_pure ?_ rfl rfl rfl (fun w' => ?_) ?_; rotate_left; (go_simp; try with_reducible rfl); dsimp only [List.set_cons_zero, List.set_cons_succ])
        (refine sym_pure_if X5 ?_ rfl rfl (asks_not rfl rfl rfl rfl) (fun hX w' => ?_) ?_; rotate_left; (go_simp; (try simp only [hX, gv_true]); (try go_simp); try with_reducible rfl); dsimp only [List.set_cons_zero, List.set_cons_succ])
        (refine sym_pure_if X5 ?_ rfl rfl (asks_not rfl rfl rfl rfl) (fun hX w' => ?_) ?_; rotate_left; (go_simp; (try simp only [hX, gv_true]); (try go_simp); try with_reducible rfl); dsimp only [List.set_cons_zero, List.set_cons_succ])
        (refine sym_pure_if X5 ?_ rfl rfl (asks_not rfl rfl rfl rfl) (fun hX w' => ?_) ?_; rotate_left; (go_simp; (try simp only [hX, gv_true]); (try go_simp); try with_reducible rfl); dsimp only [List.set_cons_zero, List.set_cons_succ])
        (refine sym_pure_if X5 ?_ rfl rfl (asks_so rfl rfl rfl rfl) (fun hX w' => ?_) ?_; rotate_left; (go_simp; (try simp only [hX, gv_true]); (try go_simp); try with_reducible rfl); dsimp only [List.set_cons_zero, List.set_cons_succ])
        (refine sym_val_if X5 ?_ rfl rfl (asks_so rfl rfl rfl rfl) rfl (fun hX w' hS => ?_) ?_; rotate_left; (obtain ⟨B0, B1, B2, B3, B4, B5⟩ := row_three hS.1; obtain ⟨A0, A1, A2, A3, _, _, _, _⟩ := row_four hS.2.1; have hq9 := hS.2.2.1; go_simp; (try simp only [hX, gv_true]); (try go_simp); try with_reducible rfl); dsimp only [List.set_cons_zero, List.set_cons_succ])
        (refine sym_pure_if X5 ?_ rfl rfl (asks_so rfl rfl rfl rfl) (fun hX w' => ?_) ?_; rotate_left; (go_simp; (try simp only [hX, gv_true]); (try go_simp); try with_reducible rfl); dsimp only [List.set_cons_zero, List.set_cons_succ])
        (refine sym_pure_if X5 ?_ rfl rfl (asks_so rfl rfl rfl rfl) (fun hX w' => ?_) ?_; rotate_left; (go_simp; (try simp only [hX, gv_true]); (try go_simp); try with_reducible rfl); dsimp only [List.set_cons_zero, List.set_cons_succ])
        (refine sym_pure_if X5 ?_ rfl rfl (asks_so rfl rfl rfl rfl) (fun hX w' => ?_) ?_; rotate_left; (go_simp; (try simp only [hX, gv_true]); (try go_simp); try with_reducible rfl); dsimp only [List.set_cons_zero, List.set_cons_succ])
        (refine sym_pure_if X5 ?_ rfl rfl (asks_so rfl rfl rfl rfl) (fun hX w' => ?_) ?_; rotate_left; (go_simp; (try simp only [hX, gv_true]); (try go_simp); try with_reducible rfl); dsimp only [List.set_cons_zero, List.set_cons_succ])
        (refine sym_val_if X5 ?_ rfl rfl (asks_so rfl rfl rfl rfl) rfl (fun hX w' hS => ?_) ?_; rotate_left; (obtain ⟨B0, B1, B2, B3, B4, B5⟩ := row_three hS.1; obtain ⟨A0, A1, A2, A3, _, _, _, _⟩ := row_four hS.2.1; have hq9 := hS.2.2.1; go_simp; (try simp only [hX, gv_true]); (try go_simp); try with_reducible rfl); dsimp only [List.set_cons_zero, List.set_cons_succ])
        (refine sym_pure_if X5 ?_ rfl rfl (asks_so rfl rfl rfl rfl) (fun hX w' => ?_) ?_; rotate_left; (go_simp; (try simp only [hX, gv_true]); (try go_simp); try with_reducible rfl); dsimp only [List.set_cons_zero, List.set_cons_succ])
        (refine sym_val_if X5 ?_ rfl rfl (asks_so rfl rfl rfl rfl) rfl (fun hX w' hS => ?_) ?_; rotate_left; (obtain ⟨B0, B1, B2, B3, B4, B5⟩ := row_three hS.1; obtain ⟨A0, A1, A2, A3, _, _, _, _⟩ := row_four hS.2.1; have hq9 := hS.2.2.1; go_simp; (try simp only [hX, gv_true]); (try go_simp); try with_reducible rfl); dsimp only [List.set_cons_zero, List.set_cons_succ])
        (refine sym_pure_if X5 ?_ rfl rfl (asks_so rfl rfl rfl rfl) (fun hX w' => ?_) ?_; rotate_left; (go_simp; (try simp only [hX, gv_true]); (try go_simp); try with_reducible rfl); dsimp only [List.set_cons_zero, List.set_cons_succ])
        refine sym_pure_if X5 (.bool (decide (v < pv))) rfl rfl (asks_not rfl rfl rfl rfl) (fun hX w' => ?_) ?_
        · go_simp; (try simp only [hX, gv_true]); ((try simp only [gv_true, gv_false]); (try go_simp); try simp [gv_true, gv_false])
        dsimp only [List.set_cons_zero, List.set_cons_succ]
        obtain ⟨X6, hx⟩ : ∃ b : Bool, b = (X5 && !decide (v < pv)) := ⟨_, rfl⟩
        have HX6 := Lib.hid hx
        clear hx
        refine sym_pure (.bool (!X6)) rfl rfl rfl (fun w' => ?_) ?_
        · go_simp; rw [HX6.out]; cases X5 <;> ((try simp only [gv_true, gv_false]); (try go_simp); try simp [gv_true, gv_false])
        dsimp only [List.set_cons_zero, List.set_cons_succ]
        (refine sym_pure ?_ rfl rfl rfl (fun w' => ?_) ?_; rotate_left; (go_simp; try with_reducible rfl); dsimp only [List.set_cons_zero, List.set_cons_succ])
        (refine sym_pure_if X6 ?_ rfl rfl (asks_not rfl rfl rfl rfl) (fun hX w' => ?_) ?_; rotate_left; (go_simp; (try simp only [hX, gv_true]); (try go_simp); try with_reducible rfl); dsimp only [List.set_cons_zero, List.set_cons_succ])
        (refine sym_pure_if X6 ?_ rfl rfl (asks_not rfl rfl rfl rfl) (fun hX w' => ?_) ?_; rotate_left; (go_simp; (try simp only [hX, gv_true]); (try go_simp); try with_reducible rfl); dsimp only [List.set_cons_zero, List.set_cons_succ])
        (refine sym_pure_if X6 ?_ rfl rfl (asks_not rfl rfl rfl rfl) (fun hX w' => ?_) ?_; rotate_left; (go_simp; (try simp only [hX, gv_true]); (try go_simp); try with_reducible rfl); dsimp only [List.set_cons_zero, List.set_cons_succ])
        refine sym_not rfl rfl (asks_never rfl rfl rfl rfl) ?_
        dsimp only [List.set_cons_zero, List.set_cons_succ]
        refine sym_not rfl rfl (asks_never rfl rfl rfl rfl) ?_
        dsimp only [List.set_cons_zero, List.set_cons_succ]
        refine sym_not rfl rfl (asks_never rfl rfl rfl rfl) ?_
        dsimp only [List.set_cons_zero, List.set_cons_succ]
        refine sym_not rfl rfl (asks_never rfl rfl rfl rfl) ?_
        dsimp only [List.set_cons_zero, List.set_cons_succ]
        refine sym_not rfl rfl (asks_gone rfl rfl rfl rfl) ?_
        dsimp only [List.set_cons_zero, List.set_cons_succ]
        refine sym_not rfl rfl (asks_gone rfl rfl rfl rfl) ?_
        dsimp only [List.set_cons_zero, List.set_cons_succ]
        refine sym_not rfl rfl (asks_gone rfl rfl rfl rfl) ?_
        dsimp only [List.set_cons_zero, List.set_cons_succ]
        refine sym_not rfl rfl (asks_never rfl rfl rfl rfl) ?_
        dsimp only [List.set_cons_zero, List.set_cons_succ]
        refine sym_pure_if X6 (.bool false) rfl rfl (asks_not rfl rfl rfl rfl) (fun hX w' => ?_) ?_
        · go_simp; (try simp only [hX, gv_true]); ((try simp only [gv_true, gv_false]); (try go_simp); try simp [gv_true, gv_false])
        dsimp only [List.set_cons_zero, List.set_cons_succ]
        refine sym_pure (.bool (!X6)) rfl rfl rfl (fun w' => ?_) ?_
        · go_simp; cases X6 <;> ((try simp only [gv_true, gv_false]); (try go_simp); try simp [gv_true, gv_false])
        dsimp only [List.set_cons_zero, List.set_cons_succ]
        (refine sym_pure ?_ rfl rfl rfl (fun w' => ?_) ?_; rotate_left; (go_simp; try with_reducible rfl); dsimp only [List.set_cons_zero, List.set_cons_succ])
        (refine sym_pure_if X6 ?_ rfl rfl (asks_not rfl rfl rfl rfl) (fun hX w' => ?_) ?_; rotate_left; (go_simp; (try simp only [hX, gv_true]); (try go_simp); try with_reducible rfl); dsimp only [List.set_cons_zero, List.set_cons_succ])
        (refine sym_pure_if X6 ?_ rfl rfl (asks_not rfl rfl rfl rfl) (fun hX w' => ?_) ?_; rotate_left; (go_simp; (try simp only [hX, gv_true]); (try go_simp); try with_reducible rfl); dsimp only [List.set_cons_zero, List.set_cons_succ])
        (refine sym_val_if X6 ?_ rfl rfl (asks_not rfl rfl rfl rfl) rfl (fun hX w' hS => ?_) ?_; rotate_left; (obtain ⟨B0, B1, B2, B3, B4, B5⟩ := row_three hS.1; obtain ⟨A0, A1, A2, A3, _, _, _, _⟩ := row_four hS.2.1; have hq9 := hS.2.2.1; go_simp; (try simp only [hX, gv_true]); (try go_simp); try with_reducible rfl); dsimp only [List.set_cons_zero, List.set_cons_succ])
        (refine sym_val_if X6 ?_ rfl rfl (asks_not rfl rfl rfl rfl) rfl (fun hX w' hS => ?_) ?_; rotate_left; (obtain ⟨B0, B1, B2, B3, B4, B5⟩ := row_three hS.1; obtain ⟨A0, A1, A2, A3, _, _, _, _⟩ := row_four hS.2.1; have hq9 := hS.2.2.1; go_simp; (try simp only [hX, gv_true]); (try go_simp); try with_reducible rfl); dsimp only [List.set_cons_zero, List.set_cons_succ])
        (refine sym_pure_if X6 ?_ rfl rfl (asks_not rfl rfl rfl rfl) (fun hX w' => ?_) ?_; rotate_left; (go_simp; (try simp only [hX, gv_true]); (try go_simp); try with_reducible rfl); dsimp only [List.set_cons_zero, List.set_cons_succ])
        (refine sym_pure_if X6 ?_ rfl rfl (asks_not rfl rfl rfl rfl) (fun hX w' => ?_) ?_; rotate_left; (go_simp; (try simp only [hX, gv_true]); (try go_simp); try with_reducible rfl); dsimp only [List.set_cons_zero, List.set_cons_succ])
        (refine sym_pure_if X6 ?_ rfl rfl (asks_not rfl rfl rfl rfl) (fun hX w' => ?_) ?_; rotate_left; (go_simp; (try simp only [hX, gv_true]); (try go_simp); try with_reducible rfl); dsimp only [List.set_cons_zero, List.set_cons_succ])
        (refine sym_pure_if (X6 && EL) ?_ rfl rfl (asks_both rfl rfl rfl rfl) (fun hX w' => ?_) ?_; rotate_left; (go_simp; (try simp only [hX, gv_true]); (try go_simp); try with_reducible rfl); dsimp only [List.set_cons_zero, List.set_cons_succ])
        (refine sym_val_if (X6 && EL) ?_ rfl rfl (asks_both rfl rfl rfl rfl) rfl (fun hX w' hS => ?_) ?_; rotate_left; (obtain ⟨B0, B1, B2, B3, B4, B5⟩ := row_three hS.1; obtain ⟨A0, A1, A2, A3, _, _, _, _⟩ := row_four hS.2.1; have hq9 := hS.2.2.1; go_simp; (try simp only [hX, gv_true]); (try go_simp); try with_reducible rfl); dsimp only [List.set_cons_zero, List.set_cons_succ])
        (refine sym_pure_if (X6 && EL) ?_ rfl rfl (asks_both rfl rfl rfl rfl) (fun hX w' => ?_) ?_; rotate_left; (go_simp; (try simp only [hX, gv_true]); (try go_simp); try with_reducible rfl); dsimp only [List.set_cons_zero, List.set_cons_succ])
        refine sym_pure_if X6 (.bool (EL && Z0)) rfl rfl (asks_not rfl rfl rfl rfl) (fun hX w' => ?_) ?_
        · go_simp; (try simp only [hX, gv_true, Bool.true_and]); cases EL <;> ((try simp only [gv_true, gv_false]); (try go_simp); try simp [gv_true, gv_false])
        dsimp only [List.set_cons_zero, List.set_cons_succ]
        obtain ⟨X8, hx⟩ : ∃ b : Bool, b = (X6 && !(EL && Z0)) := ⟨_, rfl⟩
        have HX8 := Lib.hid hx
        clear hx
        refine sym_pure (.bool (!X8)) rfl rfl rfl (fun w' => ?_) ?_
        · go_simp; rw [HX8.out]; cases X6 <;> cases EL <;> cases Z0 <;> ((try simp only [gv_true, gv_false]); (try go_simp); try simp [gv_true, gv_false])
        dsimp only [List.set_cons_zero, List.set_cons_succ]
        refine plan_nil ?_
        intro w4 L4
        simp only [List.append, List.drop_succ_cons, List.drop_zero]
        try simp only [Act.put, List.setIfInBounds_toArray, List.set_cons_zero, List.set_cons_succ]
        have CK := Lib.hid (chkB HX0.out HX1.out HX2.out HX3.out HX4.out HX5.out HX6.out HX8.out)
        clear HX1 HX2 HX3 HX4 HX5 HX6 HX8
        have r4 := L4.1
        have x4 := L4.2.1
        have o4 := L4.2.2.2
        clear L4 L hel hz0
        cases X8 with
        | false =>
          have E := Lib.hid (svalE_no (k := k) (cap := cap) (n := n) (ts := ts) (fun a => by
            have q := a.2.2.2.2.2.2.2.2 HN.out
            have q1 := tOK_of (q.2.1 j (by rw [HL.out]; exact hlt))
            rw [HM.out, HV.out, HG.out, HD.out, HPV.out] at q1
            have wgd : IntKind.i64.wrap (g + d) = g + d := IntWalk.i64_in _ (by omega)
            refine Bool.false_ne_true (CK.out.2 ⟨⟨by omega, by omega⟩, by omega, by omega, by omega, by omega, by omega, by have := HP.out; omega, fun he => by have h1 : j = m - 1 := (by rw [← HEL.out] at he; simp at he; omega); have := q.2.2.2.2.2; rw [HL.out, ← h1, HD.out] at this; rw [← HZ0.out, this]; rfl⟩)))
          go_wp2
          go_ret
          exact ⟨ret_i64 E.out.symm, o4⟩
        | true =>
          have ck := CK.out.1 rfl
          have wgd : IntKind.i64.wrap (g + d) = g + d := IntWalk.i64_in _ (by omega)
          rw [wgd] at ck
          have CC := Lib.hid ck
          obtain ⟨⟨c3, c4⟩, e0', e1', e2', e3', e4', _⟩ := ck
          clear wgd
          have HB := Lib.hid (fun e (he : e < j + 1) => by
            rcases Nat.lt_or_ge e j with g1 | g1
            · exact HA.out e g1
            · rw [show e = j by omega]; exact tOK_mk ⟨by rw [HV.out]; omega, by rw [HV.out]; omega, (Or.inr (by rw [HPV.out, HV.out]; exact CC.out.2.2.2.2.2.2.1)), by rw [HG.out]; omega, by rw [HD.out]; omega, by rw [HG.out]; omega, by rw [HD.out, HG.out]; omega⟩)
          have HS2 : RowKit.Hid (gsum ts (j + 1) = ss + g) := Lib.hid (by rw [gsum, HSS.out, HG.out])
          have HF2 : RowKit.Hid (0 < j + 1 → (tupAt ts 0).g = 1 ∧ (tupAt ts 0).d = 0) := Lib.hid (fun _ => HF.out (by omega))
          have HZ2 : RowKit.Hid (j + 1 = m → (tupAt ts (m - 1)).d = 0) := Lib.hid (fun h => by rw [← h]; exact HD.out.trans (by have := CC.out.2.2.2.2.2.2.2 (by rw [← HEL.out]; simp; omega); rw [← HZ0.out] at this; simpa using this))
          obtain ⟨B0, B1, B2, B3, B4, B5⟩ := row_three r4
          obtain ⟨A0, A1, A2, A3, _, _, _, _⟩ := row_four x4
          go_upto_region 11 with (fail)
          by_cases e9 : n < ss + g
          · have E := Lib.hid (svalE_no (k := k) (cap := cap) (n := n) (ts := ts) (fun a => by
              have q := a.2.2.2.2.2.2.2.2 HN.out
              have q1 := gsum_step (a := j + 1) q.2.1 ts.length (by rw [HL.out]; exact hlt) (Nat.le_refl _)
              rw [HS2.out, q.2.2.1] at q1
              omega))
            go_wp2
            go_ret
            exact ⟨ret_i64 E.out.symm, o4⟩
          · have e9' : ss + g ≤ n := by omega
            clear e9
            go_wp2
            go_roundw
            case rel => exact ⟨j + 1, by omega, by go_num, by rw [HS2.out], HB, HF2, HZ2, x4, o4⟩
            case measure => simp [intOf]; omega
    · have i1 : ¬ (j : Int) < (m : Int) := by omega
      obtain rfl : j = m := by omega
      obtain ⟨X0, X1, X2, X3, _, _, _, _⟩ := row_four L1
      by_cases c9 : gsum ts j = n
      · have E := Lib.hid (svalE_yes (k := k) (cap := cap) (n := n) (ts := ts) ⟨h0, h1, h2, h3, h4, h5, by rw [HL.out]; exact h6, fun e => absurd e HN.out, fun _ => ⟨by rw [HL.out]; exact hm, fun i hi => by rw [HM.out]; exact HA.out i (by rw [HL.out] at hi; exact hi), by rw [HL.out]; exact c9, (HF.out hm).1, (HF.out hm).2, by rw [HL.out]; exact HZ.out rfl⟩⟩)
        have c9b : (gsum ts j != n) = false := by simp [c9]
        generalize gsum ts j = ss at c9b ⊢
        clear c9
        go_wp2
        go_ret
        exact ⟨ret_i64 E.out.symm, L2⟩
      · have E := Lib.hid (svalE_no (k := k) (cap := cap) (n := n) (ts := ts) (fun a => absurd (a.2.2.2.2.2.2.2.2 HN.out).2.2.1 (by rw [HL.out]; exact c9)))
        have c9b : (gsum ts j != n) = true := by simpa using c9
        generalize gsum ts j = ss at c9b ⊢
        clear c9
        go_wp2
        go_ret
        exact ⟨ret_i64 E.out.symm, L2⟩
theorem rsval (k cap n : Int) (A : Option Addr) (m c : Nat) (ts : List Tup) (w : World) (hin : SIn k cap n A m c ts w) : Calls Try.prog 20 #[.agg #[.int .i64 k, .int .i64 cap, .int .i64 n, .slice A m c]] w fun e w' => e = .returned (.int .i64 (svalE k cap n ts)) ∧ Below w.heap.size w w' := by
  by_cases h0 : k < 1
  · exact rsval_k0 k cap n A m c ts w hin h0
  · by_cases h1 : 64 < k
    · exact rsval_k1 k cap n A m c ts w hin (by omega) h1
    · by_cases h2 : cap < 2
      · exact rsval_c0 k cap n A m c ts w hin (by omega) (by omega) h2
      · by_cases h3 : 65536 < cap
        · exact rsval_c1 k cap n A m c ts w hin (by omega) (by omega) (by omega) h3
        · by_cases h4 : n < 0
          · exact rsval_n0 k cap n A m c ts w hin (by omega) (by omega) (by omega) (by omega) h4
          · by_cases h5 : 1099511627776 < n
            · exact rsval_n1 k cap n A m c ts w hin (by omega) (by omega) (by omega) (by omega) (by omega) h5
            · by_cases h6 : cap < (m : Int)
              · exact rsval_len k cap n A m c ts w hin (by omega) (by omega) (by omega) (by omega) (by omega) (by omega) h6
              · by_cases hn : n = 0
                · by_cases hm : m = 0
                  · exact rsval_e1 k cap n A m c ts w hin (by omega) (by omega) (by omega) (by omega) (by omega) (by omega) (by omega) hn hm
                  · exact rsval_e0 k cap n A m c ts w hin (by omega) (by omega) (by omega) (by omega) (by omega) (by omega) (by omega) hn (by omega)
                · by_cases hm : m = 0
                  · exact rsval_e2 k cap n A m c ts w hin (by omega) (by omega) (by omega) (by omega) (by omega) (by omega) (by omega) hn hm
                  · exact rsval_main k cap n A m c ts w hin (by omega) (by omega) (by omega) (by omega) (by omega) (by omega) (by omega) hn (by omega)
end Go.Proofs.Ytdibjlphcmjnoaa
