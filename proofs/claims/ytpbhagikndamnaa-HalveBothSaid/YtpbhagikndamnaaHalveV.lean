/- The check of a counter that halves, walked: the program and the reference. -/
import Derived.Test.YtpbhagikndamnaaLeft
import Derived.Test.YtpbhagikndamnaaStay
import Derived.Test.YtpbhagikndamnaaMathHalve
import Derived.Lib.Hide
import Derived.Deep.Cut
namespace Go.Proofs.Ytpbhagikndamnaa
open Go.RowKit Go.Shelf
theorem ret_bool {a b : Bool} (h : a = b) : Ending.returned (.bool a) = .returned (.bool b) := by rw [h]
theorem rtick_yes (t : Int) (h0 : 0 ≤ t) (h1 : t ≤ 16777216) (w : World) : Calls Try.prog 29 #[.int .i64 t] w fun e w' => e = .returned (.bool true) ∧ w' = w := by
  go_enter Try.func29, Try.ntmps29
  go_wp2
  go_ret
  exact ⟨rfl, rfl⟩
theorem rtick_neg (t : Int) (h : t < 0) (w : World) : Calls Try.prog 29 #[.int .i64 t] w fun e w' => e = .returned (.bool false) ∧ w' = w := by
  go_enter Try.func29, Try.ntmps29
  go_wp2
  go_ret
  exact ⟨rfl, rfl⟩
theorem rtick_late (t : Int) (h : 16777216 < t) (w : World) : Calls Try.prog 29 #[.int .i64 t] w fun e w' => e = .returned (.bool false) ∧ w' = w := by
  have h' : 0 ≤ t := by omega
  go_enter Try.func29, Try.ntmps29
  go_wp2
  go_ret
  exact ⟨ret_bool (by simp; omega), rfl⟩
theorem ret_i64 {k : IntKind} {a b : Int} (h : a = b) : Ending.returned (.int k a) = .returned (.int k b) := by rw [h]
theorem phval_len0 (now : Int) (A : Option Addr) (n c : Nat) (zs : List Int) (w : World) (hr : Reads w w.heap.size 1 A n (zs.map (Value.int .i64))) (hnow : -9223372036854775808 ≤ now ∧ now ≤ 9223372036854775807) (hwf : ∀ k, -9223372036854775808 ≤ zs.getD k 0 ∧ zs.getD k 0 ≤ 9223372036854775807) (hn : n ≤ 9223372036854775807) (h : n < 1) : Calls Try.prog 20 #[.agg #[.int .i64 now, .slice A n c]] w fun e w' => e = .returned (.int .i64 (hvalE now zs)) ∧ Below w.heap.size w w' := by
  have hl := hr.num_len
  have E := Lib.hid (hvalE_len0 (now := now) (zs := zs) (by omega))
  clear hr hwf hl
  go_enter Try.func20, Try.ntmps20
  go_wp2_with fail
  go_ret
  exact ⟨ret_i64 E.out.symm, (Below.refl _ _).alloc (Nat.le_refl _) _⟩
theorem phval_len1 (now : Int) (A : Option Addr) (n c : Nat) (zs : List Int) (w : World) (hr : Reads w w.heap.size 1 A n (zs.map (Value.int .i64))) (hnow : -9223372036854775808 ≤ now ∧ now ≤ 9223372036854775807) (hwf : ∀ k, -9223372036854775808 ≤ zs.getD k 0 ∧ zs.getD k 0 ≤ 9223372036854775807) (hn : n ≤ 9223372036854775807) (h : 64 < n) : Calls Try.prog 20 #[.agg #[.int .i64 now, .slice A n c]] w fun e w' => e = .returned (.int .i64 (hvalE now zs)) ∧ Below w.heap.size w w' := by
  have hl := hr.num_len
  have E := Lib.hid (hvalE_len1 (now := now) (zs := zs) (by omega))
  clear hr hwf hl
  have h1 : ¬ (n < 1) := by omega
  go_enter Try.func20, Try.ntmps20
  go_wp2_with fail
  go_ret
  exact ⟨ret_i64 E.out.symm, (Below.refl _ _).alloc (Nat.le_refl _) _⟩
theorem phval_now0 (now : Int) (A : Option Addr) (n c : Nat) (zs : List Int) (w : World) (hr : Reads w w.heap.size 1 A n (zs.map (Value.int .i64))) (hnow : -9223372036854775808 ≤ now ∧ now ≤ 9223372036854775807) (hwf : ∀ k, -9223372036854775808 ≤ zs.getD k 0 ∧ zs.getD k 0 ≤ 9223372036854775807) (hn : n ≤ 9223372036854775807) (h1 : 1 ≤ n) (h2 : n ≤ 64) (h : now < 0) : Calls Try.prog 20 #[.agg #[.int .i64 now, .slice A n c]] w fun e w' => e = .returned (.int .i64 (hvalE now zs)) ∧ Below w.heap.size w w' := by
  have hl := hr.num_len
  have E := Lib.hid (hvalE_now0 (now := now) (zs := zs) h)
  clear hr hwf hl
  go_enter Try.func20, Try.ntmps20
  go_wp2_with fail
  go_ret
  exact ⟨ret_i64 E.out.symm, (Below.refl _ _).alloc (Nat.le_refl _) _⟩
theorem phval_now1 (now : Int) (A : Option Addr) (n c : Nat) (zs : List Int) (w : World) (hr : Reads w w.heap.size 1 A n (zs.map (Value.int .i64))) (hnow : -9223372036854775808 ≤ now ∧ now ≤ 9223372036854775807) (hwf : ∀ k, -9223372036854775808 ≤ zs.getD k 0 ∧ zs.getD k 0 ≤ 9223372036854775807) (hn : n ≤ 9223372036854775807) (h1 : 1 ≤ n) (h2 : n ≤ 64) (h : 16777216 < now) : Calls Try.prog 20 #[.agg #[.int .i64 now, .slice A n c]] w fun e w' => e = .returned (.int .i64 (hvalE now zs)) ∧ Below w.heap.size w w' := by
  have hl := hr.num_len
  have E := Lib.hid (hvalE_now1 (now := now) (zs := zs) h)
  clear hr hwf hl
  have h' : 0 ≤ now := by omega
  go_enter Try.func20, Try.ntmps20
  go_wp2_with fail
  go_ret
  exact ⟨ret_i64 E.out.symm, (Below.refl _ _).alloc (Nat.le_refl _) _⟩
set_option maxHeartbeats 1000000 in
theorem phval_main (now : Int) (A : Option Addr) (n c : Nat) (zs : List Int) (w : World) (hr : Reads w w.heap.size 1 A n (zs.map (Value.int .i64))) (hnow : -9223372036854775808 ≤ now ∧ now ≤ 9223372036854775807) (hwf : ∀ k, -9223372036854775808 ≤ zs.getD k 0 ∧ zs.getD k 0 ≤ 9223372036854775807) (hn : n ≤ 9223372036854775807) (h1 : 1 ≤ n) (h2 : n ≤ 64) (h3 : 0 ≤ now) (h4 : now ≤ 16777216) : Calls Try.prog 20 #[.agg #[.int .i64 now, .slice A n c]] w fun e w' => e = .returned (.int .i64 (hvalE now zs)) ∧ Below w.heap.size w w' := by
  have hl := hr.num_len
  have e1 := Lib.hid hl
  go_enter Try.func20, Try.ntmps20
  go_wp2_with fail
  have L1 : Row (w.alloc (.cells #[.int .i64 now, .slice A n c] 24)) w.heap.size 24 #[.int .i64 now, .slice A n c] := row_new rfl
  have L2 := hr.alloc (Nat.le_refl _) (.cells #[.int .i64 now, .slice A n c] 24)
  have L3 : Below w.heap.size w (w.alloc (.cells #[.int .i64 now, .slice A n c] 24)) := (Below.refl _ _).alloc (Nat.le_refl _) _
  generalize (w.alloc (.cells #[.int .i64 now, .slice A n c] 24)) = w2 at L1 L2 L3 ⊢
  obtain ⟨X0, X1, X2, X3⟩ := row_two L1
  clear hr hl
  go_loop [28] (fun i => ∃ k : Nat, k ≤ n ∧ i = .int .i64 (k : Nat) ∧ RowKit.Hid (∀ e, e < k → sumOK now e (zs.getD e 0) = true)) (fun i => n - (intOf i).toNat)
  case atStart => exact ⟨0, by omega, rfl, Lib.hid (fun e h => absurd h (by omega))⟩
  case round =>
    obtain ⟨k, hk, rfl, HA⟩ := hrel
    by_cases hlt : k < n
    · obtain ⟨ad, rfl, hadb, hcell⟩ := L2.num hlt
      have hs := hwf k
      generalize hz : zs.getD k 0 = s at hs hcell
      have HZ := Lib.hid hz
      clear hz hwf
      have i1 : (k : Int) < (n : Int) := by omega
      by_cases c1 : s < 0
      · have E := Lib.hid (hvalE_bad (now := now) (zs := zs) (k := k) (by rw [e1.out]; exact hlt) (by rw [HZ.out]; exact sumOK_neg c1))
        go_wp2
        go_ret
        exact ⟨ret_i64 E.out.symm, L3⟩
      · by_cases c2 : 1099511627776 < s
        · have E := Lib.hid (hvalE_bad (now := now) (zs := zs) (k := k) (by rw [e1.out]; exact hlt) (by rw [HZ.out]; exact sumOK_big c2))
          go_wp2
          go_ret
          exact ⟨ret_i64 E.out.symm, L3⟩
        · by_cases c3 : now < (k : Int)
          · by_cases c4 : s = 0
            · subst c4
              have HB := Lib.hid (fun e (he : e < k + 1) => by
                rcases Nat.lt_or_ge e k with g | g
                · exact HA.out e g
                · rw [show e = k by omega, HZ.out]; exact sumOK_zero (now := now))
              go_wp2
              go_round
              case rel => exact ⟨k + 1, by omega, by go_num, HB⟩
              case measure => simp [intOf]; omega
            · have E := Lib.hid (hvalE_bad (now := now) (zs := zs) (k := k) (by rw [e1.out]; exact hlt) (by rw [HZ.out]; exact sumOK_late c4 c3))
              have c4' : (s != 0) = true := by simpa using c4
              clear c4
              go_wp2
              go_ret
              exact ⟨ret_i64 E.out.symm, L3⟩
          · have HB := Lib.hid (fun e (he : e < k + 1) => by
              rcases Nat.lt_or_ge e k with g | g
              · exact HA.out e g
              · rw [show e = k by omega, HZ.out]; exact sumOK_yes (now := now) (by omega) (by omega) (by omega))
            by_cases c4 : s = 0
            · subst c4
              go_wp2
              go_round
              case rel => exact ⟨k + 1, by omega, by go_num, HB⟩
              case measure => simp [intOf]; omega
            · have c4' : (s != 0) = true := by simpa using c4
              clear c4
              go_wp2
              go_round
              case rel => exact ⟨k + 1, by omega, by go_num, HB⟩
              case measure => simp [intOf]; omega
    · have i1 : ¬ (k : Int) < (n : Int) := by omega
      have E := Lib.hid (hvalE_all (now := now) (zs := zs) (by rw [e1.out]; omega) (by rw [e1.out]; omega) h3 h4 (fun e he => HA.out e (by rw [e1.out] at he; omega)))
      go_wp2
      go_ret
      exact ⟨ret_i64 E.out.symm, L3⟩
theorem phval (now : Int) (A : Option Addr) (n c : Nat) (zs : List Int) (w : World) (hr : Reads w w.heap.size 1 A n (zs.map (Value.int .i64))) (hnow : -9223372036854775808 ≤ now ∧ now ≤ 9223372036854775807) (hwf : ∀ k, -9223372036854775808 ≤ zs.getD k 0 ∧ zs.getD k 0 ≤ 9223372036854775807) (hn : n ≤ 9223372036854775807) : Calls Try.prog 20 #[.agg #[.int .i64 now, .slice A n c]] w fun e w' => e = .returned (.int .i64 (hvalE now zs)) ∧ Below w.heap.size w w' := by
  by_cases h1 : n < 1
  · exact phval_len0 now A n c zs w hr hnow hwf hn h1
  · by_cases h2 : 64 < n
    · exact phval_len1 now A n c zs w hr hnow hwf hn h2
    · by_cases h3 : now < 0
      · exact phval_now0 now A n c zs w hr hnow hwf hn (by omega) (by omega) h3
      · by_cases h4 : 16777216 < now
        · exact phval_now1 now A n c zs w hr hnow hwf hn (by omega) (by omega) h4
        · exact phval_main now A n c zs w hr hnow hwf hn (by omega) (by omega) (by omega) (by omega)
theorem rhval_len0 (now : Int) (A : Option Addr) (n c : Nat) (zs : List Int) (w : World) (hr : Reads w w.heap.size 1 A n (zs.map (Value.int .i64))) (hnow : -9223372036854775808 ≤ now ∧ now ≤ 9223372036854775807) (hwf : ∀ k, -9223372036854775808 ≤ zs.getD k 0 ∧ zs.getD k 0 ≤ 9223372036854775807) (hn : n ≤ 9223372036854775807) (h : n < 1) : Calls Try.prog 21 #[.agg #[.int .i64 now, .slice A n c]] w fun e w' => e = .returned (.int .i64 (hvalE now zs)) ∧ Below w.heap.size w w' := by
  have hl := hr.num_len
  have E := Lib.hid (hvalE_len0 (now := now) (zs := zs) (by omega))
  clear hr hwf hl
  go_enter Try.func21, Try.ntmps21
  go_wp2_with fail
  go_ret
  exact ⟨ret_i64 E.out.symm, (Below.refl _ _).alloc (Nat.le_refl _) _⟩
theorem rhval_len1 (now : Int) (A : Option Addr) (n c : Nat) (zs : List Int) (w : World) (hr : Reads w w.heap.size 1 A n (zs.map (Value.int .i64))) (hnow : -9223372036854775808 ≤ now ∧ now ≤ 9223372036854775807) (hwf : ∀ k, -9223372036854775808 ≤ zs.getD k 0 ∧ zs.getD k 0 ≤ 9223372036854775807) (hn : n ≤ 9223372036854775807) (h : 64 < n) : Calls Try.prog 21 #[.agg #[.int .i64 now, .slice A n c]] w fun e w' => e = .returned (.int .i64 (hvalE now zs)) ∧ Below w.heap.size w w' := by
  have hl := hr.num_len
  have E := Lib.hid (hvalE_len1 (now := now) (zs := zs) (by omega))
  clear hr hwf hl
  have h1 : ¬ (n < 1) := by omega
  go_enter Try.func21, Try.ntmps21
  go_wp2_with fail
  go_ret
  exact ⟨ret_i64 E.out.symm, (Below.refl _ _).alloc (Nat.le_refl _) _⟩
theorem rhval_now0 (now : Int) (A : Option Addr) (n c : Nat) (zs : List Int) (w : World) (hr : Reads w w.heap.size 1 A n (zs.map (Value.int .i64))) (hnow : -9223372036854775808 ≤ now ∧ now ≤ 9223372036854775807) (hwf : ∀ k, -9223372036854775808 ≤ zs.getD k 0 ∧ zs.getD k 0 ≤ 9223372036854775807) (hn : n ≤ 9223372036854775807) (h1 : 1 ≤ n) (h2 : n ≤ 64) (h : now < 0) : Calls Try.prog 21 #[.agg #[.int .i64 now, .slice A n c]] w fun e w' => e = .returned (.int .i64 (hvalE now zs)) ∧ Below w.heap.size w w' := by
  have hl := hr.num_len
  have E := Lib.hid (hvalE_now0 (now := now) (zs := zs) h)
  clear hr hwf hl
  go_enter Try.func21, Try.ntmps21
  go_wp2_with (go_at_call 29; refine (rtick_neg _ h _).mono ?_; rintro e w9 ⟨rfl, rfl⟩)
  go_ret
  exact ⟨ret_i64 E.out.symm, (Below.refl _ _).alloc (Nat.le_refl _) _⟩
theorem rhval_now1 (now : Int) (A : Option Addr) (n c : Nat) (zs : List Int) (w : World) (hr : Reads w w.heap.size 1 A n (zs.map (Value.int .i64))) (hnow : -9223372036854775808 ≤ now ∧ now ≤ 9223372036854775807) (hwf : ∀ k, -9223372036854775808 ≤ zs.getD k 0 ∧ zs.getD k 0 ≤ 9223372036854775807) (hn : n ≤ 9223372036854775807) (h1 : 1 ≤ n) (h2 : n ≤ 64) (h : 16777216 < now) : Calls Try.prog 21 #[.agg #[.int .i64 now, .slice A n c]] w fun e w' => e = .returned (.int .i64 (hvalE now zs)) ∧ Below w.heap.size w w' := by
  have hl := hr.num_len
  have E := Lib.hid (hvalE_now1 (now := now) (zs := zs) h)
  clear hr hwf hl
  have h' : 0 ≤ now := by omega
  go_enter Try.func21, Try.ntmps21
  go_wp2_with (go_at_call 29; refine (rtick_late _ h _).mono ?_; rintro e w9 ⟨rfl, rfl⟩)
  go_ret
  exact ⟨ret_i64 E.out.symm, (Below.refl _ _).alloc (Nat.le_refl _) _⟩
set_option maxHeartbeats 1000000 in
theorem rhval_main (now : Int) (A : Option Addr) (n c : Nat) (zs : List Int) (w : World) (hr : Reads w w.heap.size 1 A n (zs.map (Value.int .i64))) (hnow : -9223372036854775808 ≤ now ∧ now ≤ 9223372036854775807) (hwf : ∀ k, -9223372036854775808 ≤ zs.getD k 0 ∧ zs.getD k 0 ≤ 9223372036854775807) (hn : n ≤ 9223372036854775807) (h1 : 1 ≤ n) (h2 : n ≤ 64) (h3 : 0 ≤ now) (h4 : now ≤ 16777216) : Calls Try.prog 21 #[.agg #[.int .i64 now, .slice A n c]] w fun e w' => e = .returned (.int .i64 (hvalE now zs)) ∧ Below w.heap.size w w' := by
  have hl := hr.num_len
  have e1 := Lib.hid hl
  go_enter Try.func21, Try.ntmps21
  go_wp2_with (go_at_call 29; refine (rtick_yes _ h3 h4 _).mono ?_; rintro e w9 ⟨rfl, rfl⟩)
  have L1 : Row (w.alloc (.cells #[.int .i64 now, .slice A n c] 24)) w.heap.size 24 #[.int .i64 now, .slice A n c] := row_new rfl
  have L2 := hr.alloc (Nat.le_refl _) (.cells #[.int .i64 now, .slice A n c] 24)
  have L3 : Below w.heap.size w (w.alloc (.cells #[.int .i64 now, .slice A n c] 24)) := (Below.refl _ _).alloc (Nat.le_refl _) _
  generalize (w.alloc (.cells #[.int .i64 now, .slice A n c] 24)) = w2 at L1 L2 L3 ⊢
  obtain ⟨X0, X1, X2, X3⟩ := row_two L1
  clear hr hl
  go_loop [24] (fun i => ∃ k : Nat, k ≤ n ∧ i = .int .i64 (k : Nat) ∧ RowKit.Hid (∀ e, e < k → sumOK now e (zs.getD e 0) = true)) (fun i => n - (intOf i).toNat)
  case atStart => exact ⟨0, by omega, rfl, Lib.hid (fun e h => absurd h (by omega))⟩
  case round =>
    obtain ⟨k, hk, rfl, HA⟩ := hrel
    by_cases hlt : k < n
    · obtain ⟨ad, rfl, hadb, hcell⟩ := L2.num hlt
      have hs := hwf k
      generalize hz : zs.getD k 0 = s at hs hcell
      have HZ := Lib.hid hz
      clear hz hwf
      have i1 : (k : Int) < (n : Int) := by omega
      by_cases c1 : s < 0
      · have E := Lib.hid (hvalE_bad (now := now) (zs := zs) (k := k) (by rw [e1.out]; exact hlt) (by rw [HZ.out]; exact sumOK_neg c1))
        go_wp2
        go_ret
        exact ⟨ret_i64 E.out.symm, L3⟩
      · by_cases c2 : 1099511627776 < s
        · have E := Lib.hid (hvalE_bad (now := now) (zs := zs) (k := k) (by rw [e1.out]; exact hlt) (by rw [HZ.out]; exact sumOK_big c2))
          go_wp2
          go_ret
          exact ⟨ret_i64 E.out.symm, L3⟩
        · by_cases c3 : now < (k : Int)
          · by_cases c4 : s = 0
            · subst c4
              have HB := Lib.hid (fun e (he : e < k + 1) => by
                rcases Nat.lt_or_ge e k with g | g
                · exact HA.out e g
                · rw [show e = k by omega, HZ.out]; exact sumOK_zero (now := now))
              go_wp2
              go_round
              case rel => exact ⟨k + 1, by omega, by go_num, HB⟩
              case measure => simp [intOf]; omega
            · have E := Lib.hid (hvalE_bad (now := now) (zs := zs) (k := k) (by rw [e1.out]; exact hlt) (by rw [HZ.out]; exact sumOK_late c4 c3))
              have c4' : (s != 0) = true := by simpa using c4
              clear c4
              go_wp2
              go_ret
              exact ⟨ret_i64 E.out.symm, L3⟩
          · have HB := Lib.hid (fun e (he : e < k + 1) => by
              rcases Nat.lt_or_ge e k with g | g
              · exact HA.out e g
              · rw [show e = k by omega, HZ.out]; exact sumOK_yes (now := now) (by omega) (by omega) (by omega))
            by_cases c4 : s = 0
            · subst c4
              go_wp2
              go_round
              case rel => exact ⟨k + 1, by omega, by go_num, HB⟩
              case measure => simp [intOf]; omega
            · have c4' : (s != 0) = true := by simpa using c4
              clear c4
              go_wp2
              go_round
              case rel => exact ⟨k + 1, by omega, by go_num, HB⟩
              case measure => simp [intOf]; omega
    · have i1 : ¬ (k : Int) < (n : Int) := by omega
      have E := Lib.hid (hvalE_all (now := now) (zs := zs) (by rw [e1.out]; omega) (by rw [e1.out]; omega) h3 h4 (fun e he => HA.out e (by rw [e1.out] at he; omega)))
      go_wp2
      go_ret
      exact ⟨ret_i64 E.out.symm, L3⟩
theorem rhval (now : Int) (A : Option Addr) (n c : Nat) (zs : List Int) (w : World) (hr : Reads w w.heap.size 1 A n (zs.map (Value.int .i64))) (hnow : -9223372036854775808 ≤ now ∧ now ≤ 9223372036854775807) (hwf : ∀ k, -9223372036854775808 ≤ zs.getD k 0 ∧ zs.getD k 0 ≤ 9223372036854775807) (hn : n ≤ 9223372036854775807) : Calls Try.prog 21 #[.agg #[.int .i64 now, .slice A n c]] w fun e w' => e = .returned (.int .i64 (hvalE now zs)) ∧ Below w.heap.size w w' := by
  by_cases h1 : n < 1
  · exact rhval_len0 now A n c zs w hr hnow hwf hn h1
  · by_cases h2 : 64 < n
    · exact rhval_len1 now A n c zs w hr hnow hwf hn h2
    · by_cases h3 : now < 0
      · exact rhval_now0 now A n c zs w hr hnow hwf hn (by omega) (by omega) h3
      · by_cases h4 : 16777216 < now
        · exact rhval_now1 now A n c zs w hr hnow hwf hn (by omega) (by omega) h4
        · exact rhval_main now A n c zs w hr hnow hwf hn (by omega) (by omega) (by omega) (by omega)
end Go.Proofs.Ytpbhagikndamnaa
