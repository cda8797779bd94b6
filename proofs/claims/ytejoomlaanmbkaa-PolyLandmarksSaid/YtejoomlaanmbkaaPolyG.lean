/- Counters with polynomial decay: an earlier landmark, the reference; Rebase of both, walked. -/
import Derived.Test.YtejoomlaanmbkaaPolyF
import Derived.Test.YtejoomlaanmbkaaPolyD
namespace Go.Proofs.Ytejoomlaanmbkaa
open Go.RowKit Go.Shelf
theorem rchoose (n : Nat) : ∀ (k : Nat) (w : World), n < 5 → k ≤ n → Calls Try.prog 50 #[.int .i64 n, .int .i64 k] w fun e w' => e = .returned (.int .u64 (cN n k : Nat)) ∧ w' = w := by
  induction n with
  | zero =>
    intro k w _ hk
    obtain rfl : k = 0 := by omega
    go_enter Try.func50, Try.ntmps50
    go_wp2_with fail
    go_ret
    exact ⟨rfl, rfl⟩
  | succ n ih =>
    intro k w hn hk
    by_cases h0 : k = 0
    · subst h0
      go_enter Try.func50, Try.ntmps50
      go_wp2_with fail
      go_ret
      exact ⟨rfl, rfl⟩
    · by_cases h1 : k = n + 1
      · subst h1
        have E := Lib.hid (cN_self (n + 1)).1
        have t1 : (((n + 1 : Nat) : Int) == 0) = false := by simp; omega
        go_enter Try.func50, Try.ntmps50
        go_wp2_with fail
        go_ret
        exact ⟨by rw [E.out]; rfl, rfl⟩
      · obtain ⟨k, rfl⟩ : ∃ q, k = q + 1 := ⟨k - 1, by omega⟩
        have t1 : (((k + 1 : Nat) : Int) == 0) = false := by simp; omega
        have t2 : ((k : Int) + 1 == (n : Int) + 1) = false := by simp; omega
        have t3 : ((k : Int) + 1 == 0) = false := by simp; omega
        have E : RowKit.Hid (cN (n + 1) (k + 1) = cN n k + cN n (k + 1)) := Lib.hid rfl
        have b1 := cN_pos n (by omega) k (by omega)
        have b2 := cN_pos n (by omega) (k + 1) (by omega)
        have H1 := Lib.hid (fun w => ih k w (by omega) (by omega))
        have H2 := fun w => ih (k + 1) w (by omega) (by omega)
        rw [show ((k + 1 : Nat) : Int) = (k : Int) + 1 from by omega] at H2
        have H2 := Lib.hid H2
        generalize cN n k = x at b1 H1 E
        generalize cN n (k + 1) = y at b2 H2 E
        have wn : IntKind.i64.wrap ((n : Int) + 1 - 1) = (n : Int) := by rw [IntWalk.i64_in _ (by omega)]; omega
        have wk : IntKind.i64.wrap ((k : Int) + 1 - 1) = (k : Int) := by rw [IntWalk.i64_in _ (by omega)]; omega
        have wx : IntKind.u64.wrap ((x : Int) + (y : Int)) = (x : Int) + (y : Int) := IntWalk.u64_in _ (by omega)
        have wn' : IntKind.i64.wrap (n : Int) = (n : Int) := IntWalk.i64_in _ (by omega)
        have wk' : IntKind.i64.wrap (k : Int) = (k : Int) := IntWalk.i64_in _ (by omega)
        clear ih
        go_enter Try.func50, Try.ntmps50
        go_wp2_with (first | (go_at_call 50; with_reducible refine (H1.out _).mono ?_; rintro e w1 ⟨rfl, h9⟩; obtain rfl := h9.symm) | (go_at_call 50; with_reducible refine (H2.out _).mono ?_; rintro e w1 ⟨rfl, h9⟩; obtain rfl := h9.symm))
        go_ret
        exact ⟨by rw [E.out]; first | rfl | (congr 2; omega), rfl⟩
theorem ppreb_bad (p land now : Int) (A : Option Addr) (n c : Nat) (ms : List Nat) (ld : Int) (w : World) (hin : PIn p land now A n c ms w) (hv : pvalE p land now ms = 2) : Calls Try.prog 27 #[.agg #[.int .i64 p, .int .i64 land, .int .i64 now, .slice A n c], .int .i64 ld] w fun e w' => PRet (qreb p land now ms ld) w e w' := by
  rw [qreb_bad hv]
  have P := fun w1 (hb : Below w.heap.size w w1) => ppval p land now A n c ms w1 (hin.below hb)
  rw [hv] at P
  have P := Lib.hid P
  clear hv hin
  go_enter Try.func27, Try.ntmps27
  go_wp2_with (first | (go_at_call 20; with_reducible refine (P.out _ (by (repeat (first | exact Below.refl _ _ | refine Below.setCell ?_ (by first | (simp; done) | (simp; omega) | omega) _ | refine Below.alloc ?_ (by first | (simp; done) | (simp; omega) | omega) _ | refine Below.drew ?_ | refine Below.trans ?_ (Below.mono (by assumption) (by first | (simp; done) | (simp; omega) | omega)))))).mono ?_; rintro e w1 ⟨rfl, hb1⟩; have hz1 := hb1.size; (try simp at hz1); have o1 : Below w.heap.size w w1 := (by (repeat (first | exact Below.refl _ _ | refine Below.setCell ?_ (by first | (simp; done) | (simp; omega) | omega) _ | refine Below.alloc ?_ (by first | (simp; done) | (simp; omega) | omega) _ | refine Below.drew ?_ | refine Below.trans ?_ (Below.mono (by assumption) (by first | (simp; done) | (simp; omega) | omega))))); have q1_0 : w.heap.size < w1.heap.size := (by omega); have r1_0 : Row w1 (w.heap.size) 24 #[.int .i64 p, .int .i64 land, .int .i64 now, .slice A n c] := row_call (by (repeat (first | assumption | (refine row_new ?_; (first | (simp; done) | omega)) | refine row_alloc ?_ _ | refine row_drew ?_ | refine row_call ?_ (by assumption)))) hb1; obtain ⟨c1_0a, c1_0b, c1_0c, c1_0d, f1_0a, f1_0b, f1_0c, f1_0d⟩ := row_four r1_0; have q1_1 : w.heap.size + 1 < w1.heap.size := (by omega); have r1_1 : Row w1 (w.heap.size + 1) 24 #[.int .i64 0, .int .i64 0, .int .i64 0, .slice none 0 0] := row_call (by (repeat (first | assumption | (refine row_new ?_; (first | (simp; done) | omega)) | refine row_alloc ?_ _ | refine row_drew ?_ | refine row_call ?_ (by assumption)))) hb1; obtain ⟨c1_1a, c1_1b, c1_1c, c1_1d, f1_1a, f1_1b, f1_1c, f1_1d⟩ := row_four r1_1))
  exact bodyPost_ret (v := .tuple #[.agg #[.int .i64 0, .int .i64 0, .int .i64 0, .slice none 0 0], .int .i64 2]) (by simp [results, Try.results27, go_sem, c1_1a, c1_1b, c1_1c, c1_1d]) rfl (pret_zero (by (repeat (first | exact Below.refl _ _ | refine Below.setCell ?_ (by first | (simp; done) | (simp; omega) | omega) _ | refine Below.alloc ?_ (by first | (simp; done) | (simp; omega) | omega) _ | refine Below.drew ?_ | refine Below.trans ?_ (Below.mono (by assumption) (by first | (simp; done) | (simp; omega) | omega))))))
theorem ppreb_low (p land now : Int) (A : Option Addr) (n c : Nat) (ms : List Nat) (ld : Int) (w : World) (hin : PIn p land now A n c ms w) (hv : pvalE p land now ms = 0) (h1 : ld < 0) : Calls Try.prog 27 #[.agg #[.int .i64 p, .int .i64 land, .int .i64 now, .slice A n c], .int .i64 ld] w fun e w' => PRet (qreb p land now ms ld) w e w' := by
  rw [qreb_low hv h1]
  have P := fun w1 (hb : Below w.heap.size w w1) => ppval p land now A n c ms w1 (hin.below hb)
  rw [hv] at P
  have P := Lib.hid P
  clear hv hin
  go_enter Try.func27, Try.ntmps27
  go_wp2_with (first | (go_at_call 20; with_reducible refine (P.out _ (by (repeat (first | exact Below.refl _ _ | refine Below.setCell ?_ (by first | (simp; done) | (simp; omega) | omega) _ | refine Below.alloc ?_ (by first | (simp; done) | (simp; omega) | omega) _ | refine Below.drew ?_ | refine Below.trans ?_ (Below.mono (by assumption) (by first | (simp; done) | (simp; omega) | omega)))))).mono ?_; rintro e w1 ⟨rfl, hb1⟩; have hz1 := hb1.size; (try simp at hz1); have o1 : Below w.heap.size w w1 := (by (repeat (first | exact Below.refl _ _ | refine Below.setCell ?_ (by first | (simp; done) | (simp; omega) | omega) _ | refine Below.alloc ?_ (by first | (simp; done) | (simp; omega) | omega) _ | refine Below.drew ?_ | refine Below.trans ?_ (Below.mono (by assumption) (by first | (simp; done) | (simp; omega) | omega))))); have q1_0 : w.heap.size < w1.heap.size := (by omega); have r1_0 : Row w1 (w.heap.size) 24 #[.int .i64 p, .int .i64 land, .int .i64 now, .slice A n c] := row_call (by (repeat (first | assumption | (refine row_new ?_; (first | (simp; done) | omega)) | refine row_alloc ?_ _ | refine row_drew ?_ | refine row_call ?_ (by assumption)))) hb1; obtain ⟨c1_0a, c1_0b, c1_0c, c1_0d, f1_0a, f1_0b, f1_0c, f1_0d⟩ := row_four r1_0; have q1_1 : w.heap.size + 1 < w1.heap.size := (by omega); have r1_1 : Row w1 (w.heap.size + 1) 24 #[.int .i64 0, .int .i64 0, .int .i64 0, .slice none 0 0] := row_call (by (repeat (first | assumption | (refine row_new ?_; (first | (simp; done) | omega)) | refine row_alloc ?_ _ | refine row_drew ?_ | refine row_call ?_ (by assumption)))) hb1; obtain ⟨c1_1a, c1_1b, c1_1c, c1_1d, f1_1a, f1_1b, f1_1c, f1_1d⟩ := row_four r1_1))
  exact bodyPost_ret (v := .tuple #[.agg #[.int .i64 0, .int .i64 0, .int .i64 0, .slice none 0 0], .int .i64 1]) (by simp [results, Try.results27, go_sem, c1_1a, c1_1b, c1_1c, c1_1d]) rfl (pret_zero (by (repeat (first | exact Below.refl _ _ | refine Below.setCell ?_ (by first | (simp; done) | (simp; omega) | omega) _ | refine Below.alloc ?_ (by first | (simp; done) | (simp; omega) | omega) _ | refine Below.drew ?_ | refine Below.trans ?_ (Below.mono (by assumption) (by first | (simp; done) | (simp; omega) | omega))))))
theorem ppreb_high (p land now : Int) (A : Option Addr) (n c : Nat) (ms : List Nat) (ld : Int) (w : World) (hin : PIn p land now A n c ms w) (hv : pvalE p land now ms = 0) (h1 : land < ld) : Calls Try.prog 27 #[.agg #[.int .i64 p, .int .i64 land, .int .i64 now, .slice A n c], .int .i64 ld] w fun e w' => PRet (qreb p land now ms ld) w e w' := by
  rw [qreb_high hv h1]
  have P := fun w1 (hb : Below w.heap.size w w1) => ppval p land now A n c ms w1 (hin.below hb)
  rw [hv] at P
  have P := Lib.hid P
  obtain ⟨v1, v2, v3, v4, v5, v6, v7, _⟩ := of_pvalE hv
  have h2 : 0 ≤ ld := by omega
  clear hv hin
  go_enter Try.func27, Try.ntmps27
  go_wp2_with (first | (go_at_call 20; with_reducible refine (P.out _ (by (repeat (first | exact Below.refl _ _ | refine Below.setCell ?_ (by first | (simp; done) | (simp; omega) | omega) _ | refine Below.alloc ?_ (by first | (simp; done) | (simp; omega) | omega) _ | refine Below.drew ?_ | refine Below.trans ?_ (Below.mono (by assumption) (by first | (simp; done) | (simp; omega) | omega)))))).mono ?_; rintro e w1 ⟨rfl, hb1⟩; have hz1 := hb1.size; (try simp at hz1); have o1 : Below w.heap.size w w1 := (by (repeat (first | exact Below.refl _ _ | refine Below.setCell ?_ (by first | (simp; done) | (simp; omega) | omega) _ | refine Below.alloc ?_ (by first | (simp; done) | (simp; omega) | omega) _ | refine Below.drew ?_ | refine Below.trans ?_ (Below.mono (by assumption) (by first | (simp; done) | (simp; omega) | omega))))); have q1_0 : w.heap.size < w1.heap.size := (by omega); have r1_0 : Row w1 (w.heap.size) 24 #[.int .i64 p, .int .i64 land, .int .i64 now, .slice A n c] := row_call (by (repeat (first | assumption | (refine row_new ?_; (first | (simp; done) | omega)) | refine row_alloc ?_ _ | refine row_drew ?_ | refine row_call ?_ (by assumption)))) hb1; obtain ⟨c1_0a, c1_0b, c1_0c, c1_0d, f1_0a, f1_0b, f1_0c, f1_0d⟩ := row_four r1_0; have q1_1 : w.heap.size + 1 < w1.heap.size := (by omega); have r1_1 : Row w1 (w.heap.size + 1) 24 #[.int .i64 0, .int .i64 0, .int .i64 0, .slice none 0 0] := row_call (by (repeat (first | assumption | (refine row_new ?_; (first | (simp; done) | omega)) | refine row_alloc ?_ _ | refine row_drew ?_ | refine row_call ?_ (by assumption)))) hb1; obtain ⟨c1_1a, c1_1b, c1_1c, c1_1d, f1_1a, f1_1b, f1_1c, f1_1d⟩ := row_four r1_1))
  exact bodyPost_ret (v := .tuple #[.agg #[.int .i64 0, .int .i64 0, .int .i64 0, .slice none 0 0], .int .i64 1]) (by simp [results, Try.results27, go_sem, c1_1a, c1_1b, c1_1c, c1_1d]) rfl (pret_zero (by (repeat (first | exact Below.refl _ _ | refine Below.setCell ?_ (by first | (simp; done) | (simp; omega) | omega) _ | refine Below.alloc ?_ (by first | (simp; done) | (simp; omega) | omega) _ | refine Below.drew ?_ | refine Below.trans ?_ (Below.mono (by assumption) (by first | (simp; done) | (simp; omega) | omega))))))
theorem rpreb_bad (p land now : Int) (A : Option Addr) (n c : Nat) (ms : List Nat) (ld : Int) (w : World) (hin : PIn p land now A n c ms w) (hv : pvalE p land now ms = 2) : Calls Try.prog 28 #[.agg #[.int .i64 p, .int .i64 land, .int .i64 now, .slice A n c], .int .i64 ld] w fun e w' => PRet (qreb p land now ms ld) w e w' := by
  rw [qreb_bad hv]
  have P := fun w1 (hb : Below w.heap.size w w1) => rpval p land now A n c ms w1 (hin.below hb)
  rw [hv] at P
  have P := Lib.hid P
  clear hv hin
  go_enter Try.func28, Try.ntmps28
  go_wp2_with (first | (go_at_call 21; with_reducible refine (P.out _ (by (repeat (first | exact Below.refl _ _ | refine Below.setCell ?_ (by first | (simp; done) | (simp; omega) | omega) _ | refine Below.alloc ?_ (by first | (simp; done) | (simp; omega) | omega) _ | refine Below.drew ?_ | refine Below.trans ?_ (Below.mono (by assumption) (by first | (simp; done) | (simp; omega) | omega)))))).mono ?_; rintro e w1 ⟨rfl, hb1⟩; have hz1 := hb1.size; (try simp at hz1); have o1 : Below w.heap.size w w1 := (by (repeat (first | exact Below.refl _ _ | refine Below.setCell ?_ (by first | (simp; done) | (simp; omega) | omega) _ | refine Below.alloc ?_ (by first | (simp; done) | (simp; omega) | omega) _ | refine Below.drew ?_ | refine Below.trans ?_ (Below.mono (by assumption) (by first | (simp; done) | (simp; omega) | omega))))); have q1_0 : w.heap.size < w1.heap.size := (by omega); have r1_0 : Row w1 (w.heap.size) 24 #[.int .i64 p, .int .i64 land, .int .i64 now, .slice A n c] := row_call (by (repeat (first | assumption | (refine row_new ?_; (first | (simp; done) | omega)) | refine row_alloc ?_ _ | refine row_drew ?_ | refine row_call ?_ (by assumption)))) hb1; obtain ⟨c1_0a, c1_0b, c1_0c, c1_0d, f1_0a, f1_0b, f1_0c, f1_0d⟩ := row_four r1_0; have q1_1 : w.heap.size + 1 < w1.heap.size := (by omega); have r1_1 : Row w1 (w.heap.size + 1) 24 #[.int .i64 0, .int .i64 0, .int .i64 0, .slice none 0 0] := row_call (by (repeat (first | assumption | (refine row_new ?_; (first | (simp; done) | omega)) | refine row_alloc ?_ _ | refine row_drew ?_ | refine row_call ?_ (by assumption)))) hb1; obtain ⟨c1_1a, c1_1b, c1_1c, c1_1d, f1_1a, f1_1b, f1_1c, f1_1d⟩ := row_four r1_1))
  exact bodyPost_ret (v := .tuple #[.agg #[.int .i64 0, .int .i64 0, .int .i64 0, .slice none 0 0], .int .i64 2]) (by simp [results, Try.results28, go_sem, c1_1a, c1_1b, c1_1c, c1_1d]) rfl (pret_zero (by (repeat (first | exact Below.refl _ _ | refine Below.setCell ?_ (by first | (simp; done) | (simp; omega) | omega) _ | refine Below.alloc ?_ (by first | (simp; done) | (simp; omega) | omega) _ | refine Below.drew ?_ | refine Below.trans ?_ (Below.mono (by assumption) (by first | (simp; done) | (simp; omega) | omega))))))
theorem rpreb_low (p land now : Int) (A : Option Addr) (n c : Nat) (ms : List Nat) (ld : Int) (w : World) (hin : PIn p land now A n c ms w) (hv : pvalE p land now ms = 0) (h1 : ld < 0) : Calls Try.prog 28 #[.agg #[.int .i64 p, .int .i64 land, .int .i64 now, .slice A n c], .int .i64 ld] w fun e w' => PRet (qreb p land now ms ld) w e w' := by
  rw [qreb_low hv h1]
  have P := fun w1 (hb : Below w.heap.size w w1) => rpval p land now A n c ms w1 (hin.below hb)
  rw [hv] at P
  have P := Lib.hid P
  clear hv hin
  go_enter Try.func28, Try.ntmps28
  go_wp2_with (first | (go_at_call 21; with_reducible refine (P.out _ (by (repeat (first | exact Below.refl _ _ | refine Below.setCell ?_ (by first | (simp; done) | (simp; omega) | omega) _ | refine Below.alloc ?_ (by first | (simp; done) | (simp; omega) | omega) _ | refine Below.drew ?_ | refine Below.trans ?_ (Below.mono (by assumption) (by first | (simp; done) | (simp; omega) | omega)))))).mono ?_; rintro e w1 ⟨rfl, hb1⟩; have hz1 := hb1.size; (try simp at hz1); have o1 : Below w.heap.size w w1 := (by (repeat (first | exact Below.refl _ _ | refine Below.setCell ?_ (by first | (simp; done) | (simp; omega) | omega) _ | refine Below.alloc ?_ (by first | (simp; done) | (simp; omega) | omega) _ | refine Below.drew ?_ | refine Below.trans ?_ (Below.mono (by assumption) (by first | (simp; done) | (simp; omega) | omega))))); have q1_0 : w.heap.size < w1.heap.size := (by omega); have r1_0 : Row w1 (w.heap.size) 24 #[.int .i64 p, .int .i64 land, .int .i64 now, .slice A n c] := row_call (by (repeat (first | assumption | (refine row_new ?_; (first | (simp; done) | omega)) | refine row_alloc ?_ _ | refine row_drew ?_ | refine row_call ?_ (by assumption)))) hb1; obtain ⟨c1_0a, c1_0b, c1_0c, c1_0d, f1_0a, f1_0b, f1_0c, f1_0d⟩ := row_four r1_0; have q1_1 : w.heap.size + 1 < w1.heap.size := (by omega); have r1_1 : Row w1 (w.heap.size + 1) 24 #[.int .i64 0, .int .i64 0, .int .i64 0, .slice none 0 0] := row_call (by (repeat (first | assumption | (refine row_new ?_; (first | (simp; done) | omega)) | refine row_alloc ?_ _ | refine row_drew ?_ | refine row_call ?_ (by assumption)))) hb1; obtain ⟨c1_1a, c1_1b, c1_1c, c1_1d, f1_1a, f1_1b, f1_1c, f1_1d⟩ := row_four r1_1))
  exact bodyPost_ret (v := .tuple #[.agg #[.int .i64 0, .int .i64 0, .int .i64 0, .slice none 0 0], .int .i64 1]) (by simp [results, Try.results28, go_sem, c1_1a, c1_1b, c1_1c, c1_1d]) rfl (pret_zero (by (repeat (first | exact Below.refl _ _ | refine Below.setCell ?_ (by first | (simp; done) | (simp; omega) | omega) _ | refine Below.alloc ?_ (by first | (simp; done) | (simp; omega) | omega) _ | refine Below.drew ?_ | refine Below.trans ?_ (Below.mono (by assumption) (by first | (simp; done) | (simp; omega) | omega))))))
theorem rpreb_high (p land now : Int) (A : Option Addr) (n c : Nat) (ms : List Nat) (ld : Int) (w : World) (hin : PIn p land now A n c ms w) (hv : pvalE p land now ms = 0) (h1 : land < ld) : Calls Try.prog 28 #[.agg #[.int .i64 p, .int .i64 land, .int .i64 now, .slice A n c], .int .i64 ld] w fun e w' => PRet (qreb p land now ms ld) w e w' := by
  rw [qreb_high hv h1]
  have P := fun w1 (hb : Below w.heap.size w w1) => rpval p land now A n c ms w1 (hin.below hb)
  rw [hv] at P
  have P := Lib.hid P
  obtain ⟨v1, v2, v3, v4, v5, v6, v7, _⟩ := of_pvalE hv
  have h2 : 0 ≤ ld := by omega
  clear hv hin
  go_enter Try.func28, Try.ntmps28
  go_wp2_with (first | (go_at_call 21; with_reducible refine (P.out _ (by (repeat (first | exact Below.refl _ _ | refine Below.setCell ?_ (by first | (simp; done) | (simp; omega) | omega) _ | refine Below.alloc ?_ (by first | (simp; done) | (simp; omega) | omega) _ | refine Below.drew ?_ | refine Below.trans ?_ (Below.mono (by assumption) (by first | (simp; done) | (simp; omega) | omega)))))).mono ?_; rintro e w1 ⟨rfl, hb1⟩; have hz1 := hb1.size; (try simp at hz1); have o1 : Below w.heap.size w w1 := (by (repeat (first | exact Below.refl _ _ | refine Below.setCell ?_ (by first | (simp; done) | (simp; omega) | omega) _ | refine Below.alloc ?_ (by first | (simp; done) | (simp; omega) | omega) _ | refine Below.drew ?_ | refine Below.trans ?_ (Below.mono (by assumption) (by first | (simp; done) | (simp; omega) | omega))))); have q1_0 : w.heap.size < w1.heap.size := (by omega); have r1_0 : Row w1 (w.heap.size) 24 #[.int .i64 p, .int .i64 land, .int .i64 now, .slice A n c] := row_call (by (repeat (first | assumption | (refine row_new ?_; (first | (simp; done) | omega)) | refine row_alloc ?_ _ | refine row_drew ?_ | refine row_call ?_ (by assumption)))) hb1; obtain ⟨c1_0a, c1_0b, c1_0c, c1_0d, f1_0a, f1_0b, f1_0c, f1_0d⟩ := row_four r1_0; have q1_1 : w.heap.size + 1 < w1.heap.size := (by omega); have r1_1 : Row w1 (w.heap.size + 1) 24 #[.int .i64 0, .int .i64 0, .int .i64 0, .slice none 0 0] := row_call (by (repeat (first | assumption | (refine row_new ?_; (first | (simp; done) | omega)) | refine row_alloc ?_ _ | refine row_drew ?_ | refine row_call ?_ (by assumption)))) hb1; obtain ⟨c1_1a, c1_1b, c1_1c, c1_1d, f1_1a, f1_1b, f1_1c, f1_1d⟩ := row_four r1_1))
  exact bodyPost_ret (v := .tuple #[.agg #[.int .i64 0, .int .i64 0, .int .i64 0, .slice none 0 0], .int .i64 1]) (by simp [results, Try.results28, go_sem, c1_1a, c1_1b, c1_1c, c1_1d]) rfl (pret_zero (by (repeat (first | exact Below.refl _ _ | refine Below.setCell ?_ (by first | (simp; done) | (simp; omega) | omega) _ | refine Below.alloc ?_ (by first | (simp; done) | (simp; omega) | omega) _ | refine Below.drew ?_ | refine Below.trans ?_ (Below.mono (by assumption) (by first | (simp; done) | (simp; omega) | omega))))))
theorem ppreb_over (p land now : Int) (A : Option Addr) (n c : Nat) (ms : List Nat) (ld : Int) (w : World) (hin : PIn p land now A n c ms w) (hv : pvalE p land now ms = 0) (h0 : 0 ≤ ld) (h1 : ld ≤ land) (hf : fitB (rebM (land - ld).toNat ms) ms.length = false) : Calls Try.prog 27 #[.agg #[.int .i64 p, .int .i64 land, .int .i64 now, .slice A n c], .int .i64 ld] w fun e w' => PRet (qreb p land now ms ld) w e w' := by
  rw [qreb_over hv h0 h1 hf]
  have P := fun w1 (hb : Below w.heap.size w w1) => ppval p land now A n c ms w1 (hin.below hb)
  rw [hv] at P
  have P := Lib.hid P
  have PB := fun w1 (hb : Below w.heap.size w w1) => prebase p land now A n c ms ld w1 (hin.below hb) hv h0 h1
  rw [show fitB (rebM (land - ld).toNat ms) n = false from by rw [← hin.len]; exact hf] at PB
  have PB := Lib.hid PB
  clear hv hin hf
  go_enter Try.func27, Try.ntmps27
  go_upto_region 7 with (first | (go_at_call 20; with_reducible refine (P.out _ (by (repeat (first | exact Below.refl _ _ | refine Below.setCell ?_ (by first | (simp; done) | (simp; omega) | omega) _ | refine Below.alloc ?_ (by first | (simp; done) | (simp; omega) | omega) _ | refine Below.drew ?_ | refine Below.trans ?_ (Below.mono (by assumption) (by first | (simp; done) | (simp; omega) | omega)))))).mono ?_; rintro e w1 ⟨rfl, hb1⟩; have hz1 := hb1.size; (try simp at hz1); have o1 : Below w.heap.size w w1 := (by (repeat (first | exact Below.refl _ _ | refine Below.setCell ?_ (by first | (simp; done) | (simp; omega) | omega) _ | refine Below.alloc ?_ (by first | (simp; done) | (simp; omega) | omega) _ | refine Below.drew ?_ | refine Below.trans ?_ (Below.mono (by assumption) (by first | (simp; done) | (simp; omega) | omega))))); have q1_0 : w.heap.size < w1.heap.size := (by omega); have r1_0 : Row w1 (w.heap.size) 24 #[.int .i64 p, .int .i64 land, .int .i64 now, .slice A n c] := row_call (by (repeat (first | assumption | (refine row_new ?_; (first | (simp; done) | omega)) | refine row_alloc ?_ _ | refine row_drew ?_ | refine row_call ?_ (by assumption)))) hb1; obtain ⟨c1_0a, c1_0b, c1_0c, c1_0d, f1_0a, f1_0b, f1_0c, f1_0d⟩ := row_four r1_0; have q1_1 : w.heap.size + 1 < w1.heap.size := (by omega); have r1_1 : Row w1 (w.heap.size + 1) 24 #[.int .i64 0, .int .i64 0, .int .i64 0, .slice none 0 0] := row_call (by (repeat (first | assumption | (refine row_new ?_; (first | (simp; done) | omega)) | refine row_alloc ?_ _ | refine row_drew ?_ | refine row_call ?_ (by assumption)))) hb1; obtain ⟨c1_1a, c1_1b, c1_1c, c1_1d, f1_1a, f1_1b, f1_1c, f1_1d⟩ := row_four r1_1) | (go_at_call 49; with_reducible refine (PB.out _ (by exact o1)).mono ?_; intro e w2 hq; obtain ⟨rfl, hb2⟩ := rb_no hq; clear hq; have hz2 := hb2.size; (try simp at hz2); have o2 : Below w.heap.size w w2 := (by (repeat (first | exact Below.refl _ _ | refine Below.setCell ?_ (by first | (simp; done) | (simp; omega) | omega) _ | refine Below.alloc ?_ (by first | (simp; done) | (simp; omega) | omega) _ | refine Below.drew ?_ | refine Below.trans ?_ (Below.mono (by assumption) (by first | (simp; done) | (simp; omega) | omega))))); have q2_0 : w.heap.size < w2.heap.size := (by omega); have r2_0 : Row w2 (w.heap.size) 24 #[.int .i64 p, .int .i64 land, .int .i64 now, .slice A n c] := row_call (by (repeat (first | assumption | (refine row_new ?_; (first | (simp; done) | omega)) | refine row_alloc ?_ _ | refine row_drew ?_ | refine row_call ?_ (by assumption)))) hb2; obtain ⟨c2_0a, c2_0b, c2_0c, c2_0d, f2_0a, f2_0b, f2_0c, f2_0d⟩ := row_four r2_0; have q2_1 : w.heap.size + 1 < w2.heap.size := (by omega); have r2_1 : Row w2 (w.heap.size + 1) 24 #[.int .i64 0, .int .i64 0, .int .i64 0, .slice none 0 0] := row_call (by (repeat (first | assumption | (refine row_new ?_; (first | (simp; done) | omega)) | refine row_alloc ?_ _ | refine row_drew ?_ | refine row_call ?_ (by assumption)))) hb2; obtain ⟨c2_1a, c2_1b, c2_1c, c2_1d, f2_1a, f2_1b, f2_1c, f2_1d⟩ := row_four r2_1))
  have x2 := row_alloc r2_1 (.cells #[.int .i64 0, .int .i64 0, .int .i64 0, .slice none 0 0] 24)
  have ob := o2.alloc o2.size (.cells #[.int .i64 0, .int .i64 0, .int .i64 0, .slice none 0 0] 24)
  generalize w2.alloc (.cells #[.int .i64 0, .int .i64 0, .int .i64 0, .slice none 0 0] 24) = w3 at x2 ob ⊢
  clear hb2 hb1 r2_0 r2_1 r1_0 r1_1 o1 o2 c1_0a c1_0b c1_0c c1_0d f1_0a f1_0b f1_0c f1_0d c1_1a c1_1b c1_1c c1_1d f1_1a f1_1b f1_1c f1_1d c2_0a c2_0b c2_0c c2_0d f2_0a f2_0b f2_0c f2_0d c2_1a c2_1b c2_1c c2_1d f2_1a f2_1b f2_1c f2_1d
  obtain ⟨Y0, Y1, Y2, Y3, Yf0, Yf1, Yf2, Yf3⟩ := row_four x2
  go_wp2
  exact bodyPost_ret (v := .tuple #[.agg #[.int .i64 0, .int .i64 0, .int .i64 0, .slice none 0 0], .int .i64 6]) (by simp [results, Try.results27, go_sem, Y0, Y1, Y2, Y3]) rfl (pret_zero (by (repeat (first | exact Below.refl _ _ | refine Below.setCell ?_ (by first | (simp; done) | (simp; omega) | omega) _ | refine Below.alloc ?_ (by first | (simp; done) | (simp; omega) | omega) _ | refine Below.drew ?_ | refine Below.trans ?_ (Below.mono (by assumption) (by first | (simp; done) | (simp; omega) | omega))))))
theorem ppreb_ok (p land now : Int) (A : Option Addr) (n c : Nat) (ms : List Nat) (ld : Int) (w : World) (hin : PIn p land now A n c ms w) (hv : pvalE p land now ms = 0) (h0 : 0 ≤ ld) (h1 : ld ≤ land) (hf : fitB (rebM (land - ld).toNat ms) ms.length = true) : Calls Try.prog 27 #[.agg #[.int .i64 p, .int .i64 land, .int .i64 now, .slice A n c], .int .i64 ld] w fun e w' => PRet (qreb p land now ms ld) w e w' := by
  rw [qreb_ok hv h0 h1 hf]
  have hl := hin.len
  obtain ⟨v1, v2, v3, v4, v5, v6, v7, _⟩ := of_pvalE hv
  have P := fun w1 (hb : Below w.heap.size w w1) => ppval p land now A n c ms w1 (hin.below hb)
  rw [hv] at P
  have P := Lib.hid P
  subst hl
  have PB := fun w1 (hb : Below w.heap.size w w1) => prebase p land now A ms.length c ms ld w1 (hin.below hb) hv h0 h1
  rw [hf] at PB
  have HB := Lib.hid (fun e he => of_fitB (j := e) hf he)
  generalize hn : ms.length = n at hin PB HB ⊢
  generalize rebM (land - ld).toNat ms = R at PB HB ⊢
  have P : RowKit.Hid (∀ w1, Below w.heap.size w w1 → Calls Try.prog 20 #[.agg #[.int .i64 p, .int .i64 land, .int .i64 now, .slice A n c]] w1 fun e w' => e = .returned (.int .i64 0) ∧ Below w1.heap.size w1 w') := by rw [← hn]; exact P
  have PB := Lib.hid PB
  clear hv hin hf hn
  go_enter Try.func27, Try.ntmps27
  go_upto_region 7 with (first | (go_at_call 20; with_reducible refine (P.out _ (by (repeat (first | exact Below.refl _ _ | refine Below.setCell ?_ (by first | (simp; done) | (simp; omega) | omega) _ | refine Below.alloc ?_ (by first | (simp; done) | (simp; omega) | omega) _ | refine Below.drew ?_ | refine Below.trans ?_ (Below.mono (by assumption) (by first | (simp; done) | (simp; omega) | omega)))))).mono ?_; rintro e w1 ⟨rfl, hb1⟩; have hz1 := hb1.size; (try simp at hz1); have o1 : Below w.heap.size w w1 := (by (repeat (first | exact Below.refl _ _ | refine Below.setCell ?_ (by first | (simp; done) | (simp; omega) | omega) _ | refine Below.alloc ?_ (by first | (simp; done) | (simp; omega) | omega) _ | refine Below.drew ?_ | refine Below.trans ?_ (Below.mono (by assumption) (by first | (simp; done) | (simp; omega) | omega))))); have q1_0 : w.heap.size < w1.heap.size := (by omega); have r1_0 : Row w1 (w.heap.size) 24 #[.int .i64 p, .int .i64 land, .int .i64 now, .slice A n c] := row_call (by (repeat (first | assumption | (refine row_new ?_; (first | (simp; done) | omega)) | refine row_alloc ?_ _ | refine row_drew ?_ | refine row_call ?_ (by assumption)))) hb1; obtain ⟨c1_0a, c1_0b, c1_0c, c1_0d, f1_0a, f1_0b, f1_0c, f1_0d⟩ := row_four r1_0; have q1_1 : w.heap.size + 1 < w1.heap.size := (by omega); have r1_1 : Row w1 (w.heap.size + 1) 24 #[.int .i64 0, .int .i64 0, .int .i64 0, .slice none 0 0] := row_call (by (repeat (first | assumption | (refine row_new ?_; (first | (simp; done) | omega)) | refine row_alloc ?_ _ | refine row_drew ?_ | refine row_call ?_ (by assumption)))) hb1; obtain ⟨c1_1a, c1_1b, c1_1c, c1_1d, f1_1a, f1_1b, f1_1c, f1_1d⟩ := row_four r1_1) | (go_at_call 49; with_reducible refine (PB.out _ (by exact o1)).mono ?_; intro e w2 hq; obtain ⟨g, c2, rfl, own, hg, hb2⟩ := rb_yes hq; clear hq; have hz2 := hb2.size; (try simp at hz2); have o2 : Below w.heap.size w w2 := (by (repeat (first | exact Below.refl _ _ | refine Below.setCell ?_ (by first | (simp; done) | (simp; omega) | omega) _ | refine Below.alloc ?_ (by first | (simp; done) | (simp; omega) | omega) _ | refine Below.drew ?_ | refine Below.trans ?_ (Below.mono (by assumption) (by first | (simp; done) | (simp; omega) | omega))))); have q2_0 : w.heap.size < w2.heap.size := (by omega); have r2_0 : Row w2 (w.heap.size) 24 #[.int .i64 p, .int .i64 land, .int .i64 now, .slice A n c] := row_call (by (repeat (first | assumption | (refine row_new ?_; (first | (simp; done) | omega)) | refine row_alloc ?_ _ | refine row_drew ?_ | refine row_call ?_ (by assumption)))) hb2; obtain ⟨c2_0a, c2_0b, c2_0c, c2_0d, f2_0a, f2_0b, f2_0c, f2_0d⟩ := row_four r2_0; have q2_1 : w.heap.size + 1 < w2.heap.size := (by omega); have r2_1 : Row w2 (w.heap.size + 1) 24 #[.int .i64 0, .int .i64 0, .int .i64 0, .slice none 0 0] := row_call (by (repeat (first | assumption | (refine row_new ?_; (first | (simp; done) | omega)) | refine row_alloc ?_ _ | refine row_drew ?_ | refine row_call ?_ (by assumption)))) hb2; obtain ⟨c2_1a, c2_1b, c2_1c, c2_1d, f2_1a, f2_1b, f2_1c, f2_1d⟩ := row_four r2_1))
  have x2 := row_alloc r2_1 (.cells #[.int .i64 p, .int .i64 ld, .int .i64 now, .slice (some ⟨g, 0, none⟩) n c2] 24)
  have own2 := own.alloc (.cells #[.int .i64 p, .int .i64 ld, .int .i64 now, .slice (some ⟨g, 0, none⟩) n c2] 24)
  have ob := o2.alloc o2.size (.cells #[.int .i64 p, .int .i64 ld, .int .i64 now, .slice (some ⟨g, 0, none⟩) n c2] 24)
  have gl := own.lt
  have gr : g ≠ w.heap.size + 1 := by omega
  have k2 : Row (w2.alloc (.cells #[.int .i64 p, .int .i64 ld, .int .i64 now, .slice (some ⟨g, 0, none⟩) n c2] 24)) w2.heap.size 24 #[.int .i64 p, .int .i64 ld, .int .i64 now, .slice (some ⟨g, 0, none⟩) n c2] := row_new rfl
  generalize w2.alloc (.cells #[.int .i64 p, .int .i64 ld, .int .i64 now, .slice (some ⟨g, 0, none⟩) n c2] 24) = w3 at x2 own2 ob k2 ⊢
  obtain ⟨K0, K1, K2, K3, Kf0, Kf1, Kf2, Kf3⟩ := row_four k2
  clear own hb2 hb1 r2_0 r2_1 r1_0 r1_1 o1 o2 c1_0a c1_0b c1_0c c1_0d f1_0a f1_0b f1_0c f1_0d c1_1a c1_1b c1_1c c1_1d f1_1a f1_1b f1_1c f1_1d c2_0a c2_0b c2_0c c2_0d f2_0a f2_0b f2_0c f2_0d c2_1a c2_1b c2_1c c2_1d f2_1a f2_1b f2_1c f2_1d
  obtain ⟨Y0, Y1, Y2, Y3, Yf0, Yf1, Yf2, Yf3⟩ := row_four x2
  go_wp2
  have ow := own_four (b := w.heap.size + 1) own2 gr (.int .i64 p) (.int .i64 ld) (.int .i64 now) (.slice (some ⟨g, 0, none⟩) n c2)
  have ob2 := below_four (b := w.heap.size + 1) ob (by omega) (.int .i64 p) (.int .i64 ld) (.int .i64 now) (.slice (some ⟨g, 0, none⟩) n c2)
  exact bodyPost_ret (v := .tuple #[.agg #[.int .i64 p, .int .i64 ld, .int .i64 now, .slice (some ⟨g, 0, none⟩) n c2], .int .i64 0]) (by simp [results, Try.results27, go_sem, Y0, Y1, Y2, Y3]) rfl (pret_own ow (by omega) (by omega) (by omega) (upto_big HB.out) ob2 (by omega))
theorem ppreb (p land now : Int) (A : Option Addr) (n c : Nat) (ms : List Nat) (ld : Int) (w : World) (hin : PIn p land now A n c ms w) : Calls Try.prog 27 #[.agg #[.int .i64 p, .int .i64 land, .int .i64 now, .slice A n c], .int .i64 ld] w fun e w' => PRet (qreb p land now ms ld) w e w' := by
  rcases pvalE_two (p := p) (land := land) (now := now) (ms := ms) with hv | hv
  · by_cases h0 : ld < 0
    · exact ppreb_low p land now A n c ms ld w hin hv h0
    · by_cases h1 : land < ld
      · exact ppreb_high p land now A n c ms ld w hin hv h1
      · rcases fitB_two (rebM (land - ld).toNat ms) ms.length with hf | hf
        · exact ppreb_ok p land now A n c ms ld w hin hv (by omega) (by omega) hf
        · exact ppreb_over p land now A n c ms ld w hin hv (by omega) (by omega) hf
  · exact ppreb_bad p land now A n c ms ld w hin hv
set_option maxHeartbeats 8000000 in
set_option maxRecDepth 100000 in
theorem rpreb_main (p land now : Int) (A : Option Addr) (n c : Nat) (ms : List Nat) (ld : Int) (w : World) (hin : PIn p land now A n c ms w) (hv : pvalE p land now ms = 0) (h0 : 0 ≤ ld) (h1 : ld ≤ land) : Calls Try.prog 28 #[.agg #[.int .i64 p, .int .i64 land, .int .i64 now, .slice A n c], .int .i64 ld] w fun e w' => PRet (qreb p land now ms ld) w e w' := by
  have P := fun w1 (hb : Below w.heap.size w w1) => rpval p land now A n c ms w1 (hin.below hb)
  rw [hv] at P
  have P := Lib.hid P
  obtain ⟨v1, v2, v3, v4, v5, v6, v7, _⟩ := of_pvalE hv
  have HV := Lib.hid hv
  have HR := Lib.hid hin
  have hl := hin.len
  have HL := Lib.hid hl
  have hn5 : n ≤ 5 := by omega
  have hn1 : 1 ≤ n := by omega
  obtain ⟨d, hd⟩ : ∃ d : Nat, land - ld = (d : Int) := ⟨(land - ld).toNat, by omega⟩
  have hd2 : d ≤ 16777216 := by omega
  have hdt : (land - ld).toNat = d := by omega
  have wa : IntKind.i64.wrap (land - ld) = land - ld := IntWalk.i64_in _ (by omega)
  have wb : IntKind.u64.wrap (land - ld) = (d : Int) := by rw [IntWalk.u64_in _ (by omega)]; exact hd
  have HD := Lib.hid hdt
  obtain ⟨i0, hi0, iz0, iz1, iz2⟩ := info_parts info_wide
  clear hv hin hl hd hdt
  go_enter Try.func28, Try.ntmps28
  go_wp2_with (first | (go_at_call 21; with_reducible refine (P.out _ (by (repeat (first | exact Below.refl _ _ | refine Below.setCell ?_ (by first | (simp; done) | (simp; omega) | omega) _ | refine Below.alloc ?_ (by first | (simp; done) | (simp; omega) | omega) _ | refine Below.drew ?_ | refine Below.trans ?_ (Below.mono (by assumption) (by first | (simp; done) | (simp; omega) | omega)))))).mono ?_; rintro e w1 ⟨rfl, hb1⟩; have hz1 := hb1.size; (try simp at hz1); have o1 : Below w.heap.size w w1 := (by (repeat (first | exact Below.refl _ _ | refine Below.setCell ?_ (by first | (simp; done) | (simp; omega) | omega) _ | refine Below.alloc ?_ (by first | (simp; done) | (simp; omega) | omega) _ | refine Below.drew ?_ | refine Below.trans ?_ (Below.mono (by assumption) (by first | (simp; done) | (simp; omega) | omega))))); have q1_0 : w.heap.size < w1.heap.size := (by omega); have r1_0 : Row w1 (w.heap.size) 24 #[.int .i64 p, .int .i64 land, .int .i64 now, .slice A n c] := row_call (by (repeat (first | assumption | (refine row_new ?_; (first | (simp; done) | omega)) | refine row_alloc ?_ _ | refine row_drew ?_ | refine row_call ?_ (by assumption)))) hb1; obtain ⟨c1_0a, c1_0b, c1_0c, c1_0d, f1_0a, f1_0b, f1_0c, f1_0d⟩ := row_four r1_0; have q1_1 : w.heap.size + 1 < w1.heap.size := (by omega); have r1_1 : Row w1 (w.heap.size + 1) 24 #[.int .i64 0, .int .i64 0, .int .i64 0, .slice none 0 0] := row_call (by (repeat (first | assumption | (refine row_new ?_; (first | (simp; done) | omega)) | refine row_alloc ?_ _ | refine row_drew ?_ | refine row_call ?_ (by assumption)))) hb1; obtain ⟨c1_1a, c1_1b, c1_1c, c1_1d, f1_1a, f1_1b, f1_1c, f1_1d⟩ := row_four r1_1))
  have x := r1_0
  have y := r1_1
  have o := o1
  have zz : w.heap.size + 2 ≤ w1.heap.size := by omega
  clear r1_0 r1_1 o1 hb1 c1_0a c1_0b c1_0c c1_0d f1_0a f1_0b f1_0c f1_0d c1_1a c1_1b c1_1c c1_1d f1_1a f1_1b f1_1c f1_1d P
  go_loopw [7, 35] (fun v i wr => ∃ j : Nat, j ≤ n ∧ i = .int .i64 (j : Nat) ∧ RowKit.Hid (∀ e, e < j → rebM d ms e < big) ∧ wr.ownsRow (w.heap.size + 2) 35 2 v j (wcells (upto (rebM d ms) j)) ∧ Row wr (w.heap.size) 24 #[.int .i64 p, .int .i64 land, .int .i64 now, .slice A n c] ∧ Row wr (w.heap.size + 1) 24 #[.int .i64 0, .int .i64 0, .int .i64 0, .slice none 0 0] ∧ Below w.heap.size w wr) (fun _ i _ => n - (intOf i).toNat)
  case atStart => exact ⟨0, by omega, rfl, Lib.hid (fun e he => absurd he (by omega)), World.ownsRow_nil _ _ _ _, x, y, o⟩
  case round =>
    clear x y o
    obtain ⟨j, hj, rfl, HA, own, x, y, o⟩ := hrel
    by_cases hlt : j < n
    · have i1 : (j : Int) < (n : Int) := by omega
      have i2 : (0 : Int) ≤ (j : Int) := by omega
      have zb := o.size
      have zyy := row_lt y
      go_upto_region 11 with (fail)
      have nt : u7.ownBlock ≠ some wr.heap.size := orow_new own (Nat.le_refl _)
      replace own := own.alloc (.cells #[.int .u64 0, .int .u64 0] 35)
      replace x := row_alloc x (.cells #[.int .u64 0, .int .u64 0] 35)
      replace y := row_alloc y (.cells #[.int .u64 0, .int .u64 0] 35)
      replace o := o.alloc o.size (.cells #[.int .u64 0, .int .u64 0] 35)
      have s : Row (wr.alloc (.cells #[.int .u64 0, .int .u64 0] 35)) wr.heap.size 35 #[.int .u64 0, .int .u64 0] := row_new rfl
      generalize wr.alloc (.cells #[.int .u64 0, .int .u64 0] 35) = wq at own x y o s ⊢
      generalize wr.heap.size = sb at s nt zb zyy ⊢
      have s : Row wq sb 35 #[.int .u64 (hi (rebT d ms j 0)), .int .u64 (lo (rebT d ms j 0))] := by rw [show rebT d ms j 0 = 0 from rfl, hi_0, lo_0]; exact s
      go_upto_block 2 with (fail)
      go_cut [] (fun wx => RowKit.Hid (rebM d ms j < big) ∧ wx.ownsRow (w.heap.size + 2) 35 2 u7 j (wcells (upto (rebM d ms) j)) ∧ Row wx (w.heap.size) 24 #[.int .i64 p, .int .i64 land, .int .i64 now, .slice A n c] ∧ Row wx (w.heap.size + 1) 24 #[.int .i64 0, .int .i64 0, .int .i64 0, .slice none 0 0] ∧ Row wx sb 35 #[.int .u64 (hi (rebM d ms j)), .int .u64 (lo (rebM d ms j))] ∧ Below w.heap.size w wx)
      case first =>
        go_wp2_with fail
        go_loopw [10] (fun iv wr => ∃ i : Nat, i ≤ j + 1 ∧ iv = .int .i64 (i : Nat) ∧ RowKit.Hid (rebT d ms j i < big) ∧ wr.ownsRow (w.heap.size + 2) 35 2 u7 j (wcells (upto (rebM d ms) j)) ∧ Row wr (w.heap.size) 24 #[.int .i64 p, .int .i64 land, .int .i64 now, .slice A n c] ∧ Row wr (w.heap.size + 1) 24 #[.int .i64 0, .int .i64 0, .int .i64 0, .slice none 0 0] ∧ Row wr sb 35 #[.int .u64 (hi (rebT d ms j i)), .int .u64 (lo (rebT d ms j i))] ∧ Below w.heap.size w wr) (fun iv _ => j + 1 - (intOf iv).toNat)
        case atStart => exact ⟨0, by omega, rfl, Lib.hid (by show 0 < big; decide), own, x, y, s, o⟩
        case round =>
          clear own x y o s
          obtain ⟨i, hii, rfl, HT, own, x, y, s, o⟩ := hrel
          obtain ⟨X0, X1, X2, X3, Xf0, Xf1, Xf2, Xf3⟩ := row_four x
          by_cases hij : i ≤ j
          · obtain ⟨q, hq⟩ : ∃ q : Nat, j - i = q := ⟨_, rfl⟩
            have hq4 : q ≤ 4 := by omega
            have hi4 : i ≤ 4 := by omega
            have j1 : (i : Int) ≤ (j : Int) := by omega
            have j2 : (0 : Int) ≤ (i : Int) := by omega
            have j3 : (i : Int) < (n : Int) := by omega
            have hin2 : i < n := by omega
            have wq : IntKind.i64.wrap ((j : Int) - (i : Int)) = (q : Int) := by rw [IntWalk.i64_in _ (by omega)]; omega
            obtain ⟨cb1, cb2⟩ := cN_pos j (by omega) i (by omega)
            have PCH := fun w => rchoose j i w (by omega) (by omega)
            have hsm : rebS d ms j i = (powN d q * cN j i) * momAt ms i := by unfold rebS; rw [hq]
            have hts : rebT d ms j (i + 1) = rebT d ms j i + rebS d ms j i := rfl
            have SO := rebS_over (d := d) (ms := ms) hij
            have TO := rebT_over (d := d) (ms := ms) hij
            have ab := HT.out
            generalize hcb : cN j i = cb at cb1 cb2 hsm PCH
            generalize hacc : rebT d ms j i = acc at s ab hts TO
            have PCH := Lib.hid PCH
            have PW := fun w => rpow_any d (by omega) (q : Int) (by omega) w
            rw [powIV_nat, powIB_nat, (pow_yes (powN_fits (show d ≤ 16777217 by omega) hq4)).1, (pow_yes (powN_fits (show d ≤ 16777217 by omega) hq4)).2] at PW
            have PO := Lib.hid (fun w => rof cb (by omega) w)
            have PM := fun w => rmul (powN d q) cb (powN_fits (show d ≤ 16777217 by omega) hq4) (by unfold big; omega) w
            have pcb := powC_fits (show d ≤ 16777217 by omega) hq4 cb2
            rw [(mulV_yes pcb).1, (mulV_yes pcb).2] at PM
            generalize powN d q * cb = pc at PM pcb hsm
            generalize powN d q = pj at PW PM
            have PW := Lib.hid PW
            have PM := Lib.hid PM
            obtain ⟨ad, rfl, hadb, mx⟩ := HR.out.reads.mom hin2
            have mb := HR.out.mB i
            generalize momAt ms i = m at mx mb hsm
            have MX := Lib.hid mx
            have HAB : RowKit.Hid ((ad.add (i * 2)).block < w.heap.size) := Lib.hid (by rw [block_of_add]; exact hadb)
            have PU0 := fun w => rmul pc m pcb mb w
            generalize hss : rebS d ms j i = ss at hsm hts SO TO
            have HTS0 := Lib.hid hts
            have HSM := Lib.hid hsm
            have SO := Lib.hid SO
            have TO := Lib.hid TO
            clear mx hacc hts hsm hss hcb
            go_upto_region 15 with (first | (go_at_call 41; with_reducible refine (PW.out _).mono ?_; rintro e w1 ⟨rfl, hb1⟩; have hz1 := hb1.size; (try simp at hz1)))
            clear X0 X1 X2 X3 Xf0 Xf1 Xf2 Xf3
            replace own := orow_keep own (fun g e => hb1.block g (own.lt g e).2)
            replace x := row_call x hb1
            replace y := row_call y hb1
            replace s := row_call s hb1
            replace o := o.trans (hb1.mono o.size)
            replace own := own.alloc (.cells #[.int .u64 (hi pj), .int .u64 (lo pj)] 35)
            replace x := row_alloc x (.cells #[.int .u64 (hi pj), .int .u64 (lo pj)] 35)
            replace y := row_alloc y (.cells #[.int .u64 (hi pj), .int .u64 (lo pj)] 35)
            replace s := row_alloc s (.cells #[.int .u64 (hi pj), .int .u64 (lo pj)] 35)
            replace o := o.alloc o.size (.cells #[.int .u64 (hi pj), .int .u64 (lo pj)] 35)
            have k1 : Row (w1.alloc (.cells #[.int .u64 (hi pj), .int .u64 (lo pj)] 35)) w1.heap.size 35 #[.int .u64 (hi pj), .int .u64 (lo pj)] := row_new rfl
            generalize w1.alloc (.cells #[.int .u64 (hi pj), .int .u64 (lo pj)] 35) = w2 at own x y s o k1 ⊢
            generalize w1.heap.size = b1 at k1 hz1 ⊢
            clear hb1
            refine wp_region_free1 [0, 1, 2, 3, 4, 5, 6, 8, 7] [8] [0, 1, 2, 3, 4, 5, 6, 7, 9] (9, 35, #[.int .u64 0, .int .u64 0]) 13 10 (fun w' => Below w2.heap.size w2 w') (by kernel_rfl) (by kernel_rfl) ⟨_, _, rfl, rfl, rfl, fun ρ w' => by go_simp⟩ rfl (by simp) (fun _ h => h.alloc h.size _) (fun _ _ d _ _ h => by cases d <;> exact h) ?_ ?_
            · exact (Below.refl _ _).drew
            (refine plan_val ?_ rfl rfl rfl (fun w' hS => ?_) ?_; rotate_left; (obtain ⟨Q0, Q1, Qf0, Qf1⟩ := row_two (row_call k1 hS); go_simp; try with_reducible rfl); simp only [Act.put, List.setIfInBounds_toArray, List.set_cons_zero, List.set_cons_succ])
            (refine plan_pure ?_ rfl rfl (fun w' => ?_) ?_; rotate_left; (go_simp; try with_reducible rfl); simp only [Act.put, List.setIfInBounds_toArray, List.set_cons_zero, List.set_cons_succ])
            (refine plan_pure ?_ rfl rfl (fun w' => ?_) ?_; rotate_left; (go_simp; try with_reducible rfl); simp only [Act.put, List.setIfInBounds_toArray, List.set_cons_zero, List.set_cons_succ])
            refine plan_call (.int .u64 (cb : Nat)) 50 #[.int .i64 (j : Nat), .int .i64 (i : Nat)] rfl rfl rfl (fun _ _ h hb => h.trans (hb.mono h.size)) (fun w' hS => by obtain ⟨Q0, Q1, Qf0, Qf1⟩ := row_two (row_call k1 hS); go_simp) (fun w' hS => (PCH.out w').mono fun e w'' h => ⟨h.1, by rw [h.2]; exact Below.refl _ _⟩) ?_
            simp only [Act.put, List.setIfInBounds_toArray, List.set_cons_zero, List.set_cons_succ]
            refine plan_call (W cb) 43 #[.int .u64 (cb : Nat)] rfl rfl rfl (fun _ _ h hb => h.trans (hb.mono h.size)) (fun w' hS => by obtain ⟨Q0, Q1, Qf0, Qf1⟩ := row_two (row_call k1 hS); go_simp) (fun w' hS => PO.out w') ?_
            simp only [Act.put, List.setIfInBounds_toArray, List.set_cons_zero, List.set_cons_succ]
            refine plan_call (.tuple #[W pc, .bool true]) 42 #[W pj, W cb] rfl rfl rfl (fun _ _ h hb => h.trans (hb.mono h.size)) (fun w' hS => by obtain ⟨Q0, Q1, Qf0, Qf1⟩ := row_two (row_call k1 hS); go_simp) (fun w' hS => PM.out w') ?_
            simp only [Act.put, List.setIfInBounds_toArray, List.set_cons_zero, List.set_cons_succ]
            (refine plan_pure ?_ rfl rfl (fun w' => ?_) ?_; rotate_left; (go_simp; try with_reducible rfl); simp only [Act.put, List.setIfInBounds_toArray, List.set_cons_zero, List.set_cons_succ])
            (refine plan_pure ?_ rfl rfl (fun w' => ?_) ?_; rotate_left; (go_simp; try with_reducible rfl); simp only [Act.put, List.setIfInBounds_toArray, List.set_cons_zero, List.set_cons_succ])
            (refine plan_pure ?_ rfl rfl (fun w' => ?_) ?_; rotate_left; (go_simp; try with_reducible rfl); simp only [Act.put, List.setIfInBounds_toArray, List.set_cons_zero, List.set_cons_succ])
            refine plan_nil ?_
            intro g8 w3 L3 hr8 hg8
            simp only [List.drop_succ_cons, List.drop_zero]
            try simp only [Act.put, List.setIfInBounds_toArray, List.set_cons_zero, List.set_cons_succ]
            have hbl := own.lt
            have zk1 := row_lt k1
            have zx := row_lt x
            have zy := row_lt y
            have zs := row_lt s
            have zo := o.size
            replace own := orow_keep own (fun g e => L3.block g (own.lt g e).2)
            replace x := row_call x L3
            replace y := row_call y L3
            replace s := row_call s L3
            replace o := o.trans (L3.mono o.size)
            clear k1 L3
            obtain ⟨Q0, Q1, Qf0, Qf1⟩ := row_two hr8
            go_upto_region 16 with (fail)
            clear Q0 Q1 Qf0 Qf1
            replace own := orow_other (p := ⟨g8, 0, none⟩) own (fun e => by have := (hbl g8 e).2; omega) (.int .u64 (hi pc))
            replace x := row_other (p := ⟨g8, 0, none⟩) x (by show w.heap.size ≠ g8; omega) (.int .u64 (hi pc))
            replace y := row_other (p := ⟨g8, 0, none⟩) y (by show w.heap.size + 1 ≠ g8; omega) (.int .u64 (hi pc))
            replace s := row_other (p := ⟨g8, 0, none⟩) s (by show sb ≠ g8; omega) (.int .u64 (hi pc))
            replace o := o.setCell (p := ⟨g8, 0, none⟩) (by show w.heap.size ≤ g8; omega) (.int .u64 (hi pc))
            replace own := orow_other (p := ⟨g8, 1, none⟩) own (fun e => by have := (hbl g8 e).2; omega) (.int .u64 (lo pc))
            replace x := row_other (p := ⟨g8, 1, none⟩) x (by show w.heap.size ≠ g8; omega) (.int .u64 (lo pc))
            replace y := row_other (p := ⟨g8, 1, none⟩) y (by show w.heap.size + 1 ≠ g8; omega) (.int .u64 (lo pc))
            replace s := row_other (p := ⟨g8, 1, none⟩) s (by show sb ≠ g8; omega) (.int .u64 (lo pc))
            replace o := o.setCell (p := ⟨g8, 1, none⟩) (by show w.heap.size ≤ g8; omega) (.int .u64 (lo pc))
            have k2 := row_two_set (u := .int .u64 (hi pc)) (v := .int .u64 (lo pc)) hr8
            generalize ((w3.setCell ⟨g8, 0, none⟩ (.int .u64 (hi pc))).setCell ⟨g8, 1, none⟩ (.int .u64 (lo pc))) = w6 at own x y s o k2 ⊢
            clear hr8 zk1 zx zy zs zo hbl
            obtain ⟨Q0, Q1, Qf0, Qf1⟩ := row_two k2
            by_cases hu : pc * m < big
            · rw [(mulV_yes hu).1, (mulV_yes hu).2] at PU0
              generalize huu : pc * m = u at PU0 hu
              have HU : RowKit.Hid (ss = u) := Lib.hid (by rw [HSM.out]; exact huu)
              have PU := Lib.hid PU0
              clear PU0 huu
              go_upto_region 16 with (fail)
              clear Q0 Q1 Qf0 Qf1
              refine wp_region_free1 [0, 1, 2, 3, 4, 5, 6, 7, 9, 8] [9] [0, 1, 2, 3, 4, 5, 6, 7, 8, 10] (10, 35, #[.int .u64 0, .int .u64 0]) 15 11 (fun w' => Below w6.heap.size w6 w') (by kernel_rfl) (by kernel_rfl) ⟨_, _, rfl, rfl, rfl, fun ρ w' => by go_simp⟩ rfl (by simp) (fun _ h => h.alloc h.size _) (fun _ _ d _ _ h => by cases d <;> exact h) ?_ ?_
              · exact (Below.refl _ _).drew
              (refine plan_val ?_ rfl rfl rfl (fun w' hS => ?_) ?_; rotate_left; (obtain ⟨X0, X1, X2, X3, Xf0, Xf1, Xf2, Xf3⟩ := row_four (row_call x hS); obtain ⟨Q0, Q1, Qf0, Qf1⟩ := row_two (row_call k2 hS); obtain ⟨p0, p1⟩ := MX.out.below (o.trans (hS.mono o.size)) HAB.out; go_simp; try with_reducible rfl); simp only [Act.put, List.setIfInBounds_toArray, List.set_cons_zero, List.set_cons_succ])
              (refine plan_pure ?_ rfl rfl (fun w' => ?_) ?_; rotate_left; (go_simp; try with_reducible rfl); simp only [Act.put, List.setIfInBounds_toArray, List.set_cons_zero, List.set_cons_succ])
              (refine plan_val ?_ rfl rfl rfl (fun w' hS => ?_) ?_; rotate_left; (obtain ⟨X0, X1, X2, X3, Xf0, Xf1, Xf2, Xf3⟩ := row_four (row_call x hS); obtain ⟨Q0, Q1, Qf0, Qf1⟩ := row_two (row_call k2 hS); obtain ⟨p0, p1⟩ := MX.out.below (o.trans (hS.mono o.size)) HAB.out; go_simp; try with_reducible rfl); simp only [Act.put, List.setIfInBounds_toArray, List.set_cons_zero, List.set_cons_succ])
              (refine plan_pure ?_ rfl rfl (fun w' => ?_) ?_; rotate_left; (go_simp; try with_reducible rfl); simp only [Act.put, List.setIfInBounds_toArray, List.set_cons_zero, List.set_cons_succ])
              (refine plan_pure ?_ rfl rfl (fun w' => ?_) ?_; rotate_left; (go_simp; try with_reducible rfl); simp only [Act.put, List.setIfInBounds_toArray, List.set_cons_zero, List.set_cons_succ])
              (refine plan_val ?_ rfl rfl rfl (fun w' hS => ?_) ?_; rotate_left; (obtain ⟨X0, X1, X2, X3, Xf0, Xf1, Xf2, Xf3⟩ := row_four (row_call x hS); obtain ⟨Q0, Q1, Qf0, Qf1⟩ := row_two (row_call k2 hS); obtain ⟨p0, p1⟩ := MX.out.below (o.trans (hS.mono o.size)) HAB.out; go_simp; try with_reducible rfl); simp only [Act.put, List.setIfInBounds_toArray, List.set_cons_zero, List.set_cons_succ])
              refine plan_call (.tuple #[W u, .bool true]) 42 #[W pc, W m] rfl rfl rfl (fun _ _ h hb => h.trans (hb.mono h.size)) (fun w' hS => by obtain ⟨X0, X1, X2, X3, Xf0, Xf1, Xf2, Xf3⟩ := row_four (row_call x hS); obtain ⟨Q0, Q1, Qf0, Qf1⟩ := row_two (row_call k2 hS); obtain ⟨p0, p1⟩ := MX.out.below (o.trans (hS.mono o.size)) HAB.out; go_simp) (fun w' hS => PU.out w') ?_
              simp only [Act.put, List.setIfInBounds_toArray, List.set_cons_zero, List.set_cons_succ]
              (refine plan_pure ?_ rfl rfl (fun w' => ?_) ?_; rotate_left; (go_simp; try with_reducible rfl); simp only [Act.put, List.setIfInBounds_toArray, List.set_cons_zero, List.set_cons_succ])
              (refine plan_pure ?_ rfl rfl (fun w' => ?_) ?_; rotate_left; (go_simp; try with_reducible rfl); simp only [Act.put, List.setIfInBounds_toArray, List.set_cons_zero, List.set_cons_succ])
              (refine plan_pure ?_ rfl rfl (fun w' => ?_) ?_; rotate_left; (go_simp; try with_reducible rfl); simp only [Act.put, List.setIfInBounds_toArray, List.set_cons_zero, List.set_cons_succ])
              refine plan_nil ?_
              intro g9 w7 L7 hr9 hg9
              simp only [List.drop_succ_cons, List.drop_zero]
              try simp only [Act.put, List.setIfInBounds_toArray, List.set_cons_zero, List.set_cons_succ]
              have hbl := own.lt
              have zk2 := row_lt k2
              have zx := row_lt x
              have zy := row_lt y
              have zs := row_lt s
              have zo := o.size
              replace own := orow_keep own (fun g e => L7.block g (own.lt g e).2)
              replace x := row_call x L7
              replace y := row_call y L7
              replace s := row_call s L7
              replace o := o.trans (L7.mono o.size)
              clear k2 L7
              obtain ⟨R0, R1, Rf0, Rf1⟩ := row_two hr9
              go_upto_region 17 with (fail)
              clear R0 R1 Rf0 Rf1
              replace own := orow_other (p := ⟨g9, 0, none⟩) own (fun e => by have := (hbl g9 e).2; omega) (.int .u64 (hi u))
              replace x := row_other (p := ⟨g9, 0, none⟩) x (by show w.heap.size ≠ g9; omega) (.int .u64 (hi u))
              replace y := row_other (p := ⟨g9, 0, none⟩) y (by show w.heap.size + 1 ≠ g9; omega) (.int .u64 (hi u))
              replace s := row_other (p := ⟨g9, 0, none⟩) s (by show sb ≠ g9; omega) (.int .u64 (hi u))
              replace o := o.setCell (p := ⟨g9, 0, none⟩) (by show w.heap.size ≤ g9; omega) (.int .u64 (hi u))
              replace own := orow_other (p := ⟨g9, 1, none⟩) own (fun e => by have := (hbl g9 e).2; omega) (.int .u64 (lo u))
              replace x := row_other (p := ⟨g9, 1, none⟩) x (by show w.heap.size ≠ g9; omega) (.int .u64 (lo u))
              replace y := row_other (p := ⟨g9, 1, none⟩) y (by show w.heap.size + 1 ≠ g9; omega) (.int .u64 (lo u))
              replace s := row_other (p := ⟨g9, 1, none⟩) s (by show sb ≠ g9; omega) (.int .u64 (lo u))
              replace o := o.setCell (p := ⟨g9, 1, none⟩) (by show w.heap.size ≤ g9; omega) (.int .u64 (lo u))
              have k3 := row_two_set (u := .int .u64 (hi u)) (v := .int .u64 (lo u)) hr9
              generalize ((w7.setCell ⟨g9, 0, none⟩ (.int .u64 (hi u))).setCell ⟨g9, 1, none⟩ (.int .u64 (lo u))) = w8 at own x y s o k3 ⊢
              clear hr9 zk2 zx zy zs zo hbl
              obtain ⟨R0, R1, Rf0, Rf1⟩ := row_two k3
              by_cases hs : acc + u < big
              · have PA := fun w => radd_fits acc u ab hu hs w
                generalize hsu : acc + u = t at PA hs
                have PA := Lib.hid PA
                have HTS : RowKit.Hid (rebT d ms j (i + 1) = t) := Lib.hid (by rw [HTS0.out, HU.out]; exact hsu)
                have HT2 : RowKit.Hid (rebT d ms j (i + 1) < big) := Lib.hid (by rw [HTS.out]; exact hs)
                clear hsu
                obtain ⟨S0, S1, Sf0, Sf1⟩ := row_two s
                go_upto_region 20 with (go_at_call 48; with_reducible refine (PA.out _).mono ?_; rintro e w9 ⟨rfl, hb9⟩; have s9 := row_call s hb9; obtain ⟨T0, T1, Tf0, Tf1⟩ := row_two s9)
                clear R0 R1 Rf0 Rf1 S0 S1 Sf0 Sf1 T0 T1 Tf0 Tf1 s9
                replace own := orow_keep own (fun g e => hb9.block g (own.lt g e).2)
                replace x := row_call x hb9
                replace y := row_call y hb9
                replace s := row_call s hb9
                replace o := o.trans (hb9.mono o.size)
                clear hb9 k3
                have zs := row_lt s
                replace own := orow_other (p := ⟨sb, 0, none⟩) own (nt) (.int .u64 (hi t))
                replace x := row_other (p := ⟨sb, 0, none⟩) x (by show w.heap.size ≠ sb; omega) (.int .u64 (hi t))
                replace y := row_other (p := ⟨sb, 0, none⟩) y (by show w.heap.size + 1 ≠ sb; omega) (.int .u64 (hi t))
                replace o := o.setCell (p := ⟨sb, 0, none⟩) (by show w.heap.size ≤ sb; omega) (.int .u64 (hi t))
                replace own := orow_other (p := ⟨sb, 1, none⟩) own (nt) (.int .u64 (lo t))
                replace x := row_other (p := ⟨sb, 1, none⟩) x (by show w.heap.size ≠ sb; omega) (.int .u64 (lo t))
                replace y := row_other (p := ⟨sb, 1, none⟩) y (by show w.heap.size + 1 ≠ sb; omega) (.int .u64 (lo t))
                replace o := o.setCell (p := ⟨sb, 1, none⟩) (by show w.heap.size ≤ sb; omega) (.int .u64 (lo t))
                have s2 : Row ((w9.setCell ⟨sb, 0, none⟩ (.int .u64 (hi t))).setCell ⟨sb, 1, none⟩ (.int .u64 (lo t))) sb 35 #[.int .u64 (hi t), .int .u64 (lo t)] := row_two_set s
                clear s
                generalize ((w9.setCell ⟨sb, 0, none⟩ (.int .u64 (hi t))).setCell ⟨sb, 1, none⟩ (.int .u64 (lo t))) = w10 at own x y o s2 ⊢
                clear zs
                go_wp2
                go_roundw
                case rel => exact ⟨i + 1, by omega, by go_num, HT2, own, x, y, by rw [HTS.out]; exact s2, o⟩
                case measure => simp [intOf]; omega
              · have PA := Lib.hid (fun w => radd_over acc u ab hu hs w)
                have E := Lib.hid (qreb_over HV.out h0 h1 (by rw [HD.out, HL.out]; exact fitB_no hlt (TO.out (by rw [HU.out]; exact hs))))
                obtain ⟨S0, S1, Sf0, Sf1⟩ := row_two s
                go_upto_region 20 with (go_at_call 48; with_reducible refine (PA.out _).mono ?_; rintro e w9 ⟨rfl, hb9⟩; have s9 := row_call s hb9; obtain ⟨T0, T1, Tf0, Tf1⟩ := row_two s9)
                clear R0 R1 Rf0 Rf1 S0 S1 Sf0 Sf1 T0 T1 Tf0 Tf1 s9
                replace own := orow_keep own (fun g e => hb9.block g (own.lt g e).2)
                replace x := row_call x hb9
                replace y := row_call y hb9
                replace s := row_call s hb9
                replace o := o.trans (hb9.mono o.size)
                clear hb9 k3
                have zs := row_lt s
                replace own := orow_other (p := ⟨sb, 0, none⟩) own (nt) (.int .u64 (hi 0))
                replace x := row_other (p := ⟨sb, 0, none⟩) x (by show w.heap.size ≠ sb; omega) (.int .u64 (hi 0))
                replace y := row_other (p := ⟨sb, 0, none⟩) y (by show w.heap.size + 1 ≠ sb; omega) (.int .u64 (hi 0))
                replace o := o.setCell (p := ⟨sb, 0, none⟩) (by show w.heap.size ≤ sb; omega) (.int .u64 (hi 0))
                replace own := orow_other (p := ⟨sb, 1, none⟩) own (nt) (.int .u64 (lo 0))
                replace x := row_other (p := ⟨sb, 1, none⟩) x (by show w.heap.size ≠ sb; omega) (.int .u64 (lo 0))
                replace y := row_other (p := ⟨sb, 1, none⟩) y (by show w.heap.size + 1 ≠ sb; omega) (.int .u64 (lo 0))
                replace o := o.setCell (p := ⟨sb, 1, none⟩) (by show w.heap.size ≤ sb; omega) (.int .u64 (lo 0))
                have s2 : Row ((w9.setCell ⟨sb, 0, none⟩ (.int .u64 (hi 0))).setCell ⟨sb, 1, none⟩ (.int .u64 (lo 0))) sb 35 #[.int .u64 (hi 0), .int .u64 (lo 0)] := row_two_set s
                clear s
                generalize ((w9.setCell ⟨sb, 0, none⟩ (.int .u64 (hi 0))).setCell ⟨sb, 1, none⟩ (.int .u64 (lo 0))) = w10 at own x y o s2 ⊢
                clear zs
                obtain ⟨Y0, Y1, Y2, Y3, Yf0, Yf1, Yf2, Yf3⟩ := row_four y
                go_wp2
                exact bodyPost_ret (v := .tuple #[.agg #[.int .i64 0, .int .i64 0, .int .i64 0, .slice none 0 0], .int .i64 6]) (by simp [results, Try.results28, go_sem, Y0, Y1, Y2, Y3]) rfl (by rw [E.out]; exact pret_zero (by (repeat (first | exact Below.refl _ _ | refine Below.setCell ?_ (by first | (simp; done) | (simp; omega) | omega) _ | refine Below.alloc ?_ (by first | (simp; done) | (simp; omega) | omega) _ | refine Below.drew ?_ | refine Below.trans ?_ (Below.mono (by assumption) (by first | (simp; done) | (simp; omega) | omega))))))
            · rw [(mulV_no hu).1, (mulV_no hu).2] at PU0
              have PU := Lib.hid PU0
              have E := Lib.hid (qreb_over HV.out h0 h1 (by rw [HD.out, HL.out]; exact fitB_no hlt (SO.out (by rw [HSM.out]; exact hu))))
              clear PU0
              go_upto_region 16 with (fail)
              clear Q0 Q1 Qf0 Qf1
              refine wp_region_free1 [0, 1, 2, 3, 4, 5, 6, 7, 9, 8] [9] [0, 1, 2, 3, 4, 5, 6, 7, 8, 10] (10, 35, #[.int .u64 0, .int .u64 0]) 15 11 (fun w' => Below w6.heap.size w6 w') (by kernel_rfl) (by kernel_rfl) ⟨_, _, rfl, rfl, rfl, fun ρ w' => by go_simp⟩ rfl (by simp) (fun _ h => h.alloc h.size _) (fun _ _ d _ _ h => by cases d <;> exact h) ?_ ?_
              · exact (Below.refl _ _).drew
              (refine plan_val ?_ rfl rfl rfl (fun w' hS => ?_) ?_; rotate_left; (obtain ⟨X0, X1, X2, X3, Xf0, Xf1, Xf2, Xf3⟩ := row_four (row_call x hS); obtain ⟨Q0, Q1, Qf0, Qf1⟩ := row_two (row_call k2 hS); obtain ⟨p0, p1⟩ := MX.out.below (o.trans (hS.mono o.size)) HAB.out; go_simp; try with_reducible rfl); simp only [Act.put, List.setIfInBounds_toArray, List.set_cons_zero, List.set_cons_succ])
              (refine plan_pure ?_ rfl rfl (fun w' => ?_) ?_; rotate_left; (go_simp; try with_reducible rfl); simp only [Act.put, List.setIfInBounds_toArray, List.set_cons_zero, List.set_cons_succ])
              (refine plan_val ?_ rfl rfl rfl (fun w' hS => ?_) ?_; rotate_left; (obtain ⟨X0, X1, X2, X3, Xf0, Xf1, Xf2, Xf3⟩ := row_four (row_call x hS); obtain ⟨Q0, Q1, Qf0, Qf1⟩ := row_two (row_call k2 hS); obtain ⟨p0, p1⟩ := MX.out.below (o.trans (hS.mono o.size)) HAB.out; go_simp; try with_reducible rfl); simp only [Act.put, List.setIfInBounds_toArray, List.set_cons_zero, List.set_cons_succ])
              (refine plan_pure ?_ rfl rfl (fun w' => ?_) ?_; rotate_left; (go_simp; try with_reducible rfl); simp only [Act.put, List.setIfInBounds_toArray, List.set_cons_zero, List.set_cons_succ])
              (refine plan_pure ?_ rfl rfl (fun w' => ?_) ?_; rotate_left; (go_simp; try with_reducible rfl); simp only [Act.put, List.setIfInBounds_toArray, List.set_cons_zero, List.set_cons_succ])
              (refine plan_val ?_ rfl rfl rfl (fun w' hS => ?_) ?_; rotate_left; (obtain ⟨X0, X1, X2, X3, Xf0, Xf1, Xf2, Xf3⟩ := row_four (row_call x hS); obtain ⟨Q0, Q1, Qf0, Qf1⟩ := row_two (row_call k2 hS); obtain ⟨p0, p1⟩ := MX.out.below (o.trans (hS.mono o.size)) HAB.out; go_simp; try with_reducible rfl); simp only [Act.put, List.setIfInBounds_toArray, List.set_cons_zero, List.set_cons_succ])
              refine plan_call (.tuple #[W 0, .bool false]) 42 #[W pc, W m] rfl rfl rfl (fun _ _ h hb => h.trans (hb.mono h.size)) (fun w' hS => by obtain ⟨X0, X1, X2, X3, Xf0, Xf1, Xf2, Xf3⟩ := row_four (row_call x hS); obtain ⟨Q0, Q1, Qf0, Qf1⟩ := row_two (row_call k2 hS); obtain ⟨p0, p1⟩ := MX.out.below (o.trans (hS.mono o.size)) HAB.out; go_simp) (fun w' hS => PU.out w') ?_
              simp only [Act.put, List.setIfInBounds_toArray, List.set_cons_zero, List.set_cons_succ]
              (refine plan_pure ?_ rfl rfl (fun w' => ?_) ?_; rotate_left; (go_simp; try with_reducible rfl); simp only [Act.put, List.setIfInBounds_toArray, List.set_cons_zero, List.set_cons_succ])
              (refine plan_pure ?_ rfl rfl (fun w' => ?_) ?_; rotate_left; (go_simp; try with_reducible rfl); simp only [Act.put, List.setIfInBounds_toArray, List.set_cons_zero, List.set_cons_succ])
              (refine plan_pure ?_ rfl rfl (fun w' => ?_) ?_; rotate_left; (go_simp; try with_reducible rfl); simp only [Act.put, List.setIfInBounds_toArray, List.set_cons_zero, List.set_cons_succ])
              refine plan_nil ?_
              intro g9 w7 L7 hr9 hg9
              simp only [List.drop_succ_cons, List.drop_zero]
              try simp only [Act.put, List.setIfInBounds_toArray, List.set_cons_zero, List.set_cons_succ]
              have hbl := own.lt
              have zk2 := row_lt k2
              have zx := row_lt x
              have zy := row_lt y
              have zs := row_lt s
              have zo := o.size
              replace own := orow_keep own (fun g e => L7.block g (own.lt g e).2)
              replace x := row_call x L7
              replace y := row_call y L7
              replace s := row_call s L7
              replace o := o.trans (L7.mono o.size)
              clear k2 L7
              obtain ⟨R0, R1, Rf0, Rf1⟩ := row_two hr9
              go_upto_region 17 with (fail)
              clear R0 R1 Rf0 Rf1
              replace own := orow_other (p := ⟨g9, 0, none⟩) own (fun e => by have := (hbl g9 e).2; omega) (.int .u64 (hi 0))
              replace x := row_other (p := ⟨g9, 0, none⟩) x (by show w.heap.size ≠ g9; omega) (.int .u64 (hi 0))
              replace y := row_other (p := ⟨g9, 0, none⟩) y (by show w.heap.size + 1 ≠ g9; omega) (.int .u64 (hi 0))
              replace s := row_other (p := ⟨g9, 0, none⟩) s (by show sb ≠ g9; omega) (.int .u64 (hi 0))
              replace o := o.setCell (p := ⟨g9, 0, none⟩) (by show w.heap.size ≤ g9; omega) (.int .u64 (hi 0))
              replace own := orow_other (p := ⟨g9, 1, none⟩) own (fun e => by have := (hbl g9 e).2; omega) (.int .u64 (lo 0))
              replace x := row_other (p := ⟨g9, 1, none⟩) x (by show w.heap.size ≠ g9; omega) (.int .u64 (lo 0))
              replace y := row_other (p := ⟨g9, 1, none⟩) y (by show w.heap.size + 1 ≠ g9; omega) (.int .u64 (lo 0))
              replace s := row_other (p := ⟨g9, 1, none⟩) s (by show sb ≠ g9; omega) (.int .u64 (lo 0))
              replace o := o.setCell (p := ⟨g9, 1, none⟩) (by show w.heap.size ≤ g9; omega) (.int .u64 (lo 0))
              have k3 := row_two_set (u := .int .u64 (hi 0)) (v := .int .u64 (lo 0)) hr9
              generalize ((w7.setCell ⟨g9, 0, none⟩ (.int .u64 (hi 0))).setCell ⟨g9, 1, none⟩ (.int .u64 (lo 0))) = w8 at own x y s o k3 ⊢
              clear hr9 zk2 zx zy zs zo hbl
              obtain ⟨R0, R1, Rf0, Rf1⟩ := row_two k3
              obtain ⟨Y0, Y1, Y2, Y3, Yf0, Yf1, Yf2, Yf3⟩ := row_four y
              go_wp2
              exact bodyPost_ret (v := .tuple #[.agg #[.int .i64 0, .int .i64 0, .int .i64 0, .slice none 0 0], .int .i64 6]) (by simp [results, Try.results28, go_sem, Y0, Y1, Y2, Y3]) rfl (by rw [E.out]; exact pret_zero (by (repeat (first | exact Below.refl _ _ | refine Below.setCell ?_ (by first | (simp; done) | (simp; omega) | omega) _ | refine Below.alloc ?_ (by first | (simp; done) | (simp; omega) | omega) _ | refine Below.drew ?_ | refine Below.trans ?_ (Below.mono (by assumption) (by first | (simp; done) | (simp; omega) | omega))))))
          · have j1 : ¬ (i : Int) ≤ (j : Int) := by omega
            obtain rfl : i = j + 1 := by omega
            go_wp2
            go_meet
            exact ⟨HT, own, x, y, s, o⟩
      case rest =>
        obtain ⟨HM, own, x, y, s, o⟩ := hcut
        have HB := Lib.hid (fun e (he : e < j + 1) => by
          rcases Nat.lt_or_ge e j with q | q
          · exact HA.out e q
          · rw [show e = j by omega]; exact HM.out)
        have HU : RowKit.Hid (upto (rebM d ms) (j + 1) = upto (rebM d ms) j ++ [rebM d ms j]) := Lib.hid (upto_succ _ _)
        generalize rebM d ms j = u at s HU
        obtain ⟨Q0, Q1, Qf0, Qf1⟩ := row_two s
        have hbl := own.lt
        have OWN := Lib.hid own
        have zo := o.size
        have zy := row_lt y
        clear own
        go_wp2_with (at_builtin; refine wpList_push rfl _ _ 22 rfl 35 i0 (.agg #[.int .u64 0, .int .u64 0]) 2 16 Try.underlying22 hi0 iz0 iz1 iz2 rfl (by decide) (w.heap.size + 2) u7 j (wcells (upto (rebM d ms) j)) rfl OWN.out #[.int .u64 (hi u), .int .u64 (lo u)] rfl rfl (by simp [Value.oneCell']) (by unfold maxLen; omega) (by omega) (by omega) ?_; intro g' c4 w9 own9 hg9 hat9 hgr9)
        have own : w9.ownsRow (w.heap.size + 2) 35 2 (.slice (some ⟨g', 0, none⟩) (j + 1) c4) (j + 1) (wcells (upto (rebM d ms) (j + 1))) := by
          rw [HU.out, wcells_append]
          exact own9.row hg9
        replace x := row_grown (row_alloc x (.cells #[.int .u64 (hi u), .int .u64 (lo u)] 35)) hgr9 (fun e => by have := (hbl _ e).1; omega)
        replace y := row_grown (row_alloc y (.cells #[.int .u64 (hi u), .int .u64 (lo u)] 35)) hgr9 (fun e => by have := (hbl _ e).1; omega)
        replace o := below_grown (o.alloc o.size (.cells #[.int .u64 (hi u), .int .u64 (lo u)] 35)) hgr9 (fun b e => by have := (hbl b e).1; omega) (by simp; omega)
        clear own9 hgr9 hat9 OWN s zo zy
        go_wp2
        go_roundw
        case rel => exact ⟨j + 1, by omega, by go_num, HB, own, x, y, o⟩
        case measure => simp [intOf]; omega
    · have i1 : ¬ (j : Int) < (n : Int) := by omega
      obtain rfl : j = n := by omega
      have E := Lib.hid (qreb_ok HV.out h0 h1 (by rw [HD.out, HL.out]; exact fitB_yes HA.out))
      obtain ⟨A3, c3, rfl, rd3, nc3, cm3, fr3⟩ := orow_forms own
      obtain ⟨X0, X1, X2, X3, Xf0, Xf1, Xf2, Xf3⟩ := row_four x
      obtain ⟨Y0, Y1, Y2, Y3, Yf0, Yf1, Yf2, Yf3⟩ := row_four y
      have zo := o.size
      have pi : PIn p ld now A3 j c3 (upto (rebM d ms) j) wr := ⟨rd3, by omega, by omega, by omega, upto_big HA.out, nc3, cm3⟩
      clear own rd3
      go_wp2
      have pi := ((pi.other (q := ⟨w.heap.size, 1, none⟩) (fun a e => by have := fr3 a e; show a.block ≠ w.heap.size; omega) (.int .i64 ld)).other (q := ⟨w.heap.size, 3, none⟩) (fun a e => by have := fr3 a e; show a.block ≠ w.heap.size; omega) (.slice A3 j c3)).row (b := w.heap.size + 1) (fun a e => by have := fr3 a e; omega) (.int .i64 p) (.int .i64 ld) (.int .i64 now) (.slice A3 j c3)
      have ob := below_four (b := w.heap.size + 1) ((o.setCell (p := ⟨w.heap.size, 1, none⟩) (by simp) (.int .i64 ld)).setCell (p := ⟨w.heap.size, 3, none⟩) (by simp) (.slice A3 j c3)) (by omega) (.int .i64 p) (.int .i64 ld) (.int .i64 now) (.slice A3 j c3)
      exact bodyPost_ret (v := .tuple #[.agg #[.int .i64 p, .int .i64 ld, .int .i64 now, .slice A3 j c3], .int .i64 0]) (by simp [results, Try.results28, go_sem, Y0, Y1, Y2, Y3]) rfl (by rw [E.out, HD.out, HL.out]; exact ⟨A3, j, c3, rfl, pi, ob, fun a e => by have := fr3 a e; exact ⟨by omega, by simp; omega⟩⟩)
theorem rpreb (p land now : Int) (A : Option Addr) (n c : Nat) (ms : List Nat) (ld : Int) (w : World) (hin : PIn p land now A n c ms w) : Calls Try.prog 28 #[.agg #[.int .i64 p, .int .i64 land, .int .i64 now, .slice A n c], .int .i64 ld] w fun e w' => PRet (qreb p land now ms ld) w e w' := by
  rcases pvalE_two (p := p) (land := land) (now := now) (ms := ms) with hv | hv
  · by_cases h0 : ld < 0
    · exact rpreb_low p land now A n c ms ld w hin hv h0
    · by_cases h1 : land < ld
      · exact rpreb_high p land now A n c ms ld w hin hv h1
      · exact rpreb_main p land now A n c ms ld w hin hv (by omega) (by omega)
  · exact rpreb_bad p land now A n c ms ld w hin hv
end Go.Proofs.Ytejoomlaanmbkaa
