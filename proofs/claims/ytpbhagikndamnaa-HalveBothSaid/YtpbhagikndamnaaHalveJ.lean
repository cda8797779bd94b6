/- Counters that halve: the law of merging, walked. -/
import Derived.Test.YtpbhagikndamnaaHalveI
namespace Go.Proofs.Ytpbhagikndamnaa
open Go.RowKit Go.Shelf
theorem halveMerges_a (now : Int) (A : Option Addr) (n c : Nat) (xs : List Int) (now' : Int) (A' : Option Addr) (n' c' : Nat) (ys : List Int) (w : World) (h : 200 < n) : Calls Try.prog 7 #[.agg #[.int .i64 now, .slice A n c], .agg #[.int .i64 now', .slice A' n' c']] w fun e w' => e = .returned (.bool true) ∧ Below w.heap.size w w' := by
  have FA := Lib.hid (fun w => few_no now A n c xs w h)
  clear h
  go_enter Try.func7, Try.ntmps7
  go_wp2_with (first | (go_at_call 13; with_reducible refine (FA.out _).mono ?_; rintro e w1 ⟨rfl, hb1⟩; have hz1 := hb1.size; (try simp at hz1); have o1 : Below w.heap.size w w1 := (by (repeat (first | exact Below.refl _ _ | refine Below.setCell ?_ (by first | (simp; done) | (simp; omega) | omega) _ | refine Below.alloc ?_ (by first | (simp; done) | (simp; omega) | omega) _ | refine Below.drew ?_ | refine Below.trans ?_ (Below.mono (by assumption) (by first | (simp; done) | (simp; omega) | omega))))); have q1_0 : w.heap.size < w1.heap.size := (by omega); have r1_0 : Row w1 (w.heap.size) 24 #[.int .i64 now, .slice A n c] := row_call (by (repeat (first | assumption | (refine row_new ?_; (first | (simp; done) | omega)) | refine row_alloc ?_ _ | refine row_drew ?_ | refine row_call ?_ (by assumption)))) hb1; obtain ⟨c1_0a, c1_0b, f1_0a, f1_0b⟩ := row_two r1_0; have q1_1 : w.heap.size + 1 < w1.heap.size := (by omega); have r1_1 : Row w1 (w.heap.size + 1) 24 #[.int .i64 now', .slice A' n' c'] := row_call (by (repeat (first | assumption | (refine row_new ?_; (first | (simp; done) | omega)) | refine row_alloc ?_ _ | refine row_drew ?_ | refine row_call ?_ (by assumption)))) hb1; obtain ⟨c1_1a, c1_1b, f1_1a, f1_1b⟩ := row_two r1_1) | (go_at_call 12; refine (awake16 _).mono ?_; rintro e w9 ⟨rfl, hb9⟩; have hz9 := hb9.size))
  go_ret
  exact ⟨rfl, by (repeat (first | exact Below.refl _ _ | refine Below.setCell ?_ (by first | (simp; done) | (simp; omega) | omega) _ | refine Below.alloc ?_ (by first | (simp; done) | (simp; omega) | omega) _ | refine Below.drew ?_ | refine Below.trans ?_ (Below.mono (by assumption) (by first | (simp; done) | (simp; omega) | omega))))⟩
theorem halveMerges_b (now : Int) (A : Option Addr) (n c : Nat) (xs : List Int) (now' : Int) (A' : Option Addr) (n' c' : Nat) (ys : List Int) (w : World) (h0 : n ≤ 200) (h : 200 < n') : Calls Try.prog 7 #[.agg #[.int .i64 now, .slice A n c], .agg #[.int .i64 now', .slice A' n' c']] w fun e w' => e = .returned (.bool true) ∧ Below w.heap.size w w' := by
  have FA := Lib.hid (fun w => few_yes now A n c xs w h0)
  have FB := Lib.hid (fun w => few_no now' A' n' c' ys w h)
  clear h
  go_enter Try.func7, Try.ntmps7
  go_wp2_with (first | (go_at_call 13; with_reducible refine (FA.out _).mono ?_; rintro e w1 ⟨rfl, hb1⟩; have hz1 := hb1.size; (try simp at hz1); have o1 : Below w.heap.size w w1 := (by (repeat (first | exact Below.refl _ _ | refine Below.setCell ?_ (by first | (simp; done) | (simp; omega) | omega) _ | refine Below.alloc ?_ (by first | (simp; done) | (simp; omega) | omega) _ | refine Below.drew ?_ | refine Below.trans ?_ (Below.mono (by assumption) (by first | (simp; done) | (simp; omega) | omega))))); have q1_0 : w.heap.size < w1.heap.size := (by omega); have r1_0 : Row w1 (w.heap.size) 24 #[.int .i64 now, .slice A n c] := row_call (by (repeat (first | assumption | (refine row_new ?_; (first | (simp; done) | omega)) | refine row_alloc ?_ _ | refine row_drew ?_ | refine row_call ?_ (by assumption)))) hb1; obtain ⟨c1_0a, c1_0b, f1_0a, f1_0b⟩ := row_two r1_0; have q1_1 : w.heap.size + 1 < w1.heap.size := (by omega); have r1_1 : Row w1 (w.heap.size + 1) 24 #[.int .i64 now', .slice A' n' c'] := row_call (by (repeat (first | assumption | (refine row_new ?_; (first | (simp; done) | omega)) | refine row_alloc ?_ _ | refine row_drew ?_ | refine row_call ?_ (by assumption)))) hb1; obtain ⟨c1_1a, c1_1b, f1_1a, f1_1b⟩ := row_two r1_1) | (go_at_call 13; with_reducible refine (FB.out _).mono ?_; rintro e w2 ⟨rfl, hb2⟩; have hz2 := hb2.size; (try simp at hz2); have o2 : Below w.heap.size w w2 := (by (repeat (first | exact Below.refl _ _ | refine Below.setCell ?_ (by first | (simp; done) | (simp; omega) | omega) _ | refine Below.alloc ?_ (by first | (simp; done) | (simp; omega) | omega) _ | refine Below.drew ?_ | refine Below.trans ?_ (Below.mono (by assumption) (by first | (simp; done) | (simp; omega) | omega))))); have q2_0 : w.heap.size < w2.heap.size := (by omega); have r2_0 : Row w2 (w.heap.size) 24 #[.int .i64 now, .slice A n c] := row_call (by (repeat (first | assumption | (refine row_new ?_; (first | (simp; done) | omega)) | refine row_alloc ?_ _ | refine row_drew ?_ | refine row_call ?_ (by assumption)))) hb2; obtain ⟨c2_0a, c2_0b, f2_0a, f2_0b⟩ := row_two r2_0; have q2_1 : w.heap.size + 1 < w2.heap.size := (by omega); have r2_1 : Row w2 (w.heap.size + 1) 24 #[.int .i64 now', .slice A' n' c'] := row_call (by (repeat (first | assumption | (refine row_new ?_; (first | (simp; done) | omega)) | refine row_alloc ?_ _ | refine row_drew ?_ | refine row_call ?_ (by assumption)))) hb2; obtain ⟨c2_1a, c2_1b, f2_1a, f2_1b⟩ := row_two r2_1) | (go_at_call 12; refine (awake16 _).mono ?_; rintro e w9 ⟨rfl, hb9⟩; have hz9 := hb9.size))
  go_ret
  exact ⟨rfl, by (repeat (first | exact Below.refl _ _ | refine Below.setCell ?_ (by first | (simp; done) | (simp; omega) | omega) _ | refine Below.alloc ?_ (by first | (simp; done) | (simp; omega) | omega) _ | refine Below.drew ?_ | refine Below.trans ?_ (Below.mono (by assumption) (by first | (simp; done) | (simp; omega) | omega))))⟩
set_option maxHeartbeats 4000000 in
theorem halveMerges_few (now : Int) (A : Option Addr) (n c : Nat) (xs : List Int) (now' : Int) (A' : Option Addr) (n' c' : Nat) (ys : List Int) (w : World) (hin : HIn now A n c xs w) (hin' : HIn now' A' n' c' ys w) (h0 : n ≤ 200) (h1 : n' ≤ 200) : Calls Try.prog 7 #[.agg #[.int .i64 now, .slice A n c], .agg #[.int .i64 now', .slice A' n' c']] w fun e w' => e = .returned (.bool true) ∧ Below w.heap.size w w' := by
  have FA := Lib.hid (fun w => few_yes now A n c xs w h0)
  have FB := Lib.hid (fun w => few_yes now' A' n' c' ys w h1)
  have PM := fun w1 (hb : Below w.heap.size w w1) => phmer now A n c xs now' A' n' c' ys w1 (hin.below hb) (hin'.below hb)
  have RM := fun w1 (hb : Below w.heap.size w w1) => rhmer now A n c xs now' A' n' c' ys w1 (hin.below hb) (hin'.below hb)
  generalize hmer now xs now' ys = r at PM RM
  obtain ⟨nwa, za, fa⟩ := r
  have PM := Lib.hid PM
  have RM := Lib.hid RM
  clear h0 h1 hin hin'
  go_enter Try.func7, Try.ntmps7
  go_wp2_with (first | (go_at_call 13; with_reducible refine (FA.out _).mono ?_; rintro e w1 ⟨rfl, hb1⟩; have hz1 := hb1.size; (try simp at hz1); have o1 : Below w.heap.size w w1 := (by (repeat (first | exact Below.refl _ _ | refine Below.setCell ?_ (by first | (simp; done) | (simp; omega) | omega) _ | refine Below.alloc ?_ (by first | (simp; done) | (simp; omega) | omega) _ | refine Below.drew ?_ | refine Below.trans ?_ (Below.mono (by assumption) (by first | (simp; done) | (simp; omega) | omega))))); have q1_0 : w.heap.size < w1.heap.size := (by omega); have r1_0 : Row w1 (w.heap.size) 24 #[.int .i64 now, .slice A n c] := row_call (by (repeat (first | assumption | (refine row_new ?_; (first | (simp; done) | omega)) | refine row_alloc ?_ _ | refine row_drew ?_ | refine row_call ?_ (by assumption)))) hb1; obtain ⟨c1_0a, c1_0b, f1_0a, f1_0b⟩ := row_two r1_0; have q1_1 : w.heap.size + 1 < w1.heap.size := (by omega); have r1_1 : Row w1 (w.heap.size + 1) 24 #[.int .i64 now', .slice A' n' c'] := row_call (by (repeat (first | assumption | (refine row_new ?_; (first | (simp; done) | omega)) | refine row_alloc ?_ _ | refine row_drew ?_ | refine row_call ?_ (by assumption)))) hb1; obtain ⟨c1_1a, c1_1b, f1_1a, f1_1b⟩ := row_two r1_1) | (go_at_call 13; with_reducible refine (FB.out _).mono ?_; rintro e w2 ⟨rfl, hb2⟩; have hz2 := hb2.size; (try simp at hz2); have o2 : Below w.heap.size w w2 := (by (repeat (first | exact Below.refl _ _ | refine Below.setCell ?_ (by first | (simp; done) | (simp; omega) | omega) _ | refine Below.alloc ?_ (by first | (simp; done) | (simp; omega) | omega) _ | refine Below.drew ?_ | refine Below.trans ?_ (Below.mono (by assumption) (by first | (simp; done) | (simp; omega) | omega))))); have q2_0 : w.heap.size < w2.heap.size := (by omega); have r2_0 : Row w2 (w.heap.size) 24 #[.int .i64 now, .slice A n c] := row_call (by (repeat (first | assumption | (refine row_new ?_; (first | (simp; done) | omega)) | refine row_alloc ?_ _ | refine row_drew ?_ | refine row_call ?_ (by assumption)))) hb2; obtain ⟨c2_0a, c2_0b, f2_0a, f2_0b⟩ := row_two r2_0; have q2_1 : w.heap.size + 1 < w2.heap.size := (by omega); have r2_1 : Row w2 (w.heap.size + 1) 24 #[.int .i64 now', .slice A' n' c'] := row_call (by (repeat (first | assumption | (refine row_new ?_; (first | (simp; done) | omega)) | refine row_alloc ?_ _ | refine row_drew ?_ | refine row_call ?_ (by assumption)))) hb2; obtain ⟨c2_1a, c2_1b, f2_1a, f2_1b⟩ := row_two r2_1))
  refine (PM.out _ (by exact o2)).mono ?_
  intro e w3 hq
  obtain ⟨A3, n3, c3, rfl, hin3, hb3, _⟩ := hret_at rfl hq
  clear hq
  have hz3 := hb3.size
  have o3 : Below w.heap.size w w3 := (by (repeat (first | exact Below.refl _ _ | refine Below.setCell ?_ (by first | (simp; done) | (simp; omega) | omega) _ | refine Below.alloc ?_ (by first | (simp; done) | (simp; omega) | omega) _ | refine Below.drew ?_ | refine Below.trans ?_ (Below.mono (by assumption) (by first | (simp; done) | (simp; omega) | omega))))); have q3_0 : w.heap.size < w3.heap.size := (by omega); have r3_0 : Row w3 (w.heap.size) 24 #[.int .i64 now, .slice A n c] := row_call (by (repeat (first | assumption | (refine row_new ?_; (first | (simp; done) | omega)) | refine row_alloc ?_ _ | refine row_drew ?_ | refine row_call ?_ (by assumption)))) hb3; obtain ⟨c3_0a, c3_0b, f3_0a, f3_0b⟩ := row_two r3_0; have q3_1 : w.heap.size + 1 < w3.heap.size := (by omega); have r3_1 : Row w3 (w.heap.size + 1) 24 #[.int .i64 now', .slice A' n' c'] := row_call (by (repeat (first | assumption | (refine row_new ?_; (first | (simp; done) | omega)) | refine row_alloc ?_ _ | refine row_drew ?_ | refine row_call ?_ (by assumption)))) hb3; obtain ⟨c3_1a, c3_1b, f3_1a, f3_1b⟩ := row_two r3_1
  go_wp2_with fail
  refine (RM.out _ (by exact o3.alloc o3.size (.cells #[.int .i64 nwa, .slice A3 n3 c3] 24))).mono ?_
  intro e w4 hq
  obtain ⟨A4, n4, c4, rfl, hin4, hb4, _⟩ := hret_at rfl hq
  clear hq
  have hz4 := hb4.size
  simp at hz4
  have r4 : Row w4 w3.heap.size 24 #[.int .i64 nwa, .slice A3 n3 c3] := row_call (row_new rfl) hb4
  have i4 : HIn nwa A3 n3 c3 za w4 := hin3.below (((Below.refl _ _).alloc (Nat.le_refl _) (.cells #[.int .i64 nwa, .slice A3 n3 c3] 24)).trans (hb4.mono (by simp)))
  have o4 : Below w.heap.size w w4 := by (repeat (first | exact Below.refl _ _ | refine Below.setCell ?_ (by first | (simp; done) | (simp; omega) | omega) _ | refine Below.alloc ?_ (by first | (simp; done) | (simp; omega) | omega) _ | refine Below.drew ?_ | refine Below.trans ?_ (Below.mono (by assumption) (by first | (simp; done) | (simp; omega) | omega))))
  go_upto_region 5 with (fail)
  have r5 := row_alloc r4 (.cells #[.int .i64 nwa, .slice A4 n4 c4] 24)
  have r6 : Row (w4.alloc (.cells #[.int .i64 nwa, .slice A4 n4 c4] 24)) w4.heap.size 24 #[.int .i64 nwa, .slice A4 n4 c4] := row_new rfl
  have G1 := i4.below (w' := w4.alloc (.cells #[.int .i64 nwa, .slice A4 n4 c4] 24)) ((Below.refl _ _).alloc (Nat.le_refl _) _)
  have G2 := hin4.below (w' := w4.alloc (.cells #[.int .i64 nwa, .slice A4 n4 c4] 24)) ((Below.refl _ _).alloc (Nat.le_refl _) _)
  have ob := o4.alloc o4.size (.cells #[.int .i64 nwa, .slice A4 n4 c4] 24)
  generalize w4.alloc (.cells #[.int .i64 nwa, .slice A4 n4 c4] 24) = w5 at r5 r6 G1 G2 ob ⊢
  generalize w3.heap.size = b5 at r5 ⊢
  generalize w4.heap.size = b7 at r6 ⊢
  have G1 := Lib.hid G1
  have G2 := Lib.hid G2
  have zb := ob.size
  obtain ⟨A00, A01, A02, A03⟩ := row_two r5
  obtain ⟨A10, A11, A12, A13⟩ := row_two r6
  go_wp2_with (first | (go_at_call 11; refine (rhsame nwa A3 A4 n3 c3 n4 c4 za _ G1.out G2.out).mono ?_; rintro e w6 ⟨rfl, hb6⟩; have hz6 := hb6.size) | (go_at_call 12; refine (awake16 _).mono ?_; rintro e w7 ⟨rfl, hb7⟩; have hz7 := hb7.size))
  go_ret
  exact ⟨rfl, by (repeat (first | exact Below.refl _ _ | refine Below.setCell ?_ (by first | (simp; done) | (simp; omega) | omega) _ | refine Below.alloc ?_ (by first | (simp; done) | (simp; omega) | omega) _ | refine Below.drew ?_ | refine Below.trans ?_ (Below.mono (by assumption) (by first | (simp; done) | (simp; omega) | omega))))⟩
theorem halveMerges (now : Int) (A : Option Addr) (n c : Nat) (xs : List Int) (now' : Int) (A' : Option Addr) (n' c' : Nat) (ys : List Int) (w : World) (hin : HIn now A n c xs w) (hin' : HIn now' A' n' c' ys w) : Calls Try.prog 7 #[.agg #[.int .i64 now, .slice A n c], .agg #[.int .i64 now', .slice A' n' c']] w fun e w' => e = .returned (.bool true) ∧ Below w.heap.size w w' := by
  by_cases h0 : n ≤ 200
  · by_cases h1 : n' ≤ 200
    · exact halveMerges_few now A n c xs now' A' n' c' ys w hin hin' h0 h1
    · exact halveMerges_b now A n c xs now' A' n' c' ys w h0 (by omega)
  · exact halveMerges_a now A n c xs now' A' n' c' ys w (by omega)
end Go.Proofs.Ytpbhagikndamnaa
