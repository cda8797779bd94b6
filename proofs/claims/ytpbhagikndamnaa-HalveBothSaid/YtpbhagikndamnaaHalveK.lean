/- Counters that halve: the law of several steps, walked. -/
import Derived.Test.YtpbhagikndamnaaHalveJ
import Derived.Test.YtpbhagikndamnaaMathHalve5
import Derived.Test.YtpbhagikndamnaaMade
namespace Go.Proofs.Ytpbhagikndamnaa
open Go.RowKit Go.Shelf
theorem halveSplit_many (now : Int) (A : Option Addr) (n c : Nat) (zs : List Int) (a b : Int) (w : World) (h : 200 < n) : Calls Try.prog 6 #[.agg #[.int .i64 now, .slice A n c], .int .i64 a, .int .i64 b] w fun e w' => e = .returned (.bool true) ∧ Below w.heap.size w w' := by
  have FA := Lib.hid (fun w => few_no now A n c zs w h)
  clear h
  go_enter Try.func6, Try.ntmps6
  go_wp2_with (first | (go_at_call 13; with_reducible refine (FA.out _).mono ?_; rintro e w1 ⟨rfl, hb1⟩; have hz1 := hb1.size; (try simp at hz1); have o1 : Below w.heap.size w w1 := (by (repeat (first | exact Below.refl _ _ | refine Below.setCell ?_ (by first | (simp; done) | (simp; omega) | omega) _ | refine Below.alloc ?_ (by first | (simp; done) | (simp; omega) | omega) _ | refine Below.drew ?_ | refine Below.trans ?_ (Below.mono (by assumption) (by first | (simp; done) | (simp; omega) | omega))))); have q1_0 : w.heap.size < w1.heap.size := (by omega); have r1_0 : Row w1 (w.heap.size) 24 #[.int .i64 now, .slice A n c] := row_call (by (repeat (first | assumption | (refine row_new ?_; (first | (simp; done) | omega)) | refine row_alloc ?_ _ | refine row_drew ?_ | refine row_call ?_ (by assumption)))) hb1; obtain ⟨c1_0a, c1_0b, f1_0a, f1_0b⟩ := row_two r1_0) | (go_at_call 12; refine (awake16 _).mono ?_; rintro e w9 ⟨rfl, hb9⟩; have hz9 := hb9.size))
  go_ret
  exact ⟨rfl, by (repeat (first | exact Below.refl _ _ | refine Below.setCell ?_ (by first | (simp; done) | (simp; omega) | omega) _ | refine Below.alloc ?_ (by first | (simp; done) | (simp; omega) | omega) _ | refine Below.drew ?_ | refine Below.trans ?_ (Below.mono (by assumption) (by first | (simp; done) | (simp; omega) | omega))))⟩
theorem halveSplit_bad (now : Int) (A : Option Addr) (n c : Nat) (zs : List Int) (a b : Int) (w : World) (hin : HIn now A n c zs w) (h : n ≤ 200) (hv : hvalE now zs = 2) : Calls Try.prog 6 #[.agg #[.int .i64 now, .slice A n c], .int .i64 a, .int .i64 b] w fun e w' => e = .returned (.bool true) ∧ Below w.heap.size w w' := by
  have FA := Lib.hid (fun w => few_yes now A n c zs w h)
  have P := fun w1 (hb : Below w.heap.size w w1) => rhval now A n c zs w1 ((hin.reads.below hb).more hb.size) hin.nowB hin.zsB hin.nB
  rw [hv] at P
  have P := Lib.hid P
  clear h hv hin
  go_enter Try.func6, Try.ntmps6
  go_wp2_with (first | (go_at_call 13; with_reducible refine (FA.out _).mono ?_; rintro e w1 ⟨rfl, hb1⟩; have hz1 := hb1.size; (try simp at hz1); have o1 : Below w.heap.size w w1 := (by (repeat (first | exact Below.refl _ _ | refine Below.setCell ?_ (by first | (simp; done) | (simp; omega) | omega) _ | refine Below.alloc ?_ (by first | (simp; done) | (simp; omega) | omega) _ | refine Below.drew ?_ | refine Below.trans ?_ (Below.mono (by assumption) (by first | (simp; done) | (simp; omega) | omega))))); have q1_0 : w.heap.size < w1.heap.size := (by omega); have r1_0 : Row w1 (w.heap.size) 24 #[.int .i64 now, .slice A n c] := row_call (by (repeat (first | assumption | (refine row_new ?_; (first | (simp; done) | omega)) | refine row_alloc ?_ _ | refine row_drew ?_ | refine row_call ?_ (by assumption)))) hb1; obtain ⟨c1_0a, c1_0b, f1_0a, f1_0b⟩ := row_two r1_0) | (go_at_call 21; with_reducible refine (P.out _ (by (repeat (first | exact Below.refl _ _ | refine Below.setCell ?_ (by first | (simp; done) | (simp; omega) | omega) _ | refine Below.alloc ?_ (by first | (simp; done) | (simp; omega) | omega) _ | refine Below.drew ?_ | refine Below.trans ?_ (Below.mono (by assumption) (by first | (simp; done) | (simp; omega) | omega)))))).mono ?_; rintro e w2 ⟨rfl, hb2⟩; have hz2 := hb2.size; (try simp at hz2); have o2 : Below w.heap.size w w2 := (by (repeat (first | exact Below.refl _ _ | refine Below.setCell ?_ (by first | (simp; done) | (simp; omega) | omega) _ | refine Below.alloc ?_ (by first | (simp; done) | (simp; omega) | omega) _ | refine Below.drew ?_ | refine Below.trans ?_ (Below.mono (by assumption) (by first | (simp; done) | (simp; omega) | omega))))); have q2_0 : w.heap.size < w2.heap.size := (by omega); have r2_0 : Row w2 (w.heap.size) 24 #[.int .i64 now, .slice A n c] := row_call (by (repeat (first | assumption | (refine row_new ?_; (first | (simp; done) | omega)) | refine row_alloc ?_ _ | refine row_drew ?_ | refine row_call ?_ (by assumption)))) hb2; obtain ⟨c2_0a, c2_0b, f2_0a, f2_0b⟩ := row_two r2_0) | (go_at_call 12; refine (awake16 _).mono ?_; rintro e w9 ⟨rfl, hb9⟩; have hz9 := hb9.size))
  go_ret
  exact ⟨rfl, by (repeat (first | exact Below.refl _ _ | refine Below.setCell ?_ (by first | (simp; done) | (simp; omega) | omega) _ | refine Below.alloc ?_ (by first | (simp; done) | (simp; omega) | omega) _ | refine Below.drew ?_ | refine Below.trans ?_ (Below.mono (by assumption) (by first | (simp; done) | (simp; omega) | omega))))⟩
theorem halveSplit_late (now : Int) (A : Option Addr) (n c : Nat) (zs : List Int) (a b : Int) (w : World) (hin : HIn now A n c zs w) (h : n ≤ 200) (hv : hvalE now zs = 0) (hl : 16777016 < now) : Calls Try.prog 6 #[.agg #[.int .i64 now, .slice A n c], .int .i64 a, .int .i64 b] w fun e w' => e = .returned (.bool true) ∧ Below w.heap.size w w' := by
  have FA := Lib.hid (fun w => few_yes now A n c zs w h)
  have MA := Lib.hid (fun w => pmod a 80 (by decide) (by decide) w)
  have MB := Lib.hid (fun w => pmod b 80 (by decide) (by decide) w)
  have P := fun w1 (hb : Below w.heap.size w w1) => rhval now A n c zs w1 ((hin.reads.below hb).more hb.size) hin.nowB hin.zsB hin.nB
  rw [hv] at P
  have P := Lib.hid P
  clear h hv hin
  go_enter Try.func6, Try.ntmps6
  go_wp2_with (first | (go_at_call 13; with_reducible refine (FA.out _).mono ?_; rintro e w1 ⟨rfl, hb1⟩; have hz1 := hb1.size; (try simp at hz1); have o1 : Below w.heap.size w w1 := (by (repeat (first | exact Below.refl _ _ | refine Below.setCell ?_ (by first | (simp; done) | (simp; omega) | omega) _ | refine Below.alloc ?_ (by first | (simp; done) | (simp; omega) | omega) _ | refine Below.drew ?_ | refine Below.trans ?_ (Below.mono (by assumption) (by first | (simp; done) | (simp; omega) | omega))))); have q1_0 : w.heap.size < w1.heap.size := (by omega); have r1_0 : Row w1 (w.heap.size) 24 #[.int .i64 now, .slice A n c] := row_call (by (repeat (first | assumption | (refine row_new ?_; (first | (simp; done) | omega)) | refine row_alloc ?_ _ | refine row_drew ?_ | refine row_call ?_ (by assumption)))) hb1; obtain ⟨c1_0a, c1_0b, f1_0a, f1_0b⟩ := row_two r1_0) | (go_at_call 21; with_reducible refine (P.out _ (by (repeat (first | exact Below.refl _ _ | refine Below.setCell ?_ (by first | (simp; done) | (simp; omega) | omega) _ | refine Below.alloc ?_ (by first | (simp; done) | (simp; omega) | omega) _ | refine Below.drew ?_ | refine Below.trans ?_ (Below.mono (by assumption) (by first | (simp; done) | (simp; omega) | omega)))))).mono ?_; rintro e w2 ⟨rfl, hb2⟩; have hz2 := hb2.size; (try simp at hz2); have o2 : Below w.heap.size w w2 := (by (repeat (first | exact Below.refl _ _ | refine Below.setCell ?_ (by first | (simp; done) | (simp; omega) | omega) _ | refine Below.alloc ?_ (by first | (simp; done) | (simp; omega) | omega) _ | refine Below.drew ?_ | refine Below.trans ?_ (Below.mono (by assumption) (by first | (simp; done) | (simp; omega) | omega))))); have q2_0 : w.heap.size < w2.heap.size := (by omega); have r2_0 : Row w2 (w.heap.size) 24 #[.int .i64 now, .slice A n c] := row_call (by (repeat (first | assumption | (refine row_new ?_; (first | (simp; done) | omega)) | refine row_alloc ?_ _ | refine row_drew ?_ | refine row_call ?_ (by assumption)))) hb2; obtain ⟨c2_0a, c2_0b, f2_0a, f2_0b⟩ := row_two r2_0) | (go_at_call 25; with_reducible refine (MA.out _).mono ?_; rintro e w9 ⟨rfl, rfl⟩) | (go_at_call 25; with_reducible refine (MB.out _).mono ?_; rintro e w9 ⟨rfl, rfl⟩) | (go_at_call 12; refine (awake16 _).mono ?_; rintro e w9 ⟨rfl, hb9⟩; have hz9 := hb9.size))
  go_ret
  exact ⟨rfl, by (repeat (first | exact Below.refl _ _ | refine Below.setCell ?_ (by first | (simp; done) | (simp; omega) | omega) _ | refine Below.alloc ?_ (by first | (simp; done) | (simp; omega) | omega) _ | refine Below.drew ?_ | refine Below.trans ?_ (Below.mono (by assumption) (by first | (simp; done) | (simp; omega) | omega))))⟩
set_option maxHeartbeats 4000000 in
theorem halveSplit_main (now : Int) (A : Option Addr) (n c : Nat) (zs : List Int) (a b : Int) (w : World) (hin : HIn now A n c zs w) (h : n ≤ 200) (hv : hvalE now zs = 0) (hl : now ≤ 16777016) : Calls Try.prog 6 #[.agg #[.int .i64 now, .slice A n c], .int .i64 a, .int .i64 b] w fun e w' => e = .returned (.bool true) ∧ Below w.heap.size w w' := by
  have FA := Lib.hid (fun w => few_yes now A n c zs w h)
  have MA := fun w => pmod a 80 (by decide) (by decide) w
  have MB := fun w => pmod b 80 (by decide) (by decide) w
  have V := hvalid_of hv
  have n0 := V.2.2.1
  have a0 := Int.emod_nonneg a (show (80 : Int) ≠ 0 by decide)
  have a1 := Int.emod_lt_of_pos a (show (0 : Int) < 80 by decide)
  have b0 := Int.emod_nonneg b (show (80 : Int) ≠ 0 by decide)
  have b1 := Int.emod_lt_of_pos b (show (0 : Int) < 80 by decide)
  obtain ⟨x, hx⟩ : ∃ x : Nat, a % 80 = (x : Int) := ⟨(a % 80).toNat, by omega⟩
  obtain ⟨y, hy⟩ : ∃ y : Nat, b % 80 = (y : Int) := ⟨(b % 80).toNat, by omega⟩
  rw [hx] at MA a1
  rw [hy] at MB b1
  have MA := Lib.hid MA
  have MB := Lib.hid MB
  have hv2 := hvalE_shift (d := x) hv (by omega)
  have CA1 := fun w1 (hb : Below w.heap.size w w1) => phadv now A n c zs (now + (x : Int)) w1 (hin.below hb)
  rw [hadv_by hv (by omega)] at CA1
  have CA2 := fun (A : Option Addr) (n c : Nat) (w : World) (hin : HIn (now + x) A n c (hshift zs x) w) => phadv (now + x) A n c (hshift zs x) (now + (x : Int) + (y : Int)) w hin
  rw [hadv_by hv2 (by omega), hshift_add] at CA2
  have CA3 := fun w1 (hb : Below w.heap.size w w1) => phadv now A n c zs (now + (x : Int) + (y : Int)) w1 (hin.below hb)
  rw [show now + (x : Int) + (y : Int) = now + ((x + y : Nat) : Int) by omega, hadv_by hv (by omega), show now + ((x + y : Nat) : Int) = now + (x : Int) + (y : Int) by omega] at CA3
  have CA1 := Lib.hid CA1
  have CA2 := Lib.hid CA2
  have CA3 := Lib.hid CA3
  have P := fun w1 (hb : Below w.heap.size w w1) => rhval now A n c zs w1 ((hin.reads.below hb).more hb.size) hin.nowB hin.zsB hin.nB
  rw [hv] at P
  have P := Lib.hid P
  generalize hs1 : hshift zs x = z1 at CA1 CA2
  generalize hs2 : hshift zs (x + y) = z2 at CA2 CA3
  clear h hv hin V hv2 a0 b0 hx hy hs1 hs2
  go_enter Try.func6, Try.ntmps6
  go_wp2_with (first | (go_at_call 13; with_reducible refine (FA.out _).mono ?_; rintro e w1 ⟨rfl, hb1⟩; have hz1 := hb1.size; (try simp at hz1); have o1 : Below w.heap.size w w1 := (by (repeat (first | exact Below.refl _ _ | refine Below.setCell ?_ (by first | (simp; done) | (simp; omega) | omega) _ | refine Below.alloc ?_ (by first | (simp; done) | (simp; omega) | omega) _ | refine Below.drew ?_ | refine Below.trans ?_ (Below.mono (by assumption) (by first | (simp; done) | (simp; omega) | omega))))); have q1_0 : w.heap.size < w1.heap.size := (by omega); have r1_0 : Row w1 (w.heap.size) 24 #[.int .i64 now, .slice A n c] := row_call (by (repeat (first | assumption | (refine row_new ?_; (first | (simp; done) | omega)) | refine row_alloc ?_ _ | refine row_drew ?_ | refine row_call ?_ (by assumption)))) hb1; obtain ⟨c1_0a, c1_0b, f1_0a, f1_0b⟩ := row_two r1_0) | (go_at_call 21; with_reducible refine (P.out _ (by (repeat (first | exact Below.refl _ _ | refine Below.setCell ?_ (by first | (simp; done) | (simp; omega) | omega) _ | refine Below.alloc ?_ (by first | (simp; done) | (simp; omega) | omega) _ | refine Below.drew ?_ | refine Below.trans ?_ (Below.mono (by assumption) (by first | (simp; done) | (simp; omega) | omega)))))).mono ?_; rintro e w2 ⟨rfl, hb2⟩; have hz2 := hb2.size; (try simp at hz2); have o2 : Below w.heap.size w w2 := (by (repeat (first | exact Below.refl _ _ | refine Below.setCell ?_ (by first | (simp; done) | (simp; omega) | omega) _ | refine Below.alloc ?_ (by first | (simp; done) | (simp; omega) | omega) _ | refine Below.drew ?_ | refine Below.trans ?_ (Below.mono (by assumption) (by first | (simp; done) | (simp; omega) | omega))))); have q2_0 : w.heap.size < w2.heap.size := (by omega); have r2_0 : Row w2 (w.heap.size) 24 #[.int .i64 now, .slice A n c] := row_call (by (repeat (first | assumption | (refine row_new ?_; (first | (simp; done) | omega)) | refine row_alloc ?_ _ | refine row_drew ?_ | refine row_call ?_ (by assumption)))) hb2; obtain ⟨c2_0a, c2_0b, f2_0a, f2_0b⟩ := row_two r2_0) | (go_at_call 25; with_reducible refine (MA.out _).mono ?_; rintro e w9 ⟨rfl, rfl⟩) | (go_at_call 25; with_reducible refine (MB.out _).mono ?_; rintro e w9 ⟨rfl, rfl⟩))
  refine (CA1.out _ (by exact o2)).mono ?_
  intro e w3 hq
  obtain ⟨A3, n3, c3, rfl, hin3, hb3, hf3⟩ := hret_at rfl hq
  clear hq
  have hz3 := hb3.size
  try simp at hz3
  have x3 := row_call r2_0 hb3
  have o3 := o2.trans (hb3.mono o2.size)
  have q3 := row_lt x3
  obtain ⟨X0, X1, _, _⟩ := row_two x3
  go_wp2_with fail
  refine (CA2.out A3 n3 c3 _ (hin3.below (w' := w3.alloc (.cells #[.int .i64 (now + x), .slice A3 n3 c3] 24)) ((Below.refl _ _).alloc (Nat.le_refl _) _))).mono ?_
  intro e w4 hq
  obtain ⟨A4, n4, c4, rfl, hin4, hb4, hf4⟩ := hret_at rfl hq
  clear hq
  have hz4 := hb4.size
  try simp at hz4
  have x4 := row_call (row_alloc x3 (.cells #[.int .i64 (now + (x : Int)), .slice A3 n3 c3] 24)) hb4
  have y4 : Row w4 w3.heap.size 24 #[.int .i64 (now + (x : Int)), .slice A3 n3 c3] := row_call (row_new rfl) hb4
  have o4 := (o3.alloc o3.size (.cells #[.int .i64 (now + (x : Int)), .slice A3 n3 c3] 24)).trans (hb4.mono (by have := o3.size; simp; omega))
  have e4 := far (b := w3.heap.size) hf4 (by simp)
  have q4 := row_lt x4
  have q4' := row_lt y4
  obtain ⟨Y0, Y1, Y2, Y3⟩ := row_two y4
  obtain ⟨X2, X3, _, _⟩ := row_two x4
  have ne1 : w.heap.size ≠ w3.heap.size := by omega
  go_upto_region 8 with (fail)
  have M1 := row_two_set (u := .int .i64 (now + (x : Int) + (y : Int))) (v := .slice A4 n4 c4) y4
  have M2 := row_two_other (u := .int .i64 (now + (x : Int) + (y : Int))) (v := .slice A4 n4 c4) x4 ne1
  have M3 := hin4.row e4 (.int .i64 (now + (x : Int) + (y : Int))) (.slice A4 n4 c4)
  have M4 := (o4.setCell (p := ⟨w3.heap.size, 0, none⟩) (by simp; omega) (.int .i64 (now + (x : Int) + (y : Int)))).setCell (p := ⟨w3.heap.size, 1, none⟩) (by simp; omega) (.slice A4 n4 c4)
  generalize ((w4.setCell ⟨w3.heap.size, 0, none⟩ (.int .i64 (now + (x : Int) + (y : Int)))).setCell ⟨w3.heap.size, 1, none⟩ (.slice A4 n4 c4)) = w6 at M1 M2 M3 M4 ⊢
  generalize w3.heap.size = b7 at M1 ⊢
  clear x4 y4 hin4 hin3 Y0 Y1 Y2 Y3 X0 X1 X2 X3 hb3 hb4
  obtain ⟨X0, X1, _, _⟩ := row_two M2
  go_wp2_with fail
  refine (CA3.out _ (by exact M4)).mono ?_
  intro e w7 hq
  obtain ⟨A7, n7, c7, rfl, hin7, hb7, hf7⟩ := hret_at rfl hq
  clear hq
  have hz7 := hb7.size
  try simp at hz7
  have y7 := row_call M1 hb7
  have i7 := M3.below hb7
  have o7 := M4.trans (hb7.mono M4.size)
  have q7 := row_lt y7
  go_upto_region 9 with (fail)
  have r7 := row_alloc y7 (.cells #[.int .i64 (now + (x : Int) + (y : Int)), .slice A7 n7 c7] 24)
  have r8 : Row (w7.alloc (.cells #[.int .i64 (now + (x : Int) + (y : Int)), .slice A7 n7 c7] 24)) w7.heap.size 24 #[.int .i64 (now + (x : Int) + (y : Int)), .slice A7 n7 c7] := row_new rfl
  have G1 := i7.below (w' := w7.alloc (.cells #[.int .i64 (now + (x : Int) + (y : Int)), .slice A7 n7 c7] 24)) ((Below.refl _ _).alloc (Nat.le_refl _) _)
  have G2 := hin7.below (w' := w7.alloc (.cells #[.int .i64 (now + (x : Int) + (y : Int)), .slice A7 n7 c7] 24)) ((Below.refl _ _).alloc (Nat.le_refl _) _)
  have ob := o7.alloc o7.size (.cells #[.int .i64 (now + (x : Int) + (y : Int)), .slice A7 n7 c7] 24)
  generalize w7.alloc (.cells #[.int .i64 (now + (x : Int) + (y : Int)), .slice A7 n7 c7] 24) = w8 at r7 r8 G1 G2 ob ⊢
  generalize w7.heap.size = b10 at r8 ⊢
  have G1 := Lib.hid G1
  have G2 := Lib.hid G2
  have zb := ob.size
  obtain ⟨A00, A01, A02, A03⟩ := row_two r7
  obtain ⟨A10, A11, A12, A13⟩ := row_two r8
  go_wp2_with (first | (go_at_call 11; refine (rhsame (now + (x : Int) + (y : Int)) A4 A7 n4 c4 n7 c7 z2 _ G1.out G2.out).mono ?_; rintro e w9 ⟨rfl, hb9⟩; have hz9 := hb9.size) | (go_at_call 12; refine (awake16 _).mono ?_; rintro e w10 ⟨rfl, hb10⟩; have hz10 := hb10.size))
  go_ret
  exact ⟨rfl, by (repeat (first | exact Below.refl _ _ | refine Below.setCell ?_ (by first | (simp; done) | (simp; omega) | omega) _ | refine Below.alloc ?_ (by first | (simp; done) | (simp; omega) | omega) _ | refine Below.drew ?_ | refine Below.trans ?_ (Below.mono (by assumption) (by first | (simp; done) | (simp; omega) | omega))))⟩
theorem halveSplit (now : Int) (A : Option Addr) (n c : Nat) (zs : List Int) (a b : Int) (w : World) (hin : HIn now A n c zs w) : Calls Try.prog 6 #[.agg #[.int .i64 now, .slice A n c], .int .i64 a, .int .i64 b] w fun e w' => e = .returned (.bool true) ∧ Below w.heap.size w w' := by
  by_cases h : n ≤ 200
  · rcases hvalE_two (now := now) (zs := zs) with hv | hv
    · by_cases hl : 16777016 < now
      · exact halveSplit_late now A n c zs a b w hin h hv hl
      · exact halveSplit_main now A n c zs a b w hin h hv (by omega)
    · exact halveSplit_bad now A n c zs a b w hin h hv
  · exact halveSplit_many now A n c zs a b w (by omega)
end Go.Proofs.Ytpbhagikndamnaa
