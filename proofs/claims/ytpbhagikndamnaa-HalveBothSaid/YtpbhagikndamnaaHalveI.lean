/- Counters that halve: the laws of the empty counter and of the states, walked. -/
import Derived.Test.YtpbhagikndamnaaHalveH
namespace Go.Proofs.Ytpbhagikndamnaa
open Go.RowKit Go.Shelf
set_option maxHeartbeats 2000000 in
theorem halveNew (a now : Int) (w : World) : Calls Try.prog 3 #[.int .i64 a, .int .i64 now] w fun e w' => e = .returned (.bool true) ∧ Below w.heap.size w w' := by
  have C1 := phnew a now
  have C2 := rhnew a now
  generalize hnew a now = r at C1 C2
  obtain ⟨nw, zs, f⟩ := r
  have C1 := Lib.hid C1
  have C2 := Lib.hid C2
  go_enter Try.func3, Try.ntmps3
  go_wp2_with fail
  refine (C1.out _).mono ?_
  intro e w1 hq
  obtain ⟨A1, n1, c1, rfl, hin1, hb1, _⟩ := hret_at rfl hq
  clear hq
  have hz1 := hb1.size
  try simp at hz1
  go_wp2_with fail
  refine (C2.out _).mono ?_
  intro e w2 hq
  obtain ⟨A2, n2, c2, rfl, hin2, hb2, _⟩ := hret_at rfl hq
  clear hq
  have hz2 := hb2.size
  try simp at hz2
  go_upto_region 3 with (fail)
  have r1 : Row (w2.alloc (.cells #[.int .i64 nw, .slice A2 n2 c2] 24)) w1.heap.size 24 #[.int .i64 nw, .slice A1 n1 c1] := row_alloc (row_call (row_new rfl) hb2) _
  have r2 : Row (w2.alloc (.cells #[.int .i64 nw, .slice A2 n2 c2] 24)) w2.heap.size 24 #[.int .i64 nw, .slice A2 n2 c2] := row_new rfl
  have G1 := hin1.below (w' := w2.alloc (.cells #[.int .i64 nw, .slice A2 n2 c2] 24)) (by (repeat (first | exact Below.refl _ _ | refine Below.setCell ?_ (by first | (simp; done) | (simp; omega) | omega) _ | refine Below.alloc ?_ (by first | (simp; done) | (simp; omega) | omega) _ | refine Below.drew ?_ | refine Below.trans ?_ (Below.mono (by assumption) (by first | (simp; done) | (simp; omega) | omega)))))
  have G2 := hin2.below (w' := w2.alloc (.cells #[.int .i64 nw, .slice A2 n2 c2] 24)) (by (repeat (first | exact Below.refl _ _ | refine Below.setCell ?_ (by first | (simp; done) | (simp; omega) | omega) _ | refine Below.alloc ?_ (by first | (simp; done) | (simp; omega) | omega) _ | refine Below.drew ?_ | refine Below.trans ?_ (Below.mono (by assumption) (by first | (simp; done) | (simp; omega) | omega)))))
  have ob : Below w.heap.size w (w2.alloc (.cells #[.int .i64 nw, .slice A2 n2 c2] 24)) := by (repeat (first | exact Below.refl _ _ | refine Below.setCell ?_ (by first | (simp; done) | (simp; omega) | omega) _ | refine Below.alloc ?_ (by first | (simp; done) | (simp; omega) | omega) _ | refine Below.drew ?_ | refine Below.trans ?_ (Below.mono (by assumption) (by first | (simp; done) | (simp; omega) | omega))))
  generalize w2.alloc (.cells #[.int .i64 nw, .slice A2 n2 c2] 24) = w3 at r1 r2 G1 G2 ob ⊢
  generalize w1.heap.size = b5 at r1 ⊢
  generalize w2.heap.size = b7 at r2 ⊢
  have G1 := Lib.hid G1
  have G2 := Lib.hid G2
  clear hin1 hin2 hb1 hb2
  have zb := ob.size
  obtain ⟨A00, A01, A02, A03⟩ := row_two r1
  obtain ⟨A10, A11, A12, A13⟩ := row_two r2
  go_wp2_with (first | (go_at_call 11; refine (rhsame nw A1 A2 n1 c1 n2 c2 zs _ G1.out G2.out).mono ?_; rintro e w4 ⟨rfl, hb4⟩; have hz4 := hb4.size) | (go_at_call 12; refine (awake16 _).mono ?_; rintro e w5 ⟨rfl, hb5⟩; have hz5 := hb5.size))
  go_ret
  exact ⟨rfl, by (repeat (first | exact Below.refl _ _ | refine Below.setCell ?_ (by first | (simp; done) | (simp; omega) | omega) _ | refine Below.alloc ?_ (by first | (simp; done) | (simp; omega) | omega) _ | refine Below.drew ?_ | refine Below.trans ?_ (Below.mono (by assumption) (by first | (simp; done) | (simp; omega) | omega))))⟩
theorem few_yes (now : Int) (A : Option Addr) (n c : Nat) (zs : List Int) (w : World) (h : n ≤ 200) : Calls Try.prog 13 #[.agg #[.int .i64 now, .slice A n c]] w fun e w' => e = .returned (.bool true) ∧ Below w.heap.size w w' := by
  have h1 : (n : Int) ≤ 200 := by omega
  go_enter Try.func13, Try.ntmps13
  go_wp2
  go_ret
  exact ⟨rfl, by (repeat (first | exact Below.refl _ _ | refine Below.setCell ?_ (by first | (simp; done) | (simp; omega) | omega) _ | refine Below.alloc ?_ (by first | (simp; done) | (simp; omega) | omega) _ | refine Below.drew ?_ | refine Below.trans ?_ (Below.mono (by assumption) (by first | (simp; done) | (simp; omega) | omega))))⟩
theorem few_no (now : Int) (A : Option Addr) (n c : Nat) (zs : List Int) (w : World) (h : 200 < n) : Calls Try.prog 13 #[.agg #[.int .i64 now, .slice A n c]] w fun e w' => e = .returned (.bool false) ∧ Below w.heap.size w w' := by
  have h1 : ¬ (n : Int) ≤ 200 := by omega
  go_enter Try.func13, Try.ntmps13
  go_wp2
  go_ret
  exact ⟨ret_bool (by first | (simp; done) | (simp; omega)), by (repeat (first | exact Below.refl _ _ | refine Below.setCell ?_ (by first | (simp; done) | (simp; omega) | omega) _ | refine Below.alloc ?_ (by first | (simp; done) | (simp; omega) | omega) _ | refine Below.drew ?_ | refine Below.trans ?_ (Below.mono (by assumption) (by first | (simp; done) | (simp; omega) | omega))))⟩
set_option maxHeartbeats 8000000 in
theorem halveStates_few (now : Int) (A : Option Addr) (n c : Nat) (zs : List Int) (to v : Int) (w : World) (hin : HIn now A n c zs w) (hf : n ≤ 200) : Calls Try.prog 4 #[.agg #[.int .i64 now, .slice A n c], .int .i64 to, .int .i64 v] w fun e w' => e = .returned (.bool true) ∧ Below w.heap.size w w' := by
  have FW := Lib.hid (fun w => few_yes now A n c zs w hf)
  have PA := fun w1 (hb : Below w.heap.size w w1) => phadv now A n c zs to w1 (hin.below hb)
  have RA := fun w1 (hb : Below w.heap.size w w1) => rhadv now A n c zs to w1 (hin.below hb)
  generalize hadv now zs to = r at PA RA
  obtain ⟨nwa, za, fa⟩ := r
  have PD := fun w1 (hb : Below w.heap.size w w1) => phadd now A n c zs v w1 (hin.below hb)
  have RD := fun w1 (hb : Below w.heap.size w w1) => rhadd now A n c zs v w1 (hin.below hb)
  generalize hadd now zs v = r at PD RD
  obtain ⟨nwb, zb, fb⟩ := r
  have PK := fun w1 (hb : Below w.heap.size w w1) => phask now A n c zs w1 (hin.below hb)
  have RK := fun w1 (hb : Below w.heap.size w w1) => rhask now A n c zs w1 (hin.below hb)
  generalize hask now zs = r at PK RK
  obtain ⟨num, den, fk⟩ := r
  simp only [FR] at PK RK
  generalize hi num = f1 at PK RK
  generalize lo num = f2 at PK RK
  generalize hi den = f3 at PK RK
  generalize lo den = f4 at PK RK
  have VP := fun w1 (hb : Below w.heap.size w w1) => phval now A n c zs w1 ((hin.reads.below hb).more hb.size) hin.nowB hin.zsB hin.nB
  have VR := fun w1 (hb : Below w.heap.size w w1) => rhval now A n c zs w1 ((hin.reads.below hb).more hb.size) hin.nowB hin.zsB hin.nB
  generalize hvalE now zs = ve at VP VR
  have PA := Lib.hid PA
  have RA := Lib.hid RA
  have PD := Lib.hid PD
  have RD := Lib.hid RD
  have PK := Lib.hid PK
  have RK := Lib.hid RK
  have VP := Lib.hid VP
  have VR := Lib.hid VR
  clear hin hf
  go_enter Try.func4, Try.ntmps4
  go_wp2_with fail
  refine (FW.out _).mono ?_
  rintro e wl ⟨rfl, hbl⟩
  have xl : Row wl w.heap.size 24 #[.int .i64 now, .slice A n c] := row_call (row_new rfl) hbl
  have ol : Below w.heap.size w wl := by (repeat (first | exact Below.refl _ _ | refine Below.setCell ?_ (by first | (simp; done) | (simp; omega) | omega) _ | refine Below.alloc ?_ (by first | (simp; done) | (simp; omega) | omega) _ | refine Below.drew ?_ | refine Below.trans ?_ (Below.mono (by assumption) (by first | (simp; done) | (simp; omega) | omega))))
  obtain ⟨Xl0, Xl1, Xl2, Xl3⟩ := row_two xl
  go_wp2_with fail
  refine (PA.out _ (by exact ol)).mono ?_
  intro e w1 hq
  obtain ⟨A1, n1, c1, rfl, hin1, hb1, _⟩ := hret_at rfl hq
  clear hq
  have hz1 := hb1.size
  try simp at hz1
  have x1 : Row w1 w.heap.size 24 #[.int .i64 now, .slice A n c] := row_call xl hb1
  have o1 : Below w.heap.size w w1 := ol.trans (hb1.mono ol.size)
  obtain ⟨X10, X11, X12, X13⟩ := row_two x1
  have q1 := row_lt x1
  go_wp2_with fail
  refine (RA.out _ (by exact o1.alloc o1.size (.cells #[.int .i64 nwa, .slice A1 n1 c1] 24))).mono ?_
  intro e w2 hq
  obtain ⟨A2, n2, c2, rfl, hin2, hb2, _⟩ := hret_at rfl hq
  clear hq
  have hz2 := hb2.size
  try simp at hz2
  have x2 : Row w2 w.heap.size 24 #[.int .i64 now, .slice A n c] := row_call (row_alloc x1 (.cells #[.int .i64 nwa, .slice A1 n1 c1] 24)) hb2
  have y2_1 : Row w2 w1.heap.size 24 #[.int .i64 nwa, .slice A1 n1 c1] := row_call (row_new rfl) hb2
  have o2 : Below w.heap.size w w2 := (o1.alloc o1.size (.cells #[.int .i64 nwa, .slice A1 n1 c1] 24)).trans (hb2.mono (by have := o1.size; simp; omega))
  have i2_1 : HIn nwa A1 n1 c1 za w2 := hin1.below (((Below.refl _ _).alloc (Nat.le_refl _) (.cells #[.int .i64 nwa, .slice A1 n1 c1] 24)).trans (hb2.mono (by simp)))
  obtain ⟨X20, X21, X22, X23⟩ := row_two x2
  have q2 := row_lt x2
  go_wp2_with fail
  refine (PD.out _ (by exact o2.alloc o2.size (.cells #[.int .i64 nwa, .slice A2 n2 c2] 24))).mono ?_
  intro e w3 hq
  obtain ⟨A3, n3, c3, rfl, hin3, hb3, _⟩ := hret_at rfl hq
  clear hq
  have hz3 := hb3.size
  try simp at hz3
  have x3 : Row w3 w.heap.size 24 #[.int .i64 now, .slice A n c] := row_call (row_alloc x2 (.cells #[.int .i64 nwa, .slice A2 n2 c2] 24)) hb3
  have y3_1 : Row w3 w1.heap.size 24 #[.int .i64 nwa, .slice A1 n1 c1] := row_call (row_alloc y2_1 (.cells #[.int .i64 nwa, .slice A2 n2 c2] 24)) hb3
  have y3_2 : Row w3 w2.heap.size 24 #[.int .i64 nwa, .slice A2 n2 c2] := row_call (row_new rfl) hb3
  have o3 : Below w.heap.size w w3 := (o2.alloc o2.size (.cells #[.int .i64 nwa, .slice A2 n2 c2] 24)).trans (hb3.mono (by have := o2.size; simp; omega))
  have i3_1 : HIn nwa A1 n1 c1 za w3 := i2_1.below (((Below.refl _ _).alloc (Nat.le_refl _) (.cells #[.int .i64 nwa, .slice A2 n2 c2] 24)).trans (hb3.mono (by simp)))
  have i3_2 : HIn nwa A2 n2 c2 za w3 := hin2.below (((Below.refl _ _).alloc (Nat.le_refl _) (.cells #[.int .i64 nwa, .slice A2 n2 c2] 24)).trans (hb3.mono (by simp)))
  obtain ⟨X30, X31, X32, X33⟩ := row_two x3
  have q3 := row_lt x3
  go_wp2_with fail
  refine (RD.out _ (by exact o3.alloc o3.size (.cells #[.int .i64 nwb, .slice A3 n3 c3] 24))).mono ?_
  intro e w4 hq
  obtain ⟨A4, n4, c4, rfl, hin4, hb4, _⟩ := hret_at rfl hq
  clear hq
  have hz4 := hb4.size
  try simp at hz4
  have x4 : Row w4 w.heap.size 24 #[.int .i64 now, .slice A n c] := row_call (row_alloc x3 (.cells #[.int .i64 nwb, .slice A3 n3 c3] 24)) hb4
  have y4_1 : Row w4 w1.heap.size 24 #[.int .i64 nwa, .slice A1 n1 c1] := row_call (row_alloc y3_1 (.cells #[.int .i64 nwb, .slice A3 n3 c3] 24)) hb4
  have y4_2 : Row w4 w2.heap.size 24 #[.int .i64 nwa, .slice A2 n2 c2] := row_call (row_alloc y3_2 (.cells #[.int .i64 nwb, .slice A3 n3 c3] 24)) hb4
  have y4_3 : Row w4 w3.heap.size 24 #[.int .i64 nwb, .slice A3 n3 c3] := row_call (row_new rfl) hb4
  have o4 : Below w.heap.size w w4 := (o3.alloc o3.size (.cells #[.int .i64 nwb, .slice A3 n3 c3] 24)).trans (hb4.mono (by have := o3.size; simp; omega))
  have i4_1 : HIn nwa A1 n1 c1 za w4 := i3_1.below (((Below.refl _ _).alloc (Nat.le_refl _) (.cells #[.int .i64 nwb, .slice A3 n3 c3] 24)).trans (hb4.mono (by simp)))
  have i4_2 : HIn nwa A2 n2 c2 za w4 := i3_2.below (((Below.refl _ _).alloc (Nat.le_refl _) (.cells #[.int .i64 nwb, .slice A3 n3 c3] 24)).trans (hb4.mono (by simp)))
  have i4_3 : HIn nwb A3 n3 c3 zb w4 := hin3.below (((Below.refl _ _).alloc (Nat.le_refl _) (.cells #[.int .i64 nwb, .slice A3 n3 c3] 24)).trans (hb4.mono (by simp)))
  obtain ⟨X40, X41, X42, X43⟩ := row_two x4
  have q4 := row_lt x4
  go_wp2_with fail
  refine (PK.out _ (by exact o4.alloc o4.size (.cells #[.int .i64 nwb, .slice A4 n4 c4] 24))).mono ?_
  rintro e w5 ⟨rfl, hb5⟩
  have hz5 := hb5.size
  try simp at hz5
  have x5 : Row w5 w.heap.size 24 #[.int .i64 now, .slice A n c] := row_call (row_alloc x4 (.cells #[.int .i64 nwb, .slice A4 n4 c4] 24)) hb5
  have y5_1 : Row w5 w1.heap.size 24 #[.int .i64 nwa, .slice A1 n1 c1] := row_call (row_alloc y4_1 (.cells #[.int .i64 nwb, .slice A4 n4 c4] 24)) hb5
  have y5_2 : Row w5 w2.heap.size 24 #[.int .i64 nwa, .slice A2 n2 c2] := row_call (row_alloc y4_2 (.cells #[.int .i64 nwb, .slice A4 n4 c4] 24)) hb5
  have y5_3 : Row w5 w3.heap.size 24 #[.int .i64 nwb, .slice A3 n3 c3] := row_call (row_alloc y4_3 (.cells #[.int .i64 nwb, .slice A4 n4 c4] 24)) hb5
  have y5_4 : Row w5 w4.heap.size 24 #[.int .i64 nwb, .slice A4 n4 c4] := row_call (row_new rfl) hb5
  have o5 : Below w.heap.size w w5 := (o4.alloc o4.size (.cells #[.int .i64 nwb, .slice A4 n4 c4] 24)).trans (hb5.mono (by have := o4.size; simp; omega))
  have i5_1 : HIn nwa A1 n1 c1 za w5 := i4_1.below (((Below.refl _ _).alloc (Nat.le_refl _) (.cells #[.int .i64 nwb, .slice A4 n4 c4] 24)).trans (hb5.mono (by simp)))
  have i5_2 : HIn nwa A2 n2 c2 za w5 := i4_2.below (((Below.refl _ _).alloc (Nat.le_refl _) (.cells #[.int .i64 nwb, .slice A4 n4 c4] 24)).trans (hb5.mono (by simp)))
  have i5_3 : HIn nwb A3 n3 c3 zb w5 := i4_3.below (((Below.refl _ _).alloc (Nat.le_refl _) (.cells #[.int .i64 nwb, .slice A4 n4 c4] 24)).trans (hb5.mono (by simp)))
  have i5_4 : HIn nwb A4 n4 c4 zb w5 := hin4.below (((Below.refl _ _).alloc (Nat.le_refl _) (.cells #[.int .i64 nwb, .slice A4 n4 c4] 24)).trans (hb5.mono (by simp)))
  obtain ⟨X50, X51, X52, X53⟩ := row_two x5
  have q5 := row_lt x5
  go_wp2_with fail
  refine (RK.out _ (by exact o5.alloc o5.size (.cells #[.int .u64 f1, .int .u64 f2, .int .u64 f3, .int .u64 f4] 37))).mono ?_
  rintro e w6 ⟨rfl, hb6⟩
  have hz6 := hb6.size
  try simp at hz6
  have x6 : Row w6 w.heap.size 24 #[.int .i64 now, .slice A n c] := row_call (row_alloc x5 (.cells #[.int .u64 f1, .int .u64 f2, .int .u64 f3, .int .u64 f4] 37)) hb6
  have y6_1 : Row w6 w1.heap.size 24 #[.int .i64 nwa, .slice A1 n1 c1] := row_call (row_alloc y5_1 (.cells #[.int .u64 f1, .int .u64 f2, .int .u64 f3, .int .u64 f4] 37)) hb6
  have y6_2 : Row w6 w2.heap.size 24 #[.int .i64 nwa, .slice A2 n2 c2] := row_call (row_alloc y5_2 (.cells #[.int .u64 f1, .int .u64 f2, .int .u64 f3, .int .u64 f4] 37)) hb6
  have y6_3 : Row w6 w3.heap.size 24 #[.int .i64 nwb, .slice A3 n3 c3] := row_call (row_alloc y5_3 (.cells #[.int .u64 f1, .int .u64 f2, .int .u64 f3, .int .u64 f4] 37)) hb6
  have y6_4 : Row w6 w4.heap.size 24 #[.int .i64 nwb, .slice A4 n4 c4] := row_call (row_alloc y5_4 (.cells #[.int .u64 f1, .int .u64 f2, .int .u64 f3, .int .u64 f4] 37)) hb6
  have y6_5 : Row w6 w5.heap.size 37 #[.int .u64 f1, .int .u64 f2, .int .u64 f3, .int .u64 f4] := row_call (row_new rfl) hb6
  have o6 : Below w.heap.size w w6 := (o5.alloc o5.size (.cells #[.int .u64 f1, .int .u64 f2, .int .u64 f3, .int .u64 f4] 37)).trans (hb6.mono (by have := o5.size; simp; omega))
  have i6_1 : HIn nwa A1 n1 c1 za w6 := i5_1.below (((Below.refl _ _).alloc (Nat.le_refl _) (.cells #[.int .u64 f1, .int .u64 f2, .int .u64 f3, .int .u64 f4] 37)).trans (hb6.mono (by simp)))
  have i6_2 : HIn nwa A2 n2 c2 za w6 := i5_2.below (((Below.refl _ _).alloc (Nat.le_refl _) (.cells #[.int .u64 f1, .int .u64 f2, .int .u64 f3, .int .u64 f4] 37)).trans (hb6.mono (by simp)))
  have i6_3 : HIn nwb A3 n3 c3 zb w6 := i5_3.below (((Below.refl _ _).alloc (Nat.le_refl _) (.cells #[.int .u64 f1, .int .u64 f2, .int .u64 f3, .int .u64 f4] 37)).trans (hb6.mono (by simp)))
  have i6_4 : HIn nwb A4 n4 c4 zb w6 := i5_4.below (((Below.refl _ _).alloc (Nat.le_refl _) (.cells #[.int .u64 f1, .int .u64 f2, .int .u64 f3, .int .u64 f4] 37)).trans (hb6.mono (by simp)))
  obtain ⟨X60, X61, X62, X63⟩ := row_two x6
  have q6 := row_lt x6
  go_upto_region 9 with (fail)
  have r0 := row_alloc x6 (.cells #[.int .u64 f1, .int .u64 f2, .int .u64 f3, .int .u64 f4] 37)
  have r1 : Row (w6.alloc (.cells #[.int .u64 f1, .int .u64 f2, .int .u64 f3, .int .u64 f4] 37)) w1.heap.size 24 #[.int .i64 nwa, .slice A1 n1 c1] := row_alloc y6_1 _
  have r2 : Row (w6.alloc (.cells #[.int .u64 f1, .int .u64 f2, .int .u64 f3, .int .u64 f4] 37)) w2.heap.size 24 #[.int .i64 nwa, .slice A2 n2 c2] := row_alloc y6_2 _
  have r3 : Row (w6.alloc (.cells #[.int .u64 f1, .int .u64 f2, .int .u64 f3, .int .u64 f4] 37)) w3.heap.size 24 #[.int .i64 nwb, .slice A3 n3 c3] := row_alloc y6_3 _
  have r4 : Row (w6.alloc (.cells #[.int .u64 f1, .int .u64 f2, .int .u64 f3, .int .u64 f4] 37)) w4.heap.size 24 #[.int .i64 nwb, .slice A4 n4 c4] := row_alloc y6_4 _
  have r5 : Row (w6.alloc (.cells #[.int .u64 f1, .int .u64 f2, .int .u64 f3, .int .u64 f4] 37)) w5.heap.size 37 #[.int .u64 f1, .int .u64 f2, .int .u64 f3, .int .u64 f4] := row_alloc y6_5 _
  have r6 : Row (w6.alloc (.cells #[.int .u64 f1, .int .u64 f2, .int .u64 f3, .int .u64 f4] 37)) w6.heap.size 37 #[.int .u64 f1, .int .u64 f2, .int .u64 f3, .int .u64 f4] := row_new rfl
  have G1 := i6_1.below (w' := (w6.alloc (.cells #[.int .u64 f1, .int .u64 f2, .int .u64 f3, .int .u64 f4] 37))) ((Below.refl _ _).alloc (Nat.le_refl _) _)
  have G2 := i6_2.below (w' := (w6.alloc (.cells #[.int .u64 f1, .int .u64 f2, .int .u64 f3, .int .u64 f4] 37))) ((Below.refl _ _).alloc (Nat.le_refl _) _)
  have G3 := i6_3.below (w' := (w6.alloc (.cells #[.int .u64 f1, .int .u64 f2, .int .u64 f3, .int .u64 f4] 37))) ((Below.refl _ _).alloc (Nat.le_refl _) _)
  have G4 := i6_4.below (w' := (w6.alloc (.cells #[.int .u64 f1, .int .u64 f2, .int .u64 f3, .int .u64 f4] 37))) ((Below.refl _ _).alloc (Nat.le_refl _) _)
  have ob := o6.alloc o6.size (.cells #[.int .u64 f1, .int .u64 f2, .int .u64 f3, .int .u64 f4] 37)
  generalize (w6.alloc (.cells #[.int .u64 f1, .int .u64 f2, .int .u64 f3, .int .u64 f4] 37)) = w9 at r0 r1 r2 r3 r4 r5 r6 G1 G2 G3 G4 ob ⊢
  generalize w1.heap.size = b7 at r1 ⊢
  generalize w2.heap.size = b9 at r2 ⊢
  generalize w3.heap.size = b11 at r3 ⊢
  generalize w4.heap.size = b13 at r4 ⊢
  generalize w5.heap.size = b15 at r5 ⊢
  generalize w6.heap.size = b17 at r6 ⊢
  have G1 := Lib.hid G1
  have G2 := Lib.hid G2
  have G3 := Lib.hid G3
  have G4 := Lib.hid G4
  have L : Row w9 (w.heap.size) 24 #[.int .i64 now, .slice A n c] ∧ Row w9 (b7) 24 #[.int .i64 nwa, .slice A1 n1 c1] ∧ Row w9 (b9) 24 #[.int .i64 nwa, .slice A2 n2 c2] ∧ Row w9 (b11) 24 #[.int .i64 nwb, .slice A3 n3 c3] ∧ Row w9 (b13) 24 #[.int .i64 nwb, .slice A4 n4 c4] ∧ Row w9 (b15) 37 #[.int .u64 f1, .int .u64 f2, .int .u64 f3, .int .u64 f4] ∧ Row w9 (b17) 37 #[.int .u64 f1, .int .u64 f2, .int .u64 f3, .int .u64 f4] ∧ Below w9.heap.size w9 w9 ∧ Below w.heap.size w w9 := ⟨r0, r1, r2, r3, r4, r5, r6, Below.refl _ _, ob⟩
  clear x1 o1 hb1 X10 X11 X12 X13 x2 o2 hb2 X20 X21 X22 X23 x3 o3 hb3 X30 X31 X32 X33 x4 o4 hb4 X40 X41 X42 X43 x5 o5 hb5 X50 X51 X52 X53 x6 o6 hb6 X60 X61 X62 X63 y2_1 y3_1 y3_2 y4_1 y4_2 y4_3 y5_1 y5_2 y5_3 y5_4 y6_1 y6_2 y6_3 y6_4 y6_5 i2_1 i3_1 i3_2 i4_1 i4_2 i4_3 i5_1 i5_2 i5_3 i5_4 i6_1 i6_2 i6_3 i6_4 hin1 hin2 hin3 hin4 xl ol Xl0 Xl1 Xl2 Xl3 hbl
  clear r0 r1 r2 r3 r4 r5 r6 ob
  refine wp_region_free0 [0, 1, 2, 3, 4, 5, 6, 7, 8, 9, 10, 11, 12, 13, 14, 15, 16, 17, 18, 19, 20, 21, 22, 23, 24, 25, 26, 27, 28, 29, 30, 31, 32, 33, 34, 35, 36, 37] [] [0, 1, 2, 3, 4, 5, 6, 7, 8, 9, 10, 11, 12, 13, 14, 15, 16, 17, 18, 19, 20, 21, 22, 23, 24, 25, 26, 27, 28, 29, 30, 31, 32, 33, 34, 35, 36, 37] 38 (fun w' => Row w' (w.heap.size) 24 #[.int .i64 now, .slice A n c] ∧ Row w' (b7) 24 #[.int .i64 nwa, .slice A1 n1 c1] ∧ Row w' (b9) 24 #[.int .i64 nwa, .slice A2 n2 c2] ∧ Row w' (b11) 24 #[.int .i64 nwb, .slice A3 n3 c3] ∧ Row w' (b13) 24 #[.int .i64 nwb, .slice A4 n4 c4] ∧ Row w' (b15) 37 #[.int .u64 f1, .int .u64 f2, .int .u64 f3, .int .u64 f4] ∧ Row w' (b17) 37 #[.int .u64 f1, .int .u64 f2, .int .u64 f3, .int .u64 f4] ∧ Below w9.heap.size w9 w' ∧ Below w.heap.size w w') (by kernel_rfl) (by kernel_rfl) (fun _ _ d _ _ h => by cases d <;> exact h) ?_ ?_
  · exact ⟨L.1, L.2.1, L.2.2.1, L.2.2.2.1, L.2.2.2.2.1, L.2.2.2.2.2.1, L.2.2.2.2.2.2.1, L.2.2.2.2.2.2.2.1.drew, L.2.2.2.2.2.2.2.2.drew⟩
  (refine plan_val ?_ rfl rfl rfl (fun w' hS => ?_) ?_; rotate_left; (obtain ⟨ch_0a, ch_0b, fh_0a, fh_0b⟩ := row_two hS.1; obtain ⟨ch_1a, ch_1b, fh_1a, fh_1b⟩ := row_two hS.2.1; obtain ⟨ch_2a, ch_2b, fh_2a, fh_2b⟩ := row_two hS.2.2.1; obtain ⟨ch_3a, ch_3b, fh_3a, fh_3b⟩ := row_two hS.2.2.2.1; obtain ⟨ch_4a, ch_4b, fh_4a, fh_4b⟩ := row_two hS.2.2.2.2.1; obtain ⟨ch_5a, ch_5b, ch_5c, ch_5d, fh_5a, fh_5b, fh_5c, fh_5d⟩ := row_four hS.2.2.2.2.2.1; obtain ⟨ch_6a, ch_6b, ch_6c, ch_6d, fh_6a, fh_6b, fh_6c, fh_6d⟩ := row_four hS.2.2.2.2.2.2.1; go_simp; try with_reducible rfl); simp only [Act.put, List.setIfInBounds_toArray, List.set_cons_zero, List.set_cons_succ])
  refine plan_call (.int .i64 ve) 20 #[.agg #[.int .i64 now, .slice A n c]] rfl rfl rfl (fun _ _ h hb => ⟨row_call h.1 hb, row_call h.2.1 hb, row_call h.2.2.1 hb, row_call h.2.2.2.1 hb, row_call h.2.2.2.2.1 hb, row_call h.2.2.2.2.2.1 hb, row_call h.2.2.2.2.2.2.1 hb, h.2.2.2.2.2.2.2.1.trans (hb.mono h.2.2.2.2.2.2.2.1.size), h.2.2.2.2.2.2.2.2.trans (hb.mono h.2.2.2.2.2.2.2.2.size)⟩) (fun w' hS => by obtain ⟨ch_0a, ch_0b, fh_0a, fh_0b⟩ := row_two hS.1; obtain ⟨ch_1a, ch_1b, fh_1a, fh_1b⟩ := row_two hS.2.1; obtain ⟨ch_2a, ch_2b, fh_2a, fh_2b⟩ := row_two hS.2.2.1; obtain ⟨ch_3a, ch_3b, fh_3a, fh_3b⟩ := row_two hS.2.2.2.1; obtain ⟨ch_4a, ch_4b, fh_4a, fh_4b⟩ := row_two hS.2.2.2.2.1; obtain ⟨ch_5a, ch_5b, ch_5c, ch_5d, fh_5a, fh_5b, fh_5c, fh_5d⟩ := row_four hS.2.2.2.2.2.1; obtain ⟨ch_6a, ch_6b, ch_6c, ch_6d, fh_6a, fh_6b, fh_6c, fh_6d⟩ := row_four hS.2.2.2.2.2.2.1; go_simp) (fun w' hS => VP.out w' hS.2.2.2.2.2.2.2.2) ?_
  simp only [Act.put, List.setIfInBounds_toArray, List.set_cons_zero, List.set_cons_succ]
  (refine plan_val ?_ rfl rfl rfl (fun w' hS => ?_) ?_; rotate_left; (obtain ⟨ch_0a, ch_0b, fh_0a, fh_0b⟩ := row_two hS.1; obtain ⟨ch_1a, ch_1b, fh_1a, fh_1b⟩ := row_two hS.2.1; obtain ⟨ch_2a, ch_2b, fh_2a, fh_2b⟩ := row_two hS.2.2.1; obtain ⟨ch_3a, ch_3b, fh_3a, fh_3b⟩ := row_two hS.2.2.2.1; obtain ⟨ch_4a, ch_4b, fh_4a, fh_4b⟩ := row_two hS.2.2.2.2.1; obtain ⟨ch_5a, ch_5b, ch_5c, ch_5d, fh_5a, fh_5b, fh_5c, fh_5d⟩ := row_four hS.2.2.2.2.2.1; obtain ⟨ch_6a, ch_6b, ch_6c, ch_6d, fh_6a, fh_6b, fh_6c, fh_6d⟩ := row_four hS.2.2.2.2.2.2.1; go_simp; try with_reducible rfl); simp only [Act.put, List.setIfInBounds_toArray, List.set_cons_zero, List.set_cons_succ])
  refine plan_call (.int .i64 ve) 21 #[.agg #[.int .i64 now, .slice A n c]] rfl rfl rfl (fun _ _ h hb => ⟨row_call h.1 hb, row_call h.2.1 hb, row_call h.2.2.1 hb, row_call h.2.2.2.1 hb, row_call h.2.2.2.2.1 hb, row_call h.2.2.2.2.2.1 hb, row_call h.2.2.2.2.2.2.1 hb, h.2.2.2.2.2.2.2.1.trans (hb.mono h.2.2.2.2.2.2.2.1.size), h.2.2.2.2.2.2.2.2.trans (hb.mono h.2.2.2.2.2.2.2.2.size)⟩) (fun w' hS => by obtain ⟨ch_0a, ch_0b, fh_0a, fh_0b⟩ := row_two hS.1; obtain ⟨ch_1a, ch_1b, fh_1a, fh_1b⟩ := row_two hS.2.1; obtain ⟨ch_2a, ch_2b, fh_2a, fh_2b⟩ := row_two hS.2.2.1; obtain ⟨ch_3a, ch_3b, fh_3a, fh_3b⟩ := row_two hS.2.2.2.1; obtain ⟨ch_4a, ch_4b, fh_4a, fh_4b⟩ := row_two hS.2.2.2.2.1; obtain ⟨ch_5a, ch_5b, ch_5c, ch_5d, fh_5a, fh_5b, fh_5c, fh_5d⟩ := row_four hS.2.2.2.2.2.1; obtain ⟨ch_6a, ch_6b, ch_6c, ch_6d, fh_6a, fh_6b, fh_6c, fh_6d⟩ := row_four hS.2.2.2.2.2.2.1; go_simp) (fun w' hS => VR.out w' hS.2.2.2.2.2.2.2.2) ?_
  simp only [Act.put, List.setIfInBounds_toArray, List.set_cons_zero, List.set_cons_succ]
  (refine plan_pure ?_ rfl rfl (fun w' => ?_) ?_; rotate_left; (go_simp; try with_reducible rfl); simp only [Act.put, List.setIfInBounds_toArray, List.set_cons_zero, List.set_cons_succ])
  (refine plan_pure ?_ rfl rfl (fun w' => ?_) ?_; rotate_left; (go_simp; try with_reducible rfl); simp only [Act.put, List.setIfInBounds_toArray, List.set_cons_zero, List.set_cons_succ])
  (refine plan_val ?_ rfl rfl rfl (fun w' hS => ?_) ?_; rotate_left; (obtain ⟨ch_0a, ch_0b, fh_0a, fh_0b⟩ := row_two hS.1; obtain ⟨ch_1a, ch_1b, fh_1a, fh_1b⟩ := row_two hS.2.1; obtain ⟨ch_2a, ch_2b, fh_2a, fh_2b⟩ := row_two hS.2.2.1; obtain ⟨ch_3a, ch_3b, fh_3a, fh_3b⟩ := row_two hS.2.2.2.1; obtain ⟨ch_4a, ch_4b, fh_4a, fh_4b⟩ := row_two hS.2.2.2.2.1; obtain ⟨ch_5a, ch_5b, ch_5c, ch_5d, fh_5a, fh_5b, fh_5c, fh_5d⟩ := row_four hS.2.2.2.2.2.1; obtain ⟨ch_6a, ch_6b, ch_6c, ch_6d, fh_6a, fh_6b, fh_6c, fh_6d⟩ := row_four hS.2.2.2.2.2.2.1; go_simp; try with_reducible rfl); simp only [Act.put, List.setIfInBounds_toArray, List.set_cons_zero, List.set_cons_succ])
  (refine plan_val ?_ rfl rfl rfl (fun w' hS => ?_) ?_; rotate_left; (obtain ⟨ch_0a, ch_0b, fh_0a, fh_0b⟩ := row_two hS.1; obtain ⟨ch_1a, ch_1b, fh_1a, fh_1b⟩ := row_two hS.2.1; obtain ⟨ch_2a, ch_2b, fh_2a, fh_2b⟩ := row_two hS.2.2.1; obtain ⟨ch_3a, ch_3b, fh_3a, fh_3b⟩ := row_two hS.2.2.2.1; obtain ⟨ch_4a, ch_4b, fh_4a, fh_4b⟩ := row_two hS.2.2.2.2.1; obtain ⟨ch_5a, ch_5b, ch_5c, ch_5d, fh_5a, fh_5b, fh_5c, fh_5d⟩ := row_four hS.2.2.2.2.2.1; obtain ⟨ch_6a, ch_6b, ch_6c, ch_6d, fh_6a, fh_6b, fh_6c, fh_6d⟩ := row_four hS.2.2.2.2.2.2.1; go_simp; try with_reducible rfl); simp only [Act.put, List.setIfInBounds_toArray, List.set_cons_zero, List.set_cons_succ])
  refine plan_call (.bool true) 11 #[.agg #[.int .i64 nwa, .slice A1 n1 c1], .agg #[.int .i64 nwa, .slice A2 n2 c2]] rfl rfl rfl (fun _ _ h hb => ⟨row_call h.1 hb, row_call h.2.1 hb, row_call h.2.2.1 hb, row_call h.2.2.2.1 hb, row_call h.2.2.2.2.1 hb, row_call h.2.2.2.2.2.1 hb, row_call h.2.2.2.2.2.2.1 hb, h.2.2.2.2.2.2.2.1.trans (hb.mono h.2.2.2.2.2.2.2.1.size), h.2.2.2.2.2.2.2.2.trans (hb.mono h.2.2.2.2.2.2.2.2.size)⟩) (fun w' hS => by obtain ⟨ch_0a, ch_0b, fh_0a, fh_0b⟩ := row_two hS.1; obtain ⟨ch_1a, ch_1b, fh_1a, fh_1b⟩ := row_two hS.2.1; obtain ⟨ch_2a, ch_2b, fh_2a, fh_2b⟩ := row_two hS.2.2.1; obtain ⟨ch_3a, ch_3b, fh_3a, fh_3b⟩ := row_two hS.2.2.2.1; obtain ⟨ch_4a, ch_4b, fh_4a, fh_4b⟩ := row_two hS.2.2.2.2.1; obtain ⟨ch_5a, ch_5b, ch_5c, ch_5d, fh_5a, fh_5b, fh_5c, fh_5d⟩ := row_four hS.2.2.2.2.2.1; obtain ⟨ch_6a, ch_6b, ch_6c, ch_6d, fh_6a, fh_6b, fh_6c, fh_6d⟩ := row_four hS.2.2.2.2.2.2.1; go_simp) (fun w' hS => rhsame nwa A1 A2 n1 c1 n2 c2 za w' (G1.out.below hS.2.2.2.2.2.2.2.1) (G2.out.below hS.2.2.2.2.2.2.2.1)) ?_
  simp only [Act.put, List.setIfInBounds_toArray, List.set_cons_zero, List.set_cons_succ]
  (refine plan_pure ?_ rfl rfl (fun w' => ?_) ?_; rotate_left; (go_simp; try with_reducible rfl); simp only [Act.put, List.setIfInBounds_toArray, List.set_cons_zero, List.set_cons_succ])
  (refine plan_pure ?_ rfl rfl (fun w' => ?_) ?_; rotate_left; (go_simp; try with_reducible rfl); simp only [Act.put, List.setIfInBounds_toArray, List.set_cons_zero, List.set_cons_succ])
  (refine plan_pure ?_ rfl rfl (fun w' => ?_) ?_; rotate_left; (go_simp; try with_reducible rfl); simp only [Act.put, List.setIfInBounds_toArray, List.set_cons_zero, List.set_cons_succ])
  (refine plan_pure ?_ rfl rfl (fun w' => ?_) ?_; rotate_left; (go_simp; try with_reducible rfl); simp only [Act.put, List.setIfInBounds_toArray, List.set_cons_zero, List.set_cons_succ])
  (refine plan_pure ?_ rfl rfl (fun w' => ?_) ?_; rotate_left; (go_simp; try with_reducible rfl); simp only [Act.put, List.setIfInBounds_toArray, List.set_cons_zero, List.set_cons_succ])
  (refine plan_pure ?_ rfl rfl (fun w' => ?_) ?_; rotate_left; (go_simp; try with_reducible rfl); simp only [Act.put, List.setIfInBounds_toArray, List.set_cons_zero, List.set_cons_succ])
  (refine plan_pure ?_ rfl rfl (fun w' => ?_) ?_; rotate_left; (go_simp; try with_reducible rfl); simp only [Act.put, List.setIfInBounds_toArray, List.set_cons_zero, List.set_cons_succ])
  (refine plan_val ?_ rfl rfl rfl (fun w' hS => ?_) ?_; rotate_left; (obtain ⟨ch_0a, ch_0b, fh_0a, fh_0b⟩ := row_two hS.1; obtain ⟨ch_1a, ch_1b, fh_1a, fh_1b⟩ := row_two hS.2.1; obtain ⟨ch_2a, ch_2b, fh_2a, fh_2b⟩ := row_two hS.2.2.1; obtain ⟨ch_3a, ch_3b, fh_3a, fh_3b⟩ := row_two hS.2.2.2.1; obtain ⟨ch_4a, ch_4b, fh_4a, fh_4b⟩ := row_two hS.2.2.2.2.1; obtain ⟨ch_5a, ch_5b, ch_5c, ch_5d, fh_5a, fh_5b, fh_5c, fh_5d⟩ := row_four hS.2.2.2.2.2.1; obtain ⟨ch_6a, ch_6b, ch_6c, ch_6d, fh_6a, fh_6b, fh_6c, fh_6d⟩ := row_four hS.2.2.2.2.2.2.1; go_simp; try with_reducible rfl); simp only [Act.put, List.setIfInBounds_toArray, List.set_cons_zero, List.set_cons_succ])
  (refine plan_val ?_ rfl rfl rfl (fun w' hS => ?_) ?_; rotate_left; (obtain ⟨ch_0a, ch_0b, fh_0a, fh_0b⟩ := row_two hS.1; obtain ⟨ch_1a, ch_1b, fh_1a, fh_1b⟩ := row_two hS.2.1; obtain ⟨ch_2a, ch_2b, fh_2a, fh_2b⟩ := row_two hS.2.2.1; obtain ⟨ch_3a, ch_3b, fh_3a, fh_3b⟩ := row_two hS.2.2.2.1; obtain ⟨ch_4a, ch_4b, fh_4a, fh_4b⟩ := row_two hS.2.2.2.2.1; obtain ⟨ch_5a, ch_5b, ch_5c, ch_5d, fh_5a, fh_5b, fh_5c, fh_5d⟩ := row_four hS.2.2.2.2.2.1; obtain ⟨ch_6a, ch_6b, ch_6c, ch_6d, fh_6a, fh_6b, fh_6c, fh_6d⟩ := row_four hS.2.2.2.2.2.2.1; go_simp; try with_reducible rfl); simp only [Act.put, List.setIfInBounds_toArray, List.set_cons_zero, List.set_cons_succ])
  refine plan_call (.bool true) 11 #[.agg #[.int .i64 nwb, .slice A3 n3 c3], .agg #[.int .i64 nwb, .slice A4 n4 c4]] rfl rfl rfl (fun _ _ h hb => ⟨row_call h.1 hb, row_call h.2.1 hb, row_call h.2.2.1 hb, row_call h.2.2.2.1 hb, row_call h.2.2.2.2.1 hb, row_call h.2.2.2.2.2.1 hb, row_call h.2.2.2.2.2.2.1 hb, h.2.2.2.2.2.2.2.1.trans (hb.mono h.2.2.2.2.2.2.2.1.size), h.2.2.2.2.2.2.2.2.trans (hb.mono h.2.2.2.2.2.2.2.2.size)⟩) (fun w' hS => by obtain ⟨ch_0a, ch_0b, fh_0a, fh_0b⟩ := row_two hS.1; obtain ⟨ch_1a, ch_1b, fh_1a, fh_1b⟩ := row_two hS.2.1; obtain ⟨ch_2a, ch_2b, fh_2a, fh_2b⟩ := row_two hS.2.2.1; obtain ⟨ch_3a, ch_3b, fh_3a, fh_3b⟩ := row_two hS.2.2.2.1; obtain ⟨ch_4a, ch_4b, fh_4a, fh_4b⟩ := row_two hS.2.2.2.2.1; obtain ⟨ch_5a, ch_5b, ch_5c, ch_5d, fh_5a, fh_5b, fh_5c, fh_5d⟩ := row_four hS.2.2.2.2.2.1; obtain ⟨ch_6a, ch_6b, ch_6c, ch_6d, fh_6a, fh_6b, fh_6c, fh_6d⟩ := row_four hS.2.2.2.2.2.2.1; go_simp) (fun w' hS => rhsame nwb A3 A4 n3 c3 n4 c4 zb w' (G3.out.below hS.2.2.2.2.2.2.2.1) (G4.out.below hS.2.2.2.2.2.2.2.1)) ?_
  simp only [Act.put, List.setIfInBounds_toArray, List.set_cons_zero, List.set_cons_succ]
  (refine plan_pure ?_ rfl rfl (fun w' => ?_) ?_; rotate_left; (go_simp; try with_reducible rfl); simp only [Act.put, List.setIfInBounds_toArray, List.set_cons_zero, List.set_cons_succ])
  (refine plan_pure ?_ rfl rfl (fun w' => ?_) ?_; rotate_left; (go_simp; try with_reducible rfl); simp only [Act.put, List.setIfInBounds_toArray, List.set_cons_zero, List.set_cons_succ])
  (refine plan_pure ?_ rfl rfl (fun w' => ?_) ?_; rotate_left; (go_simp; try with_reducible rfl); simp only [Act.put, List.setIfInBounds_toArray, List.set_cons_zero, List.set_cons_succ])
  (refine plan_pure ?_ rfl rfl (fun w' => ?_) ?_; rotate_left; (go_simp; try with_reducible rfl); simp only [Act.put, List.setIfInBounds_toArray, List.set_cons_zero, List.set_cons_succ])
  (refine plan_pure ?_ rfl rfl (fun w' => ?_) ?_; rotate_left; (go_simp; try with_reducible rfl); simp only [Act.put, List.setIfInBounds_toArray, List.set_cons_zero, List.set_cons_succ])
  (refine plan_pure ?_ rfl rfl (fun w' => ?_) ?_; rotate_left; (go_simp; try with_reducible rfl); simp only [Act.put, List.setIfInBounds_toArray, List.set_cons_zero, List.set_cons_succ])
  (refine plan_pure ?_ rfl rfl (fun w' => ?_) ?_; rotate_left; (go_simp; try with_reducible rfl); simp only [Act.put, List.setIfInBounds_toArray, List.set_cons_zero, List.set_cons_succ])
  (refine plan_val ?_ rfl rfl rfl (fun w' hS => ?_) ?_; rotate_left; (obtain ⟨ch_0a, ch_0b, fh_0a, fh_0b⟩ := row_two hS.1; obtain ⟨ch_1a, ch_1b, fh_1a, fh_1b⟩ := row_two hS.2.1; obtain ⟨ch_2a, ch_2b, fh_2a, fh_2b⟩ := row_two hS.2.2.1; obtain ⟨ch_3a, ch_3b, fh_3a, fh_3b⟩ := row_two hS.2.2.2.1; obtain ⟨ch_4a, ch_4b, fh_4a, fh_4b⟩ := row_two hS.2.2.2.2.1; obtain ⟨ch_5a, ch_5b, ch_5c, ch_5d, fh_5a, fh_5b, fh_5c, fh_5d⟩ := row_four hS.2.2.2.2.2.1; obtain ⟨ch_6a, ch_6b, ch_6c, ch_6d, fh_6a, fh_6b, fh_6c, fh_6d⟩ := row_four hS.2.2.2.2.2.2.1; go_simp; try with_reducible rfl); simp only [Act.put, List.setIfInBounds_toArray, List.set_cons_zero, List.set_cons_succ])
  (refine plan_val ?_ rfl rfl rfl (fun w' hS => ?_) ?_; rotate_left; (obtain ⟨ch_0a, ch_0b, fh_0a, fh_0b⟩ := row_two hS.1; obtain ⟨ch_1a, ch_1b, fh_1a, fh_1b⟩ := row_two hS.2.1; obtain ⟨ch_2a, ch_2b, fh_2a, fh_2b⟩ := row_two hS.2.2.1; obtain ⟨ch_3a, ch_3b, fh_3a, fh_3b⟩ := row_two hS.2.2.2.1; obtain ⟨ch_4a, ch_4b, fh_4a, fh_4b⟩ := row_two hS.2.2.2.2.1; obtain ⟨ch_5a, ch_5b, ch_5c, ch_5d, fh_5a, fh_5b, fh_5c, fh_5d⟩ := row_four hS.2.2.2.2.2.1; obtain ⟨ch_6a, ch_6b, ch_6c, ch_6d, fh_6a, fh_6b, fh_6c, fh_6d⟩ := row_four hS.2.2.2.2.2.2.1; go_simp; try with_reducible rfl); simp only [Act.put, List.setIfInBounds_toArray, List.set_cons_zero, List.set_cons_succ])
  (refine plan_pure ?_ rfl rfl (fun w' => ?_) ?_; rotate_left; (go_simp; try with_reducible rfl); simp only [Act.put, List.setIfInBounds_toArray, List.set_cons_zero, List.set_cons_succ])
  (refine plan_pure ?_ rfl rfl (fun w' => ?_) ?_; rotate_left; (go_simp; try with_reducible rfl); simp only [Act.put, List.setIfInBounds_toArray, List.set_cons_zero, List.set_cons_succ])
  (refine plan_pure ?_ rfl rfl (fun w' => ?_) ?_; rotate_left; (go_simp; try with_reducible rfl); simp only [Act.put, List.setIfInBounds_toArray, List.set_cons_zero, List.set_cons_succ])
  (refine plan_pure ?_ rfl rfl (fun w' => ?_) ?_; rotate_left; (go_simp; try with_reducible rfl); simp only [Act.put, List.setIfInBounds_toArray, List.set_cons_zero, List.set_cons_succ])
  (refine plan_pure ?_ rfl rfl (fun w' => ?_) ?_; rotate_left; (go_simp; try with_reducible rfl); simp only [Act.put, List.setIfInBounds_toArray, List.set_cons_zero, List.set_cons_succ])
  (refine plan_pure ?_ rfl rfl (fun w' => ?_) ?_; rotate_left; (go_simp; try with_reducible rfl); simp only [Act.put, List.setIfInBounds_toArray, List.set_cons_zero, List.set_cons_succ])
  (refine plan_pure ?_ rfl rfl (fun w' => ?_) ?_; rotate_left; (go_simp; try with_reducible rfl); simp only [Act.put, List.setIfInBounds_toArray, List.set_cons_zero, List.set_cons_succ])
  (refine plan_pure ?_ rfl rfl (fun w' => ?_) ?_; rotate_left; (go_simp; try with_reducible rfl); simp only [Act.put, List.setIfInBounds_toArray, List.set_cons_zero, List.set_cons_succ])
  refine plan_call (.bool true) 12 #[] rfl rfl rfl (fun _ _ h hb => ⟨row_call h.1 hb, row_call h.2.1 hb, row_call h.2.2.1 hb, row_call h.2.2.2.1 hb, row_call h.2.2.2.2.1 hb, row_call h.2.2.2.2.2.1 hb, row_call h.2.2.2.2.2.2.1 hb, h.2.2.2.2.2.2.2.1.trans (hb.mono h.2.2.2.2.2.2.2.1.size), h.2.2.2.2.2.2.2.2.trans (hb.mono h.2.2.2.2.2.2.2.2.size)⟩) (fun w' hS => by obtain ⟨ch_0a, ch_0b, fh_0a, fh_0b⟩ := row_two hS.1; obtain ⟨ch_1a, ch_1b, fh_1a, fh_1b⟩ := row_two hS.2.1; obtain ⟨ch_2a, ch_2b, fh_2a, fh_2b⟩ := row_two hS.2.2.1; obtain ⟨ch_3a, ch_3b, fh_3a, fh_3b⟩ := row_two hS.2.2.2.1; obtain ⟨ch_4a, ch_4b, fh_4a, fh_4b⟩ := row_two hS.2.2.2.2.1; obtain ⟨ch_5a, ch_5b, ch_5c, ch_5d, fh_5a, fh_5b, fh_5c, fh_5d⟩ := row_four hS.2.2.2.2.2.1; obtain ⟨ch_6a, ch_6b, ch_6c, ch_6d, fh_6a, fh_6b, fh_6c, fh_6d⟩ := row_four hS.2.2.2.2.2.2.1; go_simp) (fun w' hS => awake16 w') ?_
  simp only [Act.put, List.setIfInBounds_toArray, List.set_cons_zero, List.set_cons_succ]
  (refine plan_pure ?_ rfl rfl (fun w' => ?_) ?_; rotate_left; (go_simp; try with_reducible rfl); simp only [Act.put, List.setIfInBounds_toArray, List.set_cons_zero, List.set_cons_succ])
  refine plan_nil ?_
  intro w10 L10
  simp only [List.drop_succ_cons, List.drop_zero]
  try simp only [Act.put, List.setIfInBounds_toArray, List.set_cons_zero, List.set_cons_succ]
  have o10 := L10.2.2.2.2.2.2.2.2
  clear L L10
  go_wp2
  go_ret
  exact ⟨rfl, o10⟩
theorem halveStates_many (now : Int) (A : Option Addr) (n c : Nat) (zs : List Int) (to v : Int) (w : World) (hf : 200 < n) : Calls Try.prog 4 #[.agg #[.int .i64 now, .slice A n c], .int .i64 to, .int .i64 v] w fun e w' => e = .returned (.bool true) ∧ Below w.heap.size w w' := by
  have FW := Lib.hid (fun w => few_no now A n c zs w hf)
  clear hf
  go_enter Try.func4, Try.ntmps4
  go_wp2_with (first | (go_at_call 13; refine (FW.out _).mono ?_; rintro e w1 ⟨rfl, hb1⟩; have hz1 := hb1.size; (try simp at hz1)) | (go_at_call 12; refine (awake16 _).mono ?_; rintro e w2 ⟨rfl, hb2⟩; have hz2 := hb2.size))
  go_ret
  exact ⟨rfl, by (repeat (first | exact Below.refl _ _ | refine Below.setCell ?_ (by first | (simp; done) | (simp; omega) | omega) _ | refine Below.alloc ?_ (by first | (simp; done) | (simp; omega) | omega) _ | refine Below.drew ?_ | refine Below.trans ?_ (Below.mono (by assumption) (by first | (simp; done) | (simp; omega) | omega))))⟩
theorem halveStates (now : Int) (A : Option Addr) (n c : Nat) (zs : List Int) (to v : Int) (w : World) (hin : HIn now A n c zs w) : Calls Try.prog 4 #[.agg #[.int .i64 now, .slice A n c], .int .i64 to, .int .i64 v] w fun e w' => e = .returned (.bool true) ∧ Below w.heap.size w w' := by
  by_cases h : n ≤ 200
  · exact halveStates_few now A n c zs to v w hin h
  · exact halveStates_many now A n c zs to v w (by omega)
end Go.Proofs.Ytpbhagikndamnaa
