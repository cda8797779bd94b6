/- Summaries of a stream: the law of states, walked. -/
import Derived.Test.YtdibjlphcmjnoaaSumT
namespace Go.Proofs.Ytdibjlphcmjnoaa
open Go.RowKit
set_option maxHeartbeats 8000000 in
theorem summaryStates_few (k cap n : Int) (A : Option Addr) (m c : Nat) (ts : List Tup) (v : Int) (w : World) (hin : SIn k cap n A m c ts w) (hf : m ≤ 200) : Calls Try.prog 4 #[.agg #[.int .i64 k, .int .i64 cap, .int .i64 n, .slice A m c], .int .i64 v] w fun e w' => e = .returned (.bool true) ∧ Below w.heap.size w w' := by
  have FW := Lib.hid (fun w => few_yes k cap n A m c ts w hf)
  have PA := fun w1 (hb : Below w.heap.size w w1) => pinsert k cap n A m c ts v w1 (hin.below hb)
  have RA := fun w1 (hb : Below w.heap.size w w1) => rinsert k cap n A m c ts v w1 (hin.below hb)
  generalize sinsert k cap n ts v = r at PA RA
  obtain ⟨ka, capa, na, ta, fa⟩ := r
  have PC := fun w1 (hb : Below w.heap.size w w1) => pscomp k cap n A m c ts w1 (hin.below hb)
  have RC := fun w1 (hb : Below w.heap.size w w1) => rscomp k cap n A m c ts w1 (hin.below hb)
  generalize scomp k cap n ts = r at PC RC
  obtain ⟨kb, capb, nb, tb, fb⟩ := r
  have VP := fun w1 (hb : Below w.heap.size w w1) => psval k cap n A m c ts w1 (hin.below hb)
  have VR := fun w1 (hb : Below w.heap.size w w1) => rsval k cap n A m c ts w1 (hin.below hb)
  generalize svalE k cap n ts = ve at VP VR
  have PA := Lib.hid PA
  have RA := Lib.hid RA
  have PC := Lib.hid PC
  have RC := Lib.hid RC
  have VP := Lib.hid VP
  have VR := Lib.hid VR
  clear hin hf
  go_enter Try.func4, Try.ntmps4
  go_wp2_with fail
  refine (FW.out _).mono ?_
  rintro e wl ⟨rfl, hbl⟩
  have xl : Row wl w.heap.size 24 #[.int .i64 k, .int .i64 cap, .int .i64 n, .slice A m c] := row_call (row_new rfl) hbl
  have ol : Below w.heap.size w wl := by (repeat (first | exact Below.refl _ _ | refine Below.setCell ?_ (by first | (simp; done) | (simp; omega) | omega) _ | refine Below.alloc ?_ (by first | (simp; done) | (simp; omega) | omega) _ | refine Below.drew ?_ | refine Below.trans ?_ (Below.mono (by assumption) (by first | (simp; done) | (simp; omega) | omega))))
  obtain ⟨Xl0, Xl1, Xl2, Xl3, _, _, _, _⟩ := row_four xl
  go_wp2_with fail
  refine (PA.out _ (by exact ol)).mono ?_
  intro e w1 hq
  obtain ⟨A1, m1, c1, rfl, hin1, hb1, _⟩ := sret_at rfl hq
  clear hq
  have hz1 := hb1.size
  try simp at hz1
  have x1 : Row w1 w.heap.size 24 #[.int .i64 k, .int .i64 cap, .int .i64 n, .slice A m c] := row_call xl hb1
  have o1 : Below w.heap.size w w1 := ol.trans (hb1.mono ol.size)
  obtain ⟨X10, X11, X12, X13, _, _, _, _⟩ := row_four x1
  have q1 := row_lt x1
  go_wp2_with fail
  refine (RA.out _ (by exact o1.alloc o1.size (.cells #[.int .i64 ka, .int .i64 capa, .int .i64 na, .slice A1 m1 c1] 24))).mono ?_
  intro e w2 hq
  obtain ⟨A2, m2, c2, rfl, hin2, hb2, _⟩ := sret_at rfl hq
  clear hq
  have hz2 := hb2.size
  try simp at hz2
  have x2 : Row w2 w.heap.size 24 #[.int .i64 k, .int .i64 cap, .int .i64 n, .slice A m c] := row_call (row_alloc x1 (.cells #[.int .i64 ka, .int .i64 capa, .int .i64 na, .slice A1 m1 c1] 24)) hb2
  have y2_1 : Row w2 w1.heap.size 24 #[.int .i64 ka, .int .i64 capa, .int .i64 na, .slice A1 m1 c1] := row_call (row_new rfl) hb2
  have o2 : Below w.heap.size w w2 := (o1.alloc o1.size (.cells #[.int .i64 ka, .int .i64 capa, .int .i64 na, .slice A1 m1 c1] 24)).trans (hb2.mono (by have := o1.size; simp; omega))
  have i2_1 : SIn ka capa na A1 m1 c1 ta w2 := hin1.below (((Below.refl _ _).alloc (Nat.le_refl _) (.cells #[.int .i64 ka, .int .i64 capa, .int .i64 na, .slice A1 m1 c1] 24)).trans (hb2.mono (by simp)))
  obtain ⟨X20, X21, X22, X23, _, _, _, _⟩ := row_four x2
  have q2 := row_lt x2
  go_wp2_with fail
  refine (PC.out _ (by exact o2.alloc o2.size (.cells #[.int .i64 ka, .int .i64 capa, .int .i64 na, .slice A2 m2 c2] 24))).mono ?_
  intro e w3 hq
  obtain ⟨A3, m3, c3, rfl, hin3, hb3, _⟩ := sret_at rfl hq
  clear hq
  have hz3 := hb3.size
  try simp at hz3
  have x3 : Row w3 w.heap.size 24 #[.int .i64 k, .int .i64 cap, .int .i64 n, .slice A m c] := row_call (row_alloc x2 (.cells #[.int .i64 ka, .int .i64 capa, .int .i64 na, .slice A2 m2 c2] 24)) hb3
  have y3_1 : Row w3 w1.heap.size 24 #[.int .i64 ka, .int .i64 capa, .int .i64 na, .slice A1 m1 c1] := row_call (row_alloc y2_1 (.cells #[.int .i64 ka, .int .i64 capa, .int .i64 na, .slice A2 m2 c2] 24)) hb3
  have y3_2 : Row w3 w2.heap.size 24 #[.int .i64 ka, .int .i64 capa, .int .i64 na, .slice A2 m2 c2] := row_call (row_new rfl) hb3
  have o3 : Below w.heap.size w w3 := (o2.alloc o2.size (.cells #[.int .i64 ka, .int .i64 capa, .int .i64 na, .slice A2 m2 c2] 24)).trans (hb3.mono (by have := o2.size; simp; omega))
  have i3_1 : SIn ka capa na A1 m1 c1 ta w3 := i2_1.below (((Below.refl _ _).alloc (Nat.le_refl _) (.cells #[.int .i64 ka, .int .i64 capa, .int .i64 na, .slice A2 m2 c2] 24)).trans (hb3.mono (by simp)))
  have i3_2 : SIn ka capa na A2 m2 c2 ta w3 := hin2.below (((Below.refl _ _).alloc (Nat.le_refl _) (.cells #[.int .i64 ka, .int .i64 capa, .int .i64 na, .slice A2 m2 c2] 24)).trans (hb3.mono (by simp)))
  obtain ⟨X30, X31, X32, X33, _, _, _, _⟩ := row_four x3
  have q3 := row_lt x3
  go_wp2_with fail
  refine (RC.out _ (by exact o3.alloc o3.size (.cells #[.int .i64 kb, .int .i64 capb, .int .i64 nb, .slice A3 m3 c3] 24))).mono ?_
  intro e w4 hq
  obtain ⟨A4, m4, c4, rfl, hin4, hb4, _⟩ := sret_at rfl hq
  clear hq
  have hz4 := hb4.size
  try simp at hz4
  have x4 : Row w4 w.heap.size 24 #[.int .i64 k, .int .i64 cap, .int .i64 n, .slice A m c] := row_call (row_alloc x3 (.cells #[.int .i64 kb, .int .i64 capb, .int .i64 nb, .slice A3 m3 c3] 24)) hb4
  have y4_1 : Row w4 w1.heap.size 24 #[.int .i64 ka, .int .i64 capa, .int .i64 na, .slice A1 m1 c1] := row_call (row_alloc y3_1 (.cells #[.int .i64 kb, .int .i64 capb, .int .i64 nb, .slice A3 m3 c3] 24)) hb4
  have y4_2 : Row w4 w2.heap.size 24 #[.int .i64 ka, .int .i64 capa, .int .i64 na, .slice A2 m2 c2] := row_call (row_alloc y3_2 (.cells #[.int .i64 kb, .int .i64 capb, .int .i64 nb, .slice A3 m3 c3] 24)) hb4
  have y4_3 : Row w4 w3.heap.size 24 #[.int .i64 kb, .int .i64 capb, .int .i64 nb, .slice A3 m3 c3] := row_call (row_new rfl) hb4
  have o4 : Below w.heap.size w w4 := (o3.alloc o3.size (.cells #[.int .i64 kb, .int .i64 capb, .int .i64 nb, .slice A3 m3 c3] 24)).trans (hb4.mono (by have := o3.size; simp; omega))
  have i4_1 : SIn ka capa na A1 m1 c1 ta w4 := i3_1.below (((Below.refl _ _).alloc (Nat.le_refl _) (.cells #[.int .i64 kb, .int .i64 capb, .int .i64 nb, .slice A3 m3 c3] 24)).trans (hb4.mono (by simp)))
  have i4_2 : SIn ka capa na A2 m2 c2 ta w4 := i3_2.below (((Below.refl _ _).alloc (Nat.le_refl _) (.cells #[.int .i64 kb, .int .i64 capb, .int .i64 nb, .slice A3 m3 c3] 24)).trans (hb4.mono (by simp)))
  have i4_3 : SIn kb capb nb A3 m3 c3 tb w4 := hin3.below (((Below.refl _ _).alloc (Nat.le_refl _) (.cells #[.int .i64 kb, .int .i64 capb, .int .i64 nb, .slice A3 m3 c3] 24)).trans (hb4.mono (by simp)))
  obtain ⟨X40, X41, X42, X43, _, _, _, _⟩ := row_four x4
  have q4 := row_lt x4
  go_upto_region 7 with (fail)
  have r0 := row_alloc x4 (.cells #[.int .i64 kb, .int .i64 capb, .int .i64 nb, .slice A4 m4 c4] 24)
  have r1 : Row (w4.alloc (.cells #[.int .i64 kb, .int .i64 capb, .int .i64 nb, .slice A4 m4 c4] 24)) w1.heap.size 24 #[.int .i64 ka, .int .i64 capa, .int .i64 na, .slice A1 m1 c1] := row_alloc y4_1 _
  have r2 : Row (w4.alloc (.cells #[.int .i64 kb, .int .i64 capb, .int .i64 nb, .slice A4 m4 c4] 24)) w2.heap.size 24 #[.int .i64 ka, .int .i64 capa, .int .i64 na, .slice A2 m2 c2] := row_alloc y4_2 _
  have r3 : Row (w4.alloc (.cells #[.int .i64 kb, .int .i64 capb, .int .i64 nb, .slice A4 m4 c4] 24)) w3.heap.size 24 #[.int .i64 kb, .int .i64 capb, .int .i64 nb, .slice A3 m3 c3] := row_alloc y4_3 _
  have r4 : Row (w4.alloc (.cells #[.int .i64 kb, .int .i64 capb, .int .i64 nb, .slice A4 m4 c4] 24)) w4.heap.size 24 #[.int .i64 kb, .int .i64 capb, .int .i64 nb, .slice A4 m4 c4] := row_new rfl
  have G1 := i4_1.below (w' := (w4.alloc (.cells #[.int .i64 kb, .int .i64 capb, .int .i64 nb, .slice A4 m4 c4] 24))) ((Below.refl _ _).alloc (Nat.le_refl _) _)
  have G2 := i4_2.below (w' := (w4.alloc (.cells #[.int .i64 kb, .int .i64 capb, .int .i64 nb, .slice A4 m4 c4] 24))) ((Below.refl _ _).alloc (Nat.le_refl _) _)
  have G3 := i4_3.below (w' := (w4.alloc (.cells #[.int .i64 kb, .int .i64 capb, .int .i64 nb, .slice A4 m4 c4] 24))) ((Below.refl _ _).alloc (Nat.le_refl _) _)
  have G4 := hin4.below (w' := (w4.alloc (.cells #[.int .i64 kb, .int .i64 capb, .int .i64 nb, .slice A4 m4 c4] 24))) ((Below.refl _ _).alloc (Nat.le_refl _) _)
  have ob := o4.alloc o4.size (.cells #[.int .i64 kb, .int .i64 capb, .int .i64 nb, .slice A4 m4 c4] 24)
  generalize (w4.alloc (.cells #[.int .i64 kb, .int .i64 capb, .int .i64 nb, .slice A4 m4 c4] 24)) = w9 at r0 r1 r2 r3 r4 G1 G2 G3 G4 ob ⊢
  generalize w1.heap.size = b5 at r1 ⊢
  generalize w2.heap.size = b7 at r2 ⊢
  generalize w3.heap.size = b9 at r3 ⊢
  generalize w4.heap.size = b11 at r4 ⊢
  have G1 := Lib.hid G1
  have G2 := Lib.hid G2
  have G3 := Lib.hid G3
  have G4 := Lib.hid G4
  have L : Row w9 (w.heap.size) 24 #[.int .i64 k, .int .i64 cap, .int .i64 n, .slice A m c] ∧ Row w9 (b5) 24 #[.int .i64 ka, .int .i64 capa, .int .i64 na, .slice A1 m1 c1] ∧ Row w9 (b7) 24 #[.int .i64 ka, .int .i64 capa, .int .i64 na, .slice A2 m2 c2] ∧ Row w9 (b9) 24 #[.int .i64 kb, .int .i64 capb, .int .i64 nb, .slice A3 m3 c3] ∧ Row w9 (b11) 24 #[.int .i64 kb, .int .i64 capb, .int .i64 nb, .slice A4 m4 c4] ∧ Below w9.heap.size w9 w9 ∧ Below w.heap.size w w9 := ⟨r0, r1, r2, r3, r4, Below.refl _ _, ob⟩
  clear x1 o1 hb1 X10 X11 X12 X13 x2 o2 hb2 X20 X21 X22 X23 x3 o3 hb3 X30 X31 X32 X33 x4 o4 hb4 X40 X41 X42 X43 y2_1 i2_1 y3_1 i3_1 y3_2 i3_2 y4_1 i4_1 y4_2 i4_2 y4_3 i4_3 hin1 hin2 hin3 hin4 xl ol Xl0 Xl1 Xl2 Xl3 hbl
  clear r0 r1 r2 r3 r4 ob
  refine wp_region_free0 [0, 1, 2, 3, 4, 5, 6, 7, 8, 9, 10, 11, 12, 13, 14, 15, 16, 17, 18, 19, 20, 21, 22, 23, 24, 25, 26, 27] [] [0, 1, 2, 3, 4, 5, 6, 7, 8, 9, 10, 11, 12, 13, 14, 15, 16, 17, 18, 19, 20, 21, 22, 23, 24, 25, 26, 27] 28 (fun w' => Row w' (w.heap.size) 24 #[.int .i64 k, .int .i64 cap, .int .i64 n, .slice A m c] ∧ Row w' (b5) 24 #[.int .i64 ka, .int .i64 capa, .int .i64 na, .slice A1 m1 c1] ∧ Row w' (b7) 24 #[.int .i64 ka, .int .i64 capa, .int .i64 na, .slice A2 m2 c2] ∧ Row w' (b9) 24 #[.int .i64 kb, .int .i64 capb, .int .i64 nb, .slice A3 m3 c3] ∧ Row w' (b11) 24 #[.int .i64 kb, .int .i64 capb, .int .i64 nb, .slice A4 m4 c4] ∧ Below w9.heap.size w9 w' ∧ Below w.heap.size w w') (by kernel_rfl) (by kernel_rfl) (fun _ _ d _ _ h => by cases d <;> exact h) ?_ ?_
  · exact ⟨L.1, L.2.1, L.2.2.1, L.2.2.2.1, L.2.2.2.2.1, L.2.2.2.2.2.1.drew, L.2.2.2.2.2.2.drew⟩
  (refine plan_val ?_ rfl rfl rfl (fun w' hS => ?_) ?_; rotate_left; (obtain ⟨ch_0a, ch_0b, ch_0c, ch_0d, fh_0a, fh_0b, fh_0c, fh_0d⟩ := row_four hS.1; obtain ⟨ch_1a, ch_1b, ch_1c, ch_1d, fh_1a, fh_1b, fh_1c, fh_1d⟩ := row_four hS.2.1; obtain ⟨ch_2a, ch_2b, ch_2c, ch_2d, fh_2a, fh_2b, fh_2c, fh_2d⟩ := row_four hS.2.2.1; obtain ⟨ch_3a, ch_3b, ch_3c, ch_3d, fh_3a, fh_3b, fh_3c, fh_3d⟩ := row_four hS.2.2.2.1; obtain ⟨ch_4a, ch_4b, ch_4c, ch_4d, fh_4a, fh_4b, fh_4c, fh_4d⟩ := row_four hS.2.2.2.2.1; go_simp; try with_reducible rfl); simp only [Act.put, List.setIfInBounds_toArray, List.set_cons_zero, List.set_cons_succ])
  refine plan_call (.int .i64 ve) 19 #[.agg #[.int .i64 k, .int .i64 cap, .int .i64 n, .slice A m c]] rfl rfl rfl (fun _ _ h hb => ⟨row_call h.1 hb, row_call h.2.1 hb, row_call h.2.2.1 hb, row_call h.2.2.2.1 hb, row_call h.2.2.2.2.1 hb, h.2.2.2.2.2.1.trans (hb.mono h.2.2.2.2.2.1.size), h.2.2.2.2.2.2.trans (hb.mono h.2.2.2.2.2.2.size)⟩) (fun w' hS => by obtain ⟨ch_0a, ch_0b, ch_0c, ch_0d, fh_0a, fh_0b, fh_0c, fh_0d⟩ := row_four hS.1; obtain ⟨ch_1a, ch_1b, ch_1c, ch_1d, fh_1a, fh_1b, fh_1c, fh_1d⟩ := row_four hS.2.1; obtain ⟨ch_2a, ch_2b, ch_2c, ch_2d, fh_2a, fh_2b, fh_2c, fh_2d⟩ := row_four hS.2.2.1; obtain ⟨ch_3a, ch_3b, ch_3c, ch_3d, fh_3a, fh_3b, fh_3c, fh_3d⟩ := row_four hS.2.2.2.1; obtain ⟨ch_4a, ch_4b, ch_4c, ch_4d, fh_4a, fh_4b, fh_4c, fh_4d⟩ := row_four hS.2.2.2.2.1; go_simp) (fun w' hS => VP.out w' hS.2.2.2.2.2.2) ?_
  simp only [Act.put, List.setIfInBounds_toArray, List.set_cons_zero, List.set_cons_succ]
  (refine plan_val ?_ rfl rfl rfl (fun w' hS => ?_) ?_; rotate_left; (obtain ⟨ch_0a, ch_0b, ch_0c, ch_0d, fh_0a, fh_0b, fh_0c, fh_0d⟩ := row_four hS.1; obtain ⟨ch_1a, ch_1b, ch_1c, ch_1d, fh_1a, fh_1b, fh_1c, fh_1d⟩ := row_four hS.2.1; obtain ⟨ch_2a, ch_2b, ch_2c, ch_2d, fh_2a, fh_2b, fh_2c, fh_2d⟩ := row_four hS.2.2.1; obtain ⟨ch_3a, ch_3b, ch_3c, ch_3d, fh_3a, fh_3b, fh_3c, fh_3d⟩ := row_four hS.2.2.2.1; obtain ⟨ch_4a, ch_4b, ch_4c, ch_4d, fh_4a, fh_4b, fh_4c, fh_4d⟩ := row_four hS.2.2.2.2.1; go_simp; try with_reducible rfl); simp only [Act.put, List.setIfInBounds_toArray, List.set_cons_zero, List.set_cons_succ])
  refine plan_call (.int .i64 ve) 20 #[.agg #[.int .i64 k, .int .i64 cap, .int .i64 n, .slice A m c]] rfl rfl rfl (fun _ _ h hb => ⟨row_call h.1 hb, row_call h.2.1 hb, row_call h.2.2.1 hb, row_call h.2.2.2.1 hb, row_call h.2.2.2.2.1 hb, h.2.2.2.2.2.1.trans (hb.mono h.2.2.2.2.2.1.size), h.2.2.2.2.2.2.trans (hb.mono h.2.2.2.2.2.2.size)⟩) (fun w' hS => by obtain ⟨ch_0a, ch_0b, ch_0c, ch_0d, fh_0a, fh_0b, fh_0c, fh_0d⟩ := row_four hS.1; obtain ⟨ch_1a, ch_1b, ch_1c, ch_1d, fh_1a, fh_1b, fh_1c, fh_1d⟩ := row_four hS.2.1; obtain ⟨ch_2a, ch_2b, ch_2c, ch_2d, fh_2a, fh_2b, fh_2c, fh_2d⟩ := row_four hS.2.2.1; obtain ⟨ch_3a, ch_3b, ch_3c, ch_3d, fh_3a, fh_3b, fh_3c, fh_3d⟩ := row_four hS.2.2.2.1; obtain ⟨ch_4a, ch_4b, ch_4c, ch_4d, fh_4a, fh_4b, fh_4c, fh_4d⟩ := row_four hS.2.2.2.2.1; go_simp) (fun w' hS => VR.out w' hS.2.2.2.2.2.2) ?_
  simp only [Act.put, List.setIfInBounds_toArray, List.set_cons_zero, List.set_cons_succ]
  (refine plan_pure ?_ rfl rfl (fun w' => ?_) ?_; rotate_left; (go_simp; try with_reducible rfl); simp only [Act.put, List.setIfInBounds_toArray, List.set_cons_zero, List.set_cons_succ])
  (refine plan_pure ?_ rfl rfl (fun w' => ?_) ?_; rotate_left; (go_simp; try with_reducible rfl); simp only [Act.put, List.setIfInBounds_toArray, List.set_cons_zero, List.set_cons_succ])
  (refine plan_val ?_ rfl rfl rfl (fun w' hS => ?_) ?_; rotate_left; (obtain ⟨ch_0a, ch_0b, ch_0c, ch_0d, fh_0a, fh_0b, fh_0c, fh_0d⟩ := row_four hS.1; obtain ⟨ch_1a, ch_1b, ch_1c, ch_1d, fh_1a, fh_1b, fh_1c, fh_1d⟩ := row_four hS.2.1; obtain ⟨ch_2a, ch_2b, ch_2c, ch_2d, fh_2a, fh_2b, fh_2c, fh_2d⟩ := row_four hS.2.2.1; obtain ⟨ch_3a, ch_3b, ch_3c, ch_3d, fh_3a, fh_3b, fh_3c, fh_3d⟩ := row_four hS.2.2.2.1; obtain ⟨ch_4a, ch_4b, ch_4c, ch_4d, fh_4a, fh_4b, fh_4c, fh_4d⟩ := row_four hS.2.2.2.2.1; go_simp; try with_reducible rfl); simp only [Act.put, List.setIfInBounds_toArray, List.set_cons_zero, List.set_cons_succ])
  (refine plan_val ?_ rfl rfl rfl (fun w' hS => ?_) ?_; rotate_left; (obtain ⟨ch_0a, ch_0b, ch_0c, ch_0d, fh_0a, fh_0b, fh_0c, fh_0d⟩ := row_four hS.1; obtain ⟨ch_1a, ch_1b, ch_1c, ch_1d, fh_1a, fh_1b, fh_1c, fh_1d⟩ := row_four hS.2.1; obtain ⟨ch_2a, ch_2b, ch_2c, ch_2d, fh_2a, fh_2b, fh_2c, fh_2d⟩ := row_four hS.2.2.1; obtain ⟨ch_3a, ch_3b, ch_3c, ch_3d, fh_3a, fh_3b, fh_3c, fh_3d⟩ := row_four hS.2.2.2.1; obtain ⟨ch_4a, ch_4b, ch_4c, ch_4d, fh_4a, fh_4b, fh_4c, fh_4d⟩ := row_four hS.2.2.2.2.1; go_simp; try with_reducible rfl); simp only [Act.put, List.setIfInBounds_toArray, List.set_cons_zero, List.set_cons_succ])
  refine plan_call (.bool true) 12 #[.agg #[.int .i64 ka, .int .i64 capa, .int .i64 na, .slice A1 m1 c1], .agg #[.int .i64 ka, .int .i64 capa, .int .i64 na, .slice A2 m2 c2]] rfl rfl rfl (fun _ _ h hb => ⟨row_call h.1 hb, row_call h.2.1 hb, row_call h.2.2.1 hb, row_call h.2.2.2.1 hb, row_call h.2.2.2.2.1 hb, h.2.2.2.2.2.1.trans (hb.mono h.2.2.2.2.2.1.size), h.2.2.2.2.2.2.trans (hb.mono h.2.2.2.2.2.2.size)⟩) (fun w' hS => by obtain ⟨ch_0a, ch_0b, ch_0c, ch_0d, fh_0a, fh_0b, fh_0c, fh_0d⟩ := row_four hS.1; obtain ⟨ch_1a, ch_1b, ch_1c, ch_1d, fh_1a, fh_1b, fh_1c, fh_1d⟩ := row_four hS.2.1; obtain ⟨ch_2a, ch_2b, ch_2c, ch_2d, fh_2a, fh_2b, fh_2c, fh_2d⟩ := row_four hS.2.2.1; obtain ⟨ch_3a, ch_3b, ch_3c, ch_3d, fh_3a, fh_3b, fh_3c, fh_3d⟩ := row_four hS.2.2.2.1; obtain ⟨ch_4a, ch_4b, ch_4c, ch_4d, fh_4a, fh_4b, fh_4c, fh_4d⟩ := row_four hS.2.2.2.2.1; go_simp) (fun w' hS => rssame ka capa na A1 m1 c1 A2 m2 c2 ta w' (G1.out.below hS.2.2.2.2.2.1) (G2.out.below hS.2.2.2.2.2.1)) ?_
  simp only [Act.put, List.setIfInBounds_toArray, List.set_cons_zero, List.set_cons_succ]
  (refine plan_pure ?_ rfl rfl (fun w' => ?_) ?_; rotate_left; (go_simp; try with_reducible rfl); simp only [Act.put, List.setIfInBounds_toArray, List.set_cons_zero, List.set_cons_succ])
  (refine plan_pure ?_ rfl rfl (fun w' => ?_) ?_; rotate_left; (go_simp; try with_reducible rfl); simp only [Act.put, List.setIfInBounds_toArray, List.set_cons_zero, List.set_cons_succ])
  (refine plan_pure ?_ rfl rfl (fun w' => ?_) ?_; rotate_left; (go_simp; try with_reducible rfl); simp only [Act.put, List.setIfInBounds_toArray, List.set_cons_zero, List.set_cons_succ])
  (refine plan_pure ?_ rfl rfl (fun w' => ?_) ?_; rotate_left; (go_simp; try with_reducible rfl); simp only [Act.put, List.setIfInBounds_toArray, List.set_cons_zero, List.set_cons_succ])
  (refine plan_pure ?_ rfl rfl (fun w' => ?_) ?_; rotate_left; (go_simp; try with_reducible rfl); simp only [Act.put, List.setIfInBounds_toArray, List.set_cons_zero, List.set_cons_succ])
  (refine plan_pure ?_ rfl rfl (fun w' => ?_) ?_; rotate_left; (go_simp; try with_reducible rfl); simp only [Act.put, List.setIfInBounds_toArray, List.set_cons_zero, List.set_cons_succ])
  (refine plan_pure ?_ rfl rfl (fun w' => ?_) ?_; rotate_left; (go_simp; try with_reducible rfl); simp only [Act.put, List.setIfInBounds_toArray, List.set_cons_zero, List.set_cons_succ])
  (refine plan_val ?_ rfl rfl rfl (fun w' hS => ?_) ?_; rotate_left; (obtain ⟨ch_0a, ch_0b, ch_0c, ch_0d, fh_0a, fh_0b, fh_0c, fh_0d⟩ := row_four hS.1; obtain ⟨ch_1a, ch_1b, ch_1c, ch_1d, fh_1a, fh_1b, fh_1c, fh_1d⟩ := row_four hS.2.1; obtain ⟨ch_2a, ch_2b, ch_2c, ch_2d, fh_2a, fh_2b, fh_2c, fh_2d⟩ := row_four hS.2.2.1; obtain ⟨ch_3a, ch_3b, ch_3c, ch_3d, fh_3a, fh_3b, fh_3c, fh_3d⟩ := row_four hS.2.2.2.1; obtain ⟨ch_4a, ch_4b, ch_4c, ch_4d, fh_4a, fh_4b, fh_4c, fh_4d⟩ := row_four hS.2.2.2.2.1; go_simp; try with_reducible rfl); simp only [Act.put, List.setIfInBounds_toArray, List.set_cons_zero, List.set_cons_succ])
  (refine plan_val ?_ rfl rfl rfl (fun w' hS => ?_) ?_; rotate_left; (obtain ⟨ch_0a, ch_0b, ch_0c, ch_0d, fh_0a, fh_0b, fh_0c, fh_0d⟩ := row_four hS.1; obtain ⟨ch_1a, ch_1b, ch_1c, ch_1d, fh_1a, fh_1b, fh_1c, fh_1d⟩ := row_four hS.2.1; obtain ⟨ch_2a, ch_2b, ch_2c, ch_2d, fh_2a, fh_2b, fh_2c, fh_2d⟩ := row_four hS.2.2.1; obtain ⟨ch_3a, ch_3b, ch_3c, ch_3d, fh_3a, fh_3b, fh_3c, fh_3d⟩ := row_four hS.2.2.2.1; obtain ⟨ch_4a, ch_4b, ch_4c, ch_4d, fh_4a, fh_4b, fh_4c, fh_4d⟩ := row_four hS.2.2.2.2.1; go_simp; try with_reducible rfl); simp only [Act.put, List.setIfInBounds_toArray, List.set_cons_zero, List.set_cons_succ])
  refine plan_call (.bool true) 12 #[.agg #[.int .i64 kb, .int .i64 capb, .int .i64 nb, .slice A3 m3 c3], .agg #[.int .i64 kb, .int .i64 capb, .int .i64 nb, .slice A4 m4 c4]] rfl rfl rfl (fun _ _ h hb => ⟨row_call h.1 hb, row_call h.2.1 hb, row_call h.2.2.1 hb, row_call h.2.2.2.1 hb, row_call h.2.2.2.2.1 hb, h.2.2.2.2.2.1.trans (hb.mono h.2.2.2.2.2.1.size), h.2.2.2.2.2.2.trans (hb.mono h.2.2.2.2.2.2.size)⟩) (fun w' hS => by obtain ⟨ch_0a, ch_0b, ch_0c, ch_0d, fh_0a, fh_0b, fh_0c, fh_0d⟩ := row_four hS.1; obtain ⟨ch_1a, ch_1b, ch_1c, ch_1d, fh_1a, fh_1b, fh_1c, fh_1d⟩ := row_four hS.2.1; obtain ⟨ch_2a, ch_2b, ch_2c, ch_2d, fh_2a, fh_2b, fh_2c, fh_2d⟩ := row_four hS.2.2.1; obtain ⟨ch_3a, ch_3b, ch_3c, ch_3d, fh_3a, fh_3b, fh_3c, fh_3d⟩ := row_four hS.2.2.2.1; obtain ⟨ch_4a, ch_4b, ch_4c, ch_4d, fh_4a, fh_4b, fh_4c, fh_4d⟩ := row_four hS.2.2.2.2.1; go_simp) (fun w' hS => rssame kb capb nb A3 m3 c3 A4 m4 c4 tb w' (G3.out.below hS.2.2.2.2.2.1) (G4.out.below hS.2.2.2.2.2.1)) ?_
  simp only [Act.put, List.setIfInBounds_toArray, List.set_cons_zero, List.set_cons_succ]
  (refine plan_pure ?_ rfl rfl (fun w' => ?_) ?_; rotate_left; (go_simp; try with_reducible rfl); simp only [Act.put, List.setIfInBounds_toArray, List.set_cons_zero, List.set_cons_succ])
  (refine plan_pure ?_ rfl rfl (fun w' => ?_) ?_; rotate_left; (go_simp; try with_reducible rfl); simp only [Act.put, List.setIfInBounds_toArray, List.set_cons_zero, List.set_cons_succ])
  (refine plan_pure ?_ rfl rfl (fun w' => ?_) ?_; rotate_left; (go_simp; try with_reducible rfl); simp only [Act.put, List.setIfInBounds_toArray, List.set_cons_zero, List.set_cons_succ])
  (refine plan_pure ?_ rfl rfl (fun w' => ?_) ?_; rotate_left; (go_simp; try with_reducible rfl); simp only [Act.put, List.setIfInBounds_toArray, List.set_cons_zero, List.set_cons_succ])
  (refine plan_pure ?_ rfl rfl (fun w' => ?_) ?_; rotate_left; (go_simp; try with_reducible rfl); simp only [Act.put, List.setIfInBounds_toArray, List.set_cons_zero, List.set_cons_succ])
  (refine plan_pure ?_ rfl rfl (fun w' => ?_) ?_; rotate_left; (go_simp; try with_reducible rfl); simp only [Act.put, List.setIfInBounds_toArray, List.set_cons_zero, List.set_cons_succ])
  (refine plan_pure ?_ rfl rfl (fun w' => ?_) ?_; rotate_left; (go_simp; try with_reducible rfl); simp only [Act.put, List.setIfInBounds_toArray, List.set_cons_zero, List.set_cons_succ])
  refine plan_call (.bool true) 13 #[] rfl rfl rfl (fun _ _ h hb => ⟨row_call h.1 hb, row_call h.2.1 hb, row_call h.2.2.1 hb, row_call h.2.2.2.1 hb, row_call h.2.2.2.2.1 hb, h.2.2.2.2.2.1.trans (hb.mono h.2.2.2.2.2.1.size), h.2.2.2.2.2.2.trans (hb.mono h.2.2.2.2.2.2.size)⟩) (fun w' hS => by obtain ⟨ch_0a, ch_0b, ch_0c, ch_0d, fh_0a, fh_0b, fh_0c, fh_0d⟩ := row_four hS.1; obtain ⟨ch_1a, ch_1b, ch_1c, ch_1d, fh_1a, fh_1b, fh_1c, fh_1d⟩ := row_four hS.2.1; obtain ⟨ch_2a, ch_2b, ch_2c, ch_2d, fh_2a, fh_2b, fh_2c, fh_2d⟩ := row_four hS.2.2.1; obtain ⟨ch_3a, ch_3b, ch_3c, ch_3d, fh_3a, fh_3b, fh_3c, fh_3d⟩ := row_four hS.2.2.2.1; obtain ⟨ch_4a, ch_4b, ch_4c, ch_4d, fh_4a, fh_4b, fh_4c, fh_4d⟩ := row_four hS.2.2.2.2.1; go_simp) (fun w' hS => awake20 w') ?_
  simp only [Act.put, List.setIfInBounds_toArray, List.set_cons_zero, List.set_cons_succ]
  (refine plan_pure ?_ rfl rfl (fun w' => ?_) ?_; rotate_left; (go_simp; try with_reducible rfl); simp only [Act.put, List.setIfInBounds_toArray, List.set_cons_zero, List.set_cons_succ])
  refine plan_nil ?_
  intro w10 L10
  simp only [List.drop_succ_cons, List.drop_zero]
  try simp only [Act.put, List.setIfInBounds_toArray, List.set_cons_zero, List.set_cons_succ]
  have o10 := L10.2.2.2.2.2.2
  clear L L10
  go_wp2
  go_ret
  exact ⟨rfl, o10⟩
theorem summaryStates_many (k cap n : Int) (A : Option Addr) (m c : Nat) (ts : List Tup) (v : Int) (w : World) (hf : 200 < m) : Calls Try.prog 4 #[.agg #[.int .i64 k, .int .i64 cap, .int .i64 n, .slice A m c], .int .i64 v] w fun e w' => e = .returned (.bool true) ∧ Below w.heap.size w w' := by
  have FW := Lib.hid (fun w => few_no k cap n A m c ts w hf)
  clear hf
  go_enter Try.func4, Try.ntmps4
  go_wp2_with (first | (go_at_call 14; refine (FW.out _).mono ?_; rintro e w1 ⟨rfl, hb1⟩; have hz1 := hb1.size; (try simp at hz1)) | (go_at_call 13; refine (awake20 _).mono ?_; rintro e w2 ⟨rfl, hb2⟩; have hz2 := hb2.size))
  go_ret
  exact ⟨rfl, by (repeat (first | exact Below.refl _ _ | refine Below.setCell ?_ (by first | (simp; done) | (simp; omega) | omega) _ | refine Below.alloc ?_ (by first | (simp; done) | (simp; omega) | omega) _ | refine Below.drew ?_ | refine Below.trans ?_ (Below.mono (by assumption) (by first | (simp; done) | (simp; omega) | omega))))⟩
theorem summaryStates (k cap n : Int) (A : Option Addr) (m c : Nat) (ts : List Tup) (v : Int) (w : World) (hin : SIn k cap n A m c ts w) : Calls Try.prog 4 #[.agg #[.int .i64 k, .int .i64 cap, .int .i64 n, .slice A m c], .int .i64 v] w fun e w' => e = .returned (.bool true) ∧ Below w.heap.size w w' := by
  by_cases h : m ≤ 200
  · exact summaryStates_few k cap n A m c ts v w hin h
  · exact summaryStates_many k cap n A m c ts v w (by omega)
end Go.Proofs.Ytdibjlphcmjnoaa
