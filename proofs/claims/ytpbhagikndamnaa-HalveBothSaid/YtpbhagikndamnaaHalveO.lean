/- Counters that halve: the law that merging is counting the items of both, walked. -/
import Derived.Test.YtpbhagikndamnaaHalveN
import Derived.Test.YtpbhagikndamnaaMathHalve7
namespace Go.Proofs.Ytpbhagikndamnaa
open Go.RowKit Go.Shelf
set_option maxHeartbeats 4000000 in
theorem halveBoth (A : Option Addr) (m c : Nat) (l : List Itm) (A' : Option Addr) (m' c' : Nat) (l' : List Itm) (a0 : Int) (w : World) (hin : RIn A m c l w) (hin' : RIn A' m' c' l' w) :
    Calls Try.prog 8 #[.slice A m c, .slice A' m' c', .int .i64 a0] w fun e w' => e = .returned (.bool true) ∧ Below w.heap.size w w' := by
  have PI := fun w => pint a0 64 (by decide) (by decide) w
  have r0 := Int.emod_nonneg a0 (show (64 : Int) ≠ 0 by decide)
  have r1 := Int.emod_lt_of_pos a0 (show (0 : Int) < 64 by decide)
  obtain ⟨r, hr⟩ : ∃ r : Nat, a0 % 64 = (r : Int) := ⟨(a0 % 64).toNat, by omega⟩
  rw [hr] at PI r1
  have PP1 : RowKit.Hid (∀ w1, Below w.heap.size w w1 → Calls Try.prog 23 #[.slice A m c, .int .i64 20, .int .i64 60, .int .i64 4096] w1 (IRet 60 41 0 4096 w1)) :=
    Lib.hid (fun w1 hb => ppos A m c l 20 60 4096 w1 (hin.below hb) (by decide) (by decide) (by decide) (by decide))
  have PP2 : RowKit.Hid (∀ w1, Below w.heap.size w w1 → Calls Try.prog 23 #[.slice A' m' c', .int .i64 20, .int .i64 60, .int .i64 4096] w1 (IRet 60 41 0 4096 w1)) :=
    Lib.hid (fun w1 hb => ppos A' m' c' l' 20 60 4096 w1 (hin'.below hb) (by decide) (by decide) (by decide) (by decide))
  have PI := Lib.hid PI
  have wr1 : IntKind.i64.wrap (1 + (r : Int)) = 1 + (r : Int) := IntWalk.i64_in _ (by omega)
  have e1 : ((r + 1 : Nat) : Int) = 1 + (r : Int) := by omega
  clear hin hin' r0 hr
  obtain ⟨ii, hii, iz0, iz1, iz2⟩ := info_parts info_itm
  go_enter Try.func8, Try.ntmps8
  go_wp2_with (go_at_call 22; refine (PI.out _).mono ?_; rintro e w9 ⟨rfl, h9⟩; obtain rfl := h9.symm)
  refine (PP1.out _ (Below.refl _ _)).mono ?_
  intro e w1 hq
  obtain ⟨v, i1, last1, rfl, own1, hlm1, HM1, hb1⟩ := hq
  obtain ⟨A1, c1, rfl, rd1⟩ := Reads.of_own' own1
  have z1 := hb1.size
  go_wp2_with fail
  refine (PP2.out _ hb1).mono ?_
  intro e w2 hq
  obtain ⟨v, i2, last2, rfl, own2, hlm2, HM2, hb2⟩ := hq
  obtain ⟨A2, c2, rfl, rd2⟩ := Reads.of_own' own2
  have z2 := hb2.size
  have o2 := hb1.trans (hb2.mono z1)
  have rd1 := (rd1.below hb2).more z2
  have lb1 : last1 ≤ 2460 := by have := HM1.2.2; have := HM1.2.1; omega
  have MA1 := made_all HM1
  have NL1 := made_now_le HM1 (Nat.le_refl _)
  have PR1 := fun w1 hr => prun (r + 1) (by omega) (by omega) A1 i1.length c1 i1 w1 41 last1 hr HM1 (by omega) (by omega)
  rw [e1] at PR1
  have PR1 := Lib.hid PR1
  generalize hNN1 : nowAt i1 i1.length = N1 at MA1 NL1
  have HNN1 := Lib.hid hNN1
  have V1 := cst_valid (a := r + 1) (l := i1) (now := N1) (by omega) (by omega) NL1.1 (by omega) (by omega) MA1.1 (fun x hx => (MA1.2 x hx).1)
  have lb2 : last2 ≤ 2460 := by have := HM2.2.2; have := HM2.2.1; omega
  have MA2 := made_all HM2
  have NL2 := made_now_le HM2 (Nat.le_refl _)
  have PR2 := fun w1 hr => prun (r + 1) (by omega) (by omega) A2 i2.length c2 i2 w1 41 last2 hr HM2 (by omega) (by omega)
  rw [e1] at PR2
  have PR2 := Lib.hid PR2
  generalize hNN2 : nowAt i2 i2.length = N2 at MA2 NL2
  have HNN2 := Lib.hid hNN2
  have V2 := cst_valid (a := r + 1) (l := i2) (now := N2) (by omega) (by omega) NL2.1 (by omega) (by omega) MA2.1 (fun x hx => (MA2.2 x hx).1)
  obtain ⟨NN, hNN⟩ : ∃ x, x = max N1 N2 := ⟨_, rfl⟩
  have NB : 0 ≤ NN ∧ NN ≤ 2460 := by
    have := NL1.1; have := NL1.2; have := NL2.1; have := NL2.2
    omega
  obtain ⟨NB0, NB1⟩ := NB
  have nn1 : N1 ≤ NN := by omega
  have sh1 : hshift (cst (r + 1) i1 N1) (NN - N1).toNat = cst (r + 1) i1 NN := by
    rw [cst_shift (fun x hx => (MA1.2 x hx).2), show N1 + (((NN - N1).toNat : Nat) : Int) = NN by omega]
  have PA1 := fun (A : Option Addr) (n c : Nat) (w1 : World) (h : HIn N1 A n c (cst (r + 1) i1 N1) w1) => @phadv_at N1 NN A n c _ w1 h V1 nn1 (by omega)
  rw [sh1] at PA1
  have tt1 : ∀ x ∈ i1, 0 ≤ x.t ∧ x.t ≤ NN := fun x hx => ⟨(MA1.2 x hx).1, by have := (MA1.2 x hx).2; omega⟩
  have nn2 : N2 ≤ NN := by omega
  have sh2 : hshift (cst (r + 1) i2 N2) (NN - N2).toNat = cst (r + 1) i2 NN := by
    rw [cst_shift (fun x hx => (MA2.2 x hx).2), show N2 + (((NN - N2).toNat : Nat) : Int) = NN by omega]
  have PA2 := fun (A : Option Addr) (n c : Nat) (w1 : World) (h : HIn N2 A n c (cst (r + 1) i2 N2) w1) => @phadv_at N2 NN A n c _ w1 h V2 nn2 (by omega)
  rw [sh2] at PA2
  have tt2 : ∀ x ∈ i2, 0 ≤ x.t ∧ x.t ≤ NN := fun x hx => ⟨(MA2.2 x hx).1, by have := (MA2.2 x hx).2; omega⟩
  have PM := fun (A : Option Addr) (n c : Nat) (A' : Option Addr) (n' c' : Nat) (w1 : World) (h : HIn NN A n c (cst (r + 1) i1 NN) w1) (h' : HIn NN A' n' c' (cst (r + 1) i2 NN) w1) => phmer NN A n c (cst (r + 1) i1 NN) NN A' n' c' (cst (r + 1) i2 NN) w1 h h'
  rw [hmer_cst (by omega) (by omega) NB0 (by omega) (by omega) (by omega) MA1.1 MA2.1 (fun x hx => (tt1 x hx).1) (fun x hx => (tt2 x hx).1)] at PM
  have vv : ∀ x ∈ i1 ++ i2, 0 ≤ x.v ∧ x.v ≤ 4096 := fun x hx => (List.mem_append.1 hx).elim (MA1.1 x) (MA2.1 x)
  have tt : ∀ x ∈ i1 ++ i2, 0 ≤ x.t ∧ x.t ≤ NN := fun x hx => (List.mem_append.1 hx).elim (tt1 x) (tt2 x)
  have ll : (i1 ++ i2).length = i1.length + i2.length := List.length_append
  have HQ := hask_cst (a := r + 1) (l := i1 ++ i2) (now := NN) (by omega) (by omega) NB0 (by omega) (by omega) vv tt
  have PK := fun (A : Option Addr) (n c : Nat) (w1 : World) (h : HIn NN A n c (cst (r + 1) (i1 ++ i2) NN) w1) => phask NN A n c (cst (r + 1) (i1 ++ i2) NN) w1 h
  rw [HQ] at PK
  have P8 := fun (A : Option Addr) (c : Nat) (w1 : World) (hr : Reads w1 w1.heap.size 2 A (i1.length + i2.length) (icells (i1 ++ i2))) => rhalve8 (r + 1) (by omega) (by omega) NN NB0 (by omega) A (i1.length + i2.length) c (i1 ++ i2) w1 hr (by omega) vv tt
  rw [e1, icells_append] at P8
  generalize cwide (r + 1) (i1 ++ i2) NN = sw at PK P8
  generalize 2 ^ (r + 1 - 1) = dn at PK P8
  simp only [FR] at PK P8
  generalize hi sw = f1 at PK P8
  generalize lo sw = f2 at PK P8
  generalize hi dn = f3 at PK P8
  generalize lo dn = f4 at PK P8
  generalize cst (r + 1) (i1 ++ i2) NN = za at PM PK
  generalize cst (r + 1) i1 NN = y1 at PA1 PM
  generalize cst (r + 1) i2 NN = y2 at PA2 PM
  generalize hx1 : cst (r + 1) i1 N1 = x1 at PA1
  generalize hx2 : cst (r + 1) i2 N2 = x2 at PA2
  have HX1 := Lib.hid hx1
  have HX2 := Lib.hid hx2
  have PA1 := Lib.hid PA1
  have PA2 := Lib.hid PA2
  have PM := Lib.hid PM
  have PK := Lib.hid PK
  have P8 := Lib.hid P8
  have HNN := Lib.hid hNN.symm
  have lm : i1.length + i2.length ≤ 120 := by omega
  clear hNN1 hNN2 V1 V2 sh1 sh2 HQ HM1 HM2 MA1 MA2 NL1 NL2 hx1 hx2 own1 own2 e1 tt1 tt2 tt vv ll lb1 lb2 hNN nn1 nn2
  have io1 := icells_one i1
  have io2 := icells_one i2
  generalize icells i1 = ic1 at rd1 P8 io1 PR1
  generalize icells i2 = ic2 at rd2 P8 io2 PR2
  have IO1 := Lib.hid io1
  have IO2 := Lib.hid io2
  clear io1 io2
  go_wp2_with fail
  refine (PR1.out _ rd1).mono ?_
  intro e w3 hq
  obtain ⟨A3, n3, c3, rfl, hin3, hb3, hf3⟩ := hq
  rw [HNN1.out, HX1.out] at hin3
  rw [HNN1.out]
  have z3 := hb3.size
  have q3 : Below w2.heap.size w2 w3 := hb3
  go_upto_region 4 with (fail)
  have X : Row (w3.alloc (.cells #[.int .i64 N1, .slice A3 n3 c3] 24)) w3.heap.size 24 #[.int .i64 N1, .slice A3 n3 c3] := row_new rfl
  have al := (Below.refl w3.heap.size w3).alloc (Nat.le_refl _) (.cells #[.int .i64 N1, .slice A3 n3 c3] 24)
  have za4 : w3.heap.size + 1 = (w3.alloc (.cells #[.int .i64 N1, .slice A3 n3 c3] 24)).heap.size := by simp
  generalize w3.alloc (.cells #[.int .i64 N1, .slice A3 n3 c3] 24) = w4 at X al za4 ⊢
  have hin3 := hin3.below al
  have q4 := q3.trans (al.mono q3.size)
  generalize w3.heap.size = bx at X za4 z3 ⊢
  clear al q3
  go_wp2_with fail
  refine (PR2.out _ ((rd2.below q4).more q4.size)).mono ?_
  intro e w5 hq
  obtain ⟨A5, n5, c5, rfl, hin5, hb5, hf5⟩ := hq
  rw [HNN2.out, HX2.out] at hin5
  rw [HNN2.out]
  have z5 := hb5.size
  have X := row_call X hb5
  have hin3 := hin3.below hb5
  have q5 := q4.trans (hb5.mono q4.size)
  go_upto_region 5 with (fail)
  have Y : Row (w5.alloc (.cells #[.int .i64 N2, .slice A5 n5 c5] 24)) w5.heap.size 24 #[.int .i64 N2, .slice A5 n5 c5] := row_new rfl
  have al := (Below.refl w5.heap.size w5).alloc (Nat.le_refl _) (.cells #[.int .i64 N2, .slice A5 n5 c5] 24)
  have za6 : w5.heap.size + 1 = (w5.alloc (.cells #[.int .i64 N2, .slice A5 n5 c5] 24)).heap.size := by simp
  generalize w5.alloc (.cells #[.int .i64 N2, .slice A5 n5 c5] 24) = w6 at Y al za6 ⊢
  have X := row_call X al
  have hin3 := hin3.below al
  have hin5 := hin5.below al
  have q6 := q5.trans (al.mono q5.size)
  generalize w5.heap.size = by_ at Y za6 z5 ⊢
  clear al q5 q4
  obtain ⟨X0, X1, X2, X3⟩ := row_two X
  obtain ⟨Y0, Y1, Y2, Y3⟩ := row_two Y
  have hf5x : ∀ ad, A5 = some ad → ad.block ≠ bx := fun ad h => by have := hf5 ad h; omega
  go_wp2_with fail
  rw [HNN.out]
  refine (PA1.out A3 n3 c3 _ hin3).mono ?_
  intro e w7 hq
  obtain ⟨A7, n7, c7, rfl, hin7, hb7, hf7⟩ := hret_at rfl hq
  clear X0 X1 X2 X3 Y0 Y1 Y2 Y3 hin3 hq
  have z7 := hb7.size
  have X := row_call X hb7
  have Y := row_call Y hb7
  have hin5 := hin5.below hb7
  have q7 := q6.trans (hb7.mono q6.size)
  obtain ⟨X0, X1, X2, X3⟩ := row_two X
  go_upto_region 7 with (fail)
  clear X0 X1 X2 X3
  have X := row_two_set (u := .int .i64 NN) (v := .slice A7 n7 c7) X
  have Y := row_two_other (c := bx) (u := .int .i64 NN) (v := .slice A7 n7 c7) Y (by omega)
  have hin7 := hin7.row (b := bx) (fun ad h => by have := hf7 ad h; omega) (.int .i64 NN) (.slice A7 n7 c7)
  have hin5 := hin5.row (b := bx) hf5x (.int .i64 NN) (.slice A7 n7 c7)
  have q8 := (q7.setCell (p := ⟨bx, 0, none⟩) z3 (.int .i64 NN)).setCell (p := ⟨bx, 1, none⟩) z3 (.slice A7 n7 c7)
  have za8 : ((w7.setCell ⟨bx, 0, none⟩ (.int .i64 NN)).setCell ⟨bx, 1, none⟩ (.slice A7 n7 c7)).heap.size = w7.heap.size := by simp
  generalize (w7.setCell ⟨bx, 0, none⟩ (.int .i64 NN)).setCell ⟨bx, 1, none⟩ (.slice A7 n7 c7) = w8 at X Y hin7 hin5 q8 za8 ⊢
  obtain ⟨Y0, Y1, Y2, Y3⟩ := row_two Y
  clear q7 q6
  go_wp2_with fail
  refine (PA2.out A5 n5 c5 _ hin5).mono ?_
  intro e w9 hq
  obtain ⟨A9, n9, c9, rfl, hin9, hb9, hf9⟩ := hret_at rfl hq
  clear Y0 Y1 Y2 Y3 hin5 hq
  have z9 := hb9.size
  have X := row_call X hb9
  have Y := row_call Y hb9
  have hin7 := hin7.below hb9
  have q9 := q8.trans (hb9.mono q8.size)
  obtain ⟨Y0, Y1, Y2, Y3⟩ := row_two Y
  go_upto_region 8 with (fail)
  clear Y0 Y1 Y2 Y3
  have z3y : w2.heap.size ≤ by_ := by omega
  have Y := row_two_set (u := .int .i64 NN) (v := .slice A9 n9 c9) Y
  have X := row_two_other (c := by_) (u := .int .i64 NN) (v := .slice A9 n9 c9) X (by omega)
  have hin9 := hin9.row (b := by_) (fun ad h => by have := hf9 ad h; omega) (.int .i64 NN) (.slice A9 n9 c9)
  have hin7 := hin7.row (b := by_) (fun ad h => by have := hf7 ad h; omega) (.int .i64 NN) (.slice A9 n9 c9)
  have q10 := (q9.setCell (p := ⟨by_, 0, none⟩) z3y (.int .i64 NN)).setCell (p := ⟨by_, 1, none⟩) z3y (.slice A9 n9 c9)
  generalize (w9.setCell ⟨by_, 0, none⟩ (.int .i64 NN)).setCell ⟨by_, 1, none⟩ (.slice A9 n9 c9) = w10 at X Y hin7 hin9 q10 ⊢
  obtain ⟨X0, X1, X2, X3⟩ := row_two X
  obtain ⟨Y0, Y1, Y2, Y3⟩ := row_two Y
  clear q9 q8 z7 z9 za8
  go_wp2_with fail
  refine (PM.out _ _ _ _ _ _ _ hin7 hin9).mono ?_
  intro e w11 hq
  obtain ⟨A11, n11, c11, rfl, hin11, hb11, hf11⟩ := hret_at rfl hq
  clear X0 X1 X2 X3 Y0 Y1 Y2 Y3 X Y hin7 hin9 hq
  have q11 := q10.trans (hb11.mono q10.size)
  go_upto_region 9 with (fail)
  have M : Row (w11.alloc (.cells #[.int .i64 NN, .slice A11 n11 c11] 24)) w11.heap.size 24 #[.int .i64 NN, .slice A11 n11 c11] := row_new rfl
  have al := (Below.refl w11.heap.size w11).alloc (Nat.le_refl _) (.cells #[.int .i64 NN, .slice A11 n11 c11] 24)
  generalize w11.alloc (.cells #[.int .i64 NN, .slice A11 n11 c11] 24) = w12 at M al ⊢
  have hin11 := hin11.below al
  have q12 := q11.trans (al.mono q11.size)
  generalize w11.heap.size = bm at M ⊢
  clear al q11 q10
  obtain ⟨M0, M1, M2, M3⟩ := row_two M
  go_wp2_with fail
  refine (PK.out _ _ _ _ hin11).mono ?_
  rintro e w13 ⟨rfl, hb13⟩
  clear M0 M1 M2 M3 M hin11
  have q13 := q12.trans (hb13.mono q12.size)
  go_upto_region 10 with (fail)
  have U : Row (w13.alloc (.cells #[.int .u64 f1, .int .u64 f2, .int .u64 f3, .int .u64 f4] 37)) w13.heap.size 37 #[.int .u64 f1, .int .u64 f2, .int .u64 f3, .int .u64 f4] := row_new rfl
  have q14 := q13.alloc q13.size (.cells #[.int .u64 f1, .int .u64 f2, .int .u64 f3, .int .u64 f4] 37)
  have z14 : w13.heap.size + 1 = (w13.alloc (.cells #[.int .u64 f1, .int .u64 f2, .int .u64 f3, .int .u64 f4] 37)).heap.size := by simp
  generalize w13.alloc (.cells #[.int .u64 f1, .int .u64 f2, .int .u64 f3, .int .u64 f4] 37) = w14 at U q14 z14 ⊢
  generalize w13.heap.size = b18 at U z14 ⊢
  clear q13 q12
  go_wp2_with (first | (at_builtin; refine wpList_clone rfl _ _ 42 rfl 64 ii (.agg #[.int .i64 0, .int .i64 0]) 2 16 Try.underlying42 hii iz0 iz1 iz2 rfl (by decide) rfl w2.heap.size A1 i1.length c1 ic1 rfl (rd1.below q14) q14.size IO1.out (by unfold maxLen; omega) (by omega) ?_; intro g c15 w15 own15 hg15 hb15 hz15; have q15 := q14.trans (hb15.mono q14.size); have lt15 := own15.lt) | (at_builtin; refine wpList_append_any _ rfl _ _ 42 rfl g 64 ii (.agg #[.int .i64 0, .int .i64 0]) 2 16 Try.underlying42 hii iz0 iz1 iz2 rfl (by decide) (.slice (some ⟨g, 0, none⟩) i1.length c15) i1.length ic1 rfl (own15.row (Nat.le_refl _)) w2.heap.size A2 i2.length c2 ic2 rfl (rd2.below q15) IO2.out (by unfold maxLen; omega) (by omega) (by omega) ?_; intro v16 w16 own16 hg16 hat16))
  obtain ⟨A16, c16, rfl, rd16⟩ := Reads.of_own' own16
  have z2g : w2.heap.size ≤ g := Nat.le_trans q14.size hg15
  have q16 : Below w2.heap.size w2 w16 := below_grown q15 hg16 (fun k hk => by simp [Value.ownBlock] at hk; omega) q15.size
  have U := row_grown (row_call U hb15) hg16 (by simp [Value.ownBlock]; omega)
  clear q15 q14 own16 own15 hat16 hg16 hb15
  refine (P8.out _ _ _ rd16).mono ?_
  rintro e w17 ⟨rfl, hb17⟩
  have q17 := q16.trans (hb17.mono q16.size)
  have U := row_call U hb17
  go_upto_region 11 with (fail)
  have q18 := q17.alloc q17.size (.cells #[.int .u64 f1, .int .u64 f2, .int .u64 f3, .int .u64 f4] 37)
  have U := row_alloc U (.cells #[.int .u64 f1, .int .u64 f2, .int .u64 f3, .int .u64 f4] 37)
  have V : Row (w17.alloc (.cells #[.int .u64 f1, .int .u64 f2, .int .u64 f3, .int .u64 f4] 37)) w17.heap.size 37 #[.int .u64 f1, .int .u64 f2, .int .u64 f3, .int .u64 f4] := row_new rfl
  have o18 := o2.trans (q18.mono o2.size)
  generalize w17.alloc (.cells #[.int .u64 f1, .int .u64 f2, .int .u64 f3, .int .u64 f4] 37) = w18 at U V o18 ⊢
  generalize w17.heap.size = b20 at V ⊢
  obtain ⟨T0, T1, T2, T3, _, _, _, _⟩ := row_four U
  obtain ⟨S0, S1, S2, S3, _, _, _, _⟩ := row_four V
  have z18 := o18.size
  clear U V rd1 rd2 rd16 PA1 PA2 PM PK P8 PR1 PR2 PP1 PP2 PI q18 q17 q16 hb1 hb2 hb3 hb5 hb7 hb9 hb11 hb13 hb17 o2
  go_wp2_with (go_at_call 12; refine (awake16 _).mono ?_; rintro e w19 ⟨rfl, hb19⟩)
  go_ret
  exact ⟨rfl, o18.trans (hb19.mono z18)⟩
end Go.Proofs.Ytpbhagikndamnaa
