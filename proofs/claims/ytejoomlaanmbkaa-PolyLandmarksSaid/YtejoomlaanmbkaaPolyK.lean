/- Counters with polynomial decay: the law of landmarks, walked. -/
import Derived.Test.YtejoomlaanmbkaaPolyJ
import Derived.Test.YtejoomlaanmbkaaPolyH
import Derived.Test.YtejoomlaanmbkaaVec
import Derived.Test.YtejoomlaanmbkaaAppend
import Derived.Deep.QuietTactic
import Derived.BigQuiet
namespace Go.Proofs.Ytejoomlaanmbkaa
open Go.RowKit Go.Shelf
theorem reads_own {w : World} {base : Nat} {e : TypeId} {size n : Nat} {v : Value} {xs : List Value} (h : w.ownsRow base e size v n xs) : ∃ A c, v = .slice A n c ∧ Reads w w.heap.size size A n xs := by
  have hv : ∃ A c, v = .slice A n c := by
    rcases h.2 with ⟨h1, h2⟩ | ⟨g, cap, cur, h1, _⟩
    · exact ⟨none, 0, by rw [h1, h2]⟩
    · exact ⟨_, _, h1⟩
  obtain ⟨A, c, rfl⟩ := hv
  exact ⟨A, c, rfl, Reads.of_own h⟩
theorem qreb_psts {p : Nat} {a land now : Int} {l : List Itm} (hp : p ≤ 4) (h0 : 0 ≤ land) (hl : land ≤ a) (h1 : a ≤ now) (h2 : now ≤ 16777216) (h : Fit a now l) (hlen : l.length ≤ 1000) :
    qreb (p : Int) a now (psts p a l) land = ⟨p, land, now, psts p land l, 0⟩ := by
  obtain ⟨f, e⟩ := preb_psts hp h0 hl h1 h2 h hlen
  have := qreb_ok (psts_valid hp (show 0 ≤ a by omega) h1 h2 h) h0 hl (by rw [psts_len]; exact f)
  rw [psts_len, e] at this
  exact this
set_option maxRecDepth 100000 in
set_option maxHeartbeats 8000000 in
theorem polyLandmarks (A0 : Option Addr) (m0 c0 : Nat) (l0 : List Itm) (A9 : Option Addr) (m9 c9 : Nat) (l9 : List Itm) (x0 x1 x2 : Int) (w : World) (hin0 : RIn A0 m0 c0 l0 w) (hin9 : RIn A9 m9 c9 l9 w) :
    Calls Try.prog 8 #[.slice A0 m0 c0, .slice A9 m9 c9, .int .i64 x0, .int .i64 x1, .int .i64 x2] w fun e w' => e = .returned (.bool true) ∧ Below w.heap.size w w' := by
  obtain ⟨ii, hii, iz0, iz1, iz2⟩ := info_parts info_itm
  have PI := fun w => pint x0 5 (by decide) (by decide) w
  have r0 := Int.emod_nonneg x0 (show (5 : Int) ≠ 0 by decide)
  have r1 := Int.emod_lt_of_pos x0 (show (0 : Int) < 5 by decide)
  obtain ⟨p, hr⟩ : ∃ p : Nat, x0 % 5 = (p : Int) := ⟨(x0 % 5).toNat, by omega⟩
  rw [hr] at PI r1
  have PM1 := fun w => pmod x1 100000 (by decide) (by decide) w
  have PM2 := fun w => pmod x2 100000 (by decide) (by decide) w
  have a0 := Int.emod_nonneg x1 (show (100000 : Int) ≠ 0 by decide)
  have a1 := Int.emod_lt_of_pos x1 (show (0 : Int) < 100000 by decide)
  have b0 := Int.emod_nonneg x2 (show (100000 : Int) ≠ 0 by decide)
  have b1 := Int.emod_lt_of_pos x2 (show (0 : Int) < 100000 by decide)
  generalize x1 % 100000 = a at PM1 a0 a1
  generalize x2 % 100000 = b at PM2 b0 b1
  have PS1 := Lib.hid (pshift A0 m0 c0 l0 a w hin0 a0 (by omega))
  have PS2 := Lib.hid (fun w1 hb => pshift A9 m9 c9 l9 b w1 (hin9.below hb) b0 (by omega))
  have PI := Lib.hid PI
  have PM1 := Lib.hid PM1
  have PM2 := Lib.hid PM2
  have hp : p ≤ 4 := by omega
  clear hin0 hin9 r0 hr r1
  go_enter Try.func8, Try.ntmps8
  go_upto_region 2 with (first | (go_at_call 22; refine (PI.out _).mono ?_; rintro e w9 ⟨rfl, h9⟩; obtain rfl := h9.symm) | (go_at_call 23; with_reducible refine (PM1.out _).mono ?_; rintro e w9 ⟨rfl, h9⟩; obtain rfl := h9.symm) | (go_at_call 23; with_reducible refine (PM2.out _).mono ?_; rintro e w9 ⟨rfl, h9⟩; obtain rfl := h9.symm))
  go_wp2_with fail
  refine PS1.out.mono ?_
  rintro e w1 ⟨A1, c1, i1, la1, rfl, rd1, hl1, HP1, lc0, lc1, hb1, hf1⟩
  go_wp2_with fail
  refine (PS2.out w1 hb1).mono ?_
  rintro e w2 ⟨A2, c2, i2, la2, rfl, rd2, hl2, HP2, ld0, ld1, hb2, hf2⟩
  have o2 := hb1.trans (hb2.mono hb1.size)
  replace rd1 := (rd1.below hb2).more hb2.size
  clear PS1 PS2 PI PM1 PM2 hf1 hf2 hb1 hb2
  have PR1 := Lib.hid (fun w1 hr => prun15 p a (la1 + a) A1 i1.length c1 i1 w1 hp a0 HP1 (by omega) hr (by omega))
  have PR2 := Lib.hid (fun w1 hr => prun15 p b (la2 + b) A2 i2.length c2 i2 w1 hp b0 HP2 (by omega) hr (by omega))
  have V1 := run_end hp a0 HP1 (by omega)
  have V2 := run_end hp b0 HP2 (by omega)
  have NL1 := pm_now HP1 (Nat.le_refl _)
  have NL2 := pm_now HP2 (Nat.le_refl _)
  have F1 := pm_fit HP1
  have F2 := pm_fit HP2
  generalize hNN1 : nowP a i1 i1.length = N1 at V1 NL1 F1
  generalize hNN2 : nowP b i2 i2.length = N2 at V2 NL2 F2
  obtain ⟨NN, hNN⟩ : ∃ q, (if N1 < N2 then N2 else N1) = q := ⟨_, rfl⟩
  obtain ⟨ld, hld⟩ : ∃ q, (if b < a then b else a) = q := ⟨_, rfl⟩
  have hmn : min a b = ld := by omega
  have nb : N1 ≤ NN ∧ N2 ≤ NN ∧ NN ≤ 16777216 := by omega
  have lb : 0 ≤ ld ∧ ld ≤ a ∧ ld ≤ b := by omega
  replace F1 := F1.later nb.1
  replace F2 := F2.later nb.2.1
  have hA1 := qadv_ok («to» := NN) V1 nb.1 nb.2.2
  have hA2 := qadv_ok («to» := NN) V2 nb.2.1 nb.2.2
  have hM := pmer_psts hp a0 b0 (show a ≤ NN by omega) (show b ≤ NN by omega) nb.2.2 F1 F2 (by omega) (by omega)
  rw [hmn] at hM
  have hZ := qreb_psts hp lb.1 lb.2.1 (show a ≤ NN by omega) nb.2.2 F1 (by omega)
  have G1 := F1.lower lb.2.1
  have G2 := G1.append (F2.lower lb.2.2)
  have P8 := Lib.hid (fun j (hj : j ≤ p) w1 hr => rpoly8 j ld NN A1 i1.length c1 i1 w1 (show j ≤ 4 by omega) lb.1 (by omega) nb.2.2 G1 hr (by omega))
  have P9 := fun j (hj : j ≤ p) A c w1 hr => rpoly8 j ld NN A (i1.length + i2.length) c (i1 ++ i2) w1 (show j ≤ 4 by omega) lb.1 (by omega) nb.2.2 G2 hr (by omega)
  rw [icells_append] at P9
  have P9 := Lib.hid P9
  have PA1 := fun (A : Option Addr) (n c : Nat) (w1 : World) (h : PIn (p : Int) a N1 A n c (psts p a i1) w1) => ppadv (p : Int) a N1 A n c (psts p a i1) NN w1 h
  rw [hA1] at PA1
  have PA2 := fun (A : Option Addr) (n c : Nat) (w1 : World) (h : PIn (p : Int) b N2 A n c (psts p b i2) w1) => ppadv (p : Int) b N2 A n c (psts p b i2) NN w1 h
  rw [hA2] at PA2
  have PM := fun (A : Option Addr) (n c : Nat) (A' : Option Addr) (n' c' : Nat) (w1 : World) (h : PIn (p : Int) a NN A n c (psts p a i1) w1) (h' : PIn (p : Int) b NN A' n' c' (psts p b i2) w1) => ppmer (p : Int) a NN A n c (psts p a i1) (p : Int) b NN A' n' c' (psts p b i2) w1 h h'
  rw [hM] at PM
  have PZ := fun (A : Option Addr) (n c : Nat) (w1 : World) (h : PIn (p : Int) a NN A n c (psts p a i1) w1) => ppreb (p : Int) a NN A n c (psts p a i1) ld w1 h
  rw [hZ] at PZ
  have PA1 := Lib.hid PA1
  have PA2 := Lib.hid PA2
  have PM := Lib.hid PM
  have PZ := Lib.hid PZ
  have HNN1 := Lib.hid hNN1
  have HNN2 := Lib.hid hNN2
  have HNN := Lib.hid hNN
  have HLD := Lib.hid hld
  have hP := Lib.hid hp
  have ZL1 := psts_len p ld i1
  have ZL2 := psts_len p ld (i1 ++ i2)
  have ZA1 := Lib.hid (fun j (hj : j ≤ p) => psts_at (p := p) (land := ld) (l := i1) hj)
  have ZA2 := Lib.hid (fun j (hj : j ≤ p) => psts_at (p := p) (land := ld) (l := i1 ++ i2) hj)
  generalize psts p ld (i1 ++ i2) = zm at PM ZL2 ZA2
  generalize psts p ld i1 = zz at PZ ZL1 ZA1
  generalize hy1 : psts p a i1 = y1 at PA1 PM PZ
  generalize hy2 : psts p b i2 = y2 at PA2 PM
  have HY1 := Lib.hid hy1
  have HY2 := Lib.hid hy2
  clear hy1 hy2
  have ZL1 := Lib.hid ZL1
  have ZL2 := Lib.hid ZL2
  have io1 := icells_one i1
  have io2 := icells_one i2
  have HL1 := Lib.hid hl1
  have HL2 := Lib.hid hl2
  clear hmn hNN1 hNN2 V1 V2 F1 F2 G1 G2 hA1 hA2 hM hZ HP1 HP2 NL1 NL2 nb lb hNN hld hl1 hl2 lc0 lc1 ld0 ld1 a0 a1 b0 b1 hp
  generalize icells i1 = ic1 at rd1 P8 P9 io1 PR1
  generalize icells i2 = ic2 at rd2 P9 io2 PR2
  have IO1 := Lib.hid io1
  have IO2 := Lib.hid io2
  clear io1 io2
  have q := Below.refl w2.heap.size w2
  go_wp2_with fail
  refine (PR1.out _ rd1).mono ?_
  rintro e w3 ⟨A3, n3, c3, rfl, j3, hb3, f3⟩
  rw [HNN1.out, HY1.out] at j3
  rw [HNN1.out]
  have z_w3 := hb3.size
  replace q := q.trans (hb3.mono q.size)
  clear hb3
  go_upto_region 4 with (fail)
  have X : Row (w3.alloc (.cells #[.int .i64 (p : Nat), .int .i64 a, .int .i64 N1, .slice A3 n3 c3] 24)) w3.heap.size 24 #[.int .i64 (p : Nat), .int .i64 a, .int .i64 N1, .slice A3 n3 c3] := row_new rfl
  have al := (Below.refl w3.heap.size w3).alloc (Nat.le_refl _) (.cells #[.int .i64 (p : Nat), .int .i64 a, .int .i64 N1, .slice A3 n3 c3] 24)
  have za_w4 : w3.heap.size + 1 = (w3.alloc (.cells #[.int .i64 (p : Nat), .int .i64 a, .int .i64 N1, .slice A3 n3 c3] 24)).heap.size := by simp
  generalize w3.alloc (.cells #[.int .i64 (p : Nat), .int .i64 a, .int .i64 N1, .slice A3 n3 c3] 24) = w4 at X al za_w4 ⊢
  replace j3 := j3.below al
  replace q := q.trans (al.mono q.size)
  generalize w3.heap.size = bx at X za_w4 z_w3 ⊢
  clear al
  go_wp2_with fail
  refine (PR2.out _ ((rd2.below q).more q.size)).mono ?_
  rintro e w5 ⟨A5, n5, c5, rfl, j5, hb5, f5⟩
  rw [HNN2.out, HY2.out] at j5
  rw [HNN2.out]
  have z_w5 := hb5.size
  replace X := row_call X hb5
  replace j3 := j3.below hb5
  replace q := q.trans (hb5.mono q.size)
  clear hb5
  go_upto_region 5 with (fail)
  have Y : Row (w5.alloc (.cells #[.int .i64 (p : Nat), .int .i64 b, .int .i64 N2, .slice A5 n5 c5] 24)) w5.heap.size 24 #[.int .i64 (p : Nat), .int .i64 b, .int .i64 N2, .slice A5 n5 c5] := row_new rfl
  have al := (Below.refl w5.heap.size w5).alloc (Nat.le_refl _) (.cells #[.int .i64 (p : Nat), .int .i64 b, .int .i64 N2, .slice A5 n5 c5] 24)
  have za_w6 : w5.heap.size + 1 = (w5.alloc (.cells #[.int .i64 (p : Nat), .int .i64 b, .int .i64 N2, .slice A5 n5 c5] 24)).heap.size := by simp
  generalize w5.alloc (.cells #[.int .i64 (p : Nat), .int .i64 b, .int .i64 N2, .slice A5 n5 c5] 24) = w6 at Y al za_w6 ⊢
  replace X := row_call X al
  replace j3 := j3.below al
  replace j5 := j5.below al
  replace q := q.trans (al.mono q.size)
  generalize w5.heap.size = yb at Y za_w6 z_w5 ⊢
  clear al
  obtain ⟨X0, X1, X2, X3, Xf0, Xf1, Xf2, Xf3⟩ := row_four X
  obtain ⟨Y0, Y1, Y2, Y3, Yf0, Yf1, Yf2, Yf3⟩ := row_four Y
  have f5x : ∀ ad, A5 = some ad → ad.block ≠ bx := fun ad h => by have := f5 ad h; omega
  go_upto_region 8 with (fail)
  rw [HNN.out]
  go_wp2_with fail
  refine (PA1.out A3 n3 c3 _ j3).mono ?_
  intro e w7 hq
  obtain ⟨A7, n7, c7, rfl, j7, hb7, f7⟩ := pret_at rfl hq
  clear hq
  have z_w7 := hb7.size
  replace X := row_call X hb7
  replace Y := row_call Y hb7
  replace j5 := j5.below hb7
  replace q := q.trans (hb7.mono q.size)
  clear hb7
  clear X0 X1 X2 X3 Xf0 Xf1 Xf2 Xf3 Y0 Y1 Y2 Y3 Yf0 Yf1 Yf2 Yf3 j3
  obtain ⟨X0, X1, X2, X3, Xf0, Xf1, Xf2, Xf3⟩ := row_four X
  go_upto_region 9 with (fail)
  clear X0 X1 X2 X3 Xf0 Xf1 Xf2 Xf3
  replace X := row_four_set (u0 := .int .i64 (p : Nat)) (u1 := .int .i64 a) (u2 := .int .i64 NN) (u3 := .slice A7 n7 c7) X
  replace Y := row_four_other (c := bx) (u0 := .int .i64 (p : Nat)) (u1 := .int .i64 a) (u2 := .int .i64 NN) (u3 := .slice A7 n7 c7) Y (by omega)
  replace j7 := j7.row (b := bx) (fun ad h => by have := f7 ad h; omega) (.int .i64 (p : Nat)) (.int .i64 a) (.int .i64 NN) (.slice A7 n7 c7)
  replace j5 := j5.row (b := bx) f5x (.int .i64 (p : Nat)) (.int .i64 a) (.int .i64 NN) (.slice A7 n7 c7)
  replace q := below_four (b := bx) q (by omega) (.int .i64 (p : Nat)) (.int .i64 a) (.int .i64 NN) (.slice A7 n7 c7)
  have sz8 := size_four w7 bx (.int .i64 (p : Nat)) (.int .i64 a) (.int .i64 NN) (.slice A7 n7 c7)
  generalize ((((w7.setCell ⟨bx, 0, none⟩ (.int .i64 (p : Nat))).setCell ⟨bx, 1, none⟩ (.int .i64 a)).setCell ⟨bx, 2, none⟩ (.int .i64 NN)).setCell ⟨bx, 3, none⟩ (.slice A7 n7 c7)) = w8 at X Y j7 j5 q sz8 ⊢
  obtain ⟨Y0, Y1, Y2, Y3, Yf0, Yf1, Yf2, Yf3⟩ := row_four Y
  go_wp2_with fail
  refine (PA2.out A5 n5 c5 _ j5).mono ?_
  intro e w9 hq
  obtain ⟨A8, n8, c8, rfl, j9, hb9, f9⟩ := pret_at rfl hq
  clear hq
  have z_w9 := hb9.size
  replace X := row_call X hb9
  replace Y := row_call Y hb9
  replace j7 := j7.below hb9
  replace q := q.trans (hb9.mono q.size)
  clear hb9
  clear Y0 Y1 Y2 Y3 Yf0 Yf1 Yf2 Yf3 j5
  obtain ⟨Y0, Y1, Y2, Y3, Yf0, Yf1, Yf2, Yf3⟩ := row_four Y
  go_upto_region 10 with (fail)
  clear Y0 Y1 Y2 Y3 Yf0 Yf1 Yf2 Yf3
  have zy : w2.heap.size ≤ yb := by omega
  replace Y := row_four_set (u0 := .int .i64 (p : Nat)) (u1 := .int .i64 b) (u2 := .int .i64 NN) (u3 := .slice A8 n8 c8) Y
  replace X := row_four_other (c := yb) (u0 := .int .i64 (p : Nat)) (u1 := .int .i64 b) (u2 := .int .i64 NN) (u3 := .slice A8 n8 c8) X (by omega)
  replace j9 := j9.row (b := yb) (fun ad h => by have := f9 ad h; omega) (.int .i64 (p : Nat)) (.int .i64 b) (.int .i64 NN) (.slice A8 n8 c8)
  replace j7 := j7.row (b := yb) (fun ad h => by have := f7 ad h; omega) (.int .i64 (p : Nat)) (.int .i64 b) (.int .i64 NN) (.slice A8 n8 c8)
  replace q := below_four (b := yb) q zy (.int .i64 (p : Nat)) (.int .i64 b) (.int .i64 NN) (.slice A8 n8 c8)
  generalize ((((w9.setCell ⟨yb, 0, none⟩ (.int .i64 (p : Nat))).setCell ⟨yb, 1, none⟩ (.int .i64 b)).setCell ⟨yb, 2, none⟩ (.int .i64 NN)).setCell ⟨yb, 3, none⟩ (.slice A8 n8 c8)) = w10 at X Y j7 j9 q ⊢
  clear z_w3 z_w5 z_w7 z_w9 sz8 za_w4 za_w6 f3 f5 f5x f7 f9
  obtain ⟨X0, X1, X2, X3, Xf0, Xf1, Xf2, Xf3⟩ := row_four X
  obtain ⟨Y0, Y1, Y2, Y3, Yf0, Yf1, Yf2, Yf3⟩ := row_four Y
  go_wp2_with fail
  refine (PM.out _ _ _ _ _ _ _ j7 j9).mono ?_
  intro e w11 hq
  obtain ⟨A11, n11, c11, rfl, j11, hb11, f11⟩ := pret_at rfl hq
  clear hq
  have z_w11 := hb11.size
  replace X := row_call X hb11
  replace j7 := j7.below hb11
  replace q := q.trans (hb11.mono q.size)
  clear hb11
  clear X0 X1 X2 X3 Xf0 Xf1 Xf2 Xf3 Y0 Y1 Y2 Y3 Yf0 Yf1 Yf2 Yf3 Y j9
  go_upto_region 11 with (fail)
  have M : Row (w11.alloc (.cells #[.int .i64 (p : Nat), .int .i64 ld, .int .i64 NN, .slice A11 n11 c11] 24)) w11.heap.size 24 #[.int .i64 (p : Nat), .int .i64 ld, .int .i64 NN, .slice A11 n11 c11] := row_new rfl
  have al := (Below.refl w11.heap.size w11).alloc (Nat.le_refl _) (.cells #[.int .i64 (p : Nat), .int .i64 ld, .int .i64 NN, .slice A11 n11 c11] 24)
  have za_w12 : w11.heap.size + 1 = (w11.alloc (.cells #[.int .i64 (p : Nat), .int .i64 ld, .int .i64 NN, .slice A11 n11 c11] 24)).heap.size := by simp
  generalize w11.alloc (.cells #[.int .i64 (p : Nat), .int .i64 ld, .int .i64 NN, .slice A11 n11 c11] 24) = w12 at M al za_w12 ⊢
  replace X := row_call X al
  replace j7 := j7.below al
  replace j11 := j11.below al
  replace q := q.trans (al.mono q.size)
  generalize w11.heap.size = mb at M za_w12 ⊢
  clear al
  obtain ⟨X0, X1, X2, X3, Xf0, Xf1, Xf2, Xf3⟩ := row_four X
  go_upto_region 12 with (fail)
  rw [HLD.out]
  go_wp2_with fail
  refine (PZ.out _ _ _ _ j7).mono ?_
  intro e w13 hq
  obtain ⟨A13, n13, c13, rfl, j13, hb13, f13⟩ := pret_at rfl hq
  clear hq
  have z_w13 := hb13.size
  replace M := row_call M hb13
  replace j11 := j11.below hb13
  replace q := q.trans (hb13.mono q.size)
  clear hb13
  clear X0 X1 X2 X3 Xf0 Xf1 Xf2 Xf3 X j7
  go_upto_region 13 with (fail)
  have Z : Row (w13.alloc (.cells #[.int .i64 (p : Nat), .int .i64 ld, .int .i64 NN, .slice A13 n13 c13] 24)) w13.heap.size 24 #[.int .i64 (p : Nat), .int .i64 ld, .int .i64 NN, .slice A13 n13 c13] := row_new rfl
  have al := (Below.refl w13.heap.size w13).alloc (Nat.le_refl _) (.cells #[.int .i64 (p : Nat), .int .i64 ld, .int .i64 NN, .slice A13 n13 c13] 24)
  have za_w14 : w13.heap.size + 1 = (w13.alloc (.cells #[.int .i64 (p : Nat), .int .i64 ld, .int .i64 NN, .slice A13 n13 c13] 24)).heap.size := by simp
  generalize w13.alloc (.cells #[.int .i64 (p : Nat), .int .i64 ld, .int .i64 NN, .slice A13 n13 c13] 24) = w14 at Z al za_w14 ⊢
  replace M := row_call M al
  replace j11 := j11.below al
  replace j13 := j13.below al
  replace q := q.trans (al.mono q.size)
  generalize w13.heap.size = zb at Z za_w14 ⊢
  clear al
  obtain rfl : n11 = p + 1 := by rw [← j11.len]; exact ZL2.out
  obtain rfl : n13 = p + 1 := by rw [← j13.len]; exact ZL1.out
  have RM := Lib.hid M
  have RZ := Lib.hid Z
  have DM := Lib.hid j11.reads
  have DZ := Lib.hid j13.reads
  have RD1 := Lib.hid rd1
  have RD2 := Lib.hid rd2
  have Q := Lib.hid q
  have O2 := Lib.hid o2
  obtain ⟨M0, M1, M2, M3, Mf0, Mf1, Mf2, Mf3⟩ := row_four M
  obtain ⟨Z0, Z1, Z2, Z3, Zf0, Zf1, Zf2, Zf3⟩ := row_four Z
  have hp4 : p ≤ 4 := hP.out
  have wp1 : IntKind.i64.wrap ((p : Int) + 1) = (p : Int) + 1 := IntWalk.i64_in _ (by omega)
  have b := Below.refl w14.heap.size w14
  clear j11 j13 rd1 rd2 q o2 PA1 PA2 PM PZ PR1 PR2 HNN1 HNN2 HNN HLD HY1 HY2 za_w14 za_w12 f11 f13
  go_upto_region 15 with (fail)
  clear M0 M1 M2 M3 Mf0 Mf1 Mf2 Mf3 Z0 Z1 Z2 Z3 Zf0 Zf1 Zf2 Zf3 M Z
  go_wp2
  go_loopw [25] (fun i wr => ∃ j : Nat, j ≤ p + 1 ∧ i = .int .i64 (j : Nat) ∧ Below w14.heap.size w14 wr) (fun i _ => p + 1 - (intOf i).toNat)
  case atStart => exact ⟨0, by omega, rfl, b⟩
  case round =>
    clear b
    obtain ⟨j, hj, rfl, b⟩ := hrel
    by_cases hlt : j ≤ p
    · have HJ := Lib.hid (show j + 1 ≤ p + 1 ∧ p + 1 - (j + 1) < p + 1 - j by omega)
      have jz := b.size
      have q := Q.out.trans (b.mono Q.out.size)
      have PJ := P8.out j hlt wr ((RD1.out.below q).more q.size)
      have PK := fun A c w1 hr => P9.out j hlt A c w1 hr
      have e1 := ZA1.out j hlt
      have e2 := ZA2.out j hlt
      generalize pmom ld i1 j = s1 at PJ e1
      generalize pmom ld (i1 ++ i2) j = s2 at PK e2
      have PK := Lib.hid PK
      obtain ⟨adm, rfl, hadm, km⟩ := DM.out.mom (i := j) (by omega)
      obtain ⟨adz, rfl, hadz, kz⟩ := DZ.out.mom (i := j) (by omega)
      rw [e2] at km
      rw [e1] at kz
      have KM := Lib.hid km
      have KZ := Lib.hid kz
      have i1_ : (j : Int) ≤ (p : Int) := by omega
      clear km kz e1 e2 q
      go_wp2_with fail
      refine PJ.mono ?_
      rintro e wa ⟨rfl, hba⟩
      clear PJ
      have ba := b.trans (hba.mono jz)
      clear hba b
      go_upto_region 19 with (fail)
      have U : Row (wa.alloc (.cells #[.int .u64 (hi s1), .int .u64 (lo s1)] 35)) wa.heap.size 35 #[.int .u64 (hi s1), .int .u64 (lo s1)] := row_new rfl
      replace ba := ba.alloc ba.size (.cells #[.int .u64 (hi s1), .int .u64 (lo s1)] 35)
      have zu : wa.heap.size + 1 = (wa.alloc (.cells #[.int .u64 (hi s1), .int .u64 (lo s1)] 35)).heap.size := by simp
      generalize wa.alloc (.cells #[.int .u64 (hi s1), .int .u64 (lo s1)] 35) = wb at U ba zu ⊢
      generalize wa.heap.size = ub at U zu ⊢
      have qb := Q.out.trans (ba.mono Q.out.size)
      have hll : i1.length ≤ 60 ∧ i2.length ≤ 60 := ⟨HL1.out, HL2.out⟩
      go_wp2_with (first | (at_builtin; refine wpList_clone rfl _ _ 42 rfl 51 ii (.agg #[.int .i64 0, .int .i64 0]) 2 16 Try.underlying42 hii iz0 iz1 iz2 rfl (by decide) rfl w2.heap.size A1 i1.length c1 ic1 rfl (RD1.out.below qb) qb.size IO1.out (by unfold maxLen; omega) (by omega) ?_; intro g c15 w15 own15 hg15 hb15 hz15; have q15 := qb.trans (hb15.mono qb.size); have lt15 := own15.lt) | (at_builtin; refine wpList_append_any _ rfl _ _ 42 rfl g 51 ii (.agg #[.int .i64 0, .int .i64 0]) 2 16 Try.underlying42 hii iz0 iz1 iz2 rfl (by decide) (.slice (some ⟨g, 0, none⟩) i1.length c15) i1.length ic1 rfl (own15.row (Nat.le_refl _)) w2.heap.size A2 i2.length c2 ic2 rfl (RD2.out.below q15) IO2.out (by unfold maxLen; omega) (by omega) (by omega) ?_; intro v16 w16 own16 hg16 hat16))
      obtain ⟨A16, c16, rfl, rd16⟩ := reads_own own16
      have b15 := ba.trans (hb15.mono ba.size)
      have b16 : Below w14.heap.size w14 w16 := below_grown b15 hg16 (fun k hk => by simp [Value.ownBlock] at hk; have := ba.size; omega) b15.size
      replace U := row_grown (row_call U hb15) hg16 (by simp [Value.ownBlock]; omega)
      clear qb q15 b15 ba own16 own15 hat16 hg16 hb15
      refine (PK.out _ _ _ rd16).mono ?_
      rintro e w17 ⟨rfl, hb17⟩
      replace U := row_call U hb17
      have b17 := b16.trans (hb17.mono b16.size)
      clear hb17 b16 rd16 PK
      go_upto_region 20 with (fail)
      replace U := row_alloc U (.cells #[.int .u64 (hi s2), .int .u64 (lo s2)] 35)
      have V : Row (w17.alloc (.cells #[.int .u64 (hi s2), .int .u64 (lo s2)] 35)) w17.heap.size 35 #[.int .u64 (hi s2), .int .u64 (lo s2)] := row_new rfl
      replace b17 := b17.alloc b17.size (.cells #[.int .u64 (hi s2), .int .u64 (lo s2)] 35)
      generalize w17.alloc (.cells #[.int .u64 (hi s2), .int .u64 (lo s2)] 35) = w18 at U V b17 ⊢
      generalize w17.heap.size = vb at V ⊢
      have M := row_call RM.out b17
      have Z := row_call RZ.out b17
      obtain ⟨m0_, m1_⟩ := KM.out.below b17 (by rw [block_of_add]; exact hadm)
      obtain ⟨n0_, n1_⟩ := KZ.out.below b17 (by rw [block_of_add]; exact hadz)
      obtain ⟨M0, M1, M2, M3, Mf0, Mf1, Mf2, Mf3⟩ := row_four M
      obtain ⟨Z0, Z1, Z2, Z3, Zf0, Zf1, Zf2, Zf3⟩ := row_four Z
      obtain ⟨U0, U1, Uf0, Uf1⟩ := row_two U
      obtain ⟨V0, V1, Vf0, Vf1⟩ := row_two V
      have i2_ : (j : Int) < ((p + 1 : Nat) : Int) := by omega
      have i3_ : (j : Int) < (p : Int) + 1 := by omega
      have i4_ : (0 : Int) ≤ (j : Int) := by omega
      clear M Z U V KM KZ
      go_quiet (fail)
      go_wp2
      go_roundw
      case rel => exact ⟨j + 1, HJ.out.1, by go_num, b17.trans ⟨rfl, rfl, rfl, Nat.le_refl _, fun _ _ => rfl⟩⟩
      case measure => have := HJ.out.2; simp [intOf]; omega
    · have i1_ : ¬ (j : Int) ≤ (p : Int) := by omega
      have q := Q.out.trans (b.mono Q.out.size)
      have o := O2.out.trans (q.mono O2.out.size)
      go_wp2_with (go_at_call 12; refine (awake15 _).mono ?_; rintro e w19 ⟨rfl, hb19⟩)
      go_ret
      exact ⟨rfl, o.trans (hb19.mono o.size)⟩
end Go.Proofs.Ytejoomlaanmbkaa
