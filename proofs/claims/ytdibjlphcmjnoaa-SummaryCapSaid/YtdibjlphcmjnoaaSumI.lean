/- Summaries of a stream: the law of the capacity, walked. -/
import Derived.Test.YtdibjlphcmjnoaaSumG
import Derived.Test.YtdibjlphcmjnoaaVals
import Derived.Test.YtdibjlphcmjnoaaMathSum4
namespace Go.Proofs.Ytdibjlphcmjnoaa
open Go.RowKit
set_option maxHeartbeats 4000000 in
theorem summaryCap (A : Option Addr) (m c : Nat) (l : List Int) (a0 b0 : Int) (w : World) (hin : NIn A m c l w) :
    Calls Try.prog 5 #[.slice A m c, .int .i64 a0, .int .i64 b0] w fun e w' => e = .returned (.bool true) ∧ Below w.heap.size w w' := by
  have PI := fun w => pint a0 8 (by decide) (by decide) w
  have r0 := Int.emod_nonneg a0 (show (8 : Int) ≠ 0 by decide)
  have r1 := Int.emod_lt_of_pos a0 (show (0 : Int) < 8 by decide)
  have PJ := fun w => pint b0 12 (by decide) (by decide) w
  have s0 := Int.emod_nonneg b0 (show (12 : Int) ≠ 0 by decide)
  have s1 := Int.emod_lt_of_pos b0 (show (0 : Int) < 12 by decide)
  generalize a0 % 8 = r at PI r0 r1
  generalize b0 % 12 = s at PJ s0 s1
  have PN := fun w1 => psnew (1 + r) (2 + s) w1
  rw [snew_yes (by omega) (by omega) (by omega) (by omega)] at PN
  have PV : RowKit.Hid (∀ w1, Below w.heap.size w w1 → Calls Try.prog 22 #[.slice A m c, .int .i64 120] w1 (VRet 120 w1)) := Lib.hid (fun w1 hb => pvalues A m c l 120 w1 (hin.below hb) (by decide))
  have V0 : svalE (1 + r) (2 + s) 0 [] = 0 := svalE_yes ⟨by omega, by omega, by omega, by omega, by omega, by omega, by simp; omega, fun _ => rfl, fun h => absurd rfl h⟩
  generalize hkk : 1 + r = kk at PN V0
  generalize hcc : 2 + s = cc at PN V0
  have k0 : 1 ≤ kk ∧ kk ≤ 8 := by omega
  have c0 : 2 ≤ cc ∧ cc ≤ 13 := by omega
  have wr1 : IntKind.i64.wrap (1 + r) = kk := by rw [IntWalk.i64_in _ (by omega)]; exact hkk
  have ws1 : IntKind.i64.wrap (2 + s) = cc := by rw [IntWalk.i64_in _ (by omega)]; exact hcc
  have PI := Lib.hid PI
  have PJ := Lib.hid PJ
  have PN := Lib.hid PN
  clear hin r0 r1 s0 s1 hkk hcc
  go_enter Try.func5, Try.ntmps5
  go_wp2_with (first | (go_at_call 21; refine (PI.out _).mono ?_; rintro e w9 ⟨rfl, h9⟩; obtain rfl := h9.symm) | (go_at_call 21; refine (PJ.out _).mono ?_; rintro e w9 ⟨rfl, h9⟩; obtain rfl := h9.symm))
  refine (PN.out _).mono ?_
  intro e w1 hq
  obtain ⟨A1, m1, c1, rfl, hin1, hb1, hf1⟩ := sret_at rfl hq
  clear hq
  have hz1 := hb1.size
  go_upto_region 5 with (fail)
  have X : Row (w1.alloc (.cells #[.int .i64 kk, .int .i64 cc, .int .i64 0, .slice A1 m1 c1] 24)) w1.heap.size 24 #[.int .i64 kk, .int .i64 cc, .int .i64 0, .slice A1 m1 c1] := row_new rfl
  have al := (Below.refl w1.heap.size w1).alloc (Nat.le_refl _) (.cells #[.int .i64 kk, .int .i64 cc, .int .i64 0, .slice A1 m1 c1] 24)
  have za : w1.heap.size + 1 = (w1.alloc (.cells #[.int .i64 kk, .int .i64 cc, .int .i64 0, .slice A1 m1 c1] 24)).heap.size := by simp
  generalize w1.alloc (.cells #[.int .i64 kk, .int .i64 cc, .int .i64 0, .slice A1 m1 c1] 24) = w2 at X al za ⊢
  have hin2 := hin1.below al
  have o2 := hb1.trans (al.mono hz1)
  have fx : ∀ ad, A1 = some ad → ad.block ≠ w1.heap.size := fun ad e => by
    have := hf1 ad e
    omega
  generalize w1.heap.size = bx at X za fx hz1 ⊢
  clear al hin1 hb1 hf1
  go_wp2_with fail
  refine (PV.out _ o2).mono ?_
  intro e w3 hq
  obtain ⟨v3, vs, rfl, own3, hlm, hvb, hb3⟩ := hq
  obtain ⟨A3, c3, rfl, rd3, fb3⟩ := Reads.of_own' own3
  have FA : ∀ ad, A3 = some ad → ad.block ≠ bx := fun ad e => by have := fb3 ad e; omega
  have X := row_call X hb3
  have hin3 := hin2.below hb3
  have o3 := o2.trans (hb3.mono o2.size)
  have rb3 : bx < w3.heap.size := by have := hb3.size; omega
  have HVB := Lib.hid hvb
  have R3 := Lib.hid rd3
  generalize hvl : vs.length = nv at hlm R3 ⊢
  have HVL := Lib.hid hvl
  clear hin2 o2 za hb3 own3 rd3 hvb hvl PI PJ PN PV
  go_wp2
  go_loopw [30] (fun i wr => ∃ (j n' : Nat) (A' : Option Addr) (m' c' : Nat) (ts : List Tup), j ≤ nv ∧ i = .int .i64 (j : Nat) ∧ n' ≤ j ∧ Row wr bx 24 #[.int .i64 kk, .int .i64 cc, .int .i64 (n' : Nat), .slice A' m' c'] ∧ RowKit.Hid (SIn kk cc (n' : Nat) A' m' c' ts wr) ∧ RowKit.Hid (svalE kk cc (n' : Nat) ts = 0) ∧ (∀ ad, A' = some ad → ad.block ≠ bx) ∧ RowKit.Hid (Reads wr wr.heap.size 2 A3 nv (icells (vitems vs))) ∧ Below w.heap.size w wr) (fun i _ => nv - (intOf i).toNat)
  case atStart => exact ⟨0, 0, A1, m1, c1, [], by omega, rfl, by omega, X, Lib.hid hin3, Lib.hid V0, fx, R3, o3⟩
  case round =>
    clear X hin3 V0 fx R3 o3 rb3
    obtain ⟨j, n', A2, m2, c2, ts, hj, rfl, hn, X, L3, HV, f2, R, o4⟩ := hrel
    by_cases hlt : j < nv
    · have hjl : j < vs.length := by rw [HVL.out]; exact hlt
      have bv := HVB.out (vs.getD j 0) (by rw [List.getD_eq_getElem?_getD, List.getElem?_eq_getElem hjl]; exact List.getElem_mem hjl)
      obtain ⟨ad, rfl, hadb, hi0⟩ := R.out.itm hlt
      rw [vitems_at hjl] at hi0
      generalize vs.getD j 0 = v at hi0 bv
      obtain ⟨d0, d1⟩ := hi0
      simp only at d0 d1
      have KP := sinsert_keeps HV.out bv.1 bv.2 (show (n' : Int) < 1099511627776 by omega)
      have i1 : (j : Int) < (nv : Int) := by omega
      have i2 : (0 : Int) ≤ (j : Int) := by omega
      have zw := o4.size
      go_upto_region 8 with (fail)
      have Ki : Row (wr.alloc (.cells #[.int .i64 0, .int .i64 v] 41)) wr.heap.size 41 #[.int .i64 0, .int .i64 v] := row_new rfl
      have al := (Below.refl wr.heap.size wr).alloc (Nat.le_refl _) (.cells #[.int .i64 0, .int .i64 v] 41)
      generalize wr.alloc (.cells #[.int .i64 0, .int .i64 v] 41) = w4 at Ki al ⊢
      have X := row_call X al
      have zx4 := row_lt X
      have hin4 := L3.out.below al
      have R4 := (R.out.below al).more al.size
      have o5 := o4.trans (al.mono zw)
      generalize wr.heap.size = bi at Ki ⊢
      clear al d0 d1 o4 R L3
      obtain ⟨I0, I1, _, _⟩ := row_two Ki
      obtain ⟨X0, X1, X2, X3, X4, X5, X6, X7⟩ := row_four X
      have CI := pinsert kk cc (n' : Int) A2 m2 c2 ts v w4 hin4
      have V1 := of_svalE HV.out
      have l2 := hin4.len
      have z5 := o5.size
      rcases KP with ⟨ts', e5, hv5⟩ | ⟨e5, hfull⟩
      · rw [e5] at CI
        have CI := Lib.hid CI
        clear e5
        go_wp2_with fail
        refine CI.out.mono ?_
        intro e w5 hq
        obtain ⟨A5, m5, c5, rfl, hin5, hb5, hf5⟩ := sret_at rfl hq
        clear hq CI X0 X1 X2 X3 X4 X5 X6 X7 I0 I1
        have hz5 := hb5.size
        have X := row_call X hb5
        have R5 := (R4.below hb5).more hz5
        have o6 := o5.trans (hb5.mono z5)
        have fa := far hf5 zx4
        go_upto_region 9 with (fail)
        have Y : Row (w5.alloc (.cells #[.int .i64 kk, .int .i64 cc, .int .i64 ((n' : Int) + 1), .slice A5 m5 c5] 24)) w5.heap.size 24 #[.int .i64 kk, .int .i64 cc, .int .i64 ((n' : Int) + 1), .slice A5 m5 c5] := row_new rfl
        have al := (Below.refl w5.heap.size w5).alloc (Nat.le_refl _) (.cells #[.int .i64 kk, .int .i64 cc, .int .i64 ((n' : Int) + 1), .slice A5 m5 c5] 24)
        generalize w5.alloc (.cells #[.int .i64 kk, .int .i64 cc, .int .i64 ((n' : Int) + 1), .slice A5 m5 c5] 24) = w6 at Y al ⊢
        have X := row_call X al
        have hin6 := hin5.below al
        have R6 := (R5.below al).more al.size
        have o7 := o6.trans (al.mono o6.size)
        generalize w5.heap.size = by_ at Y ⊢
        clear al hin5 R5 o6 hb5 R4
        obtain ⟨X0, X1, X2, X3, X4, X5, X6, X7⟩ := row_four X
        obtain ⟨Y0, Y1, Y2, Y3, Y4, Y5, Y6, Y7⟩ := row_four Y
        have V5 := (of_svalE hv5).2.2.2.2.2.2.1
        rw [hin6.len] at V5
        have t1 : ¬ cc < (m5 : Int) := by omega
        go_upto_region 15 with (fail)
        have X := row_four_set (u0 := .int .i64 kk) (u1 := .int .i64 cc) (u2 := .int .i64 ((n' : Int) + 1)) (u3 := .slice A5 m5 c5) X
        have hin7 := hin6.row fa (.int .i64 kk) (.int .i64 cc) (.int .i64 ((n' : Int) + 1)) (.slice A5 m5 c5)
        have R7 := R6.row4 FA (.int .i64 kk) (.int .i64 cc) (.int .i64 ((n' : Int) + 1)) (.slice A5 m5 c5)
        have o8 := below_four o7 hz1 (.int .i64 kk) (.int .i64 cc) (.int .i64 ((n' : Int) + 1)) (.slice A5 m5 c5)
        have zz := size_four w6 bx (.int .i64 kk) (.int .i64 cc) (.int .i64 ((n' : Int) + 1)) (.slice A5 m5 c5)
        generalize ((((w6.setCell ⟨bx, 0, none⟩ (.int .i64 kk)).setCell ⟨bx, 1, none⟩ (.int .i64 cc)).setCell ⟨bx, 2, none⟩ (.int .i64 ((n' : Int) + 1))).setCell ⟨bx, 3, none⟩ (.slice A5 m5 c5)) = w7 at X hin7 R7 o8 zz ⊢
        rw [← zz] at R7
        clear X0 X1 X2 X3 X4 X5 X6 X7 Y0 Y1 Y2 Y3 Y4 Y5 Y6 Y7 hin6 R6 o7 zz
        obtain ⟨X0, X1, X2, X3, X4, X5, X6, X7⟩ := row_four X
        have PC := psval kk cc ((n' : Int) + 1) A5 m5 c5 ts' w7 hin7
        rw [hv5] at PC
        have PC := Lib.hid PC
        have ej : ((n' + 1 : Nat) : Int) = (n' : Int) + 1 := by omega
        go_wp2_with (go_at_call 19; refine (PC.out).mono ?_; rintro e w8 ⟨rfl, hb8⟩)
        go_roundw
        case rel => exact ⟨j + 1, n' + 1, A5, m5, c5, ts', by omega, by go_num, by omega, by rw [ej]; exact row_call X hb8, Lib.hid (by rw [ej]; exact hin7.below hb8), Lib.hid (by rw [ej]; exact hv5), fa, Lib.hid ((R7.below hb8).more hb8.size), o8.trans (hb8.mono o8.size)⟩
        case measure => simp [intOf]; omega
      · rw [e5] at CI
        have CI := Lib.hid CI
        clear e5
        go_wp2_with fail
        refine CI.out.mono ?_
        intro e w5 hq
        obtain ⟨A5, m5, c5, rfl, hin5, hb5, hf5⟩ := sret_at (show szero 5 = ⟨0, 0, 0, [], 5⟩ from rfl) hq
        clear hq CI X0 X1 X2 X3 X4 X5 X6 X7 I0 I1
        have hz5 := hb5.size
        have X := row_call X hb5
        have R5 := (R4.below hb5).more hz5
        have o6 := o5.trans (hb5.mono z5)
        have hin4 := hin4.below hb5
        go_upto_region 9 with (fail)
        have al := (Below.refl w5.heap.size w5).alloc (Nat.le_refl _) (.cells #[.int .i64 0, .int .i64 0, .int .i64 0, .slice A5 m5 c5] 24)
        generalize w5.alloc (.cells #[.int .i64 0, .int .i64 0, .int .i64 0, .slice A5 m5 c5] 24) = w6 at al ⊢
        have X := row_call X al
        have hin6 := hin4.below al
        have R6 := (R5.below al).more al.size
        have o7 := o6.trans (al.mono o6.size)
        clear al hin5 R5 o6 hb5 R4 hin4
        obtain ⟨X0, X1, X2, X3, X4, X5, X6, X7⟩ := row_four X
        rw [l2] at hfull
        have t0 : ¬ (m2 : Int) < cc := by omega
        have t1 : ¬ cc < (m2 : Int) := by omega
        have PC := psval kk cc (n' : Int) A2 m2 c2 ts w6 hin6
        rw [HV.out] at PC
        have PC := Lib.hid PC
        clear hfull
        go_wp2_with (go_at_call 19; refine (PC.out).mono ?_; rintro e w8 ⟨rfl, hb8⟩)
        go_roundw
        case rel => exact ⟨j + 1, n', A2, m2, c2, ts, by omega, by go_num, by omega, row_call X hb8, Lib.hid (hin6.below hb8), HV, f2, Lib.hid ((R6.below hb8).more hb8.size), o7.trans (hb8.mono o7.size)⟩
        case measure => simp [intOf]; omega
    · have i1 : ¬ (j : Int) < (nv : Int) := by omega
      have zw := o4.size
      go_wp2_with (go_at_call 13; refine (awake20 _).mono ?_; rintro e w10 ⟨rfl, hb10⟩)
      go_ret
      exact ⟨rfl, o4.trans (hb10.mono zw)⟩
end Go.Proofs.Ytdibjlphcmjnoaa
