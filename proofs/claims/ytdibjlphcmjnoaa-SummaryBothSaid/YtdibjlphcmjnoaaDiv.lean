/- The long division of the program, walked. -/
import Derived.Test.YtdibjlphcmjnoaaWalkC
import Derived.Test.YtdibjlphcmjnoaaDivS
import Derived.Test.YtdibjlphcmjnoaaOrder
import Derived.Outline
import Derived.Lib.Hide
import Derived.Deep.Cut
set_option linter.unusedVariables false
set_option linter.unusedSimpArgs false
set_option linter.unusedSectionVars false
set_option linter.unnecessarySimpa false
namespace Go.Proofs.Ytdibjlphcmjnoaa
open Go.RowKit Go.Shelf
set_option maxHeartbeats 4000000 in
theorem pdiv_yes (a b : Nat) (ha : a < big) (hb : b < big) (h : b ≠ 0) (w : World) :
    Calls Try.prog 56 #[W a, W b] w fun e w' => e = .returned (.tuple #[W (a / b), W (a % b), .bool true]) ∧ Below w.heap.size w w' := by
  have hz : decide (b = 0) = false := by simpa using h
  have l0 := blenI_0 a
  have l1 := blenI_128 ha
  go_enter Try.func56, Try.ntmps56
  go_wp2_with (first | (go_at_call 63; refine (pzero b _).mono ?_; rintro e w1 ⟨rfl, hb1⟩; obtain ⟨hc1, hf1⟩ := bcell hb1; have hz1 := hb1.size; simp at hz1; have q1_0 : w.heap.size < w1.heap.size := (by omega); have q1_1 : w.heap.size + 1 < w1.heap.size := (by omega); have q1_2 : w.heap.size + 1 + 1 < w1.heap.size := (by omega); have q1_3 : w.heap.size + 1 + 1 + 1 < w1.heap.size := (by omega)) | (go_at_call 64; refine (pbits a ha _).mono ?_; rintro e w2 ⟨rfl, hb2⟩; obtain ⟨hc2, hf2⟩ := bcell hb2; have hz2 := hb2.size; simp at hz2; have q2_0 : w.heap.size < w2.heap.size := (by omega); have q2_1 : w.heap.size + 1 < w2.heap.size := (by omega); have q2_2 : w.heap.size + 1 + 1 < w2.heap.size := (by omega); have q2_3 : w.heap.size + 1 + 1 + 1 < w2.heap.size := (by omega); have q2_4 : w1.heap.size < w2.heap.size := (by omega); have q2_5 : w1.heap.size + 1 < w2.heap.size := (by omega)))
  have T0 := hi_0
  have T1 := lo_0
  have L : DivS w w2 (w.heap.size) (w.heap.size + 1) (w.heap.size + 1 + 1) (w.heap.size + 1 + 1 + 1) (w1.heap.size) (w1.heap.size + 1) a b 0 0 := by
    have j0 : Row w1 (w.heap.size) 87 (Wc a) := row_call (by (repeat (first | assumption | (refine row_new ?_; (first | (simp; done) | omega)) | refine row_alloc ?_ _ | refine row_drew ?_ | refine row_call ?_ (by assumption)))) hb1
    have j1 : Row w1 (w.heap.size + 1) 87 (Wc b) := row_call (by (repeat (first | assumption | (refine row_new ?_; (first | (simp; done) | omega)) | refine row_alloc ?_ _ | refine row_drew ?_ | refine row_call ?_ (by assumption)))) hb1
    have j2 : Row w1 (w.heap.size + 1 + 1) 87 #[.int .u64 0, .int .u64 0] := row_call (by (repeat (first | assumption | (refine row_new ?_; (first | (simp; done) | omega)) | refine row_alloc ?_ _ | refine row_drew ?_ | refine row_call ?_ (by assumption)))) hb1
    have j3 : Row w1 (w.heap.size + 1 + 1 + 1) 87 #[.int .u64 0, .int .u64 0] := row_call (by (repeat (first | assumption | (refine row_new ?_; (first | (simp; done) | omega)) | refine row_alloc ?_ _ | refine row_drew ?_ | refine row_call ?_ (by assumption)))) hb1
    have o2 : Below w.heap.size w w2 := by (repeat (first | exact Below.refl _ _ | refine Below.setCell ?_ (by first | (simp; done) | (simp; omega) | omega) _ | refine Below.alloc ?_ (by first | (simp; done) | (simp; omega) | omega) _ | refine Below.drew ?_ | refine Below.trans ?_ (Below.mono (by assumption) (by first | (simp; done) | (simp; omega) | omega))))
    refine ⟨row_call (by (repeat (first | assumption | (refine row_new ?_; (first | (simp; done) | omega)) | refine row_alloc ?_ _ | refine row_drew ?_ | refine row_call ?_ (by assumption)))) hb2, row_call (by (repeat (first | assumption | (refine row_new ?_; (first | (simp; done) | omega)) | refine row_alloc ?_ _ | refine row_drew ?_ | refine row_call ?_ (by assumption)))) hb2, row_call (by (repeat (first | assumption | (refine row_new ?_; (first | (simp; done) | omega)) | refine row_alloc ?_ _ | refine row_drew ?_ | refine row_call ?_ (by assumption)))) hb2, row_call (by (repeat (first | assumption | (refine row_new ?_; (first | (simp; done) | omega)) | refine row_alloc ?_ _ | refine row_drew ?_ | refine row_call ?_ (by assumption)))) hb2, row_call (w := (w1.alloc (.cells #[.int .u64 0, .int .u64 0] 87)).alloc (.cells #[.int .u64 0, .int .u64 0] 87)) ?_ hb2, row_call (w := (w1.alloc (.cells #[.int .u64 0, .int .u64 0] 87)).alloc (.cells #[.int .u64 0, .int .u64 0] 87)) ?_ hb2, by omega, by omega, by omega, by omega, by omega, by omega, by omega, by omega, by omega, by omega, by omega, o2⟩
    · rw [Wc, T0, T1]
      (repeat (first | assumption | (refine row_new ?_; (first | (simp; done) | omega)) | refine row_alloc ?_ _ | refine row_drew ?_ | refine row_call ?_ (by assumption)))
    · rw [Wc, T0, T1]
      (repeat (first | assumption | (refine row_new ?_; (first | (simp; done) | omega)) | refine row_alloc ?_ _ | refine row_drew ?_ | refine row_call ?_ (by assumption)))
  clear T0 T1 hc1 hf1 hc2 hf2 hb1 hb2
  go_loopw [9] (fun i wr => ∃ n : Nat, n ≤ blen a ∧ i = .int .i64 ((n : Int) - 1) ∧ DivS w wr (w.heap.size) (w.heap.size + 1) (w.heap.size + 1 + 1) (w.heap.size + 1 + 1 + 1) (w1.heap.size) (w1.heap.size + 1) a b (qat a b n) (rat a b n)) (fun i _ => (intOf i + 1).toNat)
  case atStart =>
    refine ⟨blen a, Nat.le_refl _, rfl, ?_⟩
    rw [qat_start (lt_blen ha), rat_start (lt_blen ha)]
    exact L
  case round =>
    clear L
    obtain ⟨n, hn, rfl, L⟩ := hrel
    rcases n with _ | k
    · rw [qat_0, rat_0] at L
      obtain ⟨A0, A1, _, _⟩ := row_two L.ra; obtain ⟨B0, B1, _, _⟩ := row_two L.rb; obtain ⟨Q0, Q1, U0, U1⟩ := row_two L.rq; obtain ⟨R0, R1, V0, V1⟩ := row_two L.rr
      obtain ⟨Z0, Z1, Z2, Z3⟩ := row_two L.r2
      obtain ⟨Y0, Y1, Y2, Y3⟩ := row_two L.r3
      have hx := L.below
      go_wp2
      go_region
      go_wp2
      simp [bodyPost, results, Try.results56, go_sem, Z0, Z1, Y0, Y1]
      (repeat (first | exact Below.refl _ _ | refine Below.setCell ?_ (by first | (simp; done) | (simp; omega) | omega) _ | refine Below.alloc ?_ (by first | (simp; done) | (simp; omega) | omega) _ | refine Below.drew ?_ | refine Below.trans ?_ (Below.mono (by assumption) (by first | (simp; done) | (simp; omega) | omega))))
    · have ei : (((k + 1 : Nat) : Int) - 1) = (k : Int) := by omega
      have C := pbit a k ha (by omega) (by have := blen_le ha; omega)
      rw [Int.toNat_natCast] at C
      rw [ei]
      have hk : k < 128 := by have := blen_le ha; omega
      have D0 := dig_0 a k
      have D1 := dig_1 a k
      have hrb : rat a b (k + 1) < big := Nat.lt_trans (rat_lt h) hb
      have hkn : k ≤ blen a := by omega
      have hqb : qat a b (k + 1) < big := Nat.lt_of_le_of_lt (qat_le a b (k + 1)) ha
      have HT := Lib.hid (takes (a := a) (k := k) h hb)
      have HE1 := Lib.hid (fun hge => step_one (k := k) ha h hb hge)
      have HE0 := Lib.hid (fun hlt => step_none (b := b) (k := k) ha hb hlt)
      generalize rat a b (k + 1) = r at *
      generalize qat a b (k + 1) = q at *
      have F1 := dbl_hi hrb D0 D1
      have F2 := dbl_lo (r := r) D0 D1
      have F3 := topd_eq r
      have F4 := dbl_hi (d := 0) hqb (by omega) (by omega)
      have F5 := dbl_lo0 q
      have HC := Lib.hid C
      clear ei C
      obtain ⟨A0, A1, _, _⟩ := row_two L.ra; obtain ⟨B0, B1, _, _⟩ := row_two L.rb; obtain ⟨Q0, Q1, U0, U1⟩ := row_two L.rq; obtain ⟨R0, R1, V0, V1⟩ := row_two L.rr
      go_upto_region 8 with (fail)
      refine wp_region_det 15 (fun w' => DivS w w' (w.heap.size) (w.heap.size + 1) (w.heap.size + 1 + 1) (w.heap.size + 1 + 1 + 1) (w1.heap.size) (w1.heap.size + 1) a b q r) (by kernel_rfl) (by kernel_rfl) L.drew ?_
      simp only [List.take_succ_cons, List.take_zero, List.drop_succ_cons, List.drop_zero]
      clear A0 A1 B0 B1 Q0 Q1 U0 U1 R0 R1 V0 V1
      repeat (first | refine wpDet_nil ?_ | (refine wpDet_val ?_ rfl (fun w' hS => ?_) ?_; rotate_left; (obtain ⟨A0, A1, _, _⟩ := row_two hS.ra; obtain ⟨B0, B1, _, _⟩ := row_two hS.rb; obtain ⟨Q0, Q1, U0, U1⟩ := row_two hS.rq; obtain ⟨R0, R1, V0, V1⟩ := row_two hS.rr; go_simp; try with_reducible rfl); simp only [Act.put, List.setIfInBounds_toArray, List.set_cons_zero, List.set_cons_succ]))
      refine wpDet_call (.int .u64 (dig a k)) 65 #[W a, .int .i64 k] rfl (fun w' hS => by go_simp) (fun w' hS => (HC.out w').mono fun e w'' ⟨he, hb⟩ => ⟨he, hS.call hb⟩) ?_
      simp only [Act.put, List.setIfInBounds_toArray, List.set_cons_zero, List.set_cons_succ]
      repeat (first | refine wpDet_nil ?_ | (refine wpDet_val ?_ rfl (fun w' hS => ?_) ?_; rotate_left; (obtain ⟨A0, A1, _, _⟩ := row_two hS.ra; obtain ⟨B0, B1, _, _⟩ := row_two hS.rb; obtain ⟨Q0, Q1, U0, U1⟩ := row_two hS.rq; obtain ⟨R0, R1, V0, V1⟩ := row_two hS.rr; go_simp; try with_reducible rfl); simp only [Act.put, List.setIfInBounds_toArray, List.set_cons_zero, List.set_cons_succ]))
      intro w3 L3
      clear L
      obtain ⟨A0, A1, _, _⟩ := row_two L3.ra; obtain ⟨B0, B1, _, _⟩ := row_two L3.rb; obtain ⟨Q0, Q1, U0, U1⟩ := row_two L3.rq; obtain ⟨R0, R1, V0, V1⟩ := row_two L3.rr
      go_upto_region 9 with (fail)
      clear A0 A1 B0 B1 Q0 Q1 U0 U1 R0 R1 V0 V1
      have L4 := L3.setr (dbl r (dig a k))
      generalize (w3.setCell ⟨w1.heap.size + 1, 0, none⟩ (.int .u64 (hi (dbl r (dig a k))))).setCell ⟨w1.heap.size + 1, 1, none⟩ (.int .u64 (lo (dbl r (dig a k)))) = w4 at L4 ⊢
      clear L3
      obtain ⟨A0, A1, _, _⟩ := row_two L4.ra; obtain ⟨B0, B1, _, _⟩ := row_two L4.rb; obtain ⟨Q0, Q1, U0, U1⟩ := row_two L4.rq; obtain ⟨R0, R1, V0, V1⟩ := row_two L4.rr
      go_upto_region 10 with (fail)
      clear A0 A1 B0 B1 Q0 Q1 U0 U1 R0 R1 V0 V1 F1 F2 F4
      have L5 := L4.setq (dbl q 0)
      generalize (w4.setCell ⟨w1.heap.size, 0, none⟩ (.int .u64 (hi (dbl q 0)))).setCell ⟨w1.heap.size, 1, none⟩ (.int .u64 (lo (dbl q 0))) = w5 at L5 ⊢
      clear L4 F3 F5
      have hxb := dbl_lt r (dig a k)
      generalize dbl r (dig a k) = x at *
      obtain ⟨A0, A1, _, _⟩ := row_two L5.ra; obtain ⟨B0, B1, _, _⟩ := row_two L5.rb; obtain ⟨Q0, Q1, U0, U1⟩ := row_two L5.rq; obtain ⟨R0, R1, V0, V1⟩ := row_two L5.rr
      have KK : {x0 : Nat // x0 = 0} := ⟨0, rfl⟩
      clear KK
      have S1 := subw_lo hxb hb
      have S2 := subw_hi hxb hb
      have S5 := @or_one q
      obtain ⟨e1, e2⟩ := hi_word hxb
      obtain ⟨e3, e4⟩ := lo_word x
      obtain ⟨e5, e6⟩ := hi_word hb
      obtain ⟨e7, e8⟩ := lo_word b
      have S3 := bor_0 (lo x) (lo b)
      have S4 := bor_1 (lo x) (lo b)
      have CM := Lib.hid (fun w' => pcmp_any x b w')
      rcases HT.out with ⟨ht, hge⟩ | ⟨⟨ht, hlt⟩, hnb⟩
      · obtain ⟨E1, E2⟩ := HE1.out hge
        have G1 := Lib.hid E1
        have G2 := Lib.hid E2
        clear E1 E2 hge HE1 HE0 HT
        rcases ht with ht | ⟨ht, hle⟩
        · go_upto_region 11 with (fail)
          go_upto_region 13 with (first | simp only [sub64_0 (lo x) (lo b) e3 e7 e8] | simp only [sub64 (hi x) (hi b) _ e1 e5 e6 S3 S4])
          clear A0 A1 B0 B1 Q0 Q1 U0 U1 R0 R1 V0 V1
          obtain ⟨A0, A1, _, _⟩ := row_two L5.ra; obtain ⟨B0, B1, _, _⟩ := row_two L5.rb; obtain ⟨Q0, Q1, U0, U1⟩ := row_two L5.rq; obtain ⟨R0, R1, V0, V1⟩ := row_two L5.rr
          go_upto_region 14 with (fail)
          have L7 := L5.setr (subw x b)
          generalize (w5.setCell ⟨w1.heap.size + 1, 0, none⟩ (.int .u64 (hi (subw x b)))).setCell ⟨w1.heap.size + 1, 1, none⟩ (.int .u64 (lo (subw x b))) = w7 at L7 ⊢
          clear L5 A0 A1 B0 B1 Q0 Q1 U0 U1 R0 R1 V0 V1 S1 S2 S3 S4
          obtain ⟨A0, A1, _, _⟩ := row_two L7.ra; obtain ⟨B0, B1, _, _⟩ := row_two L7.rb; obtain ⟨Q0, Q1, U0, U1⟩ := row_two L7.rq; obtain ⟨R0, R1, V0, V1⟩ := row_two L7.rr
          go_upto_region 6 with (fail)
          have L8 := L7.setq1 (dbl q 1) hi_one
          rw [G1.out, G2.out] at L8
          generalize hw8 : w7.setCell ⟨w1.heap.size, 1, none⟩ (.int .u64 (lo (dbl q 1))) = w8 at *
          rw [G2.out] at hw8
          rw [hw8] at L8
          clear L7 A0 A1 B0 B1 Q0 Q1 U0 U1 R0 R1 V0 V1 hw8
          go_wp2
          go_roundw
          case rel => exact ⟨k, hkn, by go_num, L8⟩
          case measure => first | (simp [intOf]; done) | (simp [intOf]; omega)
        · have hcm : ¬ cmp x b < 0 := by have := cmp_nonneg hle; omega
          go_upto_region 11 with ((go_at_call 66; refine (CM.out _).mono ?_; rintro e w6 ⟨rfl, hb6⟩))
          have L6 := L5.call hb6
          clear L5 A0 A1 B0 B1 Q0 Q1 U0 U1 R0 R1 V0 V1 hb6
          obtain ⟨w5, rfl⟩ : ∃ x : World, x = w6 := ⟨_, rfl⟩
          have L5 := L6
          clear L6
          obtain ⟨A0, A1, _, _⟩ := row_two L5.ra; obtain ⟨B0, B1, _, _⟩ := row_two L5.rb; obtain ⟨Q0, Q1, U0, U1⟩ := row_two L5.rq; obtain ⟨R0, R1, V0, V1⟩ := row_two L5.rr
          go_upto_region 13 with (first | simp only [sub64_0 (lo x) (lo b) e3 e7 e8] | simp only [sub64 (hi x) (hi b) _ e1 e5 e6 S3 S4])
          clear A0 A1 B0 B1 Q0 Q1 U0 U1 R0 R1 V0 V1
          obtain ⟨A0, A1, _, _⟩ := row_two L5.ra; obtain ⟨B0, B1, _, _⟩ := row_two L5.rb; obtain ⟨Q0, Q1, U0, U1⟩ := row_two L5.rq; obtain ⟨R0, R1, V0, V1⟩ := row_two L5.rr
          go_upto_region 14 with (fail)
          have L7 := L5.setr (subw x b)
          generalize (w5.setCell ⟨w1.heap.size + 1, 0, none⟩ (.int .u64 (hi (subw x b)))).setCell ⟨w1.heap.size + 1, 1, none⟩ (.int .u64 (lo (subw x b))) = w7 at L7 ⊢
          clear L5 A0 A1 B0 B1 Q0 Q1 U0 U1 R0 R1 V0 V1 S1 S2 S3 S4
          obtain ⟨A0, A1, _, _⟩ := row_two L7.ra; obtain ⟨B0, B1, _, _⟩ := row_two L7.rb; obtain ⟨Q0, Q1, U0, U1⟩ := row_two L7.rq; obtain ⟨R0, R1, V0, V1⟩ := row_two L7.rr
          go_upto_region 6 with (fail)
          have L8 := L7.setq1 (dbl q 1) hi_one
          rw [G1.out, G2.out] at L8
          generalize hw8 : w7.setCell ⟨w1.heap.size, 1, none⟩ (.int .u64 (lo (dbl q 1))) = w8 at *
          rw [G2.out] at hw8
          rw [hw8] at L8
          clear L7 A0 A1 B0 B1 Q0 Q1 U0 U1 R0 R1 V0 V1 hw8
          go_wp2
          go_roundw
          case rel => exact ⟨k, hkn, by go_num, L8⟩
          case measure => first | (simp [intOf]; done) | (simp [intOf]; omega)
      · have G3 := Lib.hid (HE0.out hnb)
        have CL := CM.out
        rw [cmp_lt hlt] at CL
        have CM := Lib.hid CL
        clear CL
        clear HE1 HE0 HT hnb hlt
        go_upto_region 6 with ((go_at_call 66; refine (CM.out _).mono ?_; rintro e w6 ⟨rfl, hb6⟩))
        have L6 := L5.call hb6
        rw [G3.out.1, G3.out.2] at L6
        clear L5 A0 A1 B0 B1 Q0 Q1 U0 U1 R0 R1 V0 V1 hb6
        go_wp2
        go_roundw
        case rel => exact ⟨k, hkn, by go_num, L6⟩
        case measure => first | (simp [intOf]; done) | (simp [intOf]; omega)
end Go.Proofs.Ytdibjlphcmjnoaa
