/- The long division of the reference, walked. -/
import Derived.Test.YtdibjlphcmjnoaaWalkC
import Derived.Test.YtdibjlphcmjnoaaDivS
import Derived.Test.YtdibjlphcmjnoaaFree
import Derived.Outline
import Derived.Lib.Hide
import Derived.Deep.Cut
set_option linter.unusedVariables false
set_option linter.unusedSimpArgs false
set_option linter.unusedSectionVars false
set_option linter.unnecessarySimpa false
namespace Go.Proofs.Ytdibjlphcmjnoaa
open Go.RowKit Go.Shelf
set_option maxHeartbeats 4000000 in
theorem rdiv_yes (a b : Nat) (ha : a < big) (hb : b < big) (h : b ≠ 0) (w : World) :
    Calls Try.prog 59 #[W a, W b] w fun e w' => e = .returned (.tuple #[W (a / b), W (a % b), .bool true]) ∧ Below w.heap.size w w' := by
  have hz : ∀ w' : World, (binOp .eql 87 (.agg #[.int .u64 (hi b), .int .u64 (lo b)]) (.agg #[.int .u64 0, .int .u64 0])).run Try.prog w' = .ok (.bool false) w' := fun w' => by
    go_simp
    exact fun h1 h2 => h (hi_inj (b := 0) h1 h2)
  go_enter Try.func59, Try.ntmps59
  go_upto_region 4 with (fail)
  have T0 := hi_0
  have T1 := lo_0
  have L : DivS w ((((((w.alloc (.cells (Wc a) 87)).alloc (.cells (Wc b) 87)).alloc (.cells #[.int .u64 0, .int .u64 0] 87)).alloc (.cells #[.int .u64 0, .int .u64 0] 87)).alloc (.cells #[.int .u64 0, .int .u64 0] 87)).alloc (.cells #[.int .u64 0, .int .u64 0] 87)) (w.heap.size) (w.heap.size + 1) (w.heap.size + 1 + 1) (w.heap.size + 1 + 1 + 1) (w.heap.size + 1 + 1 + 1 + 1) (w.heap.size + 1 + 1 + 1 + 1 + 1) a b 0 0 := by
    refine ⟨by (repeat (first | assumption | (refine row_new ?_; (first | (simp; done) | omega)) | refine row_alloc ?_ _ | refine row_drew ?_ | refine row_call ?_ (by assumption))), by (repeat (first | assumption | (refine row_new ?_; (first | (simp; done) | omega)) | refine row_alloc ?_ _ | refine row_drew ?_ | refine row_call ?_ (by assumption))), by (repeat (first | assumption | (refine row_new ?_; (first | (simp; done) | omega)) | refine row_alloc ?_ _ | refine row_drew ?_ | refine row_call ?_ (by assumption))), by (repeat (first | assumption | (refine row_new ?_; (first | (simp; done) | omega)) | refine row_alloc ?_ _ | refine row_drew ?_ | refine row_call ?_ (by assumption))), by unfold WB Wc; rw [T0, T1]; (repeat (first | assumption | (refine row_new ?_; (first | (simp; done) | omega)) | refine row_alloc ?_ _ | refine row_drew ?_ | refine row_call ?_ (by assumption))), by unfold WB Wc; rw [T0, T1]; (repeat (first | assumption | (refine row_new ?_; (first | (simp; done) | omega)) | refine row_alloc ?_ _ | refine row_drew ?_ | refine row_call ?_ (by assumption))), by omega, by omega, by omega, by omega, by omega, by omega, by omega, by omega, by omega, by omega, by omega, by (repeat (first | exact Below.refl _ _ | refine Below.setCell ?_ (by first | (simp; done) | (simp; omega) | omega) _ | refine Below.alloc ?_ (by first | (simp; done) | (simp; omega) | omega) _ | refine Below.drew ?_ | refine Below.trans ?_ (Below.mono (by assumption) (by first | (simp; done) | (simp; omega) | omega))))⟩
  generalize ((((((w.alloc (.cells (Wc a) 87)).alloc (.cells (Wc b) 87)).alloc (.cells #[.int .u64 0, .int .u64 0] 87)).alloc (.cells #[.int .u64 0, .int .u64 0] 87)).alloc (.cells #[.int .u64 0, .int .u64 0] 87)).alloc (.cells #[.int .u64 0, .int .u64 0] 87)) = w2 at L ⊢
  clear T0 T1 hz
  go_wp2_with fail
  go_loopw [9] (fun i wr => ∃ n : Nat, n ≤ 128 ∧ i = .int .i64 ((n : Int) - 1) ∧ DivS w wr (w.heap.size) (w.heap.size + 1) (w.heap.size + 1 + 1) (w.heap.size + 1 + 1 + 1) (w.heap.size + 1 + 1 + 1 + 1) (w.heap.size + 1 + 1 + 1 + 1 + 1) a b (qat a b n) (rat a b n)) (fun i _ => (intOf i + 1).toNat)
  case atStart =>
    refine ⟨128, Nat.le_refl _, rfl, ?_⟩
    have h128 : a < 2 ^ 128 := Nat.lt_of_lt_of_le ha (by decide)
    rw [qat_start h128, rat_start h128]
    exact L
  case round =>
    clear L
    obtain ⟨n, hn, rfl, L⟩ := hrel
    rcases n with _ | k
    · rw [qat_0, rat_0] at L
      obtain ⟨A0, A1, _, _⟩ := row_two L.ra; obtain ⟨B0, B1, _, _⟩ := row_two L.rb; obtain ⟨Q0, Q1, U0, U1⟩ := row_two L.rq; obtain ⟨R0, R1, V0, V1⟩ := row_two L.rr
      obtain ⟨Z0, Z1, Z2, Z3⟩ := row_two L.r2
      obtain ⟨Y0, Y1, Y2, Y3⟩ := row_two L.r3
      have hx := L.below
      go_wp2
      go_region
      go_wp2
      simp [bodyPost, results, Try.results59, go_sem, Z0, Z1, Y0, Y1]
      (repeat (first | exact Below.refl _ _ | refine Below.setCell ?_ (by first | (simp; done) | (simp; omega) | omega) _ | refine Below.alloc ?_ (by first | (simp; done) | (simp; omega) | omega) _ | refine Below.drew ?_ | refine Below.trans ?_ (Below.mono (by assumption) (by first | (simp; done) | (simp; omega) | omega))))
    · have ei : (((k + 1 : Nat) : Int) - 1) = (k : Int) := by omega
      have C := rbit a k ha (by omega) (by omega)
      rw [Int.toNat_natCast] at C
      rw [ei]
      have hk : k < 128 := by omega
      have D0 := dig_0 a k
      have D1 := dig_1 a k
      have hrb : rat a b (k + 1) < big := Nat.lt_trans (rat_lt h) hb
      have hkn : k ≤ 128 := by omega
      have hqb : qat a b (k + 1) < big := Nat.lt_of_le_of_lt (qat_le a b (k + 1)) ha
      have HT := Lib.hid (takes (a := a) (k := k) h hb)
      have HE1 := Lib.hid (fun hge => step_one (k := k) ha h hb hge)
      have HE0 := Lib.hid (fun hlt => step_none (b := b) (k := k) ha hb hlt)
      generalize rat a b (k + 1) = r at *
      generalize qat a b (k + 1) = q at *
      have HC := Lib.hid C
      clear ei C hn
      obtain ⟨A0, A1, _, _⟩ := row_two L.ra; obtain ⟨B0, B1, _, _⟩ := row_two L.rb; obtain ⟨Q0, Q1, U0, U1⟩ := row_two L.rq; obtain ⟨R0, R1, V0, V1⟩ := row_two L.rr
      go_upto_region 8 with (fail)
      clear A0 A1 B0 B1 Q0 Q1 U0 U1 R0 R1 V0 V1
      refine wp_region_free0 [0, 1, 2, 3, 4, 5, 7, 6] [7] [0, 1, 2, 3, 4, 5, 6] 8 (fun w' => DivS w w' (w.heap.size) (w.heap.size + 1) (w.heap.size + 1 + 1) (w.heap.size + 1 + 1 + 1) (w.heap.size + 1 + 1 + 1 + 1) (w.heap.size + 1 + 1 + 1 + 1 + 1) a b q r) (by kernel_rfl) (by kernel_rfl) (fun _ _ d _ _ h => by cases d <;> exact h) ?_ ?_
      · exact L.drew
      (refine plan_val ?_ rfl rfl rfl (fun w' hS => ?_) ?_; rotate_left; (obtain ⟨A0, A1, _, _⟩ := row_two hS.ra; obtain ⟨B0, B1, _, _⟩ := row_two hS.rb; obtain ⟨Q0, Q1, U0, U1⟩ := row_two hS.rq; obtain ⟨R0, R1, V0, V1⟩ := row_two hS.rr; go_simp; try with_reducible rfl); simp only [Act.put, List.setIfInBounds_toArray, List.set_cons_zero, List.set_cons_succ])
      (refine plan_val ?_ rfl rfl rfl (fun w' hS => ?_) ?_; rotate_left; (obtain ⟨A0, A1, _, _⟩ := row_two hS.ra; obtain ⟨B0, B1, _, _⟩ := row_two hS.rb; obtain ⟨Q0, Q1, U0, U1⟩ := row_two hS.rq; obtain ⟨R0, R1, V0, V1⟩ := row_two hS.rr; go_simp; try with_reducible rfl); simp only [Act.put, List.setIfInBounds_toArray, List.set_cons_zero, List.set_cons_succ])
      (refine plan_pure ?_ rfl rfl (fun w' => ?_) ?_; rotate_left; (go_simp; try with_reducible rfl); simp only [Act.put, List.setIfInBounds_toArray, List.set_cons_zero, List.set_cons_succ])
      refine plan_call (.int .u64 (dig a k)) 70 #[W a, .int .i64 k] rfl rfl rfl (fun w' w'' h hb => h.call hb) (fun w' hS => by obtain ⟨A0, A1, _, _⟩ := row_two hS.ra; obtain ⟨B0, B1, _, _⟩ := row_two hS.rb; obtain ⟨Q0, Q1, U0, U1⟩ := row_two hS.rq; obtain ⟨R0, R1, V0, V1⟩ := row_two hS.rr; go_simp) (fun w' hS => (HC.out w')) ?_
      simp only [Act.put, List.setIfInBounds_toArray, List.set_cons_zero, List.set_cons_succ]
      refine plan_call (.tuple #[W (dbl r (dig a k)), .int .u64 (topd r)]) 69 #[W r, .int .u64 (dig a k)] rfl rfl rfl (fun w' w'' h hb => h.call hb) (fun w' hS => by obtain ⟨A0, A1, _, _⟩ := row_two hS.ra; obtain ⟨B0, B1, _, _⟩ := row_two hS.rb; obtain ⟨Q0, Q1, U0, U1⟩ := row_two hS.rq; obtain ⟨R0, R1, V0, V1⟩ := row_two hS.rr; go_simp) (fun w' hS => rdouble r (dig a k) hrb D0 D1 w') ?_
      simp only [Act.put, List.setIfInBounds_toArray, List.set_cons_zero, List.set_cons_succ]
      (refine plan_pure ?_ rfl rfl (fun w' => ?_) ?_; rotate_left; (go_simp; try with_reducible rfl); simp only [Act.put, List.setIfInBounds_toArray, List.set_cons_zero, List.set_cons_succ])
      (refine plan_pure ?_ rfl rfl (fun w' => ?_) ?_; rotate_left; (go_simp; try with_reducible rfl); simp only [Act.put, List.setIfInBounds_toArray, List.set_cons_zero, List.set_cons_succ])
      (refine plan_pure ?_ rfl rfl (fun w' => ?_) ?_; rotate_left; (go_simp; try with_reducible rfl); simp only [Act.put, List.setIfInBounds_toArray, List.set_cons_zero, List.set_cons_succ])
      refine plan_nil ?_
      intro w3 L3
      simp only [List.drop_succ_cons, List.drop_zero]
      try simp only [Act.put, List.setIfInBounds_toArray, List.set_cons_zero, List.set_cons_succ]
      clear L
      obtain ⟨A0, A1, _, _⟩ := row_two L3.ra; obtain ⟨B0, B1, _, _⟩ := row_two L3.rb; obtain ⟨Q0, Q1, U0, U1⟩ := row_two L3.rq; obtain ⟨R0, R1, V0, V1⟩ := row_two L3.rr
      go_upto_region 9 with (fail)
      clear A0 A1 B0 B1 Q0 Q1 U0 U1 R0 R1 V0 V1
      have L5 := L3.setr (dbl r (dig a k))
      generalize (w3.setCell ⟨w.heap.size + 1 + 1 + 1 + 1 + 1, 0, none⟩ (.int .u64 (hi (dbl r (dig a k))))).setCell ⟨w.heap.size + 1 + 1 + 1 + 1 + 1, 1, none⟩ (.int .u64 (lo (dbl r (dig a k)))) = w5 at L5 ⊢
      clear L3
      have hxb := dbl_lt r (dig a k)
      generalize dbl r (dig a k) = x at *
      obtain ⟨A0, A1, _, _⟩ := row_two L5.ra; obtain ⟨B0, B1, _, _⟩ := row_two L5.rb; obtain ⟨Q0, Q1, U0, U1⟩ := row_two L5.rq; obtain ⟨R0, R1, V0, V1⟩ := row_two L5.rr
      have S1 := subw_lo hxb hb
      have S2 := subw_hi hxb hb
      obtain ⟨e1, e2⟩ := hi_word hxb
      obtain ⟨e3, e4⟩ := lo_word x
      obtain ⟨e5, e6⟩ := hi_word hb
      obtain ⟨e7, e8⟩ := lo_word b
      have S3 := bor_0 (lo x) (lo b)
      have S4 := bor_1 (lo x) (lo b)
      rcases HT.out with ⟨ht, hge⟩ | ⟨⟨ht, hlt⟩, hnb⟩
      · obtain ⟨E1, E2⟩ := HE1.out hge
        have G1 := Lib.hid E1
        have G2 := Lib.hid E2
        have DB := Lib.hid (fun w' => rdouble q 1 hqb (by omega) (by omega) w')
        clear E1 E2 hge HE1 HE0 HT HC D0 D1
        rcases ht with ht | ⟨ht, hle⟩
        · go_upto_region 11 with (fail)
          go_upto_region 13 with (first | simp only [sub64_0 (lo x) (lo b) e3 e7 e8] | simp only [sub64 (hi x) (hi b) _ e1 e5 e6 S3 S4])
          clear A0 A1 B0 B1 Q0 Q1 U0 U1 R0 R1 V0 V1
          obtain ⟨A0, A1, _, _⟩ := row_two L5.ra; obtain ⟨B0, B1, _, _⟩ := row_two L5.rb; obtain ⟨Q0, Q1, U0, U1⟩ := row_two L5.rq; obtain ⟨R0, R1, V0, V1⟩ := row_two L5.rr
          go_upto_region 14 with (fail)
          have L7 := L5.setr (subw x b)
          generalize (w5.setCell ⟨w.heap.size + 1 + 1 + 1 + 1 + 1, 0, none⟩ (.int .u64 (hi (subw x b)))).setCell ⟨w.heap.size + 1 + 1 + 1 + 1 + 1, 1, none⟩ (.int .u64 (lo (subw x b))) = w7 at L7 ⊢
          clear L5 A0 A1 B0 B1 Q0 Q1 U0 U1 R0 R1 V0 V1 S1 S2 S3 S4
          obtain ⟨A0, A1, _, _⟩ := row_two L7.ra; obtain ⟨B0, B1, _, _⟩ := row_two L7.rb; obtain ⟨Q0, Q1, U0, U1⟩ := row_two L7.rq; obtain ⟨R0, R1, V0, V1⟩ := row_two L7.rr
          go_wp2_with fail
          refine (DB.out _).mono ?_
          rintro e w8 ⟨rfl, hb8⟩
          have L8 := L7.call hb8
          clear L7 A0 A1 B0 B1 Q0 Q1 U0 U1 R0 R1 V0 V1 hb8
          obtain ⟨A0, A1, _, _⟩ := row_two L8.ra; obtain ⟨B0, B1, _, _⟩ := row_two L8.rb; obtain ⟨Q0, Q1, U0, U1⟩ := row_two L8.rq; obtain ⟨R0, R1, V0, V1⟩ := row_two L8.rr
          go_upto_region 6 with (fail)
          have L9 := L8.setq (dbl q 1)
          generalize (w8.setCell ⟨w.heap.size + 1 + 1 + 1 + 1, 0, none⟩ (.int .u64 (hi (dbl q 1)))).setCell ⟨w.heap.size + 1 + 1 + 1 + 1, 1, none⟩ (.int .u64 (lo (dbl q 1))) = w9 at L9 ⊢
          rw [G1.out, G2.out] at L9
          clear L8 A0 A1 B0 B1 Q0 Q1 U0 U1 R0 R1 V0 V1
          go_wp2
          go_roundw
          case rel => exact ⟨k, hkn, by go_num, L9⟩
          case measure => first | (simp [intOf]; done) | (simp [intOf]; omega)
        · have CL := fun w' => rcmp_any x b w'
          rcases Nat.lt_or_eq_of_le hle with hlt | hxe
          · rw [cmp_gt hlt] at CL
            have CM := Lib.hid CL
            clear CL hle hlt
            go_upto_region 11 with ((go_at_call 71; refine (CM.out _).mono ?_; rintro e w6 ⟨rfl, hb6⟩))
            have L6 := L5.call hb6
            clear L5 A0 A1 B0 B1 Q0 Q1 U0 U1 R0 R1 V0 V1 hb6
            obtain ⟨w5, rfl⟩ : ∃ x : World, x = w6 := ⟨_, rfl⟩
            have L5 := L6
            clear L6
            obtain ⟨A0, A1, _, _⟩ := row_two L5.ra; obtain ⟨B0, B1, _, _⟩ := row_two L5.rb; obtain ⟨Q0, Q1, U0, U1⟩ := row_two L5.rq; obtain ⟨R0, R1, V0, V1⟩ := row_two L5.rr
            go_upto_region 13 with (first | simp only [sub64_0 (lo x) (lo b) e3 e7 e8] | simp only [sub64 (hi x) (hi b) _ e1 e5 e6 S3 S4])
            clear A0 A1 B0 B1 Q0 Q1 U0 U1 R0 R1 V0 V1
            obtain ⟨A0, A1, _, _⟩ := row_two L5.ra; obtain ⟨B0, B1, _, _⟩ := row_two L5.rb; obtain ⟨Q0, Q1, U0, U1⟩ := row_two L5.rq; obtain ⟨R0, R1, V0, V1⟩ := row_two L5.rr
            go_upto_region 14 with (fail)
            have L7 := L5.setr (subw x b)
            generalize (w5.setCell ⟨w.heap.size + 1 + 1 + 1 + 1 + 1, 0, none⟩ (.int .u64 (hi (subw x b)))).setCell ⟨w.heap.size + 1 + 1 + 1 + 1 + 1, 1, none⟩ (.int .u64 (lo (subw x b))) = w7 at L7 ⊢
            clear L5 A0 A1 B0 B1 Q0 Q1 U0 U1 R0 R1 V0 V1 S1 S2 S3 S4
            obtain ⟨A0, A1, _, _⟩ := row_two L7.ra; obtain ⟨B0, B1, _, _⟩ := row_two L7.rb; obtain ⟨Q0, Q1, U0, U1⟩ := row_two L7.rq; obtain ⟨R0, R1, V0, V1⟩ := row_two L7.rr
            go_wp2_with fail
            refine (DB.out _).mono ?_
            rintro e w8 ⟨rfl, hb8⟩
            have L8 := L7.call hb8
            clear L7 A0 A1 B0 B1 Q0 Q1 U0 U1 R0 R1 V0 V1 hb8
            obtain ⟨A0, A1, _, _⟩ := row_two L8.ra; obtain ⟨B0, B1, _, _⟩ := row_two L8.rb; obtain ⟨Q0, Q1, U0, U1⟩ := row_two L8.rq; obtain ⟨R0, R1, V0, V1⟩ := row_two L8.rr
            go_upto_region 6 with (fail)
            have L9 := L8.setq (dbl q 1)
            generalize (w8.setCell ⟨w.heap.size + 1 + 1 + 1 + 1, 0, none⟩ (.int .u64 (hi (dbl q 1)))).setCell ⟨w.heap.size + 1 + 1 + 1 + 1, 1, none⟩ (.int .u64 (lo (dbl q 1))) = w9 at L9 ⊢
            rw [G1.out, G2.out] at L9
            clear L8 A0 A1 B0 B1 Q0 Q1 U0 U1 R0 R1 V0 V1
            go_wp2
            go_roundw
            case rel => exact ⟨k, hkn, by go_num, L9⟩
            case measure => first | (simp [intOf]; done) | (simp [intOf]; omega)
          · have c0 : cmp x b = 0 := by subst hxe; exact cmp_eq _
            rw [c0] at CL
            have CM := Lib.hid CL
            clear CL hle hxe c0
            go_upto_region 11 with ((go_at_call 71; refine (CM.out _).mono ?_; rintro e w6 ⟨rfl, hb6⟩))
            have L6 := L5.call hb6
            clear L5 A0 A1 B0 B1 Q0 Q1 U0 U1 R0 R1 V0 V1 hb6
            obtain ⟨w5, rfl⟩ : ∃ x : World, x = w6 := ⟨_, rfl⟩
            have L5 := L6
            clear L6
            obtain ⟨A0, A1, _, _⟩ := row_two L5.ra; obtain ⟨B0, B1, _, _⟩ := row_two L5.rb; obtain ⟨Q0, Q1, U0, U1⟩ := row_two L5.rq; obtain ⟨R0, R1, V0, V1⟩ := row_two L5.rr
            go_upto_region 13 with (first | simp only [sub64_0 (lo x) (lo b) e3 e7 e8] | simp only [sub64 (hi x) (hi b) _ e1 e5 e6 S3 S4])
            clear A0 A1 B0 B1 Q0 Q1 U0 U1 R0 R1 V0 V1
            obtain ⟨A0, A1, _, _⟩ := row_two L5.ra; obtain ⟨B0, B1, _, _⟩ := row_two L5.rb; obtain ⟨Q0, Q1, U0, U1⟩ := row_two L5.rq; obtain ⟨R0, R1, V0, V1⟩ := row_two L5.rr
            go_upto_region 14 with (fail)
            have L7 := L5.setr (subw x b)
            generalize (w5.setCell ⟨w.heap.size + 1 + 1 + 1 + 1 + 1, 0, none⟩ (.int .u64 (hi (subw x b)))).setCell ⟨w.heap.size + 1 + 1 + 1 + 1 + 1, 1, none⟩ (.int .u64 (lo (subw x b))) = w7 at L7 ⊢
            clear L5 A0 A1 B0 B1 Q0 Q1 U0 U1 R0 R1 V0 V1 S1 S2 S3 S4
            obtain ⟨A0, A1, _, _⟩ := row_two L7.ra; obtain ⟨B0, B1, _, _⟩ := row_two L7.rb; obtain ⟨Q0, Q1, U0, U1⟩ := row_two L7.rq; obtain ⟨R0, R1, V0, V1⟩ := row_two L7.rr
            go_wp2_with fail
            refine (DB.out _).mono ?_
            rintro e w8 ⟨rfl, hb8⟩
            have L8 := L7.call hb8
            clear L7 A0 A1 B0 B1 Q0 Q1 U0 U1 R0 R1 V0 V1 hb8
            obtain ⟨A0, A1, _, _⟩ := row_two L8.ra; obtain ⟨B0, B1, _, _⟩ := row_two L8.rb; obtain ⟨Q0, Q1, U0, U1⟩ := row_two L8.rq; obtain ⟨R0, R1, V0, V1⟩ := row_two L8.rr
            go_upto_region 6 with (fail)
            have L9 := L8.setq (dbl q 1)
            generalize (w8.setCell ⟨w.heap.size + 1 + 1 + 1 + 1, 0, none⟩ (.int .u64 (hi (dbl q 1)))).setCell ⟨w.heap.size + 1 + 1 + 1 + 1, 1, none⟩ (.int .u64 (lo (dbl q 1))) = w9 at L9 ⊢
            rw [G1.out, G2.out] at L9
            clear L8 A0 A1 B0 B1 Q0 Q1 U0 U1 R0 R1 V0 V1
            go_wp2
            go_roundw
            case rel => exact ⟨k, hkn, by go_num, L9⟩
            case measure => first | (simp [intOf]; done) | (simp [intOf]; omega)
      · have G3 := Lib.hid (HE0.out hnb)
        have DB := Lib.hid (fun w' => rdouble q 0 hqb (by omega) (by omega) w')
        have CL := fun w' => rcmp_any x b w'
        rw [cmp_lt hlt] at CL
        have CM := Lib.hid CL
        clear CL HE1 HE0 HT hnb hlt HC D0 D1
        go_upto_region 14 with ((go_at_call 71; refine (CM.out _).mono ?_; rintro e w6 ⟨rfl, hb6⟩))
        have L6 := L5.call hb6
        clear L5 A0 A1 B0 B1 Q0 Q1 U0 U1 R0 R1 V0 V1 hb6
        have L7 := L6
        clear L6
        obtain ⟨w7, rfl⟩ : ∃ x : World, x = w6 := ⟨_, rfl⟩
        obtain ⟨A0, A1, _, _⟩ := row_two L7.ra; obtain ⟨B0, B1, _, _⟩ := row_two L7.rb; obtain ⟨Q0, Q1, U0, U1⟩ := row_two L7.rq; obtain ⟨R0, R1, V0, V1⟩ := row_two L7.rr
        go_wp2_with fail
        refine (DB.out _).mono ?_
        rintro e w8 ⟨rfl, hb8⟩
        have L8 := L7.call hb8
        clear L7 A0 A1 B0 B1 Q0 Q1 U0 U1 R0 R1 V0 V1 hb8
        obtain ⟨A0, A1, _, _⟩ := row_two L8.ra; obtain ⟨B0, B1, _, _⟩ := row_two L8.rb; obtain ⟨Q0, Q1, U0, U1⟩ := row_two L8.rq; obtain ⟨R0, R1, V0, V1⟩ := row_two L8.rr
        go_upto_region 6 with (fail)
        have L9 := L8.setq (dbl q 0)
        generalize (w8.setCell ⟨w.heap.size + 1 + 1 + 1 + 1, 0, none⟩ (.int .u64 (hi (dbl q 0)))).setCell ⟨w.heap.size + 1 + 1 + 1 + 1, 1, none⟩ (.int .u64 (lo (dbl q 0))) = w9 at L9 ⊢
        rw [G3.out.1, G3.out.2] at L9
        clear L8 A0 A1 B0 B1 Q0 Q1 U0 U1 R0 R1 V0 V1
        go_wp2
        go_roundw
        case rel => exact ⟨k, hkn, by go_num, L9⟩
        case measure => first | (simp [intOf]; done) | (simp [intOf]; omega)
end Go.Proofs.Ytdibjlphcmjnoaa
