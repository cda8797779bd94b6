/- Counters that halve: the decayed sum of items by the reference, walked. -/
import Derived.Test.YtpbhagikndamnaaHalveL
import Derived.IntWalk
namespace Go.Proofs.Ytpbhagikndamnaa
open Go.RowKit Go.Shelf
set_option maxHeartbeats 4000000 in
theorem rhalve8 (a : Nat) (ha : 1 ≤ a) (ha2 : a ≤ 64) (now : Int) (hn0 : 0 ≤ now) (hn1 : now ≤ 16777216) (A : Option Addr) (m c : Nat) (l : List Itm) (w : World) (hr : Reads w w.heap.size 2 A m (icells l)) (hl : m ≤ 1000)
    (hv : ∀ x ∈ l, 0 ≤ x.v ∧ x.v ≤ 4096) (ht : ∀ x ∈ l, 0 ≤ x.t ∧ x.t ≤ now) :
    Calls Try.prog 26 #[.slice A m c, .int .i64 now, .int .i64 a] w fun e w' => e = .returned (.tuple #[FR (cwide a l now) (2 ^ (a - 1)), .bool true]) ∧ Below w.heap.size w w' := by
  have hlen := hr.itm_len
  have HL := Lib.hid hlen
  have HR := Lib.hid hr
  have HV := Lib.hid hv
  have HT := Lib.hid ht
  have dB := pow_big ha2
  have hdn : leftN 1 ((a : Int) - 1) = 2 ^ (a - 1) := by unfold leftN; rw [Nat.one_mul]; congr 1; omega
  have PD := fun w => rleft 1 ((a : Int) - 1) (by decide) ⟨by omega, by omega⟩ w
  have hly := left_yes (a := 1) (n := (a : Int) - 1) (by omega) (by rw [hdn]; exact Nat.lt_of_lt_of_le dB (by decide))
  rw [hly.1, hly.2, hdn] at PD
  have PD := Lib.hid PD
  generalize hdnn : 2 ^ (a - 1) = dn at PD ⊢
  have PO1 : RowKit.Hid (∀ w, Calls Try.prog 38 #[.int .u64 1] w fun e w' => e = .returned (W 1) ∧ Below w.heap.size w w') := Lib.hid (fun w => rof 1 (by decide) w)
  have wsn : IntKind.i64.wrap ((a : Int) - 1) = (a : Int) - 1 := IntWalk.i64_in _ (by omega)
  have a1 : ¬ (a : Int) < 1 := by omega
  have a2 : ¬ 64 < (a : Int) := by omega
  clear hlen hr hv ht hly hdn dB hdnn
  go_enter Try.func26, Try.ntmps26
  go_wp2_with (first | (go_at_call 29; refine (rtick_yes _ hn0 hn1 _).mono ?_; rintro e w9 ⟨rfl, rfl⟩) | (go_at_call 38; with_reducible refine (PO1.out _).mono ?_; rintro e w2 ⟨rfl, hb2⟩; have hz2 := hb2.size; (try simp at hz2); have o2 : Below w.heap.size w w2 := (by (repeat (first | exact Below.refl _ _ | refine Below.setCell ?_ (by first | (simp; done) | (simp; omega) | omega) _ | refine Below.alloc ?_ (by first | (simp; done) | (simp; omega) | omega) _ | refine Below.drew ?_ | refine Below.trans ?_ (Below.mono (by assumption) (by first | (simp; done) | (simp; omega) | omega))))); have q2_0 : w.heap.size < w2.heap.size := (by omega); have r2_0 : Row w2 (w.heap.size) 37 #[.int .u64 0, .int .u64 0, .int .u64 0, .int .u64 0] := row_call (by (repeat (first | assumption | (refine row_new ?_; (first | (simp; done) | omega)) | refine row_alloc ?_ _ | refine row_drew ?_ | refine row_call ?_ (by assumption)))) hb2; obtain ⟨c2_0a, c2_0b, c2_0c, c2_0d, f2_0a, f2_0b, f2_0c, f2_0d⟩ := row_four r2_0) | (go_at_call 37; with_reducible refine (PD.out _).mono ?_; rintro e w3 ⟨rfl, hb3⟩; have hz3 := hb3.size; (try simp at hz3); have o3 : Below w.heap.size w w3 := (by (repeat (first | exact Below.refl _ _ | refine Below.setCell ?_ (by first | (simp; done) | (simp; omega) | omega) _ | refine Below.alloc ?_ (by first | (simp; done) | (simp; omega) | omega) _ | refine Below.drew ?_ | refine Below.trans ?_ (Below.mono (by assumption) (by first | (simp; done) | (simp; omega) | omega))))); have q3_0 : w.heap.size < w3.heap.size := (by omega); have r3_0 : Row w3 (w.heap.size) 37 #[.int .u64 0, .int .u64 0, .int .u64 0, .int .u64 0] := row_call (by (repeat (first | assumption | (refine row_new ?_; (first | (simp; done) | omega)) | refine row_alloc ?_ _ | refine row_drew ?_ | refine row_call ?_ (by assumption)))) hb3; obtain ⟨c3_0a, c3_0b, c3_0c, c3_0d, f3_0a, f3_0b, f3_0c, f3_0d⟩ := row_four r3_0))
  have L1 := row_alloc (row_alloc r3_0 (.cells (Wc dn) 35)) (.cells #[.int .u64 0, .int .u64 0, .int .u64 (hi dn), .int .u64 (lo dn)] 37)
  have L3 : Row ((w3.alloc (.cells (Wc dn) 35)).alloc (.cells #[.int .u64 0, .int .u64 0, .int .u64 (hi dn), .int .u64 (lo dn)] 37)) (w3.heap.size + 1) 37 #[.int .u64 (hi (cwide a (l.take 0) now)), .int .u64 (lo (cwide a (l.take 0) now)), .int .u64 (hi dn), .int .u64 (lo dn)] := by
    rw [show cwide a (l.take 0) now = 0 from rfl, hi_0, lo_0]
    exact row_new (by simp)
  have L4 : Below w.heap.size w ((w3.alloc (.cells (Wc dn) 35)).alloc (.cells #[.int .u64 0, .int .u64 0, .int .u64 (hi dn), .int .u64 (lo dn)] 37)) := by (repeat (first | exact Below.refl _ _ | refine Below.setCell ?_ (by first | (simp; done) | (simp; omega) | omega) _ | refine Below.alloc ?_ (by first | (simp; done) | (simp; omega) | omega) _ | refine Below.drew ?_ | refine Below.trans ?_ (Below.mono (by assumption) (by first | (simp; done) | (simp; omega) | omega))))
  have g51 : w3.heap.size + 1 ≠ w.heap.size := by omega
  have g53 : w.heap.size ≤ w3.heap.size + 1 := by omega
  generalize (w3.alloc (.cells (Wc dn) 35)).alloc (.cells #[.int .u64 0, .int .u64 0, .int .u64 (hi dn), .int .u64 (lo dn)] 37) = w4 at L1 L3 L4 ⊢
  generalize w3.heap.size + 1 = g5 at L3 g51 g53 ⊢
  clear r2_0 o2 r3_0 o3 a1 a2
  go_loopw [38] (fun i wr => ∃ k : Nat, k ≤ m ∧ i = .int .i64 (k : Nat) ∧ Row wr w.heap.size 37 #[.int .u64 0, .int .u64 0, .int .u64 0, .int .u64 0] ∧ Row wr g5 37 #[.int .u64 (hi (cwide a (l.take k) now)), .int .u64 (lo (cwide a (l.take k) now)), .int .u64 (hi dn), .int .u64 (lo dn)] ∧ Below w.heap.size w wr) (fun i _ => m - (intOf i).toNat)
  case atStart => exact ⟨0, by omega, rfl, L1, L3, L4⟩
  case round =>
    clear L1 L3 L4
    obtain ⟨k, hk, rfl, L1, L3, L4⟩ := hrel
    by_cases hlt : k < m
    · obtain ⟨ad, rfl, hadb, ht0⟩ := HR.out.itm hlt
      obtain ⟨g0, g1⟩ := ht0.below L4 (by rw [block_of_add]; exact hadb)
      have kl : k < l.length := by rw [HL.out]; exact hlt
      have xm : itmAt l k ∈ l := by rw [← itm_eq kl]; exact List.getElem_mem kl
      have bv := HV.out _ xm
      have bt := HT.out _ xm
      have hst := cwide_step (a := a) (now := now) kl
      have hb2 := cwide_big (a := a) (now := now) (l := l.take k) ha2 (by rw [List.length_take]; omega) (fun x hx => HV.out x (List.mem_of_mem_take hx)) (fun x hx => (HT.out x (List.mem_of_mem_take hx)).2)
      have hb4 := cwide_big (a := a) (now := now) (l := l.take (k + 1)) ha2 (by rw [List.length_take]; omega) (fun x hx => HV.out x (List.mem_of_mem_take hx)) (fun x hx => (HT.out x (List.mem_of_mem_take hx)).2)
      generalize hs0 : cwide a (l.take k) now = s at L3 hb2 hst
      have HS0 := Lib.hid hs0
      generalize hr0 : cwide a (l.take (k + 1)) now = r at hst hb4
      have HRR := Lib.hid hr0
      have cno := cterm_no (a := a) (now := now) (x := itmAt l k)
      have cyes := cterm_yes (a := a) (now := now) (x := itmAt l k)
      generalize hct : cterm a now (itmAt l k) = y at hst cno cyes
      generalize (itmAt l k).t = tk at g0 bt cno cyes
      generalize (itmAt l k).v = vk at g1 bv cyes
      obtain ⟨bv0, bv1⟩ := bv
      obtain ⟨bt0, bt1⟩ := bt
      have n1 : ¬ vk < 0 := by omega
      have n2 : ¬ tk < 0 := by omega
      have n3 : ¬ now < tk := by omega
      have i1 : (k : Int) < (m : Int) := by omega
      have i2 : (0 : Int) ≤ (k : Int) := by omega
      have z1 := row_lt L1
      have z3 := row_lt L3
      have zw := L4.size
      by_cases hage : now - tk < (a : Int)
      · have hn1' : ¬ (a : Int) ≤ now - tk := by omega
        obtain ⟨sn, hsn⟩ : ∃ sn : Nat, vk = (sn : Int) := ⟨vk.toNat, by omega⟩
        have hq : leftN sn ((a : Int) - 1 - (now - tk)) = y := by
          rw [cyes hage, hsn]
          unfold leftN
          rw [Int.toNat_natCast]
          congr 2
          omega
        have PL := fun w => rleft sn ((a : Int) - 1 - (now - tk)) (by unfold big; omega) ⟨by omega, by omega⟩ w
        have hly := left_yes (a := sn) (n := (a : Int) - 1 - (now - tk)) (by omega) (by rw [hq]; unfold big; omega)
        rw [hly.1, hly.2, hq] at PL
        have PA := fun w => radd_fits s y (by unfold big; omega) (by unfold big; omega) (by unfold big; omega) w
        rw [← hst] at PA
        have PL := Lib.hid PL
        have PA := Lib.hid PA
        have PO := Lib.hid (fun w => rof sn (by omega) w)
        have wsk : IntKind.u64.wrap (sn : Int) = (sn : Int) := IntWalk.u64_in _ (by omega)
        have wsj : IntKind.i64.wrap ((a : Int) - 1 - (now - tk)) = (a : Int) - 1 - (now - tk) := IntWalk.i64_in _ (by omega)
        have wst : IntKind.i64.wrap (now - tk) = now - tk := IntWalk.i64_in _ (by omega)
        subst hsn
        clear hst hly hq cno cyes hct hs0 hr0 hb2 hb4 ht0 xm
        go_upto_region 11 with (fail)
        have K1 : Row (wr.alloc (.cells #[.int .i64 tk, .int .i64 (sn : Int)] 64)) wr.heap.size 64 #[.int .i64 tk, .int .i64 (sn : Int)] := row_new rfl
        have K2 := row_alloc L3 (.cells #[.int .i64 tk, .int .i64 (sn : Int)] 64)
        have K3 := row_alloc L1 (.cells #[.int .i64 tk, .int .i64 (sn : Int)] 64)
        have K4 := L4.alloc zw (.cells #[.int .i64 tk, .int .i64 (sn : Int)] 64)
        generalize wr.alloc (.cells #[.int .i64 tk, .int .i64 (sn : Int)] 64) = w6 at K1 K2 K3 K4 ⊢
        generalize wr.heap.size = ib at K1 z1 z3 ⊢
        have z6 := row_lt K1
        have L : Row w6 ib 64 #[.int .i64 tk, .int .i64 (sn : Int)] ∧ Row w6 g5 37 #[.int .u64 (hi s), .int .u64 (lo s), .int .u64 (hi dn), .int .u64 (lo dn)] ∧ Row w6 w.heap.size 37 #[.int .u64 0, .int .u64 0, .int .u64 0, .int .u64 0] ∧ Below w.heap.size w w6 := ⟨K1, K2, K3, K4⟩
        clear K1 K2 K3 K4 L1 L3 L4 g0 g1
        refine wp_region_free1 [0, 1, 2, 3, 4, 5, 6, 7, 8, 9, 10, 11, 12, 14, 13] [14] [0, 1, 2, 3, 4, 5, 6, 7, 8, 9, 10, 11, 12, 13, 15] (15, 35, #[.int .u64 0, .int .u64 0]) 13 16 (fun w' => Row w' ib 64 #[.int .i64 tk, .int .i64 (sn : Int)] ∧ Row w' g5 37 #[.int .u64 (hi s), .int .u64 (lo s), .int .u64 (hi dn), .int .u64 (lo dn)] ∧ Row w' w.heap.size 37 #[.int .u64 0, .int .u64 0, .int .u64 0, .int .u64 0] ∧ Below w.heap.size w w') (by kernel_rfl) (by kernel_rfl) ⟨_, _, rfl, rfl, rfl, fun ρ w' => by go_simp⟩ rfl (by simp) (fun _ h => ⟨row_alloc h.1 _, row_alloc h.2.1 _, row_alloc h.2.2.1 _, h.2.2.2.alloc h.2.2.2.size _⟩) (fun _ _ d _ _ h => by cases d <;> exact h) ?_ ?_
        · exact ⟨L.1, L.2.1, L.2.2.1, L.2.2.2.drew⟩
        (refine plan_pure ?_ rfl rfl (fun w' => ?_) ?_; rotate_left; (go_simp; try with_reducible rfl); simp only [Act.put, List.setIfInBounds_toArray, List.set_cons_zero, List.set_cons_succ])
        (refine plan_val ?_ rfl rfl rfl (fun w' hS => ?_) ?_; rotate_left; (obtain ⟨A00, A01, A02, A03⟩ := row_two hS.1; go_simp; try with_reducible rfl); simp only [Act.put, List.setIfInBounds_toArray, List.set_cons_zero, List.set_cons_succ])
        (refine plan_pure ?_ rfl rfl (fun w' => ?_) ?_; rotate_left; (go_simp; try with_reducible rfl); simp only [Act.put, List.setIfInBounds_toArray, List.set_cons_zero, List.set_cons_succ])
        refine plan_call (W sn) 38 #[.int .u64 (sn : Nat)] rfl rfl rfl (fun _ _ h hb => ⟨row_call h.1 hb, row_call h.2.1 hb, row_call h.2.2.1 hb, h.2.2.2.trans (hb.mono h.2.2.2.size)⟩) (fun w' hS => by obtain ⟨A00, A01, A02, A03⟩ := row_two hS.1; go_simp) (fun w' hS => PO.out w') ?_
        simp only [Act.put, List.setIfInBounds_toArray, List.set_cons_zero, List.set_cons_succ]
        (refine plan_pure ?_ rfl rfl (fun w' => ?_) ?_; rotate_left; (go_simp; try with_reducible rfl); simp only [Act.put, List.setIfInBounds_toArray, List.set_cons_zero, List.set_cons_succ])
        (refine plan_pure ?_ rfl rfl (fun w' => ?_) ?_; rotate_left; (go_simp; try with_reducible rfl); simp only [Act.put, List.setIfInBounds_toArray, List.set_cons_zero, List.set_cons_succ])
        (refine plan_pure ?_ rfl rfl (fun w' => ?_) ?_; rotate_left; (go_simp; try with_reducible rfl); simp only [Act.put, List.setIfInBounds_toArray, List.set_cons_zero, List.set_cons_succ])
        (refine plan_pure ?_ rfl rfl (fun w' => ?_) ?_; rotate_left; (go_simp; try with_reducible rfl); simp only [Act.put, List.setIfInBounds_toArray, List.set_cons_zero, List.set_cons_succ])
        (refine plan_val ?_ rfl rfl rfl (fun w' hS => ?_) ?_; rotate_left; (obtain ⟨A00, A01, A02, A03⟩ := row_two hS.1; go_simp; try with_reducible rfl); simp only [Act.put, List.setIfInBounds_toArray, List.set_cons_zero, List.set_cons_succ])
        (refine plan_pure ?_ rfl rfl (fun w' => ?_) ?_; rotate_left; (go_simp; try with_reducible rfl); simp only [Act.put, List.setIfInBounds_toArray, List.set_cons_zero, List.set_cons_succ])
        (refine plan_pure ?_ rfl rfl (fun w' => ?_) ?_; rotate_left; (go_simp; try with_reducible rfl); simp only [Act.put, List.setIfInBounds_toArray, List.set_cons_zero, List.set_cons_succ])
        refine plan_call (.tuple #[W y, .bool true]) 37 #[W sn, .int .i64 ((a : Int) - 1 - (now - tk))] rfl rfl rfl (fun _ _ h hb => ⟨row_call h.1 hb, row_call h.2.1 hb, row_call h.2.2.1 hb, h.2.2.2.trans (hb.mono h.2.2.2.size)⟩) (fun w' hS => by obtain ⟨A00, A01, A02, A03⟩ := row_two hS.1; go_simp) (fun w' hS => PL.out w') ?_
        simp only [Act.put, List.setIfInBounds_toArray, List.set_cons_zero, List.set_cons_succ]
        (refine plan_pure ?_ rfl rfl (fun w' => ?_) ?_; rotate_left; (go_simp; try with_reducible rfl); simp only [Act.put, List.setIfInBounds_toArray, List.set_cons_zero, List.set_cons_succ])
        (refine plan_pure ?_ rfl rfl (fun w' => ?_) ?_; rotate_left; (go_simp; try with_reducible rfl); simp only [Act.put, List.setIfInBounds_toArray, List.set_cons_zero, List.set_cons_succ])
        (refine plan_pure ?_ rfl rfl (fun w' => ?_) ?_; rotate_left; (go_simp; try with_reducible rfl); simp only [Act.put, List.setIfInBounds_toArray, List.set_cons_zero, List.set_cons_succ])
        refine plan_nil ?_
        intro g8 w7 L7 hr8 hg8
        simp only [List.drop_succ_cons, List.drop_zero]
        try simp only [Act.put, List.setIfInBounds_toArray, List.set_cons_zero, List.set_cons_succ]
        obtain ⟨K1, K2, K3, K4⟩ := L7
        clear L
        obtain ⟨Y0, Y1, Y2, Y3⟩ := row_two hr8
        have g81 : g8 ≠ w.heap.size := by omega
        have g83 : g8 ≠ g5 := by omega
        have g84 : w.heap.size ≤ g8 := by omega
        go_upto_region 12 with (fail)
        have M1 : Row ((w7.setCell ⟨g8, 0, none⟩ (.int .u64 (hi y))).setCell ⟨g8, 1, none⟩ (.int .u64 (lo y))) g8 35 (Wc y) := row_two_set hr8
        have M2 := row_two_other (u := .int .u64 (hi y)) (v := .int .u64 (lo y)) K2 g83.symm
        have M3 := row_two_other (u := .int .u64 (hi y)) (v := .int .u64 (lo y)) K3 g81.symm
        have M4 : Below w.heap.size w ((w7.setCell ⟨g8, 0, none⟩ (.int .u64 (hi y))).setCell ⟨g8, 1, none⟩ (.int .u64 (lo y))) := (K4.setCell g84 _).setCell g84 _
        generalize ((w7.setCell ⟨g8, 0, none⟩ (.int .u64 (hi y))).setCell ⟨g8, 1, none⟩ (.int .u64 (lo y))) = w8 at M1 M2 M3 M4 ⊢
        obtain ⟨A0, A1, _, _⟩ := row_two M1
        obtain ⟨B0, B1, B2, B3, C0, C1, C2, C3⟩ := row_four M2
        have zw8 := M4.size
        clear K1 K2 K3 K4 hr8 Y0 Y1 Y2 Y3 wsj wst
        go_wp2_with (go_at_call 39; with_reducible refine (PA.out _).mono ?_; rintro e w9 ⟨rfl, hb9⟩; have hz9 := hb9.size; have r9_0 : Row w9 g5 37 #[.int .u64 (hi s), .int .u64 (lo s), .int .u64 (hi dn), .int .u64 (lo dn)] := row_call M2 hb9; have r9_1 := row_call M3 hb9; have o9 := M4.trans (hb9.mono zw8); obtain ⟨E0, E1, E2, E3, D0, D1, D2, D3⟩ := row_four r9_0)
        go_roundw
        case rel => exact ⟨k + 1, by omega, by go_num, row_two_other r9_1 g51.symm, (by rw [HRR.out]; exact row_set (row_set r9_0 0 _) 1 _), (o9.setCell g53 _).setCell g53 _⟩
        case measure => simp [intOf]; omega
      · have hn1' : (a : Int) ≤ now - tk := by omega
        have hrs : r = s := by rw [hst, cno hn1']; rfl
        have HRS := Lib.hid hrs
        have K2 := row_alloc L3 (.cells #[.int .i64 tk, .int .i64 vk] 64)
        have K3 := row_alloc L1 (.cells #[.int .i64 tk, .int .i64 vk] 64)
        have K4 := L4.alloc zw (.cells #[.int .i64 tk, .int .i64 vk] 64)
        have wst : IntKind.i64.wrap (now - tk) = now - tk := IntWalk.i64_in _ (by omega)
        clear hst cno cyes hct hs0 hr0 hb2 hb4 ht0 xm hrs L1 L3 L4
        go_wp2
        go_roundw
        case rel => exact ⟨k + 1, by omega, by go_num, K3, (by rw [HRR.out, HRS.out]; exact K2), K4⟩
        case measure => simp [intOf]; omega
    · have i1 : ¬ (k : Int) < (m : Int) := by omega
      obtain rfl : k = m := by omega
      rw [List.take_of_length_le (by rw [HL.out]; exact Nat.le_refl _)] at L3
      generalize hs0 : cwide a l now = s at L3
      have HSS := Lib.hid hs0
      clear hs0
      obtain ⟨B0, B1, B2, B3, _, _, _, _⟩ := row_four L3
      obtain ⟨C0, C1, C2, C3, D0, D1, D2, D3⟩ := row_four L1
      go_wp2
      exact bodyPost_ret (v := .tuple #[FR s dn, .bool true]) (by simp [results, Try.results26, go_sem, C0, C1, C2, C3, FR]) rfl ⟨by rw [HSS.out], by (repeat (first | exact Below.refl _ _ | refine Below.setCell ?_ (by first | (simp; done) | (simp; omega) | omega) _ | refine Below.alloc ?_ (by first | (simp; done) | (simp; omega) | omega) _ | refine Below.drew ?_ | refine Below.trans ?_ (Below.mono (by assumption) (by first | (simp; done) | (simp; omega) | omega))))⟩
end Go.Proofs.Ytpbhagikndamnaa
