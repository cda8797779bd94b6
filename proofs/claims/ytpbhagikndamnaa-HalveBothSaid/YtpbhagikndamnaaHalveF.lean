/- Counters that halve: the answer, walked. -/
import Derived.Test.YtpbhagikndamnaaHalveE
import Derived.Test.YtpbhagikndamnaaMathHalve4
import Derived.IntWalk
namespace Go.Proofs.Ytpbhagikndamnaa
open Go.RowKit Go.Shelf
/-- A fraction as a value. -/
abbrev FR (x y : Nat) : Value := .agg #[.int .u64 (hi x), .int .u64 (lo x), .int .u64 (hi y), .int .u64 (lo y)]
theorem wc_zero : (Wc 0 : Array Value) = #[.int .u64 0, .int .u64 0] := by rw [Wc, hi_0, lo_0]
theorem fr_zero : FR 0 0 = .agg #[.int .u64 0, .int .u64 0, .int .u64 0, .int .u64 0] := by rw [FR, hi_0, lo_0]
theorem phask_bad (now : Int) (A : Option Addr) (n c : Nat) (zs : List Int) (w : World) (hin : HIn now A n c zs w) (hv : hvalE now zs = 2) : Calls Try.prog 18 #[.agg #[.int .i64 now, .slice A n c]] w fun e w' => e = .returned (.tuple #[FR (hask now zs).num (hask now zs).den, .int .i64 (hask now zs).f]) ∧ Below w.heap.size w w' := by
  rw [hask_bad hv]
  show Calls _ _ _ _ fun e w' => e = .returned (.tuple #[FR 0 0, .int .i64 2]) ∧ Below w.heap.size w w'
  rw [fr_zero]
  have P := fun w1 (hb : Below w.heap.size w w1) => phval now A n c zs w1 ((hin.reads.below hb).more hb.size) hin.nowB hin.zsB hin.nB
  rw [hv] at P
  have P := Lib.hid P
  clear hv hin
  go_enter Try.func18, Try.ntmps18
  go_wp2_with (first | (go_at_call 20; with_reducible refine (P.out _ (by (repeat (first | exact Below.refl _ _ | refine Below.setCell ?_ (by first | (simp; done) | (simp; omega) | omega) _ | refine Below.alloc ?_ (by first | (simp; done) | (simp; omega) | omega) _ | refine Below.drew ?_ | refine Below.trans ?_ (Below.mono (by assumption) (by first | (simp; done) | (simp; omega) | omega)))))).mono ?_; rintro e w1 ⟨rfl, hb1⟩; have hz1 := hb1.size; (try simp at hz1); have o1 : Below w.heap.size w w1 := (by (repeat (first | exact Below.refl _ _ | refine Below.setCell ?_ (by first | (simp; done) | (simp; omega) | omega) _ | refine Below.alloc ?_ (by first | (simp; done) | (simp; omega) | omega) _ | refine Below.drew ?_ | refine Below.trans ?_ (Below.mono (by assumption) (by first | (simp; done) | (simp; omega) | omega))))); have q1_0 : w.heap.size < w1.heap.size := (by omega); have r1_0 : Row w1 (w.heap.size) 24 #[.int .i64 now, .slice A n c] := row_call (by (repeat (first | assumption | (refine row_new ?_; (first | (simp; done) | omega)) | refine row_alloc ?_ _ | refine row_drew ?_ | refine row_call ?_ (by assumption)))) hb1; obtain ⟨c1_0a, c1_0b, f1_0a, f1_0b⟩ := row_two r1_0; have q1_1 : w.heap.size + 1 < w1.heap.size := (by omega); have r1_1 : Row w1 (w.heap.size + 1) 37 #[.int .u64 0, .int .u64 0, .int .u64 0, .int .u64 0] := row_call (by (repeat (first | assumption | (refine row_new ?_; (first | (simp; done) | omega)) | refine row_alloc ?_ _ | refine row_drew ?_ | refine row_call ?_ (by assumption)))) hb1; obtain ⟨c1_1a, c1_1b, c1_1c, c1_1d, f1_1a, f1_1b, f1_1c, f1_1d⟩ := row_four r1_1))
  exact bodyPost_ret (v := .tuple #[.agg #[.int .u64 0, .int .u64 0, .int .u64 0, .int .u64 0], .int .i64 2]) (by simp [results, Try.results18, go_sem, c1_1a, c1_1b, c1_1c, c1_1d]) rfl ⟨rfl, by (repeat (first | exact Below.refl _ _ | refine Below.setCell ?_ (by first | (simp; done) | (simp; omega) | omega) _ | refine Below.alloc ?_ (by first | (simp; done) | (simp; omega) | omega) _ | refine Below.drew ?_ | refine Below.trans ?_ (Below.mono (by assumption) (by first | (simp; done) | (simp; omega) | omega))))⟩
theorem rhask_bad (now : Int) (A : Option Addr) (n c : Nat) (zs : List Int) (w : World) (hin : HIn now A n c zs w) (hv : hvalE now zs = 2) : Calls Try.prog 19 #[.agg #[.int .i64 now, .slice A n c]] w fun e w' => e = .returned (.tuple #[FR (hask now zs).num (hask now zs).den, .int .i64 (hask now zs).f]) ∧ Below w.heap.size w w' := by
  rw [hask_bad hv]
  show Calls _ _ _ _ fun e w' => e = .returned (.tuple #[FR 0 0, .int .i64 2]) ∧ Below w.heap.size w w'
  rw [fr_zero]
  have P := fun w1 (hb : Below w.heap.size w w1) => rhval now A n c zs w1 ((hin.reads.below hb).more hb.size) hin.nowB hin.zsB hin.nB
  rw [hv] at P
  have P := Lib.hid P
  clear hv hin
  go_enter Try.func19, Try.ntmps19
  go_wp2_with (first | (go_at_call 21; with_reducible refine (P.out _ (by (repeat (first | exact Below.refl _ _ | refine Below.setCell ?_ (by first | (simp; done) | (simp; omega) | omega) _ | refine Below.alloc ?_ (by first | (simp; done) | (simp; omega) | omega) _ | refine Below.drew ?_ | refine Below.trans ?_ (Below.mono (by assumption) (by first | (simp; done) | (simp; omega) | omega)))))).mono ?_; rintro e w1 ⟨rfl, hb1⟩; have hz1 := hb1.size; (try simp at hz1); have o1 : Below w.heap.size w w1 := (by (repeat (first | exact Below.refl _ _ | refine Below.setCell ?_ (by first | (simp; done) | (simp; omega) | omega) _ | refine Below.alloc ?_ (by first | (simp; done) | (simp; omega) | omega) _ | refine Below.drew ?_ | refine Below.trans ?_ (Below.mono (by assumption) (by first | (simp; done) | (simp; omega) | omega))))); have q1_0 : w.heap.size < w1.heap.size := (by omega); have r1_0 : Row w1 (w.heap.size) 24 #[.int .i64 now, .slice A n c] := row_call (by (repeat (first | assumption | (refine row_new ?_; (first | (simp; done) | omega)) | refine row_alloc ?_ _ | refine row_drew ?_ | refine row_call ?_ (by assumption)))) hb1; obtain ⟨c1_0a, c1_0b, f1_0a, f1_0b⟩ := row_two r1_0; have q1_1 : w.heap.size + 1 < w1.heap.size := (by omega); have r1_1 : Row w1 (w.heap.size + 1) 37 #[.int .u64 0, .int .u64 0, .int .u64 0, .int .u64 0] := row_call (by (repeat (first | assumption | (refine row_new ?_; (first | (simp; done) | omega)) | refine row_alloc ?_ _ | refine row_drew ?_ | refine row_call ?_ (by assumption)))) hb1; obtain ⟨c1_1a, c1_1b, c1_1c, c1_1d, f1_1a, f1_1b, f1_1c, f1_1d⟩ := row_four r1_1))
  exact bodyPost_ret (v := .tuple #[.agg #[.int .u64 0, .int .u64 0, .int .u64 0, .int .u64 0], .int .i64 2]) (by simp [results, Try.results19, go_sem, c1_1a, c1_1b, c1_1c, c1_1d]) rfl ⟨rfl, by (repeat (first | exact Below.refl _ _ | refine Below.setCell ?_ (by first | (simp; done) | (simp; omega) | omega) _ | refine Below.alloc ?_ (by first | (simp; done) | (simp; omega) | omega) _ | refine Below.drew ?_ | refine Below.trans ?_ (Below.mono (by assumption) (by first | (simp; done) | (simp; omega) | omega))))⟩
set_option maxHeartbeats 4000000 in
theorem phask_tail (now : Int) (A : Option Addr) (n c : Nat) (zs : List Int) (s dn : Nat) (w w2 : World) : True := trivial
set_option maxHeartbeats 4000000 in
theorem phask_ok (now : Int) (A : Option Addr) (n c : Nat) (zs : List Int) (w : World) (hin : HIn now A n c zs w) (hv : hvalE now zs = 0) : Calls Try.prog 18 #[.agg #[.int .i64 now, .slice A n c]] w fun e w' => e = .returned (.tuple #[FR (hask now zs).num (hask now zs).den, .int .i64 (hask now zs).f]) ∧ Below w.heap.size w w' := by
  have V := hvalid_of hv
  have hl := hin.len
  rw [hask_ok hv, hl]
  show Calls _ _ _ _ fun e w' => e = .returned (.tuple #[FR (hhorn zs n) (2 ^ (n - 1)), .int .i64 0]) ∧ Below w.heap.size w w'
  have P := fun w1 (hb : Below w.heap.size w w1) => phval now A n c zs w1 ((hin.reads.below hb).more hb.size) hin.nowB hin.zsB hin.nB
  rw [hv] at P
  have P := Lib.hid P
  have hlen1 : 1 ≤ n := by omega
  have hlen2 : n ≤ 64 := by omega
  have BX := Lib.hid (fun e (he : e < n) => V.2.2.2.2 e (by omega))
  have HR := Lib.hid hin
  have dB := pow_big hlen2
  have hdn : leftN 1 ((n : Int) - 1) = 2 ^ (n - 1) := by unfold leftN; rw [Nat.one_mul]; congr 1; omega
  have PD := fun w => pleft 1 ((n : Int) - 1) (by decide) ⟨by omega, by omega⟩ w
  have hly := left_yes (a := 1) (n := (n : Int) - 1) (by omega) (by rw [hdn]; exact Nat.lt_of_lt_of_le dB (by decide))
  rw [hly.1, hly.2, hdn] at PD
  have PD := Lib.hid PD
  generalize hdnn : 2 ^ (n - 1) = dn at PD ⊢
  have PO1 := Lib.hid (fun w => pof 1 (by decide) w)
  clear hv hin hl V hly hdn dB hdnn
  go_enter Try.func18, Try.ntmps18
  go_wp2_with (first | (go_at_call 20; with_reducible refine (P.out _ (by (repeat (first | exact Below.refl _ _ | refine Below.setCell ?_ (by first | (simp; done) | (simp; omega) | omega) _ | refine Below.alloc ?_ (by first | (simp; done) | (simp; omega) | omega) _ | refine Below.drew ?_ | refine Below.trans ?_ (Below.mono (by assumption) (by first | (simp; done) | (simp; omega) | omega)))))).mono ?_; rintro e w1 ⟨rfl, hb1⟩; have hz1 := hb1.size; (try simp at hz1); have o1 : Below w.heap.size w w1 := (by (repeat (first | exact Below.refl _ _ | refine Below.setCell ?_ (by first | (simp; done) | (simp; omega) | omega) _ | refine Below.alloc ?_ (by first | (simp; done) | (simp; omega) | omega) _ | refine Below.drew ?_ | refine Below.trans ?_ (Below.mono (by assumption) (by first | (simp; done) | (simp; omega) | omega))))); have q1_0 : w.heap.size < w1.heap.size := (by omega); have r1_0 : Row w1 (w.heap.size) 24 #[.int .i64 now, .slice A n c] := row_call (by (repeat (first | assumption | (refine row_new ?_; (first | (simp; done) | omega)) | refine row_alloc ?_ _ | refine row_drew ?_ | refine row_call ?_ (by assumption)))) hb1; obtain ⟨c1_0a, c1_0b, f1_0a, f1_0b⟩ := row_two r1_0; have q1_1 : w.heap.size + 1 < w1.heap.size := (by omega); have r1_1 : Row w1 (w.heap.size + 1) 37 #[.int .u64 0, .int .u64 0, .int .u64 0, .int .u64 0] := row_call (by (repeat (first | assumption | (refine row_new ?_; (first | (simp; done) | omega)) | refine row_alloc ?_ _ | refine row_drew ?_ | refine row_call ?_ (by assumption)))) hb1; obtain ⟨c1_1a, c1_1b, c1_1c, c1_1d, f1_1a, f1_1b, f1_1c, f1_1d⟩ := row_four r1_1))
  have L1 := row_alloc r1_0 (.cells #[.int .u64 0, .int .u64 0] 35)
  have L2 := row_alloc r1_1 (.cells #[.int .u64 0, .int .u64 0] 35)
  have L3 : Row (w1.alloc (.cells #[.int .u64 0, .int .u64 0] 35)) w1.heap.size 35 (Wc (hhorn zs 0)) := by
    rw [hhorn, wc_zero]
    exact row_new rfl
  have L4 := o1.alloc o1.size (.cells #[.int .u64 0, .int .u64 0] 35)
  have g51 : w1.heap.size ≠ w.heap.size := by omega
  have g52 : w1.heap.size ≠ w.heap.size + 1 := by omega
  have g53 : w.heap.size ≤ w1.heap.size := by omega
  generalize w1.alloc (.cells #[.int .u64 0, .int .u64 0] 35) = w2 at L1 L2 L3 L4 ⊢
  generalize w1.heap.size = g5 at L3 g51 g52 g53 ⊢
  clear P r1_0 r1_1 o1
  go_loopw [19] (fun i wr => ∃ k : Nat, k ≤ n ∧ i = .int .i64 (k : Nat) ∧ Row wr (w.heap.size) 24 #[.int .i64 now, .slice A n c] ∧ Row wr (w.heap.size + 1) 37 #[.int .u64 0, .int .u64 0, .int .u64 0, .int .u64 0] ∧ Row wr g5 35 (Wc (hhorn zs k)) ∧ Below w.heap.size w wr) (fun i _ => n - (intOf i).toNat)
  case atStart => exact ⟨0, by omega, rfl, L1, L2, L3, L4⟩
  case round =>
    obtain ⟨k, hk, rfl, L1, L2, L3, L4⟩ := hrel
    by_cases hlt : k < n
    · obtain ⟨ad, rfl, hadb, hcell0⟩ := HR.out.reads.num hlt
      have hcell := (L4.cell (by rw [block_of_add]; exact hadb)).trans hcell0
      have hb1 := BX.out k hlt
      have hb2 := hhorn_big BX.out hlen2 k hk
      have hst : hhorn zs (k + 1) = 2 * hhorn zs k + (zs.getD k 0).toNat := rfl
      obtain ⟨sn, hsn⟩ : ∃ sn : Nat, zs.getD k 0 = (sn : Int) := ⟨(zs.getD k 0).toNat, by omega⟩
      rw [hsn] at hcell hb1 hst
      rw [Int.toNat_natCast] at hst
      generalize hhorn zs k = s at L3 hb2 hst
      have hq : leftN s 1 = 2 * s := by unfold leftN; rw [show (1 : Int).toNat = 1 from rfl, Nat.pow_one, Nat.mul_comm]
      have PL := fun w => pleft s 1 (by unfold big; omega) ⟨by decide, by decide⟩ w
      have hly := left_yes (a := s) (n := 1) (by decide) (by rw [hq]; unfold big; omega)
      rw [hly.1, hly.2, hq] at PL
      have PA := fun w => padd_fits (2 * s) sn (by unfold big; omega) (by unfold big; omega) (by unfold big; omega) w
      rw [← hst] at PA
      generalize 2 * s = a at PL PA
      generalize hr0 : hhorn zs (k + 1) = r at PA
      have HRR := Lib.hid hr0
      have PL := Lib.hid PL
      have PA := Lib.hid PA
      have PO := Lib.hid (fun w => pof sn (by omega) w)
      obtain ⟨s1, s2⟩ := hb1
      have i1 : (k : Int) < (n : Int) := by omega
      obtain ⟨X0, X1, X2, X3⟩ := row_two L3
      clear hst hly hq hsn hcell0 hr0 hb2
      go_upto_region 9 with (go_at_call 34; refine (PL.out _).mono ?_; rintro e w5 ⟨rfl, hb5⟩; have hz5 := hb5.size; have r5 := row_call L3 hb5; have r5a := row_call L1 hb5; have r5b := row_call L2 hb5; have o5 := L4.trans (hb5.mono L4.size); obtain ⟨Y0, Y1, Y2, Y3⟩ := row_two r5)
      have wsn : IntKind.u64.wrap (sn : Int) = (sn : Int) := IntWalk.u64_in _ (by omega)
      have L : Row ((w5.setCell ⟨g5, 0, none⟩ (.int .u64 (hi a))).setCell ⟨g5, 1, none⟩ (.int .u64 (lo a))) (w.heap.size) 24 #[.int .i64 now, .slice (some ad) n c] ∧ Row ((w5.setCell ⟨g5, 0, none⟩ (.int .u64 (hi a))).setCell ⟨g5, 1, none⟩ (.int .u64 (lo a))) (w.heap.size + 1) 37 #[.int .u64 0, .int .u64 0, .int .u64 0, .int .u64 0] ∧ Row ((w5.setCell ⟨g5, 0, none⟩ (.int .u64 (hi a))).setCell ⟨g5, 1, none⟩ (.int .u64 (lo a))) g5 35 (Wc a) ∧ Below w.heap.size w ((w5.setCell ⟨g5, 0, none⟩ (.int .u64 (hi a))).setCell ⟨g5, 1, none⟩ (.int .u64 (lo a))) := ⟨row_two_other r5a g51.symm, row_two_other r5b g52.symm, row_two_set r5, (o5.setCell g53 _).setCell g53 _⟩
      generalize ((w5.setCell ⟨g5, 0, none⟩ (.int .u64 (hi a))).setCell ⟨g5, 1, none⟩ (.int .u64 (lo a))) = w8 at L ⊢
      clear L1 L2 L3 L4 r5 r5a r5b o5 hb5
      refine wp_region_free0 [0, 1, 2, 3, 4, 5, 7, 6] [7] [0, 1, 2, 3, 4, 5, 6] 8 (fun w' => Row w' (w.heap.size) 24 #[.int .i64 now, .slice (some ad) n c] ∧ Row w' (w.heap.size + 1) 37 #[.int .u64 0, .int .u64 0, .int .u64 0, .int .u64 0] ∧ Row w' g5 35 (Wc a) ∧ Below w.heap.size w w') (by kernel_rfl) (by kernel_rfl) (fun _ _ d _ _ h => by cases d <;> exact h) ?_ ?_
      · exact ⟨L.1, L.2.1, L.2.2.1, L.2.2.2.drew⟩
      (refine plan_val ?_ rfl rfl rfl (fun w' hS => ?_) ?_; rotate_left; (obtain ⟨A20, A21, A22, A23⟩ := row_two hS.2.2.1; go_simp; try with_reducible rfl); simp only [Act.put, List.setIfInBounds_toArray, List.set_cons_zero, List.set_cons_succ])
      (refine plan_pure ?_ rfl rfl (fun w' => ?_) ?_; rotate_left; (go_simp; try with_reducible rfl); simp only [Act.put, List.setIfInBounds_toArray, List.set_cons_zero, List.set_cons_succ])
      (refine plan_pure ?_ rfl rfl (fun w' => ?_) ?_; rotate_left; (go_simp; try with_reducible rfl); simp only [Act.put, List.setIfInBounds_toArray, List.set_cons_zero, List.set_cons_succ])
      refine plan_call (W sn) 36 #[.int .u64 (sn : Nat)] rfl rfl rfl (fun _ _ h hb => ⟨row_call h.1 hb, row_call h.2.1 hb, row_call h.2.2.1 hb, h.2.2.2.trans (hb.mono h.2.2.2.size)⟩) (fun w' hS => by obtain ⟨A20, A21, A22, A23⟩ := row_two hS.2.2.1; go_simp) (fun w' hS => PO.out w') ?_
      simp only [Act.put, List.setIfInBounds_toArray, List.set_cons_zero, List.set_cons_succ]
      refine plan_call (.tuple #[W r, .bool true]) 35 #[W a, W sn] rfl rfl rfl (fun _ _ h hb => ⟨row_call h.1 hb, row_call h.2.1 hb, row_call h.2.2.1 hb, h.2.2.2.trans (hb.mono h.2.2.2.size)⟩) (fun w' hS => by obtain ⟨A20, A21, A22, A23⟩ := row_two hS.2.2.1; go_simp) (fun w' hS => PA.out w') ?_
      simp only [Act.put, List.setIfInBounds_toArray, List.set_cons_zero, List.set_cons_succ]
      (refine plan_pure ?_ rfl rfl (fun w' => ?_) ?_; rotate_left; (go_simp; try with_reducible rfl); simp only [Act.put, List.setIfInBounds_toArray, List.set_cons_zero, List.set_cons_succ])
      (refine plan_pure ?_ rfl rfl (fun w' => ?_) ?_; rotate_left; (go_simp; try with_reducible rfl); simp only [Act.put, List.setIfInBounds_toArray, List.set_cons_zero, List.set_cons_succ])
      (refine plan_pure ?_ rfl rfl (fun w' => ?_) ?_; rotate_left; (go_simp; try with_reducible rfl); simp only [Act.put, List.setIfInBounds_toArray, List.set_cons_zero, List.set_cons_succ])
      refine plan_nil ?_
      intro w6 L6
      simp only [List.drop_succ_cons, List.drop_zero]
      try simp only [Act.put, List.setIfInBounds_toArray, List.set_cons_zero, List.set_cons_succ]

      obtain ⟨L7, L8, L9, L10⟩ := L6
      obtain ⟨X0, X1, X2, X3⟩ := row_two L9
      have L11 : Row ((w6.setCell ⟨g5, 0, none⟩ (.int .u64 (hi r))).setCell ⟨g5, 1, none⟩ (.int .u64 (lo r))) g5 35 (Wc (hhorn zs (k + 1))) := by rw [HRR.out]; exact row_two_set L9
      have L12 : Row ((w6.setCell ⟨g5, 0, none⟩ (.int .u64 (hi r))).setCell ⟨g5, 1, none⟩ (.int .u64 (lo r))) w.heap.size 24 #[.int .i64 now, .slice (some ad) n c] := row_two_other L7 g51.symm
      have L13 : Row ((w6.setCell ⟨g5, 0, none⟩ (.int .u64 (hi r))).setCell ⟨g5, 1, none⟩ (.int .u64 (lo r))) (w.heap.size + 1) 37 #[.int .u64 0, .int .u64 0, .int .u64 0, .int .u64 0] := row_two_other L8 g52.symm
      have L14 : Below w.heap.size w ((w6.setCell ⟨g5, 0, none⟩ (.int .u64 (hi r))).setCell ⟨g5, 1, none⟩ (.int .u64 (lo r))) := (L10.setCell g53 _).setCell g53 _
      clear L7 L8 L9 L10 L wsn
      go_wp2
      go_roundw
      case rel => exact ⟨k + 1, by omega, by go_num, L12, L13, L11, L14⟩
      case measure => simp [intOf]; omega
    · have i1 : ¬ (k : Int) < (n : Int) := by omega
      obtain rfl : k = n := by omega
      go_upto_region 11 with (fail)
      have wsn : IntKind.i64.wrap ((k : Int) - 1) = (k : Int) - 1 := IntWalk.i64_in _ (by omega)
      generalize hs0 : hhorn zs k = s at L3
      have HSS := Lib.hid hs0
      clear hs0
      have L : Row wr (w.heap.size) 24 #[.int .i64 now, .slice A k c] ∧ Row wr (w.heap.size + 1) 37 #[.int .u64 0, .int .u64 0, .int .u64 0, .int .u64 0] ∧ Row wr g5 35 (Wc s) ∧ Below w.heap.size w wr := ⟨L1, L2, L3, L4⟩
      have z1 := row_lt L1
      have z2 := row_lt L2
      have z3 := row_lt L3
      clear L1 L2 L3 L4
      refine wp_region_free1 [0, 1, 2, 3, 4, 5, 6, 8, 7] [8] [0, 1, 2, 3, 4, 5, 6, 7, 9] (9, 35, #[.int .u64 0, .int .u64 0]) 8 10 (fun w' => Row w' (w.heap.size) 24 #[.int .i64 now, .slice A k c] ∧ Row w' (w.heap.size + 1) 37 #[.int .u64 0, .int .u64 0, .int .u64 0, .int .u64 0] ∧ Row w' g5 35 (Wc s) ∧ Below w.heap.size w w') (by kernel_rfl) (by kernel_rfl) ⟨_, _, rfl, rfl, rfl, fun ρ w' => by go_simp⟩ rfl (by simp) (fun _ h => ⟨row_alloc h.1 _, row_alloc h.2.1 _, row_alloc h.2.2.1 _, h.2.2.2.alloc h.2.2.2.size _⟩) (fun _ _ d _ _ h => by cases d <;> exact h) ?_ ?_
      · exact ⟨L.1, L.2.1, L.2.2.1, L.2.2.2.drew⟩
      refine plan_call (W 1) 36 #[.int .u64 (1 : Nat)] rfl rfl rfl (fun _ _ h hb => ⟨row_call h.1 hb, row_call h.2.1 hb, row_call h.2.2.1 hb, h.2.2.2.trans (hb.mono h.2.2.2.size)⟩) (fun w' hS => by obtain ⟨A00, A01, A02, A03⟩ := row_two hS.1; go_simp) (fun w' hS => PO1.out w') ?_
      simp only [Act.put, List.setIfInBounds_toArray, List.set_cons_zero, List.set_cons_succ]
      (refine plan_pure ?_ rfl rfl (fun w' => ?_) ?_; rotate_left; (go_simp; try with_reducible rfl); simp only [Act.put, List.setIfInBounds_toArray, List.set_cons_zero, List.set_cons_succ])
      (refine plan_val ?_ rfl rfl rfl (fun w' hS => ?_) ?_; rotate_left; (obtain ⟨A00, A01, A02, A03⟩ := row_two hS.1; go_simp; try with_reducible rfl); simp only [Act.put, List.setIfInBounds_toArray, List.set_cons_zero, List.set_cons_succ])
      (refine plan_val ?_ rfl rfl rfl (fun w' hS => ?_) ?_; rotate_left; (obtain ⟨A00, A01, A02, A03⟩ := row_two hS.1; go_simp; try with_reducible rfl); simp only [Act.put, List.setIfInBounds_toArray, List.set_cons_zero, List.set_cons_succ])
      (refine plan_pure ?_ rfl rfl (fun w' => ?_) ?_; rotate_left; (go_simp; try with_reducible rfl); simp only [Act.put, List.setIfInBounds_toArray, List.set_cons_zero, List.set_cons_succ])
      refine plan_call (.tuple #[W dn, .bool true]) 34 #[W 1, .int .i64 ((k : Int) - 1)] rfl rfl rfl (fun _ _ h hb => ⟨row_call h.1 hb, row_call h.2.1 hb, row_call h.2.2.1 hb, h.2.2.2.trans (hb.mono h.2.2.2.size)⟩) (fun w' hS => by obtain ⟨A00, A01, A02, A03⟩ := row_two hS.1; go_simp) (fun w' hS => PD.out w') ?_
      simp only [Act.put, List.setIfInBounds_toArray, List.set_cons_zero, List.set_cons_succ]
      (refine plan_pure ?_ rfl rfl (fun w' => ?_) ?_; rotate_left; (go_simp; try with_reducible rfl); simp only [Act.put, List.setIfInBounds_toArray, List.set_cons_zero, List.set_cons_succ])
      (refine plan_pure ?_ rfl rfl (fun w' => ?_) ?_; rotate_left; (go_simp; try with_reducible rfl); simp only [Act.put, List.setIfInBounds_toArray, List.set_cons_zero, List.set_cons_succ])
      (refine plan_pure ?_ rfl rfl (fun w' => ?_) ?_; rotate_left; (go_simp; try with_reducible rfl); simp only [Act.put, List.setIfInBounds_toArray, List.set_cons_zero, List.set_cons_succ])
      refine plan_nil ?_
      intro g8 w7 L7 hr8 hg8
      simp only [List.drop_succ_cons, List.drop_zero]
      try simp only [Act.put, List.setIfInBounds_toArray, List.set_cons_zero, List.set_cons_succ]

      obtain ⟨L8, L9, L10, L11⟩ := L7
      have g81 : g8 ≠ w.heap.size := by omega
      have g82 : g8 ≠ w.heap.size + 1 := by omega
      have g83 : g8 ≠ g5 := by omega
      have g84 : w.heap.size ≤ g8 := by omega
      obtain ⟨Y0, Y1, Y2, Y3⟩ := row_two hr8
      go_upto_region 12 with (fail)
      have M1 := row_two_set (u := .int .u64 (hi dn)) (v := .int .u64 (lo dn)) hr8
      have M2 := row_two_other (u := .int .u64 (hi dn)) (v := .int .u64 (lo dn)) L10 g83.symm
      have M3 := row_two_other (u := .int .u64 (hi dn)) (v := .int .u64 (lo dn)) L9 g82.symm
      have M4 : Below w.heap.size w ((w7.setCell ⟨g8, 0, none⟩ (.int .u64 (hi dn))).setCell ⟨g8, 1, none⟩ (.int .u64 (lo dn))) := (L11.setCell g84 _).setCell g84 _
      generalize ((w7.setCell ⟨g8, 0, none⟩ (.int .u64 (hi dn))).setCell ⟨g8, 1, none⟩ (.int .u64 (lo dn))) = w9 at M1 M2 M3 M4 ⊢
      obtain ⟨A0, A1, _, _⟩ := row_two M1
      obtain ⟨B0, B1, _, _⟩ := row_two M2
      obtain ⟨C0, C1, C2, C3, D0, D1, D2, D3⟩ := row_four M3
      clear L8 L9 L10 L11 L hr8 Y0 Y1 Y2 Y3
      go_wp2
      exact bodyPost_ret (v := .tuple #[FR s dn, .int .i64 0]) (by simp [results, Try.results18, go_sem, C0, C1, C2, C3, FR]) rfl ⟨by rw [HSS.out], by (repeat (first | exact Below.refl _ _ | refine Below.setCell ?_ (by first | (simp; done) | (simp; omega) | omega) _ | refine Below.alloc ?_ (by first | (simp; done) | (simp; omega) | omega) _ | refine Below.drew ?_ | refine Below.trans ?_ (Below.mono (by assumption) (by first | (simp; done) | (simp; omega) | omega))))⟩
theorem phask (now : Int) (A : Option Addr) (n c : Nat) (zs : List Int) (w : World) (hin : HIn now A n c zs w) : Calls Try.prog 18 #[.agg #[.int .i64 now, .slice A n c]] w fun e w' => e = .returned (.tuple #[FR (hask now zs).num (hask now zs).den, .int .i64 (hask now zs).f]) ∧ Below w.heap.size w w' := by
  rcases hvalE_two (now := now) (zs := zs) with hv | hv
  · exact phask_ok now A n c zs w hin hv
  · exact phask_bad now A n c zs w hin hv
end Go.Proofs.Ytpbhagikndamnaa
