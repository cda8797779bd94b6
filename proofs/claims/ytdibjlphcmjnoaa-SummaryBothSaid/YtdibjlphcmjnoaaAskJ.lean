/- Summaries of a stream: a sound summary, walked. -/
import Derived.Test.YtdibjlphcmjnoaaAskI
set_option linter.unusedVariables false
set_option linter.unusedSimpArgs false
set_option linter.unusedSectionVars false
set_option linter.unnecessarySimpa false
namespace Go.Proofs.Ytdibjlphcmjnoaa
open Go.RowKit
set_option maxRecDepth 100000 in
set_option maxHeartbeats 8000000 in
theorem psound (kk cap : Int) (A : Option Addr) (m c : Nat) (ts : List Tup) (A3 : Option Addr) (nv c3 : Nat) (xs : List Int) (v : Int) (p q : Nat) (w : World) (hin : SIn kk cap (nv : Nat) A m c ts w) (hS : Sum kk xs cap ts) (rd : Reads w w.heap.size 2 A3 nv (icells (vitems xs))) (hl : xs.length = nv) (hnv : nv ≤ 1000) (q0 : 1 ≤ q) (pq : p ≤ q) (q1 : q ≤ 1000) :
    Calls Try.prog 33 #[.agg #[.int .i64 kk, .int .i64 cap, .int .i64 (nv : Nat), .slice A m c], .slice A3 nv c3, .int .i64 v, .int .i64 (p : Nat), .int .i64 (q : Nat)] w fun e w' => e = .returned (.bool true) ∧ Below w.heap.size w w' := by
  have hv := hS.val
  rw [hl] at hv
  have hlen := hin.len
  obtain ⟨k0, k1, cp0, cp1, n0, n1, mc, mz, mnz⟩ := of_svalE hv
  have mB : m ≤ 65536 := by rw [hlen] at mc; omega
  have hrk := hS.rank v
  rw [hl, hlen] at hrk
  have HK : EOK (nv : Nat) (ents ts m) := by rw [← hlen]; exact ents_ok hv
  have HN := HK.le n0 v
  obtain ⟨lo, hlo⟩ : ∃ lo : Nat, rkLo (ents ts m) v = (lo : Int) := ⟨(rkLo (ents ts m) v).toNat, by omega⟩
  obtain ⟨hi, hhi⟩ : ∃ hi : Nat, rkHi (nv : Nat) (ents ts m) v = (hi : Int) := ⟨(rkHi (nv : Nat) (ents ts m) v).toNat, by omega⟩
  rw [hlo, hhi] at hrk HN
  have PE := Lib.hid (fun w1 (hb : Below w.heap.size w w1) => pEntries_ok kk cap (nv : Nat) A m c ts w1 (hin.below hb) hv)
  have PV := fun w1 (hb : Below w.heap.size w w1) => psval kk cap (nv : Nat) A m c ts w1 (hin.below hb)
  rw [hv] at PV
  have PV := Lib.hid PV
  have PRK := fun w1 (hb : Below w.heap.size w w1) => pRank_ok kk cap (nv : Nat) A m c ts v lo hi w1 (hin.below hb) hv hlo hhi
  generalize (((lo + hi) / 2 : Nat) : Int) = md at PRK
  have PRK := Lib.hid PRK
  have EN := fun i (hi : i < m) => hS.ent (i := i) (by rw [hlen]; exact hi)
  rw [hlen] at EN
  obtain ⟨uu, ff, PQ, Q0, Q1⟩ : ∃ uu ff : Int, (∀ w1, Below w.heap.size w w1 → Calls Try.prog 29 #[.agg #[.int .i64 kk, .int .i64 cap, .int .i64 (nv : Nat), .slice A m c], .int .i64 (p : Nat), .int .i64 (q : Nat)] w1 fun e w' => e = .returned (.tuple #[.int .i64 uu, .int .i64 ff]) ∧ Below w1.heap.size w1 w') ∧ (nv = 0 → ff = 7) ∧ (nv ≠ 0 → ff = 0 ∧ ((blI xs uu : Nat) : Int) + 1 ≤ tgt p nv q + smost (nv : Nat) kk / 2 ∧ tgt p nv q - smost (nv : Nat) kk / 2 ≤ (rkI xs uu : Nat) ∧ blI xs uu < rkI xs uu) := by
    by_cases hz : nv = 0
    · exact ⟨0, 7, fun w1 hb => pQ_empty kk cap (nv : Nat) A m c ts p q hv (by omega) (by omega) (by omega) (by omega) w1 (hin.below hb), fun _ => rfl, fun h => absurd hz h⟩
    · obtain ⟨r0, r1⟩ := tgt_bound (p := p) (n := nv) q0 pq (by omega)
      have hqq := hS.quant (by omega) r0 (by rw [hl]; exact r1) rfl
      rw [hl, hlen] at hqq
      exact ⟨_, 0, fun w1 hb => pQ_ok kk cap (nv : Nat) A m c ts p q _ w1 (hin.below hb) hv q0 pq (by omega) (by omega) rfl, fun h => absurd h hz, fun _ => ⟨rfl, by rw [Int.toNat_natCast]; exact hqq⟩⟩
  have PQ := Lib.hid PQ
  have hx : ∀ i, i < nv → (itmAt (vitems xs) i).v = xs.getD i 0 := fun i hi => by rw [vitems_at (by rw [hl]; exact hi)]
  have PB := fun u w1 (hr : Reads w1 w1.heap.size 2 A3 nv (icells (vitems xs))) => rbel8 A3 nv c3 (vitems xs) xs u w1 hr hl hx (by omega)
  have PR := fun u w1 (hr : Reads w1 w1.heap.size 2 A3 nv (icells (vitems xs))) => rrank8 A3 nv c3 (vitems xs) xs u w1 hr hl hx (by omega)
  have BL := Lib.hid (fun u => (by rw [← hl]; exact ⟨blI_le xs u, rkI_le xs u⟩ : blI xs u ≤ nv ∧ rkI xs u ≤ nv))
  have PT : nv ≠ 0 → ∀ w1, _ := fun h w1 => rtarget nv p q q0 pq (by omega) (by omega) (by omega) w1
  have TB : nv ≠ 0 → 1 ≤ tgt p nv q ∧ tgt p nv q ≤ nv := fun h => tgt_bound q0 pq (by omega)
  have HX : smost (nv : Nat) kk = max 1 ((nv : Int) / kk) := rfl
  have hd : (nv : Int) / kk ≤ nv := Int.ediv_le_self _ (by omega)
  have hd0 : 0 ≤ (nv : Int) / kk := Int.ediv_nonneg (by omega) (by omega)
  have ht : (nv : Int).tdiv kk = (nv : Int) / kk := Int.tdiv_eq_ediv_of_nonneg (by omega)
  generalize (nv : Int) / kk = qd at HX hd hd0 ht
  have wq : IntKind.i64.wrap qd = qd := IntWalk.i64_in _ (by omega)
  generalize smost (nv : Nat) kk = M at hrk Q1 HX
  have HM : RowKit.Hid (max 1 qd = M) := Lib.hid HX.symm
  have MB : 1 ≤ M ∧ M ≤ 1000 := by omega
  have kz : ¬ kk = 0 := by omega
  have kzb : (kk == 0) = false := by simpa using kz
  generalize tgt p nv q = tg at Q1 PT TB
  have PB := Lib.hid PB
  have PR := Lib.hid PR
  have PT := Lib.hid PT
  have Q0 := Lib.hid Q0
  have Q1 := Lib.hid Q1
  have TB := Lib.hid TB
  have EN := Lib.hid EN
  have HB := Lib.hid (fun j (hj : j < m) => HK.b j (by rw [ents_len]; exact hj))
  generalize ents ts m = es at PE EN HB
  generalize hr8 : rkI xs v = r8 at hrk
  have HR8 := Lib.hid hr8
  have r8b : r8 ≤ nv := by rw [← hr8]; exact (BL.out v).2
  clear hv hlen mc mz mnz hl hx HX hlo hhi HK hin hS hr8 n0 n1 cp0 cp1 q1
  go_enter Try.func33, Try.ntmps33
  go_upto_region 1 with (fail)
  have x : Row (w.alloc (.cells #[.int .i64 kk, .int .i64 cap, .int .i64 (nv : Nat), .slice A m c] 24)) w.heap.size 24 #[.int .i64 kk, .int .i64 cap, .int .i64 (nv : Nat), .slice A m c] := row_new rfl
  have o : Below w.heap.size w (w.alloc (.cells #[.int .i64 kk, .int .i64 cap, .int .i64 (nv : Nat), .slice A m c] 24)) := by (repeat (first | exact Below.refl _ _ | refine Below.setCell ?_ (by first | (simp; done) | (simp; omega) | omega) _ | refine Below.alloc ?_ (by first | (simp; done) | (simp; omega) | omega) _ | refine Below.drew ?_ | refine Below.trans ?_ (Below.mono (by assumption) (by first | (simp; done) | (simp; omega) | omega))))
  replace rd := (rd.alloc (Nat.le_refl _) (.cells #[.int .i64 kk, .int .i64 cap, .int .i64 (nv : Nat), .slice A m c] 24)).more (show _ ≤ (w.alloc (.cells #[.int .i64 kk, .int .i64 cap, .int .i64 (nv : Nat), .slice A m c] 24)).heap.size by simp)
  generalize w.alloc (.cells #[.int .i64 kk, .int .i64 cap, .int .i64 (nv : Nat), .slice A m c] 24) = w1 at x o rd ⊢
  obtain ⟨X0, X1, X2, X3, Xf0, Xf1, Xf2, Xf3⟩ := row_four x
  go_wp2_with fail
  refine (PE.out _ o).mono ?_
  rintro e w2 ⟨v2, rfl, own2, hb2⟩
  obtain ⟨A2, c2, rfl, rd2, _, _, _⟩ := orow_forms own2
  clear own2 X0 X1 X2 X3 Xf0 Xf1 Xf2 Xf3
  have z_hb2 := hb2.size
  replace x := row_call x hb2
  replace rd := (rd.below hb2).more hb2.size
  replace o := o.trans (hb2.mono o.size)
  clear hb2
  obtain ⟨X0, X1, X2, X3, Xf0, Xf1, Xf2, Xf3⟩ := row_four x
  go_upto_region 5 with (go_at_call 19; refine (PV.out _ o).mono ?_; rintro e w3 ⟨rfl, hb3⟩)
  clear X0 X1 X2 X3 Xf0 Xf1 Xf2 Xf3 PV PE
  have z_hb3 := hb3.size
  replace x := row_call x hb3
  replace rd := (rd.below hb3).more hb3.size
  replace rd2 := (rd2.below hb3).more hb3.size
  replace o := o.trans (hb3.mono o.size)
  clear hb3
  obtain ⟨X0, X1, X2, X3, Xf0, Xf1, Xf2, Xf3⟩ := row_four x
  go_upto_region 6 with (fail)
  rw [HM.out]
  clear X0 X1 X2 X3 Xf0 Xf1 Xf2 Xf3
  have RD := Lib.hid rd
  have RD2 := Lib.hid rd2
  have RX := Lib.hid x
  have b := Below.refl w3.heap.size w3
  clear rd rd2 x ht wq
  go_wp2
  go_loopw [50] (fun i wr => ∃ j : Nat, j ≤ m ∧ i = .int .i64 (j : Nat) ∧ Below w3.heap.size w3 wr) (fun i _ => m - (intOf i).toNat)
  case atStart => exact ⟨0, by omega, rfl, b⟩
  case round =>
    clear b
    obtain ⟨j, hj, rfl, b⟩ := hrel
    by_cases hlt : j < m
    · obtain ⟨ad, rfl, hadb, ht0⟩ := ent_at RD2.out hlt
      have hb1 := HB.out j hlt
      obtain ⟨en1, en2, _⟩ := EN.out j hlt
      generalize tupAt es j = e1 at ht0 hb1 en1 en2
      obtain ⟨ev, eg, ed⟩ := e1
      dsimp only at hb1 en1 en2
      obtain ⟨bl1, bl2⟩ := BL.out ev
      have PB1 := fun w1 (hb : Below w3.heap.size w3 w1) => PB.out ev w1 ((RD.out.below hb).more hb.size)
      have PR1 := fun w1 (hb : Below w3.heap.size w3 w1) => PR.out ev w1 ((RD.out.below hb).more hb.size)
      generalize blI xs ev = bb at PB1 en1 bl1
      generalize rkI xs ev = rr at PR1 en2 bl2
      obtain ⟨p0, p1, p2⟩ := ht0.below b (by rw [block_of_add]; exact hadb)
      dsimp only at p0 p1 p2
      have i1 : (j : Int) < (m : Int) := by omega
      have i2 : (0 : Int) ≤ (j : Int) := by omega
      have wb : IntKind.i64.wrap ((bb : Int) + 1) = (bb : Int) + 1 := IntWalk.i64_in _ (by omega)
      have g1 : ¬ ed < (bb : Int) + 1 := by omega
      have g2 : ¬ (rr : Int) < eg := by omega
      have g3 : decide (ed < (bb : Int) + 1) = false := decide_eq_false g1
      have g4 : decide ((rr : Int) < eg) = false := decide_eq_false g2
      clear ht0 hb1
      go_upto_region 9 with (fail)
      have ti : Row (wr.alloc (.cells #[.int .i64 ev, .int .i64 eg, .int .i64 ed] 56)) wr.heap.size 56 #[.int .i64 ev, .int .i64 eg, .int .i64 ed] := row_new rfl
      have zr := b.size
      replace b := b.alloc b.size (.cells #[.int .i64 ev, .int .i64 eg, .int .i64 ed] 56)
      generalize wr.alloc (.cells #[.int .i64 ev, .int .i64 eg, .int .i64 ed] 56) = w7 at b ti ⊢
      generalize wr.heap.size = tb at ti zr ⊢
      clear p0 p1 p2
      have PB1 := Lib.hid (fun w1 (hb : Below w7.heap.size w7 w1) => PB1 w1 (b.trans (hb.mono b.size)))
      have PR1 := Lib.hid (fun w1 (hb : Below w7.heap.size w7 w1) => PR1 w1 (b.trans (hb.mono b.size)))
      obtain ⟨T0, T1, T2, Tf0, Tf1, Tf2⟩ := row_three ti
      refine wp_region_free0 [0, 1, 2, 3, 4, 5, 6, 7, 8, 9, 10, 11, 12, 13, 14, 15] [] [0, 1, 2, 3, 4, 5, 6, 7, 8, 9, 10, 11, 12, 13, 14, 15] 16 (fun w' => Below w7.heap.size w7 w') (by kernel_rfl) (by kernel_rfl) (fun _ _ d _ _ h => by cases d <;> exact h) ?_ ?_
      · exact (Below.refl _ _).drew
      (refine plan_pure ?_ rfl rfl (fun w' => ?_) ?_; rotate_left; (go_simp; try with_reducible rfl); simp only [Act.put, List.setIfInBounds_toArray, List.set_cons_zero, List.set_cons_succ])
      (refine plan_pure ?_ rfl rfl (fun w' => ?_) ?_; rotate_left; (go_simp; try with_reducible rfl); simp only [Act.put, List.setIfInBounds_toArray, List.set_cons_zero, List.set_cons_succ])
      (refine plan_val ?_ rfl rfl rfl (fun w' hS => ?_) ?_; rotate_left; (obtain ⟨T0, T1, T2, Tf0, Tf1, Tf2⟩ := row_three (row_call ti hS); go_simp; try with_reducible rfl); simp only [Act.put, List.setIfInBounds_toArray, List.set_cons_zero, List.set_cons_succ])
      refine plan_call (.int .i64 (bb : Nat)) 51 #[.slice A3 nv c3, .int .i64 ev] rfl rfl rfl (fun _ _ h hb => h.trans (hb.mono h.size)) (fun w' hS => by obtain ⟨T0, T1, T2, Tf0, Tf1, Tf2⟩ := row_three (row_call ti hS); go_simp) (fun w' hS => PB1.out w' hS) ?_
      simp only [Act.put, List.setIfInBounds_toArray, List.set_cons_zero, List.set_cons_succ]
      (refine plan_pure ?_ rfl rfl (fun w' => ?_) ?_; rotate_left; (go_simp; try with_reducible rfl); simp only [Act.put, List.setIfInBounds_toArray, List.set_cons_zero, List.set_cons_succ])
      (refine plan_pure ?_ rfl rfl (fun w' => ?_) ?_; rotate_left; (go_simp; try with_reducible rfl); simp only [Act.put, List.setIfInBounds_toArray, List.set_cons_zero, List.set_cons_succ])
      (refine plan_val ?_ rfl rfl rfl (fun w' hS => ?_) ?_; rotate_left; (obtain ⟨T0, T1, T2, Tf0, Tf1, Tf2⟩ := row_three (row_call ti hS); go_simp; try with_reducible rfl); simp only [Act.put, List.setIfInBounds_toArray, List.set_cons_zero, List.set_cons_succ])
      (refine plan_pure ?_ rfl rfl (fun w' => ?_) ?_; rotate_left; (go_simp; try with_reducible rfl); simp only [Act.put, List.setIfInBounds_toArray, List.set_cons_zero, List.set_cons_succ])
      (refine plan_pure ?_ rfl rfl (fun w' => ?_) ?_; rotate_left; (go_simp; try with_reducible rfl); simp only [Act.put, List.setIfInBounds_toArray, List.set_cons_zero, List.set_cons_succ])
      (refine plan_pure ?_ rfl rfl (fun w' => ?_) ?_; rotate_left; (go_simp; try with_reducible rfl); simp only [Act.put, List.setIfInBounds_toArray, List.set_cons_zero, List.set_cons_succ])
      (refine plan_pure ?_ rfl rfl (fun w' => ?_) ?_; rotate_left; (go_simp; try with_reducible rfl); simp only [Act.put, List.setIfInBounds_toArray, List.set_cons_zero, List.set_cons_succ])
      (refine plan_val ?_ rfl rfl rfl (fun w' hS => ?_) ?_; rotate_left; (obtain ⟨T0, T1, T2, Tf0, Tf1, Tf2⟩ := row_three (row_call ti hS); go_simp; try with_reducible rfl); simp only [Act.put, List.setIfInBounds_toArray, List.set_cons_zero, List.set_cons_succ])
      refine plan_call (.int .i64 (rr : Nat)) 52 #[.slice A3 nv c3, .int .i64 ev] rfl rfl rfl (fun _ _ h hb => h.trans (hb.mono h.size)) (fun w' hS => by obtain ⟨T0, T1, T2, Tf0, Tf1, Tf2⟩ := row_three (row_call ti hS); go_simp) (fun w' hS => PR1.out w' hS) ?_
      simp only [Act.put, List.setIfInBounds_toArray, List.set_cons_zero, List.set_cons_succ]
      (refine plan_pure ?_ rfl rfl (fun w' => ?_) ?_; rotate_left; (go_simp; try with_reducible rfl); simp only [Act.put, List.setIfInBounds_toArray, List.set_cons_zero, List.set_cons_succ])
      (refine plan_val ?_ rfl rfl rfl (fun w' hS => ?_) ?_; rotate_left; (obtain ⟨T0, T1, T2, Tf0, Tf1, Tf2⟩ := row_three (row_call ti hS); go_simp; try with_reducible rfl); simp only [Act.put, List.setIfInBounds_toArray, List.set_cons_zero, List.set_cons_succ])
      (refine plan_pure ?_ rfl rfl (fun w' => ?_) ?_; rotate_left; (go_simp; try with_reducible rfl); simp only [Act.put, List.setIfInBounds_toArray, List.set_cons_zero, List.set_cons_succ])
      refine plan_nil ?_
      intro w8 L8
      simp only [List.drop_succ_cons, List.drop_zero]
      try simp only [Act.put, List.setIfInBounds_toArray, List.set_cons_zero, List.set_cons_succ]
      replace b := b.trans (L8.mono b.size)
      go_wp2
      go_roundw
      case rel => exact ⟨j + 1, by omega, by go_num, b⟩
      case measure => simp [intOf]; omega
    · have i1 : ¬ (j : Int) < (m : Int) := by omega
      have zz := b.size
      have x := row_call RX.out b
      have rd := (RD.out.below b).more b.size
      replace o := o.trans (b.mono o.size)
      clear RX RD RD2 EN HB b
      obtain ⟨X0, X1, X2, X3, Xf0, Xf1, Xf2, Xf3⟩ := row_four x
      go_wp2_with fail
      refine (PRK.out _ o).mono ?_
      rintro e w9 ⟨rfl, hb9⟩
      clear X0 X1 X2 X3 Xf0 Xf1 Xf2 Xf3 PRK
      have z_hb9 := hb9.size
      replace x := row_call x hb9
      replace rd := (rd.below hb9).more hb9.size
      replace o := o.trans (hb9.mono o.size)
      clear hb9
      go_upto_region 13 with (fail)
      have y : Row (w9.alloc (.cells #[.int .i64 (lo : Nat), .int .i64 1, .int .i64 md, .int .i64 1, .int .i64 (hi : Nat), .int .i64 1] 50)) w9.heap.size 50 #[.int .i64 (lo : Nat), .int .i64 1, .int .i64 md, .int .i64 1, .int .i64 (hi : Nat), .int .i64 1] := row_new rfl
      replace x := row_alloc x (.cells #[.int .i64 (lo : Nat), .int .i64 1, .int .i64 md, .int .i64 1, .int .i64 (hi : Nat), .int .i64 1] 50)
      replace rd := (rd.alloc (Nat.le_refl _) (.cells #[.int .i64 (lo : Nat), .int .i64 1, .int .i64 md, .int .i64 1, .int .i64 (hi : Nat), .int .i64 1] 50)).more (show _ ≤ (w9.alloc (.cells #[.int .i64 (lo : Nat), .int .i64 1, .int .i64 md, .int .i64 1, .int .i64 (hi : Nat), .int .i64 1] 50)).heap.size by simp)
      replace o := o.alloc o.size (.cells #[.int .i64 (lo : Nat), .int .i64 1, .int .i64 md, .int .i64 1, .int .i64 (hi : Nat), .int .i64 1] 50)
      generalize w9.alloc (.cells #[.int .i64 (lo : Nat), .int .i64 1, .int .i64 md, .int .i64 1, .int .i64 (hi : Nat), .int .i64 1] 50) = w10 at x y rd o ⊢
      generalize w9.heap.size = yb at y ⊢
      have PRv := PR.out v
      rw [HR8.out] at PRv
      go_wp2_with fail
      refine (PRv w10 rd).mono ?_
      rintro e w11 ⟨rfl, hb11⟩
      have z_hb11 := hb11.size
      replace x := row_call x hb11
      replace y := row_call y hb11
      replace rd := (rd.below hb11).more hb11.size
      replace o := o.trans (hb11.mono o.size)
      clear hb11
      obtain ⟨Y0, Y1, Y2, Y3, Y4, Y5, Yf0, Yf1, Yf2, Yf3, Yf4, Yf5⟩ := row_six y
      have h1 : ¬ (r8 : Int) < (lo : Int) := by omega
      have h2 : ¬ (hi : Int) < (r8 : Int) := by omega
      have w1_ : IntKind.i64.wrap ((hi : Int) - (lo : Int)) = (hi : Int) - (lo : Int) := IntWalk.i64_in _ (by omega)
      have w2_ : IntKind.i64.wrap (M - 1) = M - 1 := IntWalk.i64_in _ (by omega)
      have h3 : ¬ M - 1 < (hi : Int) - (lo : Int) := by omega
      go_upto_region 16 with (fail)
      clear Y0 Y1 Y2 Y3 Y4 Y5 Yf0 Yf1 Yf2 Yf3 Yf4 Yf5 h1 h2 h3 w1_ w2_ y
      obtain ⟨X0, X1, X2, X3, Xf0, Xf1, Xf2, Xf3⟩ := row_four x
      go_wp2_with fail
      refine (PQ.out _ o).mono ?_
      rintro e w12 ⟨rfl, hb12⟩
      clear X0 X1 X2 X3 Xf0 Xf1 Xf2 Xf3 PQ
      have z_hb12 := hb12.size
      replace x := row_call x hb12
      replace rd := (rd.below hb12).more hb12.size
      replace o := o.trans (hb12.mono o.size)
      clear hb12
      by_cases hz : nv = 0
      · have e7 := Q0.out hz
        subst e7
        have hz1 : (nv : Int) = 0 := by omega
        have hz2 : ((nv : Int) == 0) = true := by simpa using hz1
        have HZ := Lib.hid hz1
        clear hz1
        go_wp2
        go_ret
        exact ⟨rfl, o⟩
      · obtain ⟨e0, f1, f2, f3⟩ := Q1.out hz
        subst e0
        obtain ⟨t0, t1⟩ := TB.out hz
        obtain ⟨bl1, bl2⟩ := BL.out uu
        have PB1 := Lib.hid (PB.out uu)
        have PR1 := Lib.hid (PR.out uu)
        have PT1 := Lib.hid (PT.out hz)
        generalize blI xs uu = bb at PB1 f1 f3 bl1
        generalize rkI xs uu = rr at PR1 f2 f3 bl2
        have hz1 : ¬ (nv : Int) = 0 := by omega
        have hz2 : ((nv : Int) == 0) = false := by simpa using hz1
        have td : M.tdiv 2 = M / 2 := Int.tdiv_eq_ediv_of_nonneg (by omega)
        have mh0 : 0 ≤ M / 2 ∧ M / 2 ≤ 1000 := by omega
        generalize M / 2 = mh at td mh0 f1 f2
        have wb : IntKind.i64.wrap ((bb : Int) + 1) = (bb : Int) + 1 := IntWalk.i64_in _ (by omega)
        have wh : IntKind.i64.wrap mh = mh := IntWalk.i64_in _ (by omega)
        have wp : IntKind.i64.wrap (tg + mh) = tg + mh := IntWalk.i64_in _ (by omega)
        have wm : IntKind.i64.wrap (tg - mh) = tg - mh := IntWalk.i64_in _ (by omega)
        have f4 : (bb : Int) < (rr : Int) := by omega
        clear Q0 Q1 TB BL PB PR PT
        go_wp2_with (first | (go_at_call 50; refine (PT1.out _).mono ?_; rintro e w13 ⟨rfl, hb13⟩; replace rd := (rd.below hb13).more hb13.size; replace o := o.trans (hb13.mono o.size); clear hb13) | (go_at_call 51; refine (PB1.out _ rd).mono ?_; rintro e w14 ⟨rfl, hb14⟩; replace rd := (rd.below hb14).more hb14.size; replace o := o.trans (hb14.mono o.size); clear hb14) | (go_at_call 52; refine (PR1.out _ rd).mono ?_; rintro e w15 ⟨rfl, hb15⟩; replace rd := (rd.below hb15).more hb15.size; replace o := o.trans (hb15.mono o.size); clear hb15))
        go_ret
        exact ⟨rfl, o⟩
end Go.Proofs.Ytdibjlphcmjnoaa
