/- Counters with polynomial decay: an earlier landmark, walked. -/
import Derived.Test.YtejoomlaanmbkaaPolyC
import Derived.Deep.DeepCutAuto
import Derived.Deep.CutBlock
import Derived.Deep.LoopGhost
namespace Go.Proofs.Ytejoomlaanmbkaa
open Go.RowKit Go.Shelf
/-- A row that is filled from its head on, with a number at the place where the filling stands. -/
def fillS (f : Nat → Nat) (n j x : Nat) : List Nat := (fillN f n j).set j x
theorem fillS_zero (f : Nat → Nat) {n j : Nat} (h : j < n) : fillS f n j 0 = fillN f n j := by
  unfold fillS fillN
  rw [show n - j = (n - (j + 1)) + 1 by omega, List.replicate_succ, List.set_append, if_neg (by rw [upto_len]; omega), upto_len, Nat.sub_self, List.set_cons_zero]
theorem fillS_done (f : Nat → Nat) {n j : Nat} (h : j < n) : fillS f n j (f j) = fillN f n (j + 1) := fill_step f h
theorem fillS_at {f : Nat → Nat} {n j x : Nat} (h : j < n) : momAt (fillS f n j x) j = x := by
  unfold fillS momAt
  rw [List.getD_eq_getElem?_getD, List.getElem?_set_self (by rw [fill_len f (by omega)]; exact h)]
  rfl
theorem fillS_set (f : Nat → Nat) (n j x y : Nat) : (fillS f n j x).set j y = fillS f n j y := by unfold fillS; rw [List.set_set]
theorem cN_zero (n : Nat) : cN n 0 = 1 := by cases n <;> rfl
/-- What rebasing leaves: a counter whose moments are a row of the call's own, or nothing. -/
def RbRet (p ld now : Int) (ms : List Nat) (ok : Bool) (n : Nat) (w : World) (e : Ending) (w' : World) : Prop :=
  match ok with
  | true => ∃ g c, e = .returned (.tuple #[.agg #[.int .i64 p, .int .i64 ld, .int .i64 now, .slice (some ⟨g, 0, none⟩) n c], .bool true]) ∧ Own w' 35 2 g n c (wcells ms) ∧ w.heap.size ≤ g ∧ Below w.heap.size w w'
  | false => e = .returned (.tuple #[.agg #[.int .i64 0, .int .i64 0, .int .i64 0, .slice none 0 0], .bool false]) ∧ Below w.heap.size w w'
theorem rb_no {p ld now : Int} {ms : List Nat} {n : Nat} {w w' : World} {e : Ending} (h : RbRet p ld now ms false n w e w') : e = .returned (.tuple #[.agg #[.int .i64 0, .int .i64 0, .int .i64 0, .slice none 0 0], .bool false]) ∧ Below w.heap.size w w' := h
theorem rb_yes {p ld now : Int} {ms : List Nat} {n : Nat} {w w' : World} {e : Ending} (h : RbRet p ld now ms true n w e w') :
    ∃ g c, e = .returned (.tuple #[.agg #[.int .i64 p, .int .i64 ld, .int .i64 now, .slice (some ⟨g, 0, none⟩) n c], .bool true]) ∧ Own w' 35 2 g n c (wcells ms) ∧ w.heap.size ≤ g ∧ Below w.heap.size w w' := h
set_option maxHeartbeats 8000000 in
set_option maxRecDepth 100000 in
theorem prebase (p land now : Int) (A : Option Addr) (n c : Nat) (ms : List Nat) (ld : Int) (w : World) (hin : PIn p land now A n c ms w) (hv : pvalE p land now ms = 0) (h0 : 0 ≤ ld) (h1 : ld ≤ land) : Calls Try.prog 49 #[.agg #[.int .i64 p, .int .i64 land, .int .i64 now, .slice A n c], .int .i64 ld] w (RbRet p ld now (upto (rebM (land - ld).toNat ms) n) (fitB (rebM (land - ld).toNat ms) n) n w) := by
  obtain ⟨v1, v2, v3, v4, v5, v6, v7, _⟩ := of_pvalE hv
  have HR := Lib.hid hin
  have hl := hin.len
  have hn5 : n ≤ 5 := by omega
  obtain ⟨d, hd⟩ : ∃ d : Nat, land - ld = (d : Int) := ⟨(land - ld).toNat, by omega⟩
  have hd2 : d ≤ 16777216 := by omega
  rw [hd, Int.toNat_natCast]
  have wa : IntKind.i64.wrap (land - ld) = land - ld := IntWalk.i64_in _ (by omega)
  have wb : IntKind.u64.wrap (land - ld) = (d : Int) := by rw [IntWalk.u64_in _ (by omega)]; exact hd
  have r0 : Row ((w.alloc (.cells #[.int .i64 p, .int .i64 land, .int .i64 now, .slice A n c] 24)).alloc (.cells #[.int .i64 0, .int .i64 0, .int .i64 0, .slice none 0 0] 24)) (w.heap.size) 24 #[.int .i64 p, .int .i64 land, .int .i64 now, .slice A n c] := row_alloc (row_new rfl) _
  have r1 : Row ((w.alloc (.cells #[.int .i64 p, .int .i64 land, .int .i64 now, .slice A n c] 24)).alloc (.cells #[.int .i64 0, .int .i64 0, .int .i64 0, .slice none 0 0] 24)) (w.heap.size + 1) 24 #[.int .i64 0, .int .i64 0, .int .i64 0, .slice none 0 0] := row_new (by simp)
  have o1 : Below w.heap.size w ((w.alloc (.cells #[.int .i64 p, .int .i64 land, .int .i64 now, .slice A n c] 24)).alloc (.cells #[.int .i64 0, .int .i64 0, .int .i64 0, .slice none 0 0] 24)) := by (repeat (first | exact Below.refl _ _ | refine Below.setCell ?_ (by first | (simp; done) | (simp; omega) | omega) _ | refine Below.alloc ?_ (by first | (simp; done) | (simp; omega) | omega) _ | refine Below.drew ?_ | refine Below.trans ?_ (Below.mono (by assumption) (by first | (simp; done) | (simp; omega) | omega))))
  have zs : w.heap.size + 2 ≤ ((w.alloc (.cells #[.int .i64 p, .int .i64 land, .int .i64 now, .slice A n c] 24)).alloc (.cells #[.int .i64 0, .int .i64 0, .int .i64 0, .slice none 0 0] 24)).heap.size := by simp
  have HD := Lib.hid hd
  clear hv hl hd
  go_enter Try.func49, Try.ntmps49
  go_upto_region 1 with (fail)
  generalize ((w.alloc (.cells #[.int .i64 p, .int .i64 land, .int .i64 now, .slice A n c] 24)).alloc (.cells #[.int .i64 0, .int .i64 0, .int .i64 0, .slice none 0 0] 24)) = w1 at r0 r1 o1 zs ⊢
  obtain ⟨X0, X1, X2, X3, Xf0, Xf1, Xf2, Xf3⟩ := row_four r0
  obtain ⟨w2, hmk, own, hb2⟩ := make_wide w1 .i64 .i64 n (by omega)
  have x := row_call r0 hb2
  have y := row_call r1 hb2
  have o := o1.trans (hb2.mono o1.size)
  have gx : w.heap.size < w1.heap.size := by omega
  have gr : w.heap.size + 1 < w1.heap.size := by omega
  rw [← fill_zero (rebM d ms) n] at own
  go_upto_region 2 with (fail)
  clear hmk hb2 r0 r1 o1 X0 X1 X2 X3 Xf0 Xf1 Xf2 Xf3
  generalize hgg : w1.heap.size = g at own gx gr zs ⊢
  clear hgg zs
  obtain ⟨X0, X1, X2, X3, Xf0, Xf1, Xf2, Xf3⟩ := row_four x
  go_upto_region 3 with (fail)
  clear X0 X1 X2 X3 Xf0 Xf1 Xf2 Xf3
  go_wp2
  go_loopg [26] n (fun g' i wr => ∃ j : Nat, j ≤ n ∧ g' = n - j ∧ i = .int .i64 (j : Nat) ∧ RowKit.Hid (∀ e, e < j → rebM d ms e < big) ∧ Own wr 35 2 g n n (wcells (fillN (rebM d ms) n j)) ∧ Row wr (w.heap.size) 24 #[.int .i64 p, .int .i64 land, .int .i64 now, .slice A n c] ∧ Row wr (w.heap.size + 1) 24 #[.int .i64 0, .int .i64 0, .int .i64 0, .slice none 0 0] ∧ Below w.heap.size w wr)
  case atStart => exact ⟨0, by omega, by omega, rfl, Lib.hid (fun e he => absurd he (by omega)), own, x, y, o⟩
  case round =>
    clear own x y o
    obtain ⟨j, hj, rfl, rfl, HA, own, x, y, o⟩ := hrel
    by_cases hlt : j < n
    · have i1 : (j : Int) < (n : Int) := by omega
      have i2 : (0 : Int) ≤ (j : Int) := by omega
      rw [← fillS_zero _ hlt] at own
      go_wp2_with fail
      go_loopg [9, 10] (j + 1) (fun g' bv iv wr => ∃ i : Nat, i ≤ j + 1 ∧ g' = j + 1 - i ∧ bv = .int .u64 (cN j i : Nat) ∧ iv = .int .i64 (i : Nat) ∧ RowKit.Hid (rebT d ms j i < big) ∧ Own wr 35 2 g n n (wcells (fillS (rebM d ms) n j (rebT d ms j i))) ∧ Row wr (w.heap.size) 24 #[.int .i64 p, .int .i64 land, .int .i64 now, .slice A n c] ∧ Row wr (w.heap.size + 1) 24 #[.int .i64 0, .int .i64 0, .int .i64 0, .slice none 0 0] ∧ Below w.heap.size w wr)
      case atStart => exact ⟨0, by omega, by omega, by rw [cN_zero]; rfl, rfl, Lib.hid (by show 0 < big; decide), own, x, y, o⟩
      case round =>
          clear own x y o
          obtain ⟨i, hii, rfl, rfl, rfl, HT, own, x, y, o⟩ := hrel
          obtain ⟨X0, X1, X2, X3, Xf0, Xf1, Xf2, Xf3⟩ := row_four x
          by_cases hij : i ≤ j
          · obtain ⟨q, hq⟩ : ∃ q : Nat, j - i = q := ⟨_, rfl⟩
            have hq4 : q ≤ 4 := by omega
            have hi4 : i ≤ 4 := by omega
            have j1 : (i : Int) ≤ (j : Int) := by omega
            have j2 : (0 : Int) ≤ (i : Int) := by omega
            have j3 : (i : Int) < (n : Int) := by omega
            have hin2 : i < n := by omega
            have wq : IntKind.i64.wrap ((j : Int) - (i : Int)) = (q : Int) := by rw [IntWalk.i64_in _ (by omega)]; omega
            have wqu : IntKind.u64.wrap (q : Int) = (q : Int) := IntWalk.u64_in _ (by omega)
            have wi : IntKind.i64.wrap ((i : Int) + 1) = (i : Int) + 1 := IntWalk.i64_in _ (by omega)
            have wiu : IntKind.u64.wrap ((i : Int) + 1) = (i : Int) + 1 := IntWalk.u64_in _ (by omega)
            obtain ⟨cb1, cb2⟩ := cN_pos j (by omega) i (by omega)
            have hnx := cN_next j (by omega) i (by omega)
            rw [hq] at hnx
            have hsm : rebS d ms j i = (powN d q * cN j i) * momAt ms i := by unfold rebS; rw [hq]
            have hts : rebT d ms j (i + 1) = rebT d ms j i + rebS d ms j i := rfl
            have SO := rebS_over (d := d) (ms := ms) hij
            have TO := rebT_over (d := d) (ms := ms) hij
            have ab := HT.out
            generalize hcb : cN j i = cb at cb1 cb2 hnx hsm ⊢
            generalize hacc : rebT d ms j i = acc at own ab hts TO
            have cq1 : cb * q ≤ 24 := Nat.mul_le_mul cb2 hq4
            have hcq : (cb : Int) * (q : Int) = ((cb * q : Nat) : Int) := by rw [Int.natCast_mul]
            have hdv : ((cb * q : Nat) : Int).tdiv ((i : Int) + 1) = ((cN j (i + 1) : Nat) : Int) := by
              rw [← hnx, Int.tdiv_eq_ediv_of_nonneg (by omega)]
              norm_cast
            have nb1 : cN j (i + 1) ≤ 24 := by rw [← hnx]; exact Nat.le_trans (Nat.div_le_self _ _) cq1
            generalize cb * q = cq at hcq hdv cq1
            generalize hnb : cN j (i + 1) = nb at hdv nb1
            have HNB := Lib.hid hnb
            have wm : IntKind.u64.wrap ((cb : Int) * (q : Int)) = (cq : Int) := by rw [hcq]; exact IntWalk.u64_in _ (by omega)
            have wn : IntKind.u64.wrap (nb : Int) = (nb : Int) := IntWalk.u64_in _ (by omega)
            have nz : ((i : Int) + 1 == 0) = false := by simp; omega
            have nz' : (i : Int) + 1 ≠ 0 := by omega
            have PW := fun w => ppow_any d (by omega) (q : Int) (by omega) w
            rw [powIV_nat, powIB_nat, (pow_yes (powN_fits (show d ≤ 16777217 by omega) hq4)).1, (pow_yes (powN_fits (show d ≤ 16777217 by omega) hq4)).2] at PW
            have PO := Lib.hid (fun w => pof cb (by omega) w)
            have PM := fun w => pmul (powN d q) cb (powN_fits (show d ≤ 16777217 by omega) hq4) (by unfold big; omega) w
            have pcb := powC_fits (show d ≤ 16777217 by omega) hq4 cb2
            rw [(mulV_yes pcb).1, (mulV_yes pcb).2] at PM
            generalize powN d q * cb = pc at PM pcb hsm
            generalize powN d q = pj at PW PM
            have PW := Lib.hid PW
            have PM := Lib.hid PM
            obtain ⟨ad, rfl, hadb, mx⟩ := HR.out.reads.mom hin2
            have mb := HR.out.mB i
            generalize momAt ms i = m at mx mb hsm
            have MX := Lib.hid mx
            have HAB : RowKit.Hid ((ad.add (i * 2)).block < w.heap.size) := Lib.hid (by rw [block_of_add]; exact hadb)
            have PU0 := fun w => pmul pc m pcb mb w
            generalize hss : rebS d ms j i = ss at hsm hts SO TO
            have HTS0 := Lib.hid hts
            have HSM := Lib.hid hsm
            have SO := Lib.hid SO
            have TO := Lib.hid TO
            clear mx hcb hcq hnx hnb hacc hts hsm hss
            go_upto_region 11 with (first | (go_at_call 36; with_reducible refine (PW.out _).mono ?_; rintro e w1 ⟨rfl, hb1⟩; have hz1 := hb1.size; (try simp at hz1)))
            clear X0 X1 X2 X3 Xf0 Xf1 Xf2 Xf3
            replace own := own.call hb1
            replace x := row_call x hb1
            replace y := row_call y hb1
            replace o := o.trans (hb1.mono o.size)
            have gb1 := own.lt
            have yb1 := row_lt y
            replace own := own.alloc (.cells #[.int .u64 (hi pj), .int .u64 (lo pj)] 35)
            replace x := row_alloc x (.cells #[.int .u64 (hi pj), .int .u64 (lo pj)] 35)
            replace y := row_alloc y (.cells #[.int .u64 (hi pj), .int .u64 (lo pj)] 35)
            replace o := o.alloc o.size (.cells #[.int .u64 (hi pj), .int .u64 (lo pj)] 35)
            have k1 : Row (w1.alloc (.cells #[.int .u64 (hi pj), .int .u64 (lo pj)] 35)) w1.heap.size 35 #[.int .u64 (hi pj), .int .u64 (lo pj)] := row_new rfl
            generalize w1.alloc (.cells #[.int .u64 (hi pj), .int .u64 (lo pj)] 35) = w2 at own x y o k1 ⊢
            generalize w1.heap.size = b1 at k1 hz1 gb1 yb1 ⊢
            clear hb1
            refine wp_region_free0 [0, 1, 2, 3, 4, 6, 5] [6] [0, 1, 2, 3, 4, 5] 7 (fun w' => Below w2.heap.size w2 w') (by kernel_rfl) (by kernel_rfl) (fun _ _ d _ _ h => by cases d <;> exact h) ?_ ?_
            · exact (Below.refl _ _).drew
            (refine plan_val ?_ rfl rfl rfl (fun w' hS => ?_) ?_; rotate_left; (obtain ⟨Q0, Q1, Qf0, Qf1⟩ := row_two (row_call k1 hS); go_simp; try with_reducible rfl); simp only [Act.put, List.setIfInBounds_toArray, List.set_cons_zero, List.set_cons_succ])
            (refine plan_pure ?_ rfl rfl (fun w' => ?_) ?_; rotate_left; (go_simp; try with_reducible rfl); simp only [Act.put, List.setIfInBounds_toArray, List.set_cons_zero, List.set_cons_succ])
            refine plan_call (W cb) 38 #[.int .u64 (cb : Nat)] rfl rfl rfl (fun _ _ h hb => h.trans (hb.mono h.size)) (fun w' hS => by obtain ⟨Q0, Q1, Qf0, Qf1⟩ := row_two (row_call k1 hS); go_simp) (fun w' hS => PO.out w') ?_
            simp only [Act.put, List.setIfInBounds_toArray, List.set_cons_zero, List.set_cons_succ]
            refine plan_call (.tuple #[W pc, .bool true]) 37 #[W pj, W cb] rfl rfl rfl (fun _ _ h hb => h.trans (hb.mono h.size)) (fun w' hS => by obtain ⟨Q0, Q1, Qf0, Qf1⟩ := row_two (row_call k1 hS); go_simp) (fun w' hS => PM.out w') ?_
            simp only [Act.put, List.setIfInBounds_toArray, List.set_cons_zero, List.set_cons_succ]
            (refine plan_pure ?_ rfl rfl (fun w' => ?_) ?_; rotate_left; (go_simp; try with_reducible rfl); simp only [Act.put, List.setIfInBounds_toArray, List.set_cons_zero, List.set_cons_succ])
            (refine plan_pure ?_ rfl rfl (fun w' => ?_) ?_; rotate_left; (go_simp; try with_reducible rfl); simp only [Act.put, List.setIfInBounds_toArray, List.set_cons_zero, List.set_cons_succ])
            (refine plan_pure ?_ rfl rfl (fun w' => ?_) ?_; rotate_left; (go_simp; try with_reducible rfl); simp only [Act.put, List.setIfInBounds_toArray, List.set_cons_zero, List.set_cons_succ])
            refine plan_nil ?_
            intro w3 L3
            simp only [List.drop_succ_cons, List.drop_zero]
            try simp only [Act.put, List.setIfInBounds_toArray, List.set_cons_zero, List.set_cons_succ]
            have zk1 := row_lt k1
            have zown := own.lt
            have zx := row_lt x
            have zy := row_lt y
            have zo := o.size
            replace own := own.call L3
            replace x := row_call x L3
            replace y := row_call y L3
            replace o := o.trans (L3.mono o.size)
            replace k1 := row_call k1 L3
            clear L3
            obtain ⟨Q0, Q1, Qf0, Qf1⟩ := row_two k1
            go_upto_region 12 with (fail)
            clear Q0 Q1 Qf0 Qf1
            have hb1w : w.heap.size + 2 ≤ b1 := by omega
            replace own := own.other (p := ⟨b1, 0, none⟩) (by show g ≠ b1; omega) (.int .u64 (hi pc))
            replace x := row_other (p := ⟨b1, 0, none⟩) x (by show w.heap.size ≠ b1; omega) (.int .u64 (hi pc))
            replace y := row_other (p := ⟨b1, 0, none⟩) y (by show w.heap.size + 1 ≠ b1; omega) (.int .u64 (hi pc))
            replace o := o.setCell (p := ⟨b1, 0, none⟩) (by show w.heap.size ≤ b1; omega) (.int .u64 (hi pc))
            replace own := own.other (p := ⟨b1, 1, none⟩) (by show g ≠ b1; omega) (.int .u64 (lo pc))
            replace x := row_other (p := ⟨b1, 1, none⟩) x (by show w.heap.size ≠ b1; omega) (.int .u64 (lo pc))
            replace y := row_other (p := ⟨b1, 1, none⟩) y (by show w.heap.size + 1 ≠ b1; omega) (.int .u64 (lo pc))
            replace o := o.setCell (p := ⟨b1, 1, none⟩) (by show w.heap.size ≤ b1; omega) (.int .u64 (lo pc))
            have k2 : Row ((w3.setCell ⟨b1, 0, none⟩ (.int .u64 (hi pc))).setCell ⟨b1, 1, none⟩ (.int .u64 (lo pc))) b1 35 #[.int .u64 (hi pc), .int .u64 (lo pc)] := row_two_set k1
            clear k1
            generalize ((w3.setCell ⟨b1, 0, none⟩ (.int .u64 (hi pc))).setCell ⟨b1, 1, none⟩ (.int .u64 (lo pc))) = w6 at own x y o k2 ⊢
            clear zk1 zown zx zy zo
            obtain ⟨Q0, Q1, Qf0, Qf1⟩ := row_two k2
            by_cases hu : pc * m < big
            · rw [(mulV_yes hu).1, (mulV_yes hu).2] at PU0
              generalize huu : pc * m = u at PU0 hu
              have HU : RowKit.Hid (ss = u) := Lib.hid (by rw [HSM.out]; exact huu)
              have PU := Lib.hid PU0
              clear PU0 huu
              go_upto_region 12 with (fail)
              clear Q0 Q1 Qf0 Qf1
              refine wp_region_free1 [0, 1, 2, 3, 4, 5, 6, 7, 9, 8] [9] [0, 1, 2, 3, 4, 5, 6, 7, 8, 10] (10, 35, #[.int .u64 0, .int .u64 0]) 13 11 (fun w' => Below w6.heap.size w6 w') (by kernel_rfl) (by kernel_rfl) ⟨_, _, rfl, rfl, rfl, fun ρ w' => by go_simp⟩ rfl (by simp) (fun _ h => h.alloc h.size _) (fun _ _ d _ _ h => by cases d <;> exact h) ?_ ?_
              · exact (Below.refl _ _).drew
              (refine plan_val ?_ rfl rfl rfl (fun w' hS => ?_) ?_; rotate_left; (obtain ⟨X0, X1, X2, X3, Xf0, Xf1, Xf2, Xf3⟩ := row_four (row_call x hS); obtain ⟨Q0, Q1, Qf0, Qf1⟩ := row_two (row_call k2 hS); obtain ⟨p0, p1⟩ := MX.out.below (o.trans (hS.mono o.size)) HAB.out; go_simp; try with_reducible rfl); simp only [Act.put, List.setIfInBounds_toArray, List.set_cons_zero, List.set_cons_succ])
              (refine plan_pure ?_ rfl rfl (fun w' => ?_) ?_; rotate_left; (go_simp; try with_reducible rfl); simp only [Act.put, List.setIfInBounds_toArray, List.set_cons_zero, List.set_cons_succ])
              (refine plan_val ?_ rfl rfl rfl (fun w' hS => ?_) ?_; rotate_left; (obtain ⟨X0, X1, X2, X3, Xf0, Xf1, Xf2, Xf3⟩ := row_four (row_call x hS); obtain ⟨Q0, Q1, Qf0, Qf1⟩ := row_two (row_call k2 hS); obtain ⟨p0, p1⟩ := MX.out.below (o.trans (hS.mono o.size)) HAB.out; go_simp; try with_reducible rfl); simp only [Act.put, List.setIfInBounds_toArray, List.set_cons_zero, List.set_cons_succ])
              (refine plan_pure ?_ rfl rfl (fun w' => ?_) ?_; rotate_left; (go_simp; try with_reducible rfl); simp only [Act.put, List.setIfInBounds_toArray, List.set_cons_zero, List.set_cons_succ])
              (refine plan_pure ?_ rfl rfl (fun w' => ?_) ?_; rotate_left; (go_simp; try with_reducible rfl); simp only [Act.put, List.setIfInBounds_toArray, List.set_cons_zero, List.set_cons_succ])
              (refine plan_val ?_ rfl rfl rfl (fun w' hS => ?_) ?_; rotate_left; (obtain ⟨X0, X1, X2, X3, Xf0, Xf1, Xf2, Xf3⟩ := row_four (row_call x hS); obtain ⟨Q0, Q1, Qf0, Qf1⟩ := row_two (row_call k2 hS); obtain ⟨p0, p1⟩ := MX.out.below (o.trans (hS.mono o.size)) HAB.out; go_simp; try with_reducible rfl); simp only [Act.put, List.setIfInBounds_toArray, List.set_cons_zero, List.set_cons_succ])
              refine plan_call (.tuple #[W u, .bool true]) 37 #[W pc, W m] rfl rfl rfl (fun _ _ h hb => h.trans (hb.mono h.size)) (fun w' hS => by obtain ⟨X0, X1, X2, X3, Xf0, Xf1, Xf2, Xf3⟩ := row_four (row_call x hS); obtain ⟨Q0, Q1, Qf0, Qf1⟩ := row_two (row_call k2 hS); obtain ⟨p0, p1⟩ := MX.out.below (o.trans (hS.mono o.size)) HAB.out; go_simp) (fun w' hS => PU.out w') ?_
              simp only [Act.put, List.setIfInBounds_toArray, List.set_cons_zero, List.set_cons_succ]
              (refine plan_pure ?_ rfl rfl (fun w' => ?_) ?_; rotate_left; (go_simp; try with_reducible rfl); simp only [Act.put, List.setIfInBounds_toArray, List.set_cons_zero, List.set_cons_succ])
              (refine plan_pure ?_ rfl rfl (fun w' => ?_) ?_; rotate_left; (go_simp; try with_reducible rfl); simp only [Act.put, List.setIfInBounds_toArray, List.set_cons_zero, List.set_cons_succ])
              (refine plan_pure ?_ rfl rfl (fun w' => ?_) ?_; rotate_left; (go_simp; try with_reducible rfl); simp only [Act.put, List.setIfInBounds_toArray, List.set_cons_zero, List.set_cons_succ])
              refine plan_nil ?_
              intro g9 w7 L7 hr9 hg9
              simp only [List.drop_succ_cons, List.drop_zero]
              try simp only [Act.put, List.setIfInBounds_toArray, List.set_cons_zero, List.set_cons_succ]
              have zk2 := row_lt k2
              have zown := own.lt
              have zx := row_lt x
              have zy := row_lt y
              have zo := o.size
              replace own := own.call L7
              replace x := row_call x L7
              replace y := row_call y L7
              replace o := o.trans (L7.mono o.size)
              clear k2 L7
              obtain ⟨R0, R1, Rf0, Rf1⟩ := row_two hr9
              go_upto_region 13 with (fail)
              clear R0 R1 Rf0 Rf1
              replace own := own.other (p := ⟨g9, 0, none⟩) (by show g ≠ g9; omega) (.int .u64 (hi u))
              replace x := row_other (p := ⟨g9, 0, none⟩) x (by show w.heap.size ≠ g9; omega) (.int .u64 (hi u))
              replace y := row_other (p := ⟨g9, 0, none⟩) y (by show w.heap.size + 1 ≠ g9; omega) (.int .u64 (hi u))
              replace o := o.setCell (p := ⟨g9, 0, none⟩) (by show w.heap.size ≤ g9; omega) (.int .u64 (hi u))
              replace own := own.other (p := ⟨g9, 1, none⟩) (by show g ≠ g9; omega) (.int .u64 (lo u))
              replace x := row_other (p := ⟨g9, 1, none⟩) x (by show w.heap.size ≠ g9; omega) (.int .u64 (lo u))
              replace y := row_other (p := ⟨g9, 1, none⟩) y (by show w.heap.size + 1 ≠ g9; omega) (.int .u64 (lo u))
              replace o := o.setCell (p := ⟨g9, 1, none⟩) (by show w.heap.size ≤ g9; omega) (.int .u64 (lo u))
              have k3 := row_two_set (u := .int .u64 (hi u)) (v := .int .u64 (lo u)) hr9
              generalize ((w7.setCell ⟨g9, 0, none⟩ (.int .u64 (hi u))).setCell ⟨g9, 1, none⟩ (.int .u64 (lo u))) = w8 at own x y o k3 ⊢
              clear hr9 zk2 zown zx zy zo
              obtain ⟨R0, R1, Rf0, Rf1⟩ := row_two k3
              by_cases hs : acc + u < big
              · have PA := fun w => padd_fits acc u ab hu hs w
                generalize hsu : acc + u = s at PA hs
                have PA := Lib.hid PA
                have HTS : RowKit.Hid (rebT d ms j (i + 1) = s) := Lib.hid (by rw [HTS0.out, HU.out]; exact hsu)
                have HT2 : RowKit.Hid (rebT d ms j (i + 1) < big) := Lib.hid (by rw [HTS.out]; exact hs)
                clear hsu
                go_upto_region 15 with (fail)
                clear R0 R1 Rf0 Rf1
                refine wp_region_free0 [0, 1, 2, 3, 4, 5, 6, 7, 8, 10, 9, 11] [10] [0, 1, 2, 3, 4, 5, 6, 7, 8, 9, 11] 12 (fun w' => Below w8.heap.size w8 w') (by kernel_rfl) (by kernel_rfl) (fun _ _ d _ _ h => by cases d <;> exact h) ?_ ?_
                · exact (Below.refl _ _).drew
                (refine plan_pure ?_ rfl rfl (fun w' => ?_) ?_; rotate_left; (go_simp; try with_reducible rfl); simp only [Act.put, List.setIfInBounds_toArray, List.set_cons_zero, List.set_cons_succ])
                (refine plan_pure ?_ rfl rfl (fun w' => ?_) ?_; rotate_left; (go_simp; try with_reducible rfl); simp only [Act.put, List.setIfInBounds_toArray, List.set_cons_zero, List.set_cons_succ])
                (refine plan_pure ?_ rfl rfl (fun w' => ?_) ?_; rotate_left; (go_simp; try with_reducible rfl); simp only [Act.put, List.setIfInBounds_toArray, List.set_cons_zero, List.set_cons_succ])
                (refine plan_pure ?_ rfl rfl (fun w' => ?_) ?_; rotate_left; (go_simp; try with_reducible rfl); simp only [Act.put, List.setIfInBounds_toArray, List.set_cons_zero, List.set_cons_succ])
                (refine plan_pure ?_ rfl rfl (fun w' => ?_) ?_; rotate_left; (go_simp; try with_reducible rfl); simp only [Act.put, List.setIfInBounds_toArray, List.set_cons_zero, List.set_cons_succ])
                (refine plan_val ?_ rfl rfl rfl (fun w' hS => ?_) ?_; rotate_left; (obtain ⟨R0, R1, Rf0, Rf1⟩ := row_two (row_call k3 hS); obtain ⟨t0, t1⟩ := (own.call hS).mom hlt; rw [fillS_at hlt] at t0 t1; go_simp; try with_reducible rfl); simp only [Act.put, List.setIfInBounds_toArray, List.set_cons_zero, List.set_cons_succ])
                (refine plan_val ?_ rfl rfl rfl (fun w' hS => ?_) ?_; rotate_left; (obtain ⟨R0, R1, Rf0, Rf1⟩ := row_two (row_call k3 hS); obtain ⟨t0, t1⟩ := (own.call hS).mom hlt; rw [fillS_at hlt] at t0 t1; go_simp; try with_reducible rfl); simp only [Act.put, List.setIfInBounds_toArray, List.set_cons_zero, List.set_cons_succ])
                refine plan_call (.tuple #[W s, .bool true]) 39 #[W acc, W u] rfl rfl rfl (fun _ _ h hb => h.trans (hb.mono h.size)) (fun w' hS => by obtain ⟨R0, R1, Rf0, Rf1⟩ := row_two (row_call k3 hS); obtain ⟨t0, t1⟩ := (own.call hS).mom hlt; rw [fillS_at hlt] at t0 t1; go_simp) (fun w' hS => PA.out w') ?_
                simp only [Act.put, List.setIfInBounds_toArray, List.set_cons_zero, List.set_cons_succ]
                (refine plan_pure ?_ rfl rfl (fun w' => ?_) ?_; rotate_left; (go_simp; try with_reducible rfl); simp only [Act.put, List.setIfInBounds_toArray, List.set_cons_zero, List.set_cons_succ])
                (refine plan_pure ?_ rfl rfl (fun w' => ?_) ?_; rotate_left; (go_simp; try with_reducible rfl); simp only [Act.put, List.setIfInBounds_toArray, List.set_cons_zero, List.set_cons_succ])
                (refine plan_pure ?_ rfl rfl (fun w' => ?_) ?_; rotate_left; (go_simp; try with_reducible rfl); simp only [Act.put, List.setIfInBounds_toArray, List.set_cons_zero, List.set_cons_succ])
                (refine plan_pure ?_ rfl rfl (fun w' => ?_) ?_; rotate_left; (go_simp; try with_reducible rfl); simp only [Act.put, List.setIfInBounds_toArray, List.set_cons_zero, List.set_cons_succ])
                refine plan_nil ?_
                intro w9 L9
                simp only [List.drop_succ_cons, List.drop_zero]
                try simp only [Act.put, List.setIfInBounds_toArray, List.set_cons_zero, List.set_cons_succ]
                replace own := own.call L9
                replace x := row_call x L9
                replace y := row_call y L9
                replace o := o.trans (L9.mono o.size)
                clear L9 k3
                obtain ⟨t0, t1⟩ := own.mom hlt
                have t2 := own.free (j * 2)
                have t3 := own.free (j * 2 + 1)
                have zg := own.lt
                go_upto_region 16 with (fail)
                replace own := own.setW j s
                rw [fillS_set] at own
                replace x := row_other (p := ⟨g, j * 2, none⟩) x (by show w.heap.size ≠ g; omega) (.int .u64 (hi s))
                replace y := row_other (p := ⟨g, j * 2, none⟩) y (by show w.heap.size + 1 ≠ g; omega) (.int .u64 (hi s))
                replace o := o.setCell (p := ⟨g, j * 2, none⟩) (by show w.heap.size ≤ g; omega) (.int .u64 (hi s))
                replace x := row_other (p := ⟨g, j * 2 + 1, none⟩) x (by show w.heap.size ≠ g; omega) (.int .u64 (lo s))
                replace y := row_other (p := ⟨g, j * 2 + 1, none⟩) y (by show w.heap.size + 1 ≠ g; omega) (.int .u64 (lo s))
                replace o := o.setCell (p := ⟨g, j * 2 + 1, none⟩) (by show w.heap.size ≤ g; omega) (.int .u64 (lo s))
                generalize ((w9.setCell ⟨g, j * 2, none⟩ (.int .u64 (hi s))).setCell ⟨g, j * 2 + 1, none⟩ (.int .u64 (lo s))) = w10 at own x y o ⊢
                clear t0 t1 t2 t3 zg
                go_wp2
                go_roundg (j + 1 - (i + 1))
                case measure => omega
                case rel => exact ⟨i + 1, by omega, rfl, by rw [HNB.out], by go_num, HT2, by rw [HTS.out]; exact own, x, y, o⟩
              · have PA := Lib.hid (fun w => padd_over acc u ab hu hs w)
                have E : RowKit.Hid (fitB (rebM d ms) n = false) := Lib.hid (fitB_no hlt (TO.out (by rw [HU.out]; exact hs)))
                go_upto_region 15 with (fail)
                clear R0 R1 Rf0 Rf1
                refine wp_region_free0 [0, 1, 2, 3, 4, 5, 6, 7, 8, 10, 9, 11] [10] [0, 1, 2, 3, 4, 5, 6, 7, 8, 9, 11] 12 (fun w' => Below w8.heap.size w8 w') (by kernel_rfl) (by kernel_rfl) (fun _ _ d _ _ h => by cases d <;> exact h) ?_ ?_
                · exact (Below.refl _ _).drew
                (refine plan_pure ?_ rfl rfl (fun w' => ?_) ?_; rotate_left; (go_simp; try with_reducible rfl); simp only [Act.put, List.setIfInBounds_toArray, List.set_cons_zero, List.set_cons_succ])
                (refine plan_pure ?_ rfl rfl (fun w' => ?_) ?_; rotate_left; (go_simp; try with_reducible rfl); simp only [Act.put, List.setIfInBounds_toArray, List.set_cons_zero, List.set_cons_succ])
                (refine plan_pure ?_ rfl rfl (fun w' => ?_) ?_; rotate_left; (go_simp; try with_reducible rfl); simp only [Act.put, List.setIfInBounds_toArray, List.set_cons_zero, List.set_cons_succ])
                (refine plan_pure ?_ rfl rfl (fun w' => ?_) ?_; rotate_left; (go_simp; try with_reducible rfl); simp only [Act.put, List.setIfInBounds_toArray, List.set_cons_zero, List.set_cons_succ])
                (refine plan_pure ?_ rfl rfl (fun w' => ?_) ?_; rotate_left; (go_simp; try with_reducible rfl); simp only [Act.put, List.setIfInBounds_toArray, List.set_cons_zero, List.set_cons_succ])
                (refine plan_val ?_ rfl rfl rfl (fun w' hS => ?_) ?_; rotate_left; (obtain ⟨R0, R1, Rf0, Rf1⟩ := row_two (row_call k3 hS); obtain ⟨t0, t1⟩ := (own.call hS).mom hlt; rw [fillS_at hlt] at t0 t1; go_simp; try with_reducible rfl); simp only [Act.put, List.setIfInBounds_toArray, List.set_cons_zero, List.set_cons_succ])
                (refine plan_val ?_ rfl rfl rfl (fun w' hS => ?_) ?_; rotate_left; (obtain ⟨R0, R1, Rf0, Rf1⟩ := row_two (row_call k3 hS); obtain ⟨t0, t1⟩ := (own.call hS).mom hlt; rw [fillS_at hlt] at t0 t1; go_simp; try with_reducible rfl); simp only [Act.put, List.setIfInBounds_toArray, List.set_cons_zero, List.set_cons_succ])
                refine plan_call (.tuple #[W 0, .bool false]) 39 #[W acc, W u] rfl rfl rfl (fun _ _ h hb => h.trans (hb.mono h.size)) (fun w' hS => by obtain ⟨R0, R1, Rf0, Rf1⟩ := row_two (row_call k3 hS); obtain ⟨t0, t1⟩ := (own.call hS).mom hlt; rw [fillS_at hlt] at t0 t1; go_simp) (fun w' hS => PA.out w') ?_
                simp only [Act.put, List.setIfInBounds_toArray, List.set_cons_zero, List.set_cons_succ]
                (refine plan_pure ?_ rfl rfl (fun w' => ?_) ?_; rotate_left; (go_simp; try with_reducible rfl); simp only [Act.put, List.setIfInBounds_toArray, List.set_cons_zero, List.set_cons_succ])
                (refine plan_pure ?_ rfl rfl (fun w' => ?_) ?_; rotate_left; (go_simp; try with_reducible rfl); simp only [Act.put, List.setIfInBounds_toArray, List.set_cons_zero, List.set_cons_succ])
                (refine plan_pure ?_ rfl rfl (fun w' => ?_) ?_; rotate_left; (go_simp; try with_reducible rfl); simp only [Act.put, List.setIfInBounds_toArray, List.set_cons_zero, List.set_cons_succ])
                (refine plan_pure ?_ rfl rfl (fun w' => ?_) ?_; rotate_left; (go_simp; try with_reducible rfl); simp only [Act.put, List.setIfInBounds_toArray, List.set_cons_zero, List.set_cons_succ])
                refine plan_nil ?_
                intro w9 L9
                simp only [List.drop_succ_cons, List.drop_zero]
                try simp only [Act.put, List.setIfInBounds_toArray, List.set_cons_zero, List.set_cons_succ]
                replace own := own.call L9
                replace x := row_call x L9
                replace y := row_call y L9
                replace o := o.trans (L9.mono o.size)
                clear L9 k3
                obtain ⟨t0, t1⟩ := own.mom hlt
                have t2 := own.free (j * 2)
                have t3 := own.free (j * 2 + 1)
                have zg := own.lt
                go_upto_region 16 with (fail)
                replace own := own.setW j 0
                rw [fillS_set] at own
                replace x := row_other (p := ⟨g, j * 2, none⟩) x (by show w.heap.size ≠ g; omega) (.int .u64 (hi 0))
                replace y := row_other (p := ⟨g, j * 2, none⟩) y (by show w.heap.size + 1 ≠ g; omega) (.int .u64 (hi 0))
                replace o := o.setCell (p := ⟨g, j * 2, none⟩) (by show w.heap.size ≤ g; omega) (.int .u64 (hi 0))
                replace x := row_other (p := ⟨g, j * 2 + 1, none⟩) x (by show w.heap.size ≠ g; omega) (.int .u64 (lo 0))
                replace y := row_other (p := ⟨g, j * 2 + 1, none⟩) y (by show w.heap.size + 1 ≠ g; omega) (.int .u64 (lo 0))
                replace o := o.setCell (p := ⟨g, j * 2 + 1, none⟩) (by show w.heap.size ≤ g; omega) (.int .u64 (lo 0))
                generalize ((w9.setCell ⟨g, j * 2, none⟩ (.int .u64 (hi 0))).setCell ⟨g, j * 2 + 1, none⟩ (.int .u64 (lo 0))) = w10 at own x y o ⊢
                clear t0 t1 t2 t3 zg
                obtain ⟨Y0, Y1, Y2, Y3, Yf0, Yf1, Yf2, Yf3⟩ := row_four y
                go_wp2
                exact bodyPost_ret (v := .tuple #[.agg #[.int .i64 0, .int .i64 0, .int .i64 0, .slice none 0 0], .bool false]) (by simp [results, Try.results49, go_sem, Y0, Y1, Y2, Y3]) rfl (by rw [E.out]; exact ⟨rfl, by (repeat (first | exact Below.refl _ _ | refine Below.setCell ?_ (by first | (simp; done) | (simp; omega) | omega) _ | refine Below.alloc ?_ (by first | (simp; done) | (simp; omega) | omega) _ | refine Below.drew ?_ | refine Below.trans ?_ (Below.mono (by assumption) (by first | (simp; done) | (simp; omega) | omega))))⟩)
            · rw [(mulV_no hu).1, (mulV_no hu).2] at PU0
              have PU := Lib.hid PU0
              have E : RowKit.Hid (fitB (rebM d ms) n = false) := Lib.hid (fitB_no hlt (SO.out (by rw [HSM.out]; exact hu)))
              clear PU0
              go_upto_region 12 with (fail)
              clear Q0 Q1 Qf0 Qf1
              refine wp_region_free1 [0, 1, 2, 3, 4, 5, 6, 7, 9, 8] [9] [0, 1, 2, 3, 4, 5, 6, 7, 8, 10] (10, 35, #[.int .u64 0, .int .u64 0]) 13 11 (fun w' => Below w6.heap.size w6 w') (by kernel_rfl) (by kernel_rfl) ⟨_, _, rfl, rfl, rfl, fun ρ w' => by go_simp⟩ rfl (by simp) (fun _ h => h.alloc h.size _) (fun _ _ d _ _ h => by cases d <;> exact h) ?_ ?_
              · exact (Below.refl _ _).drew
              (refine plan_val ?_ rfl rfl rfl (fun w' hS => ?_) ?_; rotate_left; (obtain ⟨X0, X1, X2, X3, Xf0, Xf1, Xf2, Xf3⟩ := row_four (row_call x hS); obtain ⟨Q0, Q1, Qf0, Qf1⟩ := row_two (row_call k2 hS); obtain ⟨p0, p1⟩ := MX.out.below (o.trans (hS.mono o.size)) HAB.out; go_simp; try with_reducible rfl); simp only [Act.put, List.setIfInBounds_toArray, List.set_cons_zero, List.set_cons_succ])
              (refine plan_pure ?_ rfl rfl (fun w' => ?_) ?_; rotate_left; (go_simp; try with_reducible rfl); simp only [Act.put, List.setIfInBounds_toArray, List.set_cons_zero, List.set_cons_succ])
              (refine plan_val ?_ rfl rfl rfl (fun w' hS => ?_) ?_; rotate_left; (obtain ⟨X0, X1, X2, X3, Xf0, Xf1, Xf2, Xf3⟩ := row_four (row_call x hS); obtain ⟨Q0, Q1, Qf0, Qf1⟩ := row_two (row_call k2 hS); obtain ⟨p0, p1⟩ := MX.out.below (o.trans (hS.mono o.size)) HAB.out; go_simp; try with_reducible rfl); simp only [Act.put, List.setIfInBounds_toArray, List.set_cons_zero, List.set_cons_succ])
              (refine plan_pure ?_ rfl rfl (fun w' => ?_) ?_; rotate_left; (go_simp; try with_reducible rfl); simp only [Act.put, List.setIfInBounds_toArray, List.set_cons_zero, List.set_cons_succ])
              (refine plan_pure ?_ rfl rfl (fun w' => ?_) ?_; rotate_left; (go_simp; try with_reducible rfl); simp only [Act.put, List.setIfInBounds_toArray, List.set_cons_zero, List.set_cons_succ])
              (refine plan_val ?_ rfl rfl rfl (fun w' hS => ?_) ?_; rotate_left; (obtain ⟨X0, X1, X2, X3, Xf0, Xf1, Xf2, Xf3⟩ := row_four (row_call x hS); obtain ⟨Q0, Q1, Qf0, Qf1⟩ := row_two (row_call k2 hS); obtain ⟨p0, p1⟩ := MX.out.below (o.trans (hS.mono o.size)) HAB.out; go_simp; try with_reducible rfl); simp only [Act.put, List.setIfInBounds_toArray, List.set_cons_zero, List.set_cons_succ])
              refine plan_call (.tuple #[W 0, .bool false]) 37 #[W pc, W m] rfl rfl rfl (fun _ _ h hb => h.trans (hb.mono h.size)) (fun w' hS => by obtain ⟨X0, X1, X2, X3, Xf0, Xf1, Xf2, Xf3⟩ := row_four (row_call x hS); obtain ⟨Q0, Q1, Qf0, Qf1⟩ := row_two (row_call k2 hS); obtain ⟨p0, p1⟩ := MX.out.below (o.trans (hS.mono o.size)) HAB.out; go_simp) (fun w' hS => PU.out w') ?_
              simp only [Act.put, List.setIfInBounds_toArray, List.set_cons_zero, List.set_cons_succ]
              (refine plan_pure ?_ rfl rfl (fun w' => ?_) ?_; rotate_left; (go_simp; try with_reducible rfl); simp only [Act.put, List.setIfInBounds_toArray, List.set_cons_zero, List.set_cons_succ])
              (refine plan_pure ?_ rfl rfl (fun w' => ?_) ?_; rotate_left; (go_simp; try with_reducible rfl); simp only [Act.put, List.setIfInBounds_toArray, List.set_cons_zero, List.set_cons_succ])
              (refine plan_pure ?_ rfl rfl (fun w' => ?_) ?_; rotate_left; (go_simp; try with_reducible rfl); simp only [Act.put, List.setIfInBounds_toArray, List.set_cons_zero, List.set_cons_succ])
              refine plan_nil ?_
              intro g9 w7 L7 hr9 hg9
              simp only [List.drop_succ_cons, List.drop_zero]
              try simp only [Act.put, List.setIfInBounds_toArray, List.set_cons_zero, List.set_cons_succ]
              have zk2 := row_lt k2
              have zown := own.lt
              have zx := row_lt x
              have zy := row_lt y
              have zo := o.size
              replace own := own.call L7
              replace x := row_call x L7
              replace y := row_call y L7
              replace o := o.trans (L7.mono o.size)
              clear k2 L7
              obtain ⟨R0, R1, Rf0, Rf1⟩ := row_two hr9
              go_upto_region 13 with (fail)
              clear R0 R1 Rf0 Rf1
              replace own := own.other (p := ⟨g9, 0, none⟩) (by show g ≠ g9; omega) (.int .u64 (hi 0))
              replace x := row_other (p := ⟨g9, 0, none⟩) x (by show w.heap.size ≠ g9; omega) (.int .u64 (hi 0))
              replace y := row_other (p := ⟨g9, 0, none⟩) y (by show w.heap.size + 1 ≠ g9; omega) (.int .u64 (hi 0))
              replace o := o.setCell (p := ⟨g9, 0, none⟩) (by show w.heap.size ≤ g9; omega) (.int .u64 (hi 0))
              replace own := own.other (p := ⟨g9, 1, none⟩) (by show g ≠ g9; omega) (.int .u64 (lo 0))
              replace x := row_other (p := ⟨g9, 1, none⟩) x (by show w.heap.size ≠ g9; omega) (.int .u64 (lo 0))
              replace y := row_other (p := ⟨g9, 1, none⟩) y (by show w.heap.size + 1 ≠ g9; omega) (.int .u64 (lo 0))
              replace o := o.setCell (p := ⟨g9, 1, none⟩) (by show w.heap.size ≤ g9; omega) (.int .u64 (lo 0))
              have k3 := row_two_set (u := .int .u64 (hi 0)) (v := .int .u64 (lo 0)) hr9
              generalize ((w7.setCell ⟨g9, 0, none⟩ (.int .u64 (hi 0))).setCell ⟨g9, 1, none⟩ (.int .u64 (lo 0))) = w8 at own x y o k3 ⊢
              clear hr9 zk2 zown zx zy zo
              obtain ⟨R0, R1, Rf0, Rf1⟩ := row_two k3
              obtain ⟨Y0, Y1, Y2, Y3, Yf0, Yf1, Yf2, Yf3⟩ := row_four y
              go_wp2
              exact bodyPost_ret (v := .tuple #[.agg #[.int .i64 0, .int .i64 0, .int .i64 0, .slice none 0 0], .bool false]) (by simp [results, Try.results49, go_sem, Y0, Y1, Y2, Y3]) rfl (by rw [E.out]; exact ⟨rfl, by (repeat (first | exact Below.refl _ _ | refine Below.setCell ?_ (by first | (simp; done) | (simp; omega) | omega) _ | refine Below.alloc ?_ (by first | (simp; done) | (simp; omega) | omega) _ | refine Below.drew ?_ | refine Below.trans ?_ (Below.mono (by assumption) (by first | (simp; done) | (simp; omega) | omega))))⟩)
          · have j1 : ¬ (i : Int) ≤ (j : Int) := by omega
            obtain rfl : i = j + 1 := by omega
            have HB := Lib.hid (fun e (he : e < j + 1) => by
              rcases Nat.lt_or_ge e j with q | q
              · exact HA.out e q
              · rw [show e = j by omega]; exact HT.out)
            have own : Own wr 35 2 g n n (wcells (fillN (rebM d ms) n (j + 1))) := by
              rw [← fillS_done _ hlt]
              exact own
            go_wp2
            go_roundg (n - (j + 1))
            case measure => omega
            case rel => exact ⟨j + 1, by omega, rfl, by go_num, HB, own, x, y, o⟩
    · have i1 : ¬ (j : Int) < (n : Int) := by omega
      obtain rfl : j = n := by omega
      have E : RowKit.Hid (fitB (rebM d ms) j = true) := Lib.hid (fitB_yes HA.out)
      rw [fill_all] at own
      obtain ⟨X0, X1, X2, X3, Xf0, Xf1, Xf2, Xf3⟩ := row_four x
      obtain ⟨Y0, Y1, Y2, Y3, Yf0, Yf1, Yf2, Yf3⟩ := row_four y
      go_wp2
      have ow := own_four (b := w.heap.size + 1) ((own.other (p := ⟨w.heap.size, 1, none⟩) (by show g ≠ w.heap.size; omega) (.int .i64 ld)).other (p := ⟨w.heap.size, 3, none⟩) (by show g ≠ w.heap.size; omega) (.slice (some ⟨g, 0, none⟩) j j)) (by omega) (.int .i64 p) (.int .i64 ld) (.int .i64 now) (.slice (some ⟨g, 0, none⟩) j j)
      have ob := below_four (b := w.heap.size + 1) ((o.setCell (p := ⟨w.heap.size, 1, none⟩) (by simp) (.int .i64 ld)).setCell (p := ⟨w.heap.size, 3, none⟩) (by simp) (.slice (some ⟨g, 0, none⟩) j j)) (by omega) (.int .i64 p) (.int .i64 ld) (.int .i64 now) (.slice (some ⟨g, 0, none⟩) j j)
      exact bodyPost_ret (v := .tuple #[.agg #[.int .i64 p, .int .i64 ld, .int .i64 now, .slice (some ⟨g, 0, none⟩) j j], .bool true]) (by simp [results, Try.results49, go_sem, Y0, Y1, Y2, Y3]) rfl (by rw [E.out]; exact ⟨g, j, rfl, ow, by omega, ob⟩)
end Go.Proofs.Ytejoomlaanmbkaa
