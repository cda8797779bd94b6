/- Summaries of a stream: the law of two streams, walked. -/
import Derived.Test.YtdibjlphcmjnoaaAskK
import Derived.Test.YtdibjlphcmjnoaaMathSum9
import Derived.Test.YtdibjlphcmjnoaaSumW
import Derived.Test.YtdibjlphcmjnoaaPhase
import Derived.Test.YtdibjlphcmjnoaaAppend
set_option linter.unusedVariables false
set_option linter.unusedSimpArgs false
set_option linter.unusedSectionVars false
set_option linter.unnecessarySimpa false
namespace Go.Proofs.Ytdibjlphcmjnoaa
open Go.RowKit
theorem ite_of {c : Prop} [Decidable c] {A B : Prop} (h : c) (a : A) : if c then A else B := by rw [if_pos h]; exact a
theorem hw_oneb {P : Program} {md : Region.Mode} {ops : Array Oper} {S : World → Prop} {Q : Exit → Act → World → Prop} {n g : Nat} {tail : List Oper} {f : Nat} {listed : Array Bool} {a : Act} {w : World} {i : Nat} {oi : Oper} (hi : ops[i]? = some oi) (hin : i < n) (hr : (Region.ready md ops listed == [i]) = true)
    (h : ∀ K : Act → World → Prop, (∀ a' w', S w' → HW P md ops S Q n g tail f (listed.setIfInBounds i true) a' w' → K a' w') → if Region.wanted oi (yielded ops a.tmps) = true then Oper.wp P oi a w K Q else K (a.put oi.dst undef) w) : HW P md ops S Q n g tail (f + 1) listed a w := hw_one hi hin (eq_of_beq hr) h
theorem hw_append {P : Program} {md : Region.Mode} {ops : Array Oper} {S : World → Prop} {Q : Exit → Act → World → Prop} {n g : Nat} {tail : List Oper} {f : Nat} {listed : Array Bool} {a : Act} {w : World} {i : Nat} {oi : Oper} (hi : ops[i]? = some oi) (hin : i < n) (hr : (Region.ready md ops listed == [i]) = true) (hw : Region.wanted oi (yielded ops a.tmps) = true)
    (s x : Operand) (t : TypeId) (ho : oi.op = .call { callee := .builtin .append, args := #[s, x], argTypes := #[t, t] })
    (base : Nat) (e : TypeId) (ti : TypeInfo) (z : Value) (size bytes : Nat) (ht : P.underlying t = some (.slice e)) (hti : P.info? e = some ti) (hz : ti.zero = some z)
    (hsize : ti.size = size) (hby : ti.bytes = bytes) (hzs : z.cells.size = size) (hsz : 0 < size)
    (v : Value) (nn : Nat) (xs : List Value) (hs : a.eval s = v) (hown : w.ownsRow base e size v nn xs)
    (B : Nat) (A : Option Addr) (m c : Nat) (news : List Value) (hx : a.eval x = .slice A m c) (hrd : Reads w B size A m news) (h1 : ∀ u ∈ news, u.oneCell' = true)
    (h63 : nn + m ≤ maxLen) (hbytes : (nn + m) * bytes ≤ 140737488355328) (hbase : base ≤ w.heap.size)
    (h : ∀ v' w', w'.ownsRow base e size v' (nn + m) (xs ++ news) → w.grownBy w' v.ownBlock → (v'.ownBlock = v.ownBlock ∨ v'.ownBlock = some w.heap.size) → S w' ∧ HW P md ops S Q n g tail f (listed.setIfInBounds i true) (a.put oi.dst v') w') : HW P md ops S Q n g tail (f + 1) listed a w :=
  hw_oneb hi hin hr fun K hK => ite_of hw (wp_append_any w s x t ho base e ti z size bytes ht hti hz hsize hby hzs hsz v nn xs hs hown B A m c news hx hrd h1 h63 hbytes hbase fun v' w' a b c => (h v' w' a b c).elim fun p q => hK _ _ p q)
theorem SIn.grown {k cap n : Int} {A : Option Addr} {m c : Nat} {ts : List Tup} {w w' : World} {row : Option Nat} (h : SIn k cap n A m c ts w) (hg : w.grownBy w' row) (hne : ∀ a, A = some a → row ≠ some a.block) : SIn k cap n A m c ts w' := by
  refine ⟨⟨h.reads.1, fun hn => ?_⟩, h.kB, h.capB, h.nB, h.tB, h.mc, h.cB⟩
  obtain ⟨ad, e, hb, hc⟩ := h.reads.2 hn
  refine ⟨ad, e, Nat.lt_of_lt_of_le hb hg.size, fun j u hu => ?_⟩
  exact (World.cell?_of_block (hg.block _ (by rw [block_of_add]; exact hb) (fun x => hne ad e (by rw [← x, block_of_add])))).trans (hc j u hu)
set_option maxRecDepth 100000 in
set_option maxHeartbeats 8000000 in
theorem summaryBoth (A : Option Addr) (m c : Nat) (l : List Int) (A' : Option Addr) (m' c' : Nat) (l' : List Int) (k0 o0 v p0 q0 : Int) (w : World) (hin : NIn A m c l w) (hin' : NIn A' m' c' l' w) :
    Calls Try.prog 9 #[.slice A m c, .slice A' m' c', .int .i64 k0, .int .i64 o0, .int .i64 v, .int .i64 p0, .int .i64 q0] w fun e w' => e = .returned (.bool true) ∧ Below w.heap.size w w' := by
  obtain ⟨ii, hii, iz0, iz1, iz2⟩ := info_parts info_itm
  have PI := fun w => pint k0 8 (by decide) (by decide) w
  have r0 := Int.emod_nonneg k0 (show (8 : Int) ≠ 0 by decide)
  have r1 := Int.emod_lt_of_pos k0 (show (0 : Int) < 8 by decide)
  have PJ := fun w => pint o0 12 (by decide) (by decide) w
  have s0 := Int.emod_nonneg o0 (show (12 : Int) ≠ 0 by decide)
  have s1 := Int.emod_lt_of_pos o0 (show (0 : Int) < 12 by decide)
  have PQ := fun w => pmod q0 50 (by decide) (by decide) w
  have t0 := Int.emod_nonneg q0 (show (50 : Int) ≠ 0 by decide)
  have t1 := Int.emod_lt_of_pos q0 (show (0 : Int) < 50 by decide)
  generalize k0 % 8 = r at PI r0 r1
  generalize o0 % 12 = s at PJ s0 s1
  generalize q0 % 50 = u at PQ t0 t1
  obtain ⟨kk, hkk⟩ : ∃ kk, 1 + r = kk := ⟨_, rfl⟩
  obtain ⟨oo, hoo⟩ : ∃ oo : Nat, 1 + s = (oo : Int) := ⟨(1 + s).toNat, by omega⟩
  obtain ⟨q, hq⟩ : ∃ q : Nat, 1 + u = (q : Int) := ⟨(1 + u).toNat, by omega⟩
  have PP := fun w => (pmod p0 ((q : Int) + 1) (by omega) (by omega) w).mono (fun e w' h => (⟨h.1, by rw [h.2]; exact Below.refl _ _⟩ : e = .returned (.int .i64 (p0 % ((q : Int) + 1))) ∧ Below w.heap.size w w'))
  have p1 := Int.emod_nonneg p0 (show (q : Int) + 1 ≠ 0 by omega)
  have p2 := Int.emod_lt_of_pos p0 (show (0 : Int) < (q : Int) + 1 by omega)
  obtain ⟨p, hp⟩ : ∃ p : Nat, p0 % ((q : Int) + 1) = (p : Int) := ⟨(p0 % ((q : Int) + 1)).toNat, by omega⟩
  rw [hp] at PP p1 p2
  have kb : 1 ≤ kk ∧ kk ≤ 8 := by omega
  have ob : 1 ≤ oo ∧ oo ≤ 12 := by omega
  have qb : 1 ≤ q ∧ q ≤ 50 ∧ p ≤ q := by omega
  have wr1 : IntKind.i64.wrap (1 + r) = kk := by rw [IntWalk.i64_in _ (by omega)]; exact hkk
  have ws1 : IntKind.i64.wrap (1 + s) = (oo : Int) := by rw [IntWalk.i64_in _ (by omega)]; exact hoo
  have wt1 : IntKind.i64.wrap (1 + u) = (q : Int) := by rw [IntWalk.i64_in _ (by omega)]; exact hq
  have wq1 : IntKind.i64.wrap ((q : Int) + 1) = (q : Int) + 1 := IntWalk.i64_in _ (by omega)
  have PI := Lib.hid PI
  have PJ := Lib.hid PJ
  have PQ := Lib.hid PQ
  have PP := Lib.hid PP
  have PV1 := Lib.hid (pvalues A m c l 80 w hin (by decide))
  have PV2 := Lib.hid (fun w1 (hb : Below w.heap.size w w1) => pvalues A' m' c' l' 80 w1 (hin'.below hb) (by decide))
  clear hin hin' r0 r1 s0 s1 t0 t1 hkk hoo hq hp p1 p2
  go_enter Try.func9, Try.ntmps9
  go_upto_region 3 with (first | (go_at_call 21; with_reducible refine (PI.out _).mono ?_; rintro e w9 ⟨rfl, h9⟩; obtain rfl := h9.symm) | (go_at_call 21; with_reducible refine (PJ.out _).mono ?_; rintro e w9 ⟨rfl, h9⟩; obtain rfl := h9.symm) | (go_at_call 31; with_reducible refine (PQ.out _).mono ?_; rintro e w9 ⟨rfl, h9⟩; obtain rfl := h9.symm))
  go_wp2_with fail
  refine PV1.out.mono ?_
  rintro e w1 ⟨v1, vs1, rfl, own1, hl1, hv1, hb1⟩
  obtain ⟨A1, c1, rfl, rd1, fb1⟩ := Reads.of_own' own1
  go_wp2_with fail
  refine (PV2.out w1 hb1).mono ?_
  rintro e w2 ⟨v2, vs2, rfl, own2, hl2, hv2, hb2⟩
  obtain ⟨A2, c2, rfl, rd2, fb2⟩ := Reads.of_own' own2
  have o := hb1
  clear own2 fb2 fb1 PV1 PV2 PI PJ PQ wr1 ws1 wt1 hb1
  have z_hb2 := hb2.size
  replace rd1 := (rd1.below hb2).more hb2.size
  replace own1 := orow_keep own1 (fun g e => hb2.block g (own1.lt g e).2)
  replace o := o.trans (hb2.mono o.size)
  clear hb2
  generalize hvl1 : vs1.length = n1 at hl1 rd1 own1 ⊢
  generalize hvl2 : vs2.length = n2 at hl2 rd2 ⊢
  have PR1 := Lib.hid (fun w1 hr => prun20 kk oo A1 n1 c1 vs1 w1 kb.1 (by omega) ob.1 (by omega) hr hvl1 (by omega) hv1)
  have PR2 := Lib.hid (fun w1 hr => prun20 kk oo A2 n2 c2 vs2 w1 kb.1 (by omega) ob.1 (by omega) hr hvl2 (by omega) hv2)
  have HV1 := Lib.hid hvl1
  have HV2 := Lib.hid hvl2
  clear hvl1 hvl2 hv1 hv2
  go_wp2_with fail
  refine (PR1.out _ rd1).mono ?_
  rintro e w3 ⟨A3, m3, c3, ts1, rfl, s3, T1, hb3, f3⟩
  rw [HV1.out] at s3
  rw [HV1.out]
  clear rd1
  have z_hb3 := hb3.size
  replace rd2 := (rd2.below hb3).more hb3.size
  replace own1 := orow_keep own1 (fun g e => hb3.block g (own1.lt g e).2)
  replace o := o.trans (hb3.mono o.size)
  clear hb3
  go_upto_region 5 with (fail)
  have X : Row (w3.alloc (.cells #[.int .i64 kk, .int .i64 300, .int .i64 (n1 : Nat), .slice A3 m3 c3] 24)) w3.heap.size 24 #[.int .i64 kk, .int .i64 300, .int .i64 (n1 : Nat), .slice A3 m3 c3] := row_new rfl
  have al := (Below.refl w3.heap.size w3).alloc (Nat.le_refl _) (.cells #[.int .i64 kk, .int .i64 300, .int .i64 (n1 : Nat), .slice A3 m3 c3] 24)
  have za_w4 : w3.heap.size + 1 = (w3.alloc (.cells #[.int .i64 kk, .int .i64 300, .int .i64 (n1 : Nat), .slice A3 m3 c3] 24)).heap.size := by simp
  replace own1 := own1.alloc (.cells #[.int .i64 kk, .int .i64 300, .int .i64 (n1 : Nat), .slice A3 m3 c3] 24)
  generalize w3.alloc (.cells #[.int .i64 kk, .int .i64 300, .int .i64 (n1 : Nat), .slice A3 m3 c3] 24) = w4 at X al za_w4 own1 ⊢
  replace s3 := s3.below al
  replace rd2 := (rd2.below al).more al.size
  replace o := o.trans (al.mono o.size)
  generalize w3.heap.size = xb at X za_w4 z_hb3 ⊢
  clear al
  go_wp2_with fail
  refine (PR2.out _ rd2).mono ?_
  rintro e w5 ⟨A5, m5, c5, ts2, rfl, s5, T2, hb5, f5⟩
  rw [HV2.out] at s5
  rw [HV2.out]
  have z_hb5 := hb5.size
  replace X := row_call X hb5
  replace s3 := s3.below hb5
  replace rd2 := (rd2.below hb5).more hb5.size
  replace own1 := orow_keep own1 (fun g e => hb5.block g (own1.lt g e).2)
  replace o := o.trans (hb5.mono o.size)
  clear hb5
  go_upto_region 6 with (fail)
  have Y : Row (w5.alloc (.cells #[.int .i64 kk, .int .i64 300, .int .i64 (n2 : Nat), .slice A5 m5 c5] 24)) w5.heap.size 24 #[.int .i64 kk, .int .i64 300, .int .i64 (n2 : Nat), .slice A5 m5 c5] := row_new rfl
  have al := (Below.refl w5.heap.size w5).alloc (Nat.le_refl _) (.cells #[.int .i64 kk, .int .i64 300, .int .i64 (n2 : Nat), .slice A5 m5 c5] 24)
  have za_w6 : w5.heap.size + 1 = (w5.alloc (.cells #[.int .i64 kk, .int .i64 300, .int .i64 (n2 : Nat), .slice A5 m5 c5] 24)).heap.size := by simp
  replace own1 := own1.alloc (.cells #[.int .i64 kk, .int .i64 300, .int .i64 (n2 : Nat), .slice A5 m5 c5] 24)
  generalize w5.alloc (.cells #[.int .i64 kk, .int .i64 300, .int .i64 (n2 : Nat), .slice A5 m5 c5] 24) = w6 at Y al za_w6 own1 ⊢
  replace X := row_call X al
  replace s3 := s3.below al
  replace s5 := s5.below al
  replace rd2 := (rd2.below al).more al.size
  replace o := o.trans (al.mono o.size)
  generalize w5.heap.size = yb at Y za_w6 z_hb5 ⊢
  clear al
  obtain ⟨X0, X1, X2, X3, Xf0, Xf1, Xf2, Xf3⟩ := row_four X
  obtain ⟨Y0, Y1, Y2, Y3, Yf0, Yf1, Yf2, Yf3⟩ := row_four Y
  obtain ⟨E1, TM⟩ := sum_merge T1 T2 (by rw [HV1.out, HV2.out]; omega)
  rw [HV1.out, HV2.out] at E1
  have PM := pmerge kk 300 (n1 : Nat) A3 m3 c3 ts1 kk 300 (n2 : Nat) A5 m5 c5 ts2 w6 s3 s5
  rw [E1] at PM
  generalize mrg2 ts1 ts2 = tm at PM TM
  have TM := Lib.hid TM
  clear E1 T1 T2 s3 s5 f3 f5
  go_wp2_with fail
  refine PM.mono ?_
  intro e w7 hq
  obtain ⟨A7, m7, c7, rfl, s7, hb7, f7⟩ := sret_at rfl hq
  clear hq PM X0 X1 X2 X3 Xf0 Xf1 Xf2 Xf3 Y0 Y1 Y2 Y3 Yf0 Yf1 Yf2 Yf3 X Y
  have OL := own1.lt
  have f8 : ∀ a, A7 = some a → (Value.slice A1 n1 c1).ownBlock ≠ some a.block := fun a e h => by
    have h1 := (f7 a e).1
    have h2 := (OL a.block h).2
    omega
  clear f7 OL
  have z_hb7 := hb7.size
  replace rd2 := (rd2.below hb7).more hb7.size
  replace own1 := orow_keep own1 (fun g e => hb7.block g (own1.lt g e).2)
  replace o := o.trans (hb7.mono o.size)
  clear hb7
  go_upto_region 7 with (fail)
  have OL7 := own1.lt
  have M : Row (w7.alloc (.cells #[.int .i64 kk, .int .i64 300, .int .i64 ((n1 : Int) + (n2 : Int)), .slice A7 m7 c7] 24)) w7.heap.size 24 #[.int .i64 kk, .int .i64 300, .int .i64 ((n1 : Int) + (n2 : Int)), .slice A7 m7 c7] := row_new rfl
  have al := (Below.refl w7.heap.size w7).alloc (Nat.le_refl _) (.cells #[.int .i64 kk, .int .i64 300, .int .i64 ((n1 : Int) + (n2 : Int)), .slice A7 m7 c7] 24)
  have za_w8 : w7.heap.size + 1 = (w7.alloc (.cells #[.int .i64 kk, .int .i64 300, .int .i64 ((n1 : Int) + (n2 : Int)), .slice A7 m7 c7] 24)).heap.size := by simp
  replace own1 := own1.alloc (.cells #[.int .i64 kk, .int .i64 300, .int .i64 ((n1 : Int) + (n2 : Int)), .slice A7 m7 c7] 24)
  generalize w7.alloc (.cells #[.int .i64 kk, .int .i64 300, .int .i64 ((n1 : Int) + (n2 : Int)), .slice A7 m7 c7] 24) = w8 at M al za_w8 own1 ⊢
  replace s7 := s7.below al
  replace rd2 := (rd2.below al).more al.size
  replace o := o.trans (al.mono o.size)
  generalize w7.heap.size = mb at M za_w8 z_hb7 OL7 ⊢
  clear al
  have OL := own1.lt
  have fm : (Value.slice A1 n1 c1).ownBlock ≠ some mb := fun h => by have := (OL7 mb h).2; omega
  clear OL7
  have hl3 : (vs1 ++ vs2).length = n1 + n2 := by rw [List.length_append, HV1.out, HV2.out]
  have en : (((n1 + n2 : Nat) : Nat) : Int) = (n1 : Int) + (n2 : Int) := by omega
  have PS := fun A c w1 h hr => psound kk 300 A7 m7 c7 tm A (n1 + n2) c (vs1 ++ vs2) v p q w1 h TM.out hr hl3 (by omega) qb.1 qb.2.2 (by omega)
  rw [en, vitems_append, icells_append] at PS
  have PS := Lib.hid PS
  have io2 := icells_one (vitems vs2)
  generalize icells (vitems vs1) = ic1 at own1 PS
  generalize icells (vitems vs2) = ic2 at rd2 PS io2
  clear hl3 en
  refine wp_region_phase 24 (fun w' => Row w' mb 24 #[.int .i64 kk, .int .i64 300, .int .i64 ((n1 : Int) + (n2 : Int)), .slice A7 m7 c7] ∧ Below w.heap.size w w') (by kernel_rfl) (by kernel_rfl) (by kernel_rfl) (by kernel_rfl) (by kernel_rfl) (fun HOK => ?_)
  have HS := (⟨M, o.drew⟩ : Row w8.drew mb 24 #[.int .i64 kk, .int .i64 300, .int .i64 ((n1 : Int) + (n2 : Int)), .slice A7 m7 c7] ∧ Below w.heap.size w w8.drew)
  (refine hw_take HOK (i := 0) ?_ rfl (by decide) (by kernel_rfl) (by kernel_rfl) (by exact fun _ _ _ h => h) (Or.inl ⟨by kernel_rfl, fun w' hS => ?_⟩) HS ?_; rotate_left; (go_simp; try with_reducible rfl); simp only [Act.put, List.getElem_toArray, List.getElem_cons_zero, List.getElem_cons_succ, List.setIfInBounds_toArray, List.set_cons_zero, List.set_cons_succ])
  (refine hw_take HOK (i := 1) ?_ rfl (by decide) (by kernel_rfl) (by kernel_rfl) (by exact fun _ _ _ h => h) (Or.inl ⟨by kernel_rfl, fun w' hS => ?_⟩) HS ?_; rotate_left; (go_simp; try with_reducible rfl); simp only [Act.put, List.getElem_toArray, List.getElem_cons_zero, List.getElem_cons_succ, List.setIfInBounds_toArray, List.set_cons_zero, List.set_cons_succ])
  (refine hw_take HOK (i := 2) ?_ rfl (by decide) (by kernel_rfl) (by kernel_rfl) (by exact fun _ _ _ h => h) (Or.inl ⟨by kernel_rfl, fun w' hS => ?_⟩) HS ?_; rotate_left; (go_simp; try with_reducible rfl); simp only [Act.put, List.getElem_toArray, List.getElem_cons_zero, List.getElem_cons_succ, List.setIfInBounds_toArray, List.set_cons_zero, List.set_cons_succ])
  (refine hw_take HOK (i := 3) ?_ rfl (by decide) (by kernel_rfl) (by kernel_rfl) (by exact fun _ _ _ h => h) (Or.inl ⟨by kernel_rfl, fun w' hS => ?_⟩) HS ?_; rotate_left; (go_simp; try with_reducible rfl); simp only [Act.put, List.getElem_toArray, List.getElem_cons_zero, List.getElem_cons_succ, List.setIfInBounds_toArray, List.set_cons_zero, List.set_cons_succ])
  (refine hw_take HOK (i := 4) ?_ rfl (by decide) (by kernel_rfl) (by kernel_rfl) (by exact fun _ _ _ h => h) (Or.inl ⟨by kernel_rfl, fun w' hS => ?_⟩) HS ?_; rotate_left; (go_simp; try with_reducible rfl); simp only [Act.put, List.getElem_toArray, List.getElem_cons_zero, List.getElem_cons_succ, List.setIfInBounds_toArray, List.set_cons_zero, List.set_cons_succ])
  (refine hw_take HOK (i := 5) ?_ rfl (by decide) (by kernel_rfl) (by kernel_rfl) (by exact fun _ _ _ h => h) (Or.inl ⟨by kernel_rfl, fun w' hS => ?_⟩) HS ?_; rotate_left; (go_simp; try with_reducible rfl); simp only [Act.put, List.getElem_toArray, List.getElem_cons_zero, List.getElem_cons_succ, List.setIfInBounds_toArray, List.set_cons_zero, List.set_cons_succ])
  (refine hw_take HOK (i := 6) ?_ rfl (by decide) (by kernel_rfl) (by kernel_rfl) (by exact fun _ _ _ h => h) (Or.inl ⟨by kernel_rfl, fun w' hS => ?_⟩) HS ?_; rotate_left; (go_simp; try with_reducible rfl); simp only [Act.put, List.getElem_toArray, List.getElem_cons_zero, List.getElem_cons_succ, List.setIfInBounds_toArray, List.set_cons_zero, List.set_cons_succ])
  (refine hw_take HOK (i := 7) ?_ rfl (by decide) (by kernel_rfl) (by kernel_rfl) (by exact fun _ _ _ h => h) (Or.inl ⟨by kernel_rfl, fun w' hS => ?_⟩) HS ?_; rotate_left; (go_simp; try with_reducible rfl); simp only [Act.put, List.getElem_toArray, List.getElem_cons_zero, List.getElem_cons_succ, List.setIfInBounds_toArray, List.set_cons_zero, List.set_cons_succ])
  (refine hw_take HOK (i := 8) ?_ rfl (by decide) (by kernel_rfl) (by kernel_rfl) (by exact fun _ _ _ h => h) (Or.inl ⟨by kernel_rfl, fun w' hS => ?_⟩) HS ?_; rotate_left; (go_simp; try with_reducible rfl); simp only [Act.put, List.getElem_toArray, List.getElem_cons_zero, List.getElem_cons_succ, List.setIfInBounds_toArray, List.set_cons_zero, List.set_cons_succ])
  (refine hw_take HOK (i := 9) ?_ rfl (by decide) (by kernel_rfl) (by kernel_rfl) (by exact fun _ _ _ h => h) (Or.inl ⟨by kernel_rfl, fun w' hS => ?_⟩) HS ?_; rotate_left; (obtain ⟨M0, M1, M2, M3, _, _, _, _⟩ := row_four hS.1; go_simp; try with_reducible rfl); simp only [Act.put, List.getElem_toArray, List.getElem_cons_zero, List.getElem_cons_succ, List.setIfInBounds_toArray, List.set_cons_zero, List.set_cons_succ])
  (refine hw_take HOK (i := 10) ?_ rfl (by decide) (by kernel_rfl) (by kernel_rfl) (by exact fun _ _ _ h => h) (Or.inl ⟨by kernel_rfl, fun w' hS => ?_⟩) HS ?_; rotate_left; (go_simp; try with_reducible rfl); simp only [Act.put, List.getElem_toArray, List.getElem_cons_zero, List.getElem_cons_succ, List.setIfInBounds_toArray, List.set_cons_zero, List.set_cons_succ])
  (refine hw_take HOK (i := 11) ?_ rfl (by decide) (by kernel_rfl) (by kernel_rfl) (by exact fun _ _ _ h => h) (Or.inl ⟨by kernel_rfl, fun w' hS => ?_⟩) HS ?_; rotate_left; (go_simp; try with_reducible rfl); simp only [Act.put, List.getElem_toArray, List.getElem_cons_zero, List.getElem_cons_succ, List.setIfInBounds_toArray, List.set_cons_zero, List.set_cons_succ])
  (refine hw_take HOK (i := 13) ?_ rfl (by decide) (by kernel_rfl) (by kernel_rfl) (by exact fun _ _ _ h => h) (Or.inl ⟨by kernel_rfl, fun w' hS => ?_⟩) HS ?_; rotate_left; (go_simp; try with_reducible rfl); simp only [Act.put, List.getElem_toArray, List.getElem_cons_zero, List.getElem_cons_succ, List.setIfInBounds_toArray, List.set_cons_zero, List.set_cons_succ])
  (refine hw_take HOK (i := 14) ?_ rfl (by decide) (by kernel_rfl) (by kernel_rfl) (by exact fun _ _ _ h => h) (Or.inl ⟨by kernel_rfl, fun w' hS => ?_⟩) HS ?_; rotate_left; (go_simp; try with_reducible rfl); simp only [Act.put, List.getElem_toArray, List.getElem_cons_zero, List.getElem_cons_succ, List.setIfInBounds_toArray, List.set_cons_zero, List.set_cons_succ])
  (refine hw_take HOK (i := 15) ?_ rfl (by decide) (by kernel_rfl) (by kernel_rfl) (by exact fun _ _ _ h => h) (Or.inl ⟨by kernel_rfl, fun w' hS => ?_⟩) HS ?_; rotate_left; (go_simp; try with_reducible rfl); simp only [Act.put, List.getElem_toArray, List.getElem_cons_zero, List.getElem_cons_succ, List.setIfInBounds_toArray, List.set_cons_zero, List.set_cons_succ])
  (refine hw_take HOK (i := 16) ?_ rfl (by decide) (by kernel_rfl) (by kernel_rfl) (by exact fun _ _ _ h => h) (Or.inl ⟨by kernel_rfl, fun w' hS => ?_⟩) HS ?_; rotate_left; (go_simp; try with_reducible rfl); simp only [Act.put, List.getElem_toArray, List.getElem_cons_zero, List.getElem_cons_succ, List.setIfInBounds_toArray, List.set_cons_zero, List.set_cons_succ])
  (refine hw_take HOK (i := 18) ?_ rfl (by decide) (by kernel_rfl) (by kernel_rfl) (by exact fun _ _ _ h => h) (Or.inl ⟨by kernel_rfl, fun w' hS => ?_⟩) HS ?_; rotate_left; (go_simp; try with_reducible rfl); simp only [Act.put, List.getElem_toArray, List.getElem_cons_zero, List.getElem_cons_succ, List.setIfInBounds_toArray, List.set_cons_zero, List.set_cons_succ])
  refine hw_append (i := 12) rfl (by decide) (by kernel_rfl) (by kernel_rfl) _ _ 38 rfl w.heap.size 41 ii (.agg #[.int .i64 0, .int .i64 0]) 2 16 Try.underlying38 hii iz0 iz1 iz2 rfl (by decide) (.slice A1 n1 c1) n1 ic1 rfl own1 w8.heap.size A2 n2 c2 ic2 rfl rd2 io2 (by unfold maxLen; omega) (by omega) (by exact o.size) ?_
  intro v9 w9 own9 hg9 hat9
  have M9 := row_grown (row_drew M) hg9 fm
  have s9 := (s7.below ((Below.refl _ _).drew)).grown hg9 f8
  have o9 := below_grown o.drew hg9 (fun b e => (OL b e).1) (by exact o.size)
  refine ⟨⟨M9, o9⟩, ?_⟩
  obtain ⟨A9, c9, rfl, rd9, fb9⟩ := Reads.of_own' own9
  have PS9 := Lib.hid (fun w10 (h : Below w9.heap.size w9 w10) => PS.out A9 c9 w10 (s9.below h) ((rd9.below h).more h.size))
  clear own9 hg9 hat9 fb9 rd9 s9 PS M o s7 own1 rd2 HS io2 fm f8 OL
  have HS : Row w9 mb 24 #[.int .i64 kk, .int .i64 300, .int .i64 ((n1 : Int) + (n2 : Int)), .slice A7 m7 c7] ∧ Below w.heap.size w w9 := ⟨M9, o9⟩
  try simp only [Act.put, List.getElem_toArray, List.getElem_cons_zero, List.getElem_cons_succ, List.setIfInBounds_toArray, List.set_cons_zero, List.set_cons_succ]
  refine hw_oneb (i := 17) rfl (by decide) (by kernel_rfl) (fun K hK => ?_)
  refine ite_of (by kernel_rfl) ?_
  go_simp
  refine (PP.out _).mono ?_
  rintro e w10 ⟨rfl, hb10⟩
  have HS1 : Row w10 mb 24 #[.int .i64 kk, .int .i64 300, .int .i64 ((n1 : Int) + (n2 : Int)), .slice A7 m7 c7] ∧ Below w.heap.size w w10 := ⟨row_call M9 hb10, o9.trans (hb10.mono o9.size)⟩
  replace PS9 := Lib.hid (PS9.out w10 hb10)
  refine hK _ _ HS1 ?_
  clear hK K hb10 M9 o9 HS
  try simp only [Act.put, List.getElem_toArray, List.getElem_cons_zero, List.getElem_cons_succ, List.setIfInBounds_toArray, List.set_cons_zero, List.set_cons_succ]
  refine hw_oneb (i := 19) rfl (by decide) (by kernel_rfl) (fun K hK => ?_)
  refine ite_of (by kernel_rfl) ?_
  go_simp
  refine PS9.out.mono ?_
  rintro e w11 ⟨rfl, hb11⟩
  have HS2 : Row w11 mb 24 #[.int .i64 kk, .int .i64 300, .int .i64 ((n1 : Int) + (n2 : Int)), .slice A7 m7 c7] ∧ Below w.heap.size w w11 := ⟨row_call HS1.1 hb11, HS1.2.trans (hb11.mono HS1.2.size)⟩
  refine hK _ _ HS2 ?_
  clear hK K HS1
  try simp only [Act.put, List.getElem_toArray, List.getElem_cons_zero, List.getElem_cons_succ, List.setIfInBounds_toArray, List.set_cons_zero, List.set_cons_succ]
  (refine hw_take HOK (i := 20) ?_ rfl (by decide) (by kernel_rfl) (by kernel_rfl) (by exact fun _ _ _ h => h) (Or.inl ⟨by kernel_rfl, fun w' hS => ?_⟩) HS2 ?_; rotate_left; (go_simp; try with_reducible rfl); simp only [Act.put, List.getElem_toArray, List.getElem_cons_zero, List.getElem_cons_succ, List.setIfInBounds_toArray, List.set_cons_zero, List.set_cons_succ])
  (refine hw_take HOK (i := 21) ?_ rfl (by decide) (by kernel_rfl) (by kernel_rfl) (by exact fun _ _ _ h => h) (Or.inl ⟨by kernel_rfl, fun w' hS => ?_⟩) HS2 ?_; rotate_left; (go_simp; try with_reducible rfl); simp only [Act.put, List.getElem_toArray, List.getElem_cons_zero, List.getElem_cons_succ, List.setIfInBounds_toArray, List.set_cons_zero, List.set_cons_succ])
  refine hw_oneb (i := 22) rfl (by decide) (by kernel_rfl) (fun K hK => ?_)
  refine ite_of (by kernel_rfl) ?_
  go_simp
  refine (awake20 _).mono ?_
  rintro e w12 ⟨rfl, hb12⟩
  have HS3 : Row w12 mb 24 #[.int .i64 kk, .int .i64 300, .int .i64 ((n1 : Int) + (n2 : Int)), .slice A7 m7 c7] ∧ Below w.heap.size w w12 := ⟨row_call HS2.1 hb12, HS2.2.trans (hb12.mono HS2.2.size)⟩
  refine hK _ _ HS3 ?_
  clear hK K HS2
  try simp only [Act.put, List.getElem_toArray, List.getElem_cons_zero, List.getElem_cons_succ, List.setIfInBounds_toArray, List.set_cons_zero, List.set_cons_succ]
  (refine hw_take HOK (i := 23) ?_ rfl (by decide) (by kernel_rfl) (by kernel_rfl) (by exact fun _ _ _ h => h) (Or.inl ⟨by kernel_rfl, fun w' hS => ?_⟩) HS3 ?_; rotate_left; (go_simp; try with_reducible rfl); simp only [Act.put, List.getElem_toArray, List.getElem_cons_zero, List.getElem_cons_succ, List.setIfInBounds_toArray, List.set_cons_zero, List.set_cons_succ])
  refine hw_done (by kernel_rfl) ?_
  simp only [List.drop_succ_cons, List.drop_zero]
  clear HOK
  go_wp2
  go_ret
  exact ⟨rfl, HS3.2⟩
end Go.Proofs.Ytdibjlphcmjnoaa
