/- Counters with polynomial decay: the law of truth, walked. -/
import Derived.Test.YtejoomlaanmbkaaPolyI
namespace Go.Proofs.Ytejoomlaanmbkaa
open Go.RowKit Go.Shelf
theorem reads_one {w : World} {b : Nat} {ty : TypeId} {T V : Int} (h : Row w b ty #[.int .i64 T, .int .i64 V]) (hb : b < w.heap.size) : Reads w w.heap.size 2 (some ⟨b, 0, none⟩) 1 (icells [⟨T, V⟩]) := by
  obtain ⟨c0, c1, _, _⟩ := row_two h
  refine ⟨rfl, fun _ => ⟨_, rfl, hb, fun j u hu => ?_⟩⟩
  match j, hu with
  | 0, hu => obtain rfl := Option.some.inj hu; exact c0
  | 1, hu => obtain rfl := Option.some.inj hu; exact c1
  | j + 2, hu => cases (hu : (none : Option Value) = some u)
theorem pmom_one (land now : Int) (p : Nat) : pmom land [⟨now, 1⟩] p = powN (ageN land now) p := by
  show powN (ageN land now) p * 1 + 0 = _
  omega
set_option maxHeartbeats 4000000 in
theorem polyTruth (A : Option Addr) (m c : Nat) (l : List Itm) (a0 a1 a2 : Int) (w : World) (hin : RIn A m c l w) :
    Calls Try.prog 5 #[.slice A m c, .int .i64 a0, .int .i64 a1, .int .i64 a2] w fun e w' => e = .returned (.bool true) ∧ Below w.heap.size w w' := by
  have PI := fun w => pint a0 5 (by decide) (by decide) w
  have r0 := Int.emod_nonneg a0 (show (5 : Int) ≠ 0 by decide)
  have r1 := Int.emod_lt_of_pos a0 (show (0 : Int) < 5 by decide)
  obtain ⟨p, hr⟩ : ∃ p : Nat, a0 % 5 = (p : Int) := ⟨(a0 % 5).toNat, by omega⟩
  rw [hr] at PI r1
  have PM1 := fun w => pmod a1 1000000 (by decide) (by decide) w
  have PM2 := fun w => pmod a2 1000000 (by decide) (by decide) w
  have l0 := Int.emod_nonneg a1 (show (1000000 : Int) ≠ 0 by decide)
  have l1 := Int.emod_lt_of_pos a1 (show (0 : Int) < 1000000 by decide)
  have d0 := Int.emod_nonneg a2 (show (1000000 : Int) ≠ 0 by decide)
  have d1 := Int.emod_lt_of_pos a2 (show (0 : Int) < 1000000 by decide)
  generalize a1 % 1000000 = land at PM1 l0 l1
  generalize a2 % 1000000 = d at PM2 d0 d1
  have PS := Lib.hid (pshift A m c l land w hin l0 (by omega))
  have PI := Lib.hid PI
  have PM1 := Lib.hid PM1
  have PM2 := Lib.hid PM2
  have hp : p ≤ 4 := by omega
  clear hin r0 hr
  go_enter Try.func5, Try.ntmps5
  go_upto_region 2 with (first | (go_at_call 22; refine (PI.out _).mono ?_; rintro e w9 ⟨rfl, h9⟩; obtain rfl := h9.symm) | (go_at_call 23; with_reducible refine (PM1.out _).mono ?_; rintro e w9 ⟨rfl, h9⟩; obtain rfl := h9.symm) | (go_at_call 23; with_reducible refine (PM2.out _).mono ?_; rintro e w9 ⟨rfl, h9⟩; obtain rfl := h9.symm))
  go_wp2_with fail
  refine PS.out.mono ?_
  rintro e w1 ⟨A1, c1, its, last, rfl, rd1, hlm, HPM, lb0, lb, hb1, hf1⟩
  have PR := Lib.hid (fun w1 hr => prun15 p land (last + land) A1 its.length c1 its w1 hp l0 HPM (by omega) hr (by omega))
  have V := run_end hp l0 HPM (by omega)
  have NL := pm_now HPM (Nat.le_refl _)
  have FT0 := pm_fit HPM
  generalize hNN : nowP land its its.length = N at V NL FT0
  have HNN := Lib.hid hNN
  have FT1 := FT0.later (show N ≤ N + d by omega)
  have V2 := psts_valid hp l0 (show land ≤ N + d by omega) (by omega) FT1
  have hAd := qadv_ok (to := N + d) V (by omega) (by omega)
  have HQ := qask_ok V2
  rw [Int.toNat_natCast, psts_at (Nat.le_refl _)] at HQ
  have P8 := fun w1 hr => rpoly8 p land (N + d) A1 its.length c1 its w1 hp l0 (by omega) (by omega) FT1 hr (by omega)
  have FT2 : Fit land (N + d) [⟨N + d, 1⟩] := fun x hx => by
    obtain rfl := List.mem_singleton.1 hx
    exact ⟨by show land ≤ N + d; omega, Int.le_refl _, (by show (0 : Int) ≤ 1; omega), (by show (1 : Int) ≤ 4096; omega)⟩
  have P9 := fun A c w1 hr => rpoly8 p land (N + d) A 1 c [⟨N + d, 1⟩] w1 hp l0 (by omega) (by omega) FT2 hr (by omega)
  rw [pmom_one] at P9
  have PA := fun (A : Option Addr) (n c : Nat) (w1 : World) (h : PIn (p : Int) land N A n c (psts p land its) w1) => ppadv (p : Int) land N A n c (psts p land its) (N + d) w1 h
  rw [hAd] at PA
  have PK := fun (A : Option Addr) (n c : Nat) (w1 : World) (h : PIn (p : Int) land (N + d) A n c (psts p land its) w1) => ppask (p : Int) land (N + d) A n c (psts p land its) w1 h
  rw [HQ] at PK
  generalize pmom land its p = sm at PK P8
  generalize powN (ageN land (N + d)) p = dn at PK P9
  simp only [FR] at PK
  simp only [W] at P8 P9
  generalize hi sm = f1 at PK P8
  generalize lo sm = f2 at PK P8
  generalize hi dn = f3 at PK P9
  generalize lo dn = f4 at PK P9
  have wNd : IntKind.i64.wrap (N + d) = N + d := IntWalk.i64_in _ (by omega)
  have PA := Lib.hid PA
  have PK := Lib.hid PK
  have P8 := Lib.hid P8
  have P9 := Lib.hid P9
  clear hNN V V2 FT0 FT1 FT2 hAd HQ HPM lb lb0 NL l0 l1 d0 d1 r1 hp hf1 hlm PI PM1 PM2 PS
  have z1 := hb1.size
  go_wp2_with fail
  refine (PR.out _ rd1).mono ?_
  rintro e w2 ⟨A2, n2, c2, rfl, i2, hb2, f2'⟩
  rw [HNN.out] at i2
  rw [HNN.out]
  have z2 := hb2.size
  have rd2 := (rd1.below hb2).more hb2.size
  have o2 := hb1.trans (hb2.mono z1)
  go_upto_region 4 with (fail)
  have x1 : Row (w2.alloc (.cells #[.int .i64 (p : Nat), .int .i64 land, .int .i64 N, .slice A2 n2 c2] 24)) w2.heap.size 24 #[.int .i64 (p : Nat), .int .i64 land, .int .i64 N, .slice A2 n2 c2] := row_new rfl
  have i3 := i2.below (w' := w2.alloc (.cells #[.int .i64 (p : Nat), .int .i64 land, .int .i64 N, .slice A2 n2 c2] 24)) ((Below.refl _ _).alloc (Nat.le_refl _) _)
  have rd3 := (rd2.alloc (Nat.le_refl _) (.cells #[.int .i64 (p : Nat), .int .i64 land, .int .i64 N, .slice A2 n2 c2] 24)).more (show _ ≤ (w2.alloc (.cells #[.int .i64 (p : Nat), .int .i64 land, .int .i64 N, .slice A2 n2 c2] 24)).heap.size by simp)
  have o3 := o2.alloc o2.size (.cells #[.int .i64 (p : Nat), .int .i64 land, .int .i64 N, .slice A2 n2 c2] 24)
  generalize w2.alloc (.cells #[.int .i64 (p : Nat), .int .i64 land, .int .i64 N, .slice A2 n2 c2] 24) = w3 at x1 i3 rd3 o3 ⊢
  clear i2 rd2 o2 rd1 hb1 hb2 f2'
  generalize w2.heap.size = b2 at x1 ⊢
  obtain ⟨X0, X1, X2, X3, Xf0, Xf1, Xf2, Xf3⟩ := row_four x1
  go_wp2_with fail
  refine (PA.out _ _ _ _ i3).mono ?_
  intro e w4 hq
  obtain ⟨A4, n4, c4, rfl, i4, hb4, f4'⟩ := pret_at rfl hq
  have z4 := hb4.size
  have rd4 := (rd3.below hb4).more hb4.size
  have o4 := o3.trans (hb4.mono o3.size)
  clear hq i3 rd3 x1 X0 X1 X2 X3 Xf0 Xf1 Xf2 Xf3
  go_upto_region 5 with (fail)
  have x2 : Row (w4.alloc (.cells #[.int .i64 (p : Nat), .int .i64 land, .int .i64 (N + d), .slice A4 n4 c4] 24)) w4.heap.size 24 #[.int .i64 (p : Nat), .int .i64 land, .int .i64 (N + d), .slice A4 n4 c4] := row_new rfl
  have i5 := i4.below (w' := w4.alloc (.cells #[.int .i64 (p : Nat), .int .i64 land, .int .i64 (N + d), .slice A4 n4 c4] 24)) ((Below.refl _ _).alloc (Nat.le_refl _) _)
  have rd5 := (rd4.alloc (Nat.le_refl _) (.cells #[.int .i64 (p : Nat), .int .i64 land, .int .i64 (N + d), .slice A4 n4 c4] 24)).more (show _ ≤ (w4.alloc (.cells #[.int .i64 (p : Nat), .int .i64 land, .int .i64 (N + d), .slice A4 n4 c4] 24)).heap.size by simp)
  have o5 := o4.alloc o4.size (.cells #[.int .i64 (p : Nat), .int .i64 land, .int .i64 (N + d), .slice A4 n4 c4] 24)
  generalize w4.alloc (.cells #[.int .i64 (p : Nat), .int .i64 land, .int .i64 (N + d), .slice A4 n4 c4] 24) = w5 at x2 i5 rd5 o5 ⊢
  clear i4 rd4 o4 hb4 f4' o3
  generalize w4.heap.size = b4 at x2 z4 ⊢
  obtain ⟨X0, X1, X2, X3, Xf0, Xf1, Xf2, Xf3⟩ := row_four x2
  go_wp2_with fail
  refine (PK.out _ _ _ _ i5).mono ?_
  rintro e w6 ⟨rfl, hb6⟩
  have x3 := row_call x2 hb6
  have rd6 := (rd5.below hb6).more hb6.size
  have o6 := o5.trans (hb6.mono o5.size)
  clear X0 X1 X2 X3 Xf0 Xf1 Xf2 Xf3 i5 rd5 hb6 x2
  go_upto_region 6 with (fail)
  have y1 : Row (w6.alloc (.cells #[.int .u64 f1, .int .u64 f2, .int .u64 f3, .int .u64 f4] 37)) w6.heap.size 37 #[.int .u64 f1, .int .u64 f2, .int .u64 f3, .int .u64 f4] := row_new rfl
  have x4 := row_alloc x3 (.cells #[.int .u64 f1, .int .u64 f2, .int .u64 f3, .int .u64 f4] 37)
  have rd7 := (rd6.alloc (Nat.le_refl _) (.cells #[.int .u64 f1, .int .u64 f2, .int .u64 f3, .int .u64 f4] 37)).more (show _ ≤ (w6.alloc (.cells #[.int .u64 f1, .int .u64 f2, .int .u64 f3, .int .u64 f4] 37)).heap.size by simp)
  have o7 := o6.alloc o6.size (.cells #[.int .u64 f1, .int .u64 f2, .int .u64 f3, .int .u64 f4] 37)
  generalize w6.alloc (.cells #[.int .u64 f1, .int .u64 f2, .int .u64 f3, .int .u64 f4] 37) = w7 at y1 x4 rd7 o7 ⊢
  clear rd6 x3 o6 o5
  generalize w6.heap.size = b6 at y1 ⊢
  go_wp2_with fail
  refine (P8.out _ rd7).mono ?_
  rintro e w8 ⟨rfl, hb8⟩
  have y2 := row_call y1 hb8
  have x5 := row_call x4 hb8
  have o8 := o7.trans (hb8.mono o7.size)
  clear rd7 x4 o7 y1 hb8
  go_upto_region 7 with (fail)
  have y3 := row_alloc y2 (.cells #[.int .u64 f1, .int .u64 f2] 35)
  have x6 := row_alloc x5 (.cells #[.int .u64 f1, .int .u64 f2] 35)
  have s1 : Row (w8.alloc (.cells #[.int .u64 f1, .int .u64 f2] 35)) w8.heap.size 35 #[.int .u64 f1, .int .u64 f2] := row_new rfl
  have o9 := o8.alloc o8.size (.cells #[.int .u64 f1, .int .u64 f2] 35)
  generalize w8.alloc (.cells #[.int .u64 f1, .int .u64 f2] 35) = w9 at y3 x6 s1 o9 ⊢
  clear y2 x5 o8
  generalize w8.heap.size = b8 at s1 ⊢
  obtain ⟨X0, X1, X2, X3, Xf0, Xf1, Xf2, Xf3⟩ := row_four x6
  go_wp2_with fail
  refine (P9.out _ _ _ (reads_one (row_new rfl) (by simp))).mono ?_
  rintro e w10 ⟨rfl, hb10⟩
  have y4 := row_call (row_alloc y3 (.cells #[.int .i64 (N + d), .int .i64 1] 51)) hb10
  have s2 := row_call (row_alloc s1 (.cells #[.int .i64 (N + d), .int .i64 1] 51)) hb10
  have o10 := (o9.alloc o9.size (.cells #[.int .i64 (N + d), .int .i64 1] 51)).trans (hb10.mono (by have := o9.size; simp; omega))
  clear y3 s1 o9 x6 X0 X1 X2 X3 Xf0 Xf1 Xf2 Xf3 hb10
  go_upto_region 8 with (fail)
  have y5 := row_alloc y4 (.cells #[.int .u64 f3, .int .u64 f4] 35)
  have s3 := row_alloc s2 (.cells #[.int .u64 f3, .int .u64 f4] 35)
  have u1 : Row (w10.alloc (.cells #[.int .u64 f3, .int .u64 f4] 35)) w10.heap.size 35 #[.int .u64 f3, .int .u64 f4] := row_new rfl
  have o11 := o10.alloc o10.size (.cells #[.int .u64 f3, .int .u64 f4] 35)
  generalize w10.alloc (.cells #[.int .u64 f3, .int .u64 f4] 35) = w11 at y5 s3 u1 o11 ⊢
  clear y4 s2 o10
  generalize w10.heap.size = b10 at u1 ⊢
  obtain ⟨Y0, Y1, Y2, Y3, Yf0, Yf1, Yf2, Yf3⟩ := row_four y5
  obtain ⟨S0, S1, Sf0, Sf1⟩ := row_two s3
  obtain ⟨U0, U1, Uf0, Uf1⟩ := row_two u1
  have z11 := o11.size
  clear y5 s3 u1
  go_wp2_with (go_at_call 12; refine (awake15 _).mono ?_; rintro e w12 ⟨rfl, hb12⟩; have hz12 := hb12.size)
  go_ret
  exact ⟨rfl, o11.trans (hb12.mono z11)⟩
end Go.Proofs.Ytejoomlaanmbkaa
