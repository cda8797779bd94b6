/- Counters that halve: the law that the answer is the exact sum, walked. -/
import Derived.Test.YtpbhagikndamnaaHalveM
import Derived.Deep.RegionHeld3
import Derived.Deep.DeepCutAuto
namespace Go.Proofs.Ytpbhagikndamnaa
open Go.RowKit Go.Shelf
theorem Reads.of_own' {w : World} {base : Nat} {e : TypeId} {size n : Nat} {v : Value} {xs : List Value} (h : w.ownsRow base e size v n xs) : ∃ A c, v = .slice A n c ∧ Reads w w.heap.size size A n xs := by
  have hv : ∃ A c, v = .slice A n c := by
    rcases h.2 with ⟨h1, h2⟩ | ⟨g, cap, cur, h1, _⟩
    · exact ⟨none, 0, by rw [h1, h2]⟩
    · exact ⟨_, _, h1⟩
  obtain ⟨A, c, rfl⟩ := hv
  exact ⟨A, c, rfl, Reads.of_own h⟩
theorem hask_cst {a : Nat} {l : List Itm} {now : Int} (ha : 1 ≤ a) (ha2 : a ≤ 64) (h0 : 0 ≤ now) (h1 : now ≤ 16777216) (hl : l.length ≤ 100000) (hv : ∀ x ∈ l, 0 ≤ x.v ∧ x.v ≤ 4096) (ht : ∀ x ∈ l, 0 ≤ x.t ∧ x.t ≤ now) :
    hask now (cst a l now) = ⟨cwide a l now, 2 ^ (a - 1), 0⟩ := by
  rw [hask_ok (cst_valid ha ha2 h0 h1 hl hv (fun x hx => (ht x hx).1)), cst_len, ← hwide_last, hwide_cst l hv (fun x hx => (ht x hx).2)]
theorem made_all {st last : Int} {l : List Itm} (h : Made st 0 4096 last l) : (∀ x ∈ l, 0 ≤ x.v ∧ x.v ≤ 4096) ∧ (∀ x ∈ l, 0 ≤ x.t ∧ x.t ≤ nowAt l l.length) := by
  have := made_take h (k := l.length) (Nat.le_refl _)
  rw [List.take_length] at this
  exact this
set_option maxHeartbeats 4000000 in
theorem halveTruth (A : Option Addr) (m c : Nat) (l : List Itm) (a0 later : Int) (w : World) (hin : RIn A m c l w) :
    Calls Try.prog 5 #[.slice A m c, .int .i64 a0, .int .i64 later] w fun e w' => e = .returned (.bool true) ∧ Below w.heap.size w w' := by
  have PI := fun w => pint a0 64 (by decide) (by decide) w
  have r0 := Int.emod_nonneg a0 (show (64 : Int) ≠ 0 by decide)
  have r1 := Int.emod_lt_of_pos a0 (show (0 : Int) < 64 by decide)
  obtain ⟨r, hr⟩ : ∃ r : Nat, a0 % 64 = (r : Int) := ⟨(a0 % 64).toNat, by omega⟩
  rw [hr] at PI r1
  have PM := fun w => pmod later 100 (by decide) (by decide) w
  have d0 := Int.emod_nonneg later (show (100 : Int) ≠ 0 by decide)
  have d1 := Int.emod_lt_of_pos later (show (0 : Int) < 100 by decide)
  obtain ⟨d, hd⟩ : ∃ d : Nat, later % 100 = (d : Int) := ⟨(later % 100).toNat, by omega⟩
  rw [hd] at PM d1
  have PP : RowKit.Hid (∀ w1, Below w.heap.size w w1 → Calls Try.prog 23 #[.slice A m c, .int .i64 20, .int .i64 100, .int .i64 4096] w1 (IRet 100 41 0 4096 w1)) :=
    Lib.hid (fun w1 hb => ppos A m c l 20 100 4096 w1 (hin.below hb) (by decide) (by decide) (by decide) (by decide))
  have PI := Lib.hid PI
  have PM := Lib.hid PM
  have wr1 : IntKind.i64.wrap (1 + (r : Int)) = 1 + (r : Int) := IntWalk.i64_in _ (by omega)
  clear hin r0 d0 hr hd
  go_enter Try.func5, Try.ntmps5
  go_wp2_with (go_at_call 22; refine (PI.out _).mono ?_; rintro e w9 ⟨rfl, h9⟩; obtain rfl := h9.symm)
  refine (PP.out _ (Below.refl _ _)).mono ?_
  intro e w1 hq
  obtain ⟨v, its, last, rfl, own1, hlm, HM0, hb1⟩ := hq
  have hrd := Reads.of_own' own1
  obtain ⟨A1, c1, rfl, rd1⟩ := hrd
  have lb := HM0.2.2
  have lb0 := HM0.2.1
  have lb1 : last ≤ 4100 := by omega
  have MA := made_all HM0
  have NL := made_now_le HM0 (Nat.le_refl _)
  have PR := fun w1 hr => prun (r + 1) (by omega) (by omega) A1 its.length c1 its w1 41 last hr HM0 (by omega) (by omega)
  have e1 : ((r + 1 : Nat) : Int) = 1 + (r : Int) := by omega
  rw [e1] at PR
  have PR := Lib.hid PR
  generalize hNN : nowAt its its.length = N at MA NL
  have HNN := Lib.hid hNN
  have z1 := hb1.size
  have V := cst_valid (a := r + 1) (l := its) (now := N) (by omega) (by omega) NL.1 (by omega) (by omega) MA.1 (fun x hx => (MA.2 x hx).1)
  have hsh := cst_shift (a := r + 1) (d := d) (l := its) (now := N) (fun x hx => (MA.2 x hx).2)
  have HQ := hask_cst (a := r + 1) (l := its) (now := N + d) (by omega) (by omega) (by omega) (by omega) (by omega) MA.1 (fun x hx => ⟨(MA.2 x hx).1, by have := (MA.2 x hx).2; omega⟩)
  have P8 := fun w1 hr => rhalve8 (r + 1) (by omega) (by omega) (N + d) (by omega) (by omega) A1 its.length c1 its w1 hr (by omega) MA.1 (fun x hx => ⟨(MA.2 x hx).1, by have := (MA.2 x hx).2; omega⟩)
  have hAd := hadv_by (d := d) V (by omega)
  rw [hsh] at hAd
  rw [e1] at P8
  have N0 := NL.1
  have N1 : N ≤ 4100 := by omega
  have wNd : IntKind.i64.wrap (N + (d : Int)) = N + (d : Int) := IntWalk.i64_in _ (by omega)
  have PA := fun (A : Option Addr) (n c : Nat) (w1 : World) (h : HIn N A n c (cst (r + 1) its N) w1) => phadv N A n c (cst (r + 1) its N) (N + (d : Int)) w1 h
  rw [hAd] at PA
  have PK := fun (A : Option Addr) (n c : Nat) (w1 : World) (h : HIn (N + (d : Int)) A n c (cst (r + 1) its (N + d)) w1) => phask (N + (d : Int)) A n c (cst (r + 1) its (N + d)) w1 h
  rw [HQ] at PK
  generalize cwide (r + 1) its (N + (d : Int)) = sw at PK P8
  generalize 2 ^ (r + 1 - 1) = dn at PK P8
  generalize hz0 : cst (r + 1) its N = z0 at PA
  have HZ0 := Lib.hid hz0
  generalize cst (r + 1) its (N + (d : Int)) = z1s at PA PK
  have PA := Lib.hid PA
  have PK := Lib.hid PK
  have P8 := Lib.hid P8
  have OWN := Lib.hid own1
  clear hNN V hsh HQ hAd HM0 MA NL hz0 lb lb0 own1 e1
  go_wp2_with fail
  refine (PR.out _ rd1).mono ?_
  intro e w2 hq
  obtain ⟨A2, n2, c2, rfl, hin2, hb2, hf2⟩ := hq
  rw [HNN.out, HZ0.out] at hin2
  rw [HNN.out]
  have z2 := hb2.size
  have rd2 := (rd1.below hb2).more hb2.size
  have o2 := hb1.trans (hb2.mono z1)
  go_upto_region 4 with (fail)
  have x1 : Row (w2.alloc (.cells #[.int .i64 N, .slice A2 n2 c2] 24)) w2.heap.size 24 #[.int .i64 N, .slice A2 n2 c2] := row_new rfl
  have x2 := hin2.below (w' := w2.alloc (.cells #[.int .i64 N, .slice A2 n2 c2] 24)) ((Below.refl _ _).alloc (Nat.le_refl _) _)
  have x3 := (rd2.alloc (Nat.le_refl _) (.cells #[.int .i64 N, .slice A2 n2 c2] 24))
  have x4 := o2.alloc o2.size (.cells #[.int .i64 N, .slice A2 n2 c2] 24)
  have x5 : w2.heap.size < (w2.alloc (.cells #[.int .i64 N, .slice A2 n2 c2] 24)).heap.size := by simp
  generalize w2.alloc (.cells #[.int .i64 N, .slice A2 n2 c2] 24) = w3 at x1 x2 x3 x4 x5 ⊢
  obtain ⟨X0, X1, X2, X3⟩ := row_two x1
  have HX2 := Lib.hid x2
  have HX3 := Lib.hid x3
  have CA : RowKit.Hid (∀ w1, Below w3.heap.size w3 w1 → Calls Try.prog 14 #[.agg #[.int .i64 N, .slice A2 n2 c2], .int .i64 (N + (d : Int))] w1 (fun e w' => ∃ A n c, e = .returned (.tuple #[.agg #[.int .i64 (N + (d : Int)), .slice A n c], .int .i64 0]) ∧ RowKit.Hid (HIn (N + (d : Int)) A n c z1s w' ∧ ∀ ad, A = some ad → w1.heap.size ≤ ad.block) ∧ Below w1.heap.size w1 w')) :=
    Lib.hid (fun w1 hb => (PA.out A2 n2 c2 w1 (x2.below hb)).mono fun e w' hq => by obtain ⟨A, n, c, h1, h2, h3, h4⟩ := hret_at rfl hq; exact ⟨A, n, c, h1, Lib.hid ⟨h2, h4⟩, h3⟩)
  clear hin2 hb2 hf2 rd2 o2 x2 x3
  have ne23 : w2.heap.size ≠ w3.heap.size := by omega
  have ne32 : w3.heap.size ≠ w2.heap.size := by omega
  go_cut [10, 11] (fun v10 v11 wx => ∃ (g : Nat) (A3 : Option Addr) (n3 c3 : Nat), v10 = .pointer (some ⟨g, 0, none⟩) ∧ v11 = .int .i64 0 ∧ Row wx g 24 #[.int .i64 (N + (d : Int)), .slice A3 n3 c3] ∧ RowKit.Hid (HIn (N + (d : Int)) A3 n3 c3 z1s wx) ∧ Below w3.heap.size w3 wx)
  case first =>
    go_region_held3 (fun w' => w'.cell? ⟨w2.heap.size, 0, none⟩ = some (.int .i64 N) ∧ w'.cell? ⟨w2.heap.size, 1, none⟩ = some (.slice A2 n2 c2)) (go_keep)
      (first | (go_at_call 25; refine (PM.out _).mono ?_; rintro e w9 ⟨rfl, rfl⟩) | (go_at_call 14; refine (CA.out _ (by (repeat (first | exact Below.refl _ _ | refine Below.setCell ?_ (by first | (simp; done) | (simp; omega) | omega) _ | refine Below.alloc ?_ (by first | (simp; done) | (simp; omega) | omega) _ | refine Below.drew ?_ | refine Below.trans ?_ (Below.mono (by assumption) (by first | (simp; done) | (simp; omega) | omega)))))).mono ?_; intro e w5 hq; obtain ⟨A5, n5, c5, rfl, HI5, hb5⟩ := hq; obtain ⟨hc5, hf5⟩ := bcell hb5; have hz5 := hb5.size; (try simp at hz5); have Y0 : w5.cell? ⟨w2.heap.size, 0, none⟩ = some (.int .i64 N) := ((hb5.cell (p := ⟨w2.heap.size, 0, none⟩) (by first | (simp; done) | (simp; omega) | omega)).trans (by first | rfl | assumption | go_simp)); have Y1 : w5.cell? ⟨w2.heap.size, 1, none⟩ = some (.slice A2 n2 c2) := ((hb5.cell (p := ⟨w2.heap.size, 1, none⟩) (by first | (simp; done) | (simp; omega) | omega)).trans (by first | rfl | assumption | go_simp)); have ne5 : w2.heap.size ≠ w5.heap.size := (by omega); have ne6 : w5.heap.size ≠ w2.heap.size := (by omega)))
    · go_wp2_with fail
      go_meet
      have bb : Below w3.heap.size w3 w5 := (Below.refl w3.heap.size w3).drew.trans hb5
      exact ⟨w5.heap.size, A5, n5, c5, rfl, rfl, row_new rfl, Lib.hid (HI5.out.1.below ((Below.refl _ _).alloc (Nat.le_refl _) _)), bb.alloc (by omega) _⟩
    · go_wp2_with fail
      go_meet
      have R0 : Row w5 w3.heap.size 24 #[.int .i64 0, .slice none 0 0] := row_call (row_drew (row_new rfl)) hb5
      have zz : w3.heap.size + 1 ≤ w5.heap.size := by simpa using hz5
      have bb : Below w3.heap.size w3 w5 := ((Below.refl w3.heap.size w3).alloc (Nat.le_refl _) (.cells #[.int .i64 0, .slice none 0 0] 24)).drew.trans (hb5.mono (by show _ ≤ (w3.alloc (.cells #[.int .i64 0, .slice none 0 0] 24)).heap.size; simp))
      have R := row_two_set (u := .int .i64 (N + (d : Int))) (v := .slice A5 n5 c5) R0
      have H5 := HI5.out.1.row (b := w3.heap.size) (fun ad e h => by have := HI5.out.2 ad e; simp at this; omega) (.int .i64 (N + (d : Int))) (.slice A5 n5 c5)
      have B5 := (bb.setCell (p := ⟨w3.heap.size, 0, none⟩) (Nat.le_refl _) (.int .i64 (N + (d : Int)))).setCell (p := ⟨w3.heap.size, 1, none⟩) (Nat.le_refl _) (.slice A5 n5 c5)
      exact ⟨w3.heap.size, A5, n5, c5, rfl, rfl, R, Lib.hid H5, B5⟩
    · go_wp2_with fail
      go_meet
      have R0 : Row w5 w3.heap.size 24 #[.int .i64 0, .slice none 0 0] := row_call (row_drew (row_new rfl)) hb5
      have zz : w3.heap.size + 1 ≤ w5.heap.size := by simpa using hz5
      have bb : Below w3.heap.size w3 w5 := ((Below.refl w3.heap.size w3).alloc (Nat.le_refl _) (.cells #[.int .i64 0, .slice none 0 0] 24)).drew.trans (hb5.mono (by show _ ≤ (w3.alloc (.cells #[.int .i64 0, .slice none 0 0] 24)).heap.size; simp))
      have R := row_two_set (u := .int .i64 (N + (d : Int))) (v := .slice A5 n5 c5) R0
      have H5 := HI5.out.1.row (b := w3.heap.size) (fun ad e h => by have := HI5.out.2 ad e; simp at this; omega) (.int .i64 (N + (d : Int))) (.slice A5 n5 c5)
      have B5 := (bb.setCell (p := ⟨w3.heap.size, 0, none⟩) (Nat.le_refl _) (.int .i64 (N + (d : Int)))).setCell (p := ⟨w3.heap.size, 1, none⟩) (Nat.le_refl _) (.slice A5 n5 c5)
      exact ⟨w3.heap.size, A5, n5, c5, rfl, rfl, R, Lib.hid H5, B5⟩
  case rest =>
    obtain ⟨g, A3, n3, c3, rfl, rfl, x6, HX6, x7⟩ := hcut
    have o7 := x4.trans (x7.mono (by have := x4.size; omega))
    have zc := x7.size
    have rd8 : Reads wc wc.heap.size 2 A1 its.length (icells its) := (HX3.out.below (x7.mono (by omega))).more (by omega)
    simp only [FR] at PK P8
    generalize hi sw = f1 at PK P8
    generalize lo sw = f2 at PK P8
    generalize hi dn = f3 at PK P8
    generalize lo dn = f4 at PK P8
    obtain ⟨W0, W1, W2, W3⟩ := row_two x6
    have gl := row_lt x6
    clear HX3 HX2 CA PA PR PP PI PM X0 X1 X2 X3 x1 x7
    go_wp2_with fail
    refine (PK.out _ _ _ _ HX6.out).mono ?_
    rintro e w6 ⟨rfl, hb6⟩
    have hz6 := hb6.size
    have x8 := row_call x6 hb6
    have rd9 := (rd8.below hb6).more hb6.size
    have o8 := o7.trans (hb6.mono o7.size)
    have x9 := row_alloc x8 (.cells #[.int .u64 f1, .int .u64 f2, .int .u64 f3, .int .u64 f4] 37)
    have gl6 := row_lt x8
    obtain ⟨V0, V1, V2, V3⟩ := row_two x9
    obtain ⟨V4, V5, V6, V7⟩ := row_two x8
    go_wp2_with fail
    refine (P8.out _ ((rd9.alloc (Nat.le_refl _) (.cells #[.int .u64 f1, .int .u64 f2, .int .u64 f3, .int .u64 f4] 37)).more (by simp))).mono ?_
    rintro e w7 ⟨rfl, hb7⟩
    have hz7 := hb7.size
    simp at hz7
    have y1 : Row w7 w6.heap.size 37 #[.int .u64 f1, .int .u64 f2, .int .u64 f3, .int .u64 f4] := row_call (row_new rfl) hb7
    have o9 := (o8.alloc o8.size (.cells #[.int .u64 f1, .int .u64 f2, .int .u64 f3, .int .u64 f4] 37)).trans (hb7.mono (by have := o8.size; simp; omega))
    go_upto_region 7 with (fail)
    have y2 := row_alloc y1 (.cells #[.int .u64 f1, .int .u64 f2, .int .u64 f3, .int .u64 f4] 37)
    have y3 : Row (w7.alloc (.cells #[.int .u64 f1, .int .u64 f2, .int .u64 f3, .int .u64 f4] 37)) w7.heap.size 37 #[.int .u64 f1, .int .u64 f2, .int .u64 f3, .int .u64 f4] := row_new rfl
    have o10 := o9.alloc o9.size (.cells #[.int .u64 f1, .int .u64 f2, .int .u64 f3, .int .u64 f4] 37)
    generalize w7.alloc (.cells #[.int .u64 f1, .int .u64 f2, .int .u64 f3, .int .u64 f4] 37) = w8 at y2 y3 o10 ⊢
    generalize w6.heap.size = b12 at y2 ⊢
    generalize w7.heap.size = b14 at y3 ⊢
    obtain ⟨T0, T1, T2, T3, _, _, _, _⟩ := row_four y2
    obtain ⟨S0, S1, S2, S3, _, _, _, _⟩ := row_four y3
    have z10 := o10.size
    clear x6 x8 x9 V0 V1 V2 V3 V4 V5 V6 V7 W0 W1 W2 W3 rd8 rd9 hb6 hb7 y1 o9 o8 o7 P8 PK
    go_wp2_with (go_at_call 12; refine (awake16 _).mono ?_; rintro e w10 ⟨rfl, hb10⟩; have hz10 := hb10.size)
    go_ret
    exact ⟨rfl, by (repeat (first | exact Below.refl _ _ | refine Below.setCell ?_ (by first | (simp; done) | (simp; omega) | omega) _ | refine Below.alloc ?_ (by first | (simp; done) | (simp; omega) | omega) _ | refine Below.drew ?_ | refine Below.trans ?_ (Below.mono (by assumption) (by first | (simp; done) | (simp; omega) | omega))))⟩
end Go.Proofs.Ytpbhagikndamnaa
