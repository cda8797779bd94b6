/- Spread histograms: the law SmoothKeeps, walked. -/
import Derived.Test.YtaiepjcnncajcaaSpU
set_option linter.unusedVariables false
set_option linter.unusedSimpArgs false
set_option linter.unusedSectionVars false
set_option linter.unnecessarySimpa false
namespace Go.Proofs.Ytaiepjcnncajcaa
open Go.RowKit
set_option maxRecDepth 100000 in
set_option maxHeartbeats 8000000 in
theorem spreadKeeps (A : Option Addr) (m c : Nat) (l : List Itm) (wd0 k0 cap0 : Int) (w : World) (hin : RIn A m c l w) : Calls Try.prog 6 #[.slice A m c, .int .i64 wd0, .int .i64 k0, .int .i64 cap0] w fun e w' => e = .returned (.bool true) ∧ Below w.heap.size w w' := by
  have PW := fun w => pwindow wd0 k0 cap0 w
  obtain ⟨wn, hwn⟩ : ∃ wn : Nat, 1 + wd0 % 25 = (wn : Int) := ⟨(1 + wd0 % 25).toNat, by omega⟩
  obtain ⟨k, hk⟩ : ∃ k, 1 + k0 % 4 = k := ⟨_, rfl⟩
  obtain ⟨cap, hcap⟩ : ∃ cap, mcap cap0 = cap := ⟨_, rfl⟩
  have hcb := mcap_bd cap0
  rw [hwn, hk, hcap] at PW
  rw [hcap] at hcb
  have hw1 : 1 ≤ wn ∧ wn ≤ 25 := by omega
  have hkk : 1 ≤ k ∧ k ≤ 4 := by omega
  have hG : spGood wn k cap 0 := ⟨by omega, by omega, by omega, by omega, by omega, by omega, by omega, by omega⟩
  have PN := fun w => pspnew wn k cap 0 w
  rw [show spNew wn k cap 0 = ⟨wn, k, cap, 0, 0, [], 0⟩ by unfold spNew; rw [if_pos hG]] at PN
  have PT := Lib.hid (fun w' (hb : Below w.heap.size w w') => pitems A m c l wn 60 w' (hin.below hb) (by omega) (by omega) (by omega))
  have HG := Lib.hid hG
  replace PN := Lib.hid PN
  replace PW := Lib.hid PW
  have HB := Lib.hid (And.intro hw1 (And.intro hkk hcb))
  clear hwn hk hcap hcb hw1 hkk hG hin
  go_enter Try.func6, Try.ntmps6
  go_upto_region 2 with ((go_at_call 24; with_reducible refine (PW.out _).mono ?_; rintro e w9 ⟨rfl, h9⟩; obtain rfl := h9.symm))
  go_wp2_with fail
  refine (PN.out _).mono ?_
  intro e w1 hq
  obtain ⟨A1, m1, c1, rfl, in1, hb1, fr1⟩ := spret_at rfl hq
  clear hq PN PW
  have o := hb1
  go_upto_region 3 with (fail)
  have X : Row (w1.alloc (.cells #[.int .i64 wn, .int .i64 k, .int .i64 cap, .int .i64 0, .int .i64 0, .slice A1 m1 c1] 24)) w1.heap.size 24 #[.int .i64 wn, .int .i64 k, .int .i64 cap, .int .i64 0, .int .i64 0, .slice A1 m1 c1] := row_new rfl
  have IN := in1.below ((Below.refl _ _).alloc (Nat.le_refl _) (.cells #[.int .i64 wn, .int .i64 k, .int .i64 cap, .int .i64 0, .int .i64 0, .slice A1 m1 c1] 24))
  have xb0 := hb1.size
  have fr : ∀ a, A1 = some a → a.block ≠ w1.heap.size := fun a e => by
    rcases fr1 a e with h | ⟨b, h, _⟩
    · omega
    · cases h
  replace o := o.alloc o.size (.cells #[.int .i64 wn, .int .i64 k, .int .i64 cap, .int .i64 0, .int .i64 0, .slice A1 m1 c1] 24)
  generalize w1.alloc (.cells #[.int .i64 wn, .int .i64 k, .int .i64 cap, .int .i64 0, .int .i64 0, .slice A1 m1 c1] 24) = w2 at X IN o ⊢
  generalize w1.heap.size = xb at X fr xb0 ⊢
  clear in1 hb1 fr1
  have ILN := IN.len
  obtain rfl : m1 = 0 := by simpa using ILN.symm
  clear ILN
  have xlt := row_lt X
  go_wp2_with fail
  refine (PT.out _ o).mono ?_
  intro e w3 hq
  obtain ⟨vi, its, last, rfl, own3, hlm, HM, hb3⟩ := hq
  clear PT
  replace X := row_call X hb3
  replace IN := IN.below hb3
  replace o := o.trans (hb3.mono o.size)
  obtain ⟨AI, ci, rfl, rdi, hci, _, fri⟩ := orow_forms own3
  have LI : LIn AI its.length its w3 := rdi
  have fL : ∀ a, AI = some a → a.block ≠ xb := fun a e => by have := (fri a e).1; omega
  obtain ⟨n, hn⟩ : ∃ n, its.length = n := ⟨_, rfl⟩
  rw [hn] at LI hlm ⊢
  have HN := Lib.hid hn
  have HMH := Lib.hid HM
  clear own3 rdi fri hci hb3 HM hn
  go_upto_region 6 with (fail)
  have VAL0 : spValid wn k cap 0 0 [] := ⟨HG.out, mvalid_iff.2 ⟨⟨Int.le_refl _, by omega⟩, ⟨fun _ h => absurd h (by simp), List.Pairwise.nil, fun _ h => absurd h (by simp), fun _ h => by simp at h, fun h => absurd rfl h⟩⟩, fun _ h => absurd h (by simp)⟩
  go_loopw [10, 36] (fun f i wr => ∃ (q : Nat) (A2 : Option Addr) (m2 c2 : Nat) (now seq : Int) (ms : List Mk), q ≤ n ∧ i = .int .i64 (q : Nat) ∧ f = .int .i64 0 ∧ Row wr xb 24 #[.int .i64 wn, .int .i64 k, .int .i64 cap, .int .i64 now, .int .i64 seq, .slice A2 m2 c2] ∧ MIn A2 m2 c2 ms wr ∧ RowKit.Hid (spValid wn k cap now seq ms ∧ ms.length ≤ q ∧ seq ≤ q ∧ ∀ j, q ≤ j → j < n → now ≤ (itmAt its j).t) ∧ (∀ a, A2 = some a → a.block ≠ xb) ∧ LIn AI n its wr ∧ Below w.heap.size w wr) (fun _ i _ => n - (intOf i).toNat)
  case atStart => exact ⟨0, A1, 0, c1, 0, 0, [], by omega, rfl, rfl, X, IN, Lib.hid ⟨VAL0, by simp, by omega, fun j _ hj => (HMH.out.1 j (by rw [HN.out]; exact hj)).1⟩, fr, LI, o⟩
  case round =>
    clear VAL0 X IN fr LI o
    obtain ⟨q, A2, m2, c2, now, seq, ms, hq, rfl, rfl, X, IN, HV, fr, LI, o⟩ := hrel
    by_cases hlt : q < n
    · obtain ⟨ad, rfl, hadb, ht0⟩ := LI.item hlt
      obtain ⟨p0, p1⟩ := ht0
      have hl := IN.len
      have hkm := HMH.out.1 q (by rw [HN.out]; exact hlt)
      have hlast := HMH.out.2.2
      have hV := HV.out.1
      have hms := HV.out.2.1
      have hsq := HV.out.2.2.1
      have hnow := HV.out.2.2.2 q (Nat.le_refl _) hlt
      have hsq0 := (mvalid_iff.1 hV.2.1).1.1
      have hnow0 := hV.1.2.2.2.2.2.2.1
      have hw25 := HB.out.1
      rw [HN.out] at hlast
      have hmono : ∀ j, q + 1 ≤ j → j < n → (itmAt its q).t ≤ (itmAt its j).t := fun j h1 h2 => (HMH.out.1 j (by rw [HN.out]; exact h2)).2.2.1 q (by omega)
      have htb : (itmAt its q).t ≤ 3060 := by
        have := hkm.2.1
        have h51 : (2 * (wn : Int) + 1) * n ≤ 51 * 60 := Int.mul_le_mul (by omega) (by omega) (by omega) (by omega)
        omega
      have hvb := hkm.2.2.2
      generalize (itmAt its q).t = tk at p0 hnow htb hmono
      generalize (itmAt its q).v = vk at p1 hvb
      have hto : ¬ (tk < now ∨ 16777216 < tk) := by omega
      have VT := spTick_valid hV hto
      have lenT := dropM_len tk wn ms
      have TE := spTick_c (spvalE_yes hV) hto
      have VET := spvalE_yes VT
      obtain ⟨mt, hmt⟩ : ∃ mt, dropM tk wn ms = mt := ⟨_, rfl⟩
      rw [hmt] at VT lenT TE VET
      have sB : I64 seq := by unfold I64; omega
      have sB1 : I64 (seq + 1) := by unfold I64; omega
      have i2 : (q : Int) < (n : Int) := by omega
      have i4 : (0 : Int) ≤ (q : Int) := by omega
      have hms60 : ms.length ≤ 60 := by omega
      have zb := o.size
      have HFIN := Lib.hid (And.intro hms (And.intro hsq (And.intro hmono hlt)))
      clear hkm hlast hV hsq hsq0 hnow0 hnow hto hmt htb hmono hlt hms
      go_upto_region 8 with (fail)
      have T : Row (wr.alloc (.cells #[.int .i64 tk, .int .i64 vk] 51)) wr.heap.size 51 #[.int .i64 tk, .int .i64 vk] := row_new rfl
      have htx := row_lt X
      replace X := row_alloc X (.cells #[.int .i64 tk, .int .i64 vk] 51)
      replace IN := IN.below ((Below.refl _ _).alloc (Nat.le_refl _) (.cells #[.int .i64 tk, .int .i64 vk] 51))
      replace LI := LI.below ((Below.refl _ _).alloc (Nat.le_refl _) (.cells #[.int .i64 tk, .int .i64 vk] 51))
      replace o := o.alloc o.size (.cells #[.int .i64 tk, .int .i64 vk] 51)
      generalize wr.alloc (.cells #[.int .i64 tk, .int .i64 vk] 51) = w4 at T X IN LI o ⊢
      generalize wr.heap.size = tb at T zb htx ⊢
      replace htx : tb ≠ xb := by omega
      have PT := psptick (A2) m2 c2 ms wn k cap now seq tk w4 IN sB (by omega)
      rw [TE] at PT
      replace PT := Lib.hid PT
      obtain ⟨T0, T1, Tf0, Tf1⟩ := row_two T
      obtain ⟨X0, X1, X2, X3, X4, X5, Xf0, Xf1, Xf2, Xf3, Xf4, Xf5⟩ := row_six X
      have xlt4 := row_lt X
      clear p0 p1 hl TE IN
      go_wp2_with fail
      refine PT.out.mono ?_
      intro e w5 hq5
      obtain ⟨A5, m5, c5, rfl, IN, hb5, fr5⟩ := spret_at rfl hq5
      clear hq5 PT T0 T1 Tf0 Tf1 X0 Xf0 X1 Xf1 X2 Xf2 X3 Xf3 X4 Xf4 X5 Xf5
      have fr6 : ∀ a, A5 = some a → a.block ≠ xb := fun a e => by
        rcases fr5 a e with h | ⟨b, h, h'⟩
        · omega
        · rw [h']; exact fr b h
      replace T := row_call T hb5
      replace X := row_call X hb5
      replace LI := LI.below hb5
      replace o := o.trans (hb5.mono o.size)
      clear hb5 fr5 fr xlt4
      obtain ⟨X0, X1, X2, X3, X4, X5, Xf0, Xf1, Xf2, Xf3, Xf4, Xf5⟩ := row_six X
      go_upto_region 9 with (fail)
      clear X0 Xf0 X1 Xf1 X2 Xf2 X3 Xf3 X4 Xf4 X5 Xf5
      have X' := row_sx_set X (.int .i64 wn) (.int .i64 k) (.int .i64 cap) (.int .i64 tk) (.int .i64 seq) (.slice A5 m5 c5)
      replace T := row_sx_other (b := xb) T (htx) (.int .i64 wn) (.int .i64 k) (.int .i64 cap) (.int .i64 tk) (.int .i64 seq) (.slice A5 m5 c5)
      replace IN := IN.sx (b := xb) fr6 (.int .i64 wn) (.int .i64 k) (.int .i64 cap) (.int .i64 tk) (.int .i64 seq) (.slice A5 m5 c5)
      replace LI := LI.sx (b := xb) fL (.int .i64 wn) (.int .i64 k) (.int .i64 cap) (.int .i64 tk) (.int .i64 seq) (.slice A5 m5 c5)
      replace o := below_sx o (b := xb) xb0 (.int .i64 wn) (.int .i64 k) (.int .i64 cap) (.int .i64 tk) (.int .i64 seq) (.slice A5 m5 c5)
      generalize ((((((w5.setCell ⟨xb, 0, none⟩ (.int .i64 wn)).setCell ⟨xb, 1, none⟩ (.int .i64 k)).setCell ⟨xb, 2, none⟩ (.int .i64 cap)).setCell ⟨xb, 3, none⟩ (.int .i64 tk)).setCell ⟨xb, 4, none⟩ (.int .i64 seq)).setCell ⟨xb, 5, none⟩ (.slice A5 m5 c5)) = w6 at X' T IN LI o ⊢
      replace X := X'
      clear X'
      have PV := pvalP A5 m5 c5 mt wn k cap tk seq _ IN sB
      rw [VET] at PV
      replace PV := Lib.hid PV
      obtain ⟨X0, X1, X2, X3, X4, X5, Xf0, Xf1, Xf2, Xf3, Xf4, Xf5⟩ := row_six X
      go_wp2_with fail
      refine PV.out.mono ?_
      rintro e wv0 ⟨rfl, hbv⟩
      replace X := row_call X hbv
      replace IN := IN.below hbv
      replace LI := LI.below hbv
      replace o := o.trans (hbv.mono o.size)
      replace T := row_call T hbv
      clear PV hbv X0 Xf0 X1 Xf1 X2 Xf2 X3 Xf3 X4 Xf4 X5 Xf5
      have PV := rvalP A5 m5 c5 mt wn k cap tk seq _ IN sB
      rw [VET] at PV
      replace PV := Lib.hid PV
      obtain ⟨X0, X1, X2, X3, X4, X5, Xf0, Xf1, Xf2, Xf3, Xf4, Xf5⟩ := row_six X
      go_wp2_with fail
      refine PV.out.mono ?_
      rintro e wv1 ⟨rfl, hbv⟩
      replace X := row_call X hbv
      replace IN := IN.below hbv
      replace LI := LI.below hbv
      replace o := o.trans (hbv.mono o.size)
      replace T := row_call T hbv
      clear PV hbv X0 Xf0 X1 Xf1 X2 Xf2 X3 Xf3 X4 Xf4 X5 Xf5
      have PA := pspadd A5 m5 c5 mt wn k cap tk seq vk _ IN sB (by have := IN.len; omega)
      rcases spAdd_cases VT hvb with ⟨_, AE, VA, lenA⟩ | AE
      · rw [AE] at PA
        obtain ⟨ma, hma⟩ : ∃ ma, prune (closeB k) (incl mt (seq + 1) tk vk) = ma := ⟨_, rfl⟩
        rw [hma] at PA VA lenA
        have VEA := spvalE_yes VA
        clear AE hma
        replace PA := Lib.hid PA
        obtain ⟨T0, T1, Tf0, Tf1⟩ := row_two T
        obtain ⟨X0, X1, X2, X3, X4, X5, Xf0, Xf1, Xf2, Xf3, Xf4, Xf5⟩ := row_six X
        have xlt4 := row_lt X
        go_wp2_with fail
        refine PA.out.mono ?_
        intro e w9 hq9
        obtain ⟨A9, m9, c9, rfl, IN9, hb9, fr9⟩ := spret_at rfl hq9
        clear hq9 PA T0 T1 Tf0 Tf1 X0 Xf0 X1 Xf1 X2 Xf2 X3 Xf3 X4 Xf4 X5 Xf5
        have fr10 : ∀ a, A9 = some a → a.block ≠ xb := fun a e => by
          rcases fr9 a e with h | ⟨b, h, h'⟩
          · omega
          · rw [h']; exact fr6 b h
        clear IN
        have IN := IN9
        clear IN9
        replace T := row_call T hb9
        replace X := row_call X hb9
        replace LI := LI.below hb9
        replace o := o.trans (hb9.mono o.size)
        clear hb9 fr9 xlt4
        go_upto_region 12 with (fail)
        have Y : Row (w9.alloc (.cells #[.int .i64 wn, .int .i64 k, .int .i64 cap, .int .i64 tk, .int .i64 (seq + 1), .slice A9 m9 c9] 24)) w9.heap.size 24 #[.int .i64 wn, .int .i64 k, .int .i64 cap, .int .i64 tk, .int .i64 (seq + 1), .slice A9 m9 c9] := row_new rfl
        have hyx : xb ≠ w9.heap.size := by have := row_lt X; omega
        replace X := row_alloc X (.cells #[.int .i64 wn, .int .i64 k, .int .i64 cap, .int .i64 tk, .int .i64 (seq + 1), .slice A9 m9 c9] 24)
        replace T := row_alloc T (.cells #[.int .i64 wn, .int .i64 k, .int .i64 cap, .int .i64 tk, .int .i64 (seq + 1), .slice A9 m9 c9] 24)
        replace IN := IN.below ((Below.refl _ _).alloc (Nat.le_refl _) (.cells #[.int .i64 wn, .int .i64 k, .int .i64 cap, .int .i64 tk, .int .i64 (seq + 1), .slice A9 m9 c9] 24))
        replace LI := LI.below ((Below.refl _ _).alloc (Nat.le_refl _) (.cells #[.int .i64 wn, .int .i64 k, .int .i64 cap, .int .i64 tk, .int .i64 (seq + 1), .slice A9 m9 c9] 24))
        replace o := o.alloc o.size (.cells #[.int .i64 wn, .int .i64 k, .int .i64 cap, .int .i64 tk, .int .i64 (seq + 1), .slice A9 m9 c9] 24)
        generalize w9.alloc (.cells #[.int .i64 wn, .int .i64 k, .int .i64 cap, .int .i64 tk, .int .i64 (seq + 1), .slice A9 m9 c9] 24) = w10 at T X Y IN LI o ⊢
        generalize w9.heap.size = yb at Y hyx ⊢
        obtain ⟨Y0, Y1, Y2, Y3, Y4, Y5, Yf0, Yf1, Yf2, Yf3, Yf4, Yf5⟩ := row_six Y
        obtain ⟨X0, X1, X2, X3, X4, X5, Xf0, Xf1, Xf2, Xf3, Xf4, Xf5⟩ := row_six X
        go_upto_region 14 with (fail)
        clear Y Y0 Yf0 Y1 Yf1 Y2 Yf2 Y3 Yf3 Y4 Yf4 Y5 Yf5 X0 Xf0 X1 Xf1 X2 Xf2 X3 Xf3 X4 Xf4 X5 Xf5
        have X' := row_sx_set X (.int .i64 wn) (.int .i64 k) (.int .i64 cap) (.int .i64 tk) (.int .i64 (seq + 1)) (.slice A9 m9 c9)
        replace T := row_sx_other (b := xb) T (htx) (.int .i64 wn) (.int .i64 k) (.int .i64 cap) (.int .i64 tk) (.int .i64 (seq + 1)) (.slice A9 m9 c9)
        replace IN := IN.sx (b := xb) fr10 (.int .i64 wn) (.int .i64 k) (.int .i64 cap) (.int .i64 tk) (.int .i64 (seq + 1)) (.slice A9 m9 c9)
        replace LI := LI.sx (b := xb) fL (.int .i64 wn) (.int .i64 k) (.int .i64 cap) (.int .i64 tk) (.int .i64 (seq + 1)) (.slice A9 m9 c9)
        replace o := below_sx o (b := xb) xb0 (.int .i64 wn) (.int .i64 k) (.int .i64 cap) (.int .i64 tk) (.int .i64 (seq + 1)) (.slice A9 m9 c9)
        generalize ((((((w10.setCell ⟨xb, 0, none⟩ (.int .i64 wn)).setCell ⟨xb, 1, none⟩ (.int .i64 k)).setCell ⟨xb, 2, none⟩ (.int .i64 cap)).setCell ⟨xb, 3, none⟩ (.int .i64 tk)).setCell ⟨xb, 4, none⟩ (.int .i64 (seq + 1))).setCell ⟨xb, 5, none⟩ (.slice A9 m9 c9)) = w11 at X' T IN LI o ⊢
        replace X := X'
        clear X'
        have PV := pvalP A9 m9 c9 ma wn k cap tk (seq + 1) _ IN sB1
        rw [VEA] at PV
        replace PV := Lib.hid PV
        obtain ⟨X0, X1, X2, X3, X4, X5, Xf0, Xf1, Xf2, Xf3, Xf4, Xf5⟩ := row_six X
        go_wp2_with fail
        refine PV.out.mono ?_
        rintro e wv0 ⟨rfl, hbv⟩
        replace X := row_call X hbv
        replace IN := IN.below hbv
        replace LI := LI.below hbv
        replace o := o.trans (hbv.mono o.size)
        clear PV hbv X0 Xf0 X1 Xf1 X2 Xf2 X3 Xf3 X4 Xf4 X5 Xf5
        have PV := rvalP A9 m9 c9 ma wn k cap tk (seq + 1) _ IN sB1
        rw [VEA] at PV
        replace PV := Lib.hid PV
        obtain ⟨X0, X1, X2, X3, X4, X5, Xf0, Xf1, Xf2, Xf3, Xf4, Xf5⟩ := row_six X
        go_wp2_with fail
        refine PV.out.mono ?_
        rintro e wv1 ⟨rfl, hbv⟩
        replace X := row_call X hbv
        replace IN := IN.below hbv
        replace LI := LI.below hbv
        replace o := o.trans (hbv.mono o.size)
        clear PV hbv X0 Xf0 X1 Xf1 X2 Xf2 X3 Xf3 X4 Xf4 X5 Xf5
        clear T
        go_wp2
        go_roundw
        case rel => exact ⟨q + 1, A9, m9, c9, tk, seq + 1, ma, by have := HFIN.out.2.2.2; omega, by go_num, rfl, X, IN, Lib.hid ⟨VA, by have := HFIN.out.1; omega, by have := HFIN.out.2.1; omega, HFIN.out.2.2.1⟩, fr10, LI, o⟩
        case measure => have := HFIN.out.2.2.2; simp [intOf]; omega
      · rw [AE] at PA
        unfold spZero at PA
        clear AE
        replace PA := Lib.hid PA
        obtain ⟨T0, T1, Tf0, Tf1⟩ := row_two T
        obtain ⟨X0, X1, X2, X3, X4, X5, Xf0, Xf1, Xf2, Xf3, Xf4, Xf5⟩ := row_six X
        have xlt4 := row_lt X
        go_wp2_with fail
        refine PA.out.mono ?_
        intro e w9 hq9
        obtain ⟨A9, m9, c9, rfl, IN9, hb9, fr9⟩ := spret_at rfl hq9
        clear hq9 PA T0 T1 Tf0 Tf1 X0 Xf0 X1 Xf1 X2 Xf2 X3 Xf3 X4 Xf4 X5 Xf5
        replace IN := IN.below hb9
        clear IN9
        replace T := row_call T hb9
        replace X := row_call X hb9
        replace LI := LI.below hb9
        replace o := o.trans (hb9.mono o.size)
        clear hb9 fr9 xlt4
        go_upto_region 12 with (fail)
        have Y : Row (w9.alloc (.cells #[.int .i64 0, .int .i64 0, .int .i64 0, .int .i64 0, .int .i64 0, .slice A9 m9 c9] 24)) w9.heap.size 24 #[.int .i64 0, .int .i64 0, .int .i64 0, .int .i64 0, .int .i64 0, .slice A9 m9 c9] := row_new rfl
        have hyx : xb ≠ w9.heap.size := by have := row_lt X; omega
        replace X := row_alloc X (.cells #[.int .i64 0, .int .i64 0, .int .i64 0, .int .i64 0, .int .i64 0, .slice A9 m9 c9] 24)
        replace T := row_alloc T (.cells #[.int .i64 0, .int .i64 0, .int .i64 0, .int .i64 0, .int .i64 0, .slice A9 m9 c9] 24)
        replace IN := IN.below ((Below.refl _ _).alloc (Nat.le_refl _) (.cells #[.int .i64 0, .int .i64 0, .int .i64 0, .int .i64 0, .int .i64 0, .slice A9 m9 c9] 24))
        replace LI := LI.below ((Below.refl _ _).alloc (Nat.le_refl _) (.cells #[.int .i64 0, .int .i64 0, .int .i64 0, .int .i64 0, .int .i64 0, .slice A9 m9 c9] 24))
        replace o := o.alloc o.size (.cells #[.int .i64 0, .int .i64 0, .int .i64 0, .int .i64 0, .int .i64 0, .slice A9 m9 c9] 24)
        generalize w9.alloc (.cells #[.int .i64 0, .int .i64 0, .int .i64 0, .int .i64 0, .int .i64 0, .slice A9 m9 c9] 24) = w10 at T X Y IN LI o ⊢
        generalize w9.heap.size = yb at Y hyx ⊢
        clear Y
        have PV := pvalP A5 m5 c5 mt wn k cap tk seq _ IN sB
        rw [VET] at PV
        replace PV := Lib.hid PV
        obtain ⟨X0, X1, X2, X3, X4, X5, Xf0, Xf1, Xf2, Xf3, Xf4, Xf5⟩ := row_six X
        go_wp2_with fail
        refine PV.out.mono ?_
        rintro e wv0 ⟨rfl, hbv⟩
        replace X := row_call X hbv
        replace IN := IN.below hbv
        replace LI := LI.below hbv
        replace o := o.trans (hbv.mono o.size)
        clear PV hbv X0 Xf0 X1 Xf1 X2 Xf2 X3 Xf3 X4 Xf4 X5 Xf5
        have PV := rvalP A5 m5 c5 mt wn k cap tk seq _ IN sB
        rw [VET] at PV
        replace PV := Lib.hid PV
        obtain ⟨X0, X1, X2, X3, X4, X5, Xf0, Xf1, Xf2, Xf3, Xf4, Xf5⟩ := row_six X
        go_wp2_with fail
        refine PV.out.mono ?_
        rintro e wv1 ⟨rfl, hbv⟩
        replace X := row_call X hbv
        replace IN := IN.below hbv
        replace LI := LI.below hbv
        replace o := o.trans (hbv.mono o.size)
        clear PV hbv X0 Xf0 X1 Xf1 X2 Xf2 X3 Xf3 X4 Xf4 X5 Xf5
        clear T
        go_wp2
        go_roundw
        case rel => exact ⟨q + 1, A5, m5, c5, tk, seq, mt, by have := HFIN.out.2.2.2; omega, by go_num, rfl, X, IN, Lib.hid ⟨VT, by have := HFIN.out.1; omega, by have := HFIN.out.2.1; omega, HFIN.out.2.2.1⟩, fr6, LI, o⟩
        case measure => have := HFIN.out.2.2.2; simp [intOf]; omega
    · have i2 : ¬ (q : Int) < (n : Int) := by omega
      go_wp2_with fail
      refine (awake14 _).mono ?_
      rintro e w7 ⟨rfl, hb7⟩
      replace o := o.trans (hb7.mono o.size)
      go_wp2
      go_ret
      exact ⟨rfl, o⟩
end Go.Proofs.Ytaiepjcnncajcaa
