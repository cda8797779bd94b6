/- Summaries of a stream: the ranks of values; adding values, walked. -/
import Derived.Test.YtdibjlphcmjnoaaAskG
import Derived.Test.YtdibjlphcmjnoaaSumG
import Derived.Test.YtdibjlphcmjnoaaVals
import Derived.Test.YtdibjlphcmjnoaaMathSum8
set_option linter.unusedVariables false
set_option linter.unusedSimpArgs false
set_option linter.unusedSectionVars false
set_option linter.unnecessarySimpa false
namespace Go.Proofs.Ytdibjlphcmjnoaa
open Go.RowKit
set_option maxHeartbeats 2000000 in
theorem rbel8 (A : Option Addr) (m c : Nat) (l : List Itm) (xs : List Int) (v : Int) (w : World) (hr : Reads w w.heap.size 2 A m (icells l)) (hl : xs.length = m) (hx : ∀ i, i < m → (itmAt l i).v = xs.getD i 0) (hm : m ≤ 100000) : Calls Try.prog 51 #[.slice A m c, .int .i64 v] w fun e w' => e = .returned (.int .i64 (blI xs v : Nat)) ∧ Below w.heap.size w w' := by
  have HR := Lib.hid hr
  have HX := Lib.hid hx
  have HL := Lib.hid hl
  have b := Below.refl w.heap.size w
  clear hr hx hl
  go_enter Try.func51, Try.ntmps51
  go_wp2
  go_loopw [5, 10] (fun bv i wr => ∃ j : Nat, j ≤ m ∧ i = .int .i64 (j : Nat) ∧ bv = .int .i64 (blI (xs.take j) v : Nat) ∧ Below w.heap.size w wr) (fun _ i _ => m - (intOf i).toNat)
  case atStart => exact ⟨0, by omega, rfl, rfl, b⟩
  case round =>
    clear b
    obtain ⟨j, hj, rfl, rfl, b⟩ := hrel
    by_cases hlt : j < m
    · obtain ⟨ad, rfl, hadb, ht0⟩ := HR.out.itm hlt
      have hv := HX.out j hlt
      have hs : blI (xs.take (j + 1)) v = blI (xs.take j) v + (if xs.getD j 0 < v then 1 else 0) := by
        have hjl : j < xs.length := by rw [HL.out]; exact hlt
        rw [List.take_succ_eq_append_getElem hjl, blI_append, blI_one, List.getD_eq_getElem?_getD, List.getElem?_eq_getElem hjl]
        rfl
      have hq : blI (xs.take j) v ≤ 100000 := Nat.le_trans (blI_le _ _) (by rw [List.length_take]; omega)
      generalize xs.getD j 0 = va at hv hs
      obtain ⟨g0, g1⟩ := ht0.below b (by rw [block_of_add]; exact hadb)
      generalize (itmAt l j).t = ta at g0
      rw [hv] at g1
      generalize blI (xs.take j) v = q at hs hq ⊢
      have HS := Lib.hid hs
      have wq : IntKind.i64.wrap ((q : Int) + 1) = (q : Int) + 1 := IntWalk.i64_in _ (by omega)
      have i1 : (j : Int) < (m : Int) := by omega
      have i2 : (0 : Int) ≤ (j : Int) := by omega
      clear ht0 hs hv
      go_upto_region 5 with (fail)
      have ti : Row (wr.alloc (.cells #[.int .i64 ta, .int .i64 va] 41)) wr.heap.size 41 #[.int .i64 ta, .int .i64 va] := row_new rfl
      have zr := b.size
      replace b := b.alloc b.size (.cells #[.int .i64 ta, .int .i64 va] 41)
      generalize wr.alloc (.cells #[.int .i64 ta, .int .i64 va] 41) = w4 at b ti ⊢
      generalize wr.heap.size = tb at ti zr ⊢
      clear g0 g1
      obtain ⟨T0, T1, Tf0, Tf1⟩ := row_two ti
      clear ti
      by_cases hg : va < v
      · go_wp2
        go_roundw
        case rel => exact ⟨j + 1, by omega, by go_num, by rw [HS.out, if_pos hg]; rfl, b⟩
        case measure => simp [intOf]; omega
      · go_wp2
        go_roundw
        case rel => exact ⟨j + 1, by omega, by go_num, by rw [HS.out, if_neg hg]; rfl, b⟩
        case measure => simp [intOf]; omega
    · have i1 : ¬ (j : Int) < (m : Int) := by omega
      obtain rfl : j = m := by omega
      rw [List.take_of_length_le (by rw [HL.out]; exact Nat.le_refl _)]
      go_wp2
      go_ret
      exact ⟨rfl, b⟩
set_option maxHeartbeats 2000000 in
theorem rrank8 (A : Option Addr) (m c : Nat) (l : List Itm) (xs : List Int) (v : Int) (w : World) (hr : Reads w w.heap.size 2 A m (icells l)) (hl : xs.length = m) (hx : ∀ i, i < m → (itmAt l i).v = xs.getD i 0) (hm : m ≤ 100000) : Calls Try.prog 52 #[.slice A m c, .int .i64 v] w fun e w' => e = .returned (.int .i64 (rkI xs v : Nat)) ∧ Below w.heap.size w w' := by
  have HR := Lib.hid hr
  have HX := Lib.hid hx
  have HL := Lib.hid hl
  have b := Below.refl w.heap.size w
  clear hr hx hl
  go_enter Try.func52, Try.ntmps52
  go_wp2
  go_loopw [5, 10] (fun bv i wr => ∃ j : Nat, j ≤ m ∧ i = .int .i64 (j : Nat) ∧ bv = .int .i64 (rkI (xs.take j) v : Nat) ∧ Below w.heap.size w wr) (fun _ i _ => m - (intOf i).toNat)
  case atStart => exact ⟨0, by omega, rfl, rfl, b⟩
  case round =>
    clear b
    obtain ⟨j, hj, rfl, rfl, b⟩ := hrel
    by_cases hlt : j < m
    · obtain ⟨ad, rfl, hadb, ht0⟩ := HR.out.itm hlt
      have hv := HX.out j hlt
      have hs : rkI (xs.take (j + 1)) v = rkI (xs.take j) v + (if xs.getD j 0 ≤ v then 1 else 0) := by
        have hjl : j < xs.length := by rw [HL.out]; exact hlt
        rw [List.take_succ_eq_append_getElem hjl, rkI_append, rkI_one, List.getD_eq_getElem?_getD, List.getElem?_eq_getElem hjl]
        rfl
      have hq : rkI (xs.take j) v ≤ 100000 := Nat.le_trans (rkI_le _ _) (by rw [List.length_take]; omega)
      generalize xs.getD j 0 = va at hv hs
      obtain ⟨g0, g1⟩ := ht0.below b (by rw [block_of_add]; exact hadb)
      generalize (itmAt l j).t = ta at g0
      rw [hv] at g1
      generalize rkI (xs.take j) v = q at hs hq ⊢
      have HS := Lib.hid hs
      have wq : IntKind.i64.wrap ((q : Int) + 1) = (q : Int) + 1 := IntWalk.i64_in _ (by omega)
      have i1 : (j : Int) < (m : Int) := by omega
      have i2 : (0 : Int) ≤ (j : Int) := by omega
      clear ht0 hs hv
      go_upto_region 5 with (fail)
      have ti : Row (wr.alloc (.cells #[.int .i64 ta, .int .i64 va] 41)) wr.heap.size 41 #[.int .i64 ta, .int .i64 va] := row_new rfl
      have zr := b.size
      replace b := b.alloc b.size (.cells #[.int .i64 ta, .int .i64 va] 41)
      generalize wr.alloc (.cells #[.int .i64 ta, .int .i64 va] 41) = w4 at b ti ⊢
      generalize wr.heap.size = tb at ti zr ⊢
      clear g0 g1
      obtain ⟨T0, T1, Tf0, Tf1⟩ := row_two ti
      clear ti
      by_cases hg : va ≤ v
      · go_wp2
        go_roundw
        case rel => exact ⟨j + 1, by omega, by go_num, by rw [HS.out, if_pos hg]; rfl, b⟩
        case measure => simp [intOf]; omega
      · go_wp2
        go_roundw
        case rel => exact ⟨j + 1, by omega, by go_num, by rw [HS.out, if_neg hg]; rfl, b⟩
        case measure => simp [intOf]; omega
    · have i1 : ¬ (j : Int) < (m : Int) := by omega
      obtain rfl : j = m := by omega
      rw [List.take_of_length_le (by rw [HL.out]; exact Nat.le_refl _)]
      go_wp2
      go_ret
      exact ⟨rfl, b⟩
/-- What adding values leaves: a summary of the values. -/
def RunS (kk : Int) (vs : List Int) (w : World) (e : Ending) (w' : World) : Prop :=
  ∃ A m c ts, e = .returned (.tuple #[.agg #[.int .i64 kk, .int .i64 300, .int .i64 (vs.length : Nat), .slice A m c], .bool true]) ∧ SIn kk 300 (vs.length : Nat) A m c ts w' ∧ Sum kk vs 300 ts ∧ Below w.heap.size w w' ∧ ∀ a, A = some a → w.heap.size ≤ a.block ∧ a.block < w'.heap.size
set_option maxHeartbeats 4000000 in
theorem prun20 (kk : Int) (oo : Nat) (A3 : Option Addr) (nv c3 : Nat) (vs : List Int) (w : World) (k0 : 1 ≤ kk) (k1 : kk ≤ 64) (o0 : 1 ≤ oo) (o1 : oo ≤ 100) (rd : Reads w w.heap.size 2 A3 nv (icells (vitems vs))) (hvl : vs.length = nv) (hnv : nv ≤ 200) (hvb : ∀ x ∈ vs, -4096 ≤ x ∧ x ≤ 4096) :
    Calls Try.prog 32 #[.slice A3 nv c3, .int .i64 kk, .int .i64 (oo : Nat)] w (RunS kk vs w) := by
  have PN := fun w1 => psnew kk 300 w1
  rw [snew_yes k0 k1 (by omega) (by omega)] at PN
  have PN := Lib.hid PN
  have S0 : Sum kk [] 300 [] := sum_zero k0 k1 (by omega) (by omega)
  have HRD := Lib.hid rd
  have HVL := Lib.hid hvl
  have HVB := Lib.hid hvb
  clear rd hvl hvb
  go_enter Try.func32, Try.ntmps32
  go_wp2_with fail
  refine (PN.out _).mono ?_
  intro e w1 hq
  obtain ⟨A1, m1, c1, rfl, s1, hb1, f1⟩ := sret_at rfl hq
  clear hq
  have hz1 := hb1.size
  simp at hz1
  have r : Row w1 w.heap.size 24 #[.int .i64 0, .int .i64 0, .int .i64 0, .slice none 0 0] := row_call (row_new rfl) hb1
  have o : Below w.heap.size w w1 := by (repeat (first | exact Below.refl _ _ | refine Below.setCell ?_ (by first | (simp; done) | (simp; omega) | omega) _ | refine Below.alloc ?_ (by first | (simp; done) | (simp; omega) | omega) _ | refine Below.drew ?_ | refine Below.trans ?_ (Below.mono (by assumption) (by first | (simp; done) | (simp; omega) | omega))))
  go_upto_region 2 with (fail)
  replace r := row_alloc r (.cells #[.int .i64 kk, .int .i64 300, .int .i64 0, .slice A1 m1 c1] 24)
  have X : Row (w1.alloc (.cells #[.int .i64 kk, .int .i64 300, .int .i64 0, .slice A1 m1 c1] 24)) w1.heap.size 24 #[.int .i64 kk, .int .i64 300, .int .i64 0, .slice A1 m1 c1] := row_new rfl
  replace o := o.alloc o.size (.cells #[.int .i64 kk, .int .i64 300, .int .i64 0, .slice A1 m1 c1] 24)
  replace s1 := s1.below (w' := w1.alloc (.cells #[.int .i64 kk, .int .i64 300, .int .i64 0, .slice A1 m1 c1] 24)) ((Below.refl _ _).alloc (Nat.le_refl _) _)
  have f2 : ∀ a, A1 = some a → w.heap.size < a.block ∧ a.block ≠ w1.heap.size ∧ a.block < (w1.alloc (.cells #[.int .i64 kk, .int .i64 300, .int .i64 0, .slice A1 m1 c1] 24)).heap.size := fun a e => by have h1 := f1 a e; simp at h1 ⊢; omega
  have zb : w.heap.size < w1.heap.size := by omega
  generalize w1.alloc (.cells #[.int .i64 kk, .int .i64 300, .int .i64 0, .slice A1 m1 c1] 24) = w2 at r X o s1 f2 ⊢
  clear hb1 hz1 f1
  generalize w1.heap.size = bx at X f2 zb ⊢
  go_wp2
  go_loopw [9, 19] (fun f i wr => ∃ (j : Nat) (A' : Option Addr) (m' c' : Nat) (ts : List Tup), j ≤ nv ∧ i = .int .i64 (j : Nat) ∧ f = .int .i64 0 ∧ Row wr w.heap.size 24 #[.int .i64 0, .int .i64 0, .int .i64 0, .slice none 0 0] ∧ Row wr bx 24 #[.int .i64 kk, .int .i64 300, .int .i64 (j : Nat), .slice A' m' c'] ∧ RowKit.Hid (SIn kk 300 (j : Nat) A' m' c' ts wr) ∧ RowKit.Hid (Sum kk (vs.take j) 300 ts) ∧ (∀ a, A' = some a → w.heap.size < a.block ∧ a.block ≠ bx ∧ a.block < wr.heap.size) ∧ Below w.heap.size w wr) (fun _ i _ => nv - (intOf i).toNat)
  case atStart => exact ⟨0, A1, m1, c1, [], by omega, rfl, rfl, r, X, Lib.hid s1, Lib.hid S0, f2, o⟩
  case round =>
    clear r X o s1 S0 f2
    obtain ⟨j, A2, m2, c2, ts, hj, rfl, rfl, r, X, HS, HT, f2, o⟩ := hrel
    by_cases hlt : j < nv
    · obtain ⟨ad, rfl, hadb, ht0⟩ := HRD.out.itm hlt
      have hjl : j < vs.length := by rw [HVL.out]; exact hlt
      rw [vitems_at hjl] at ht0
      have hlj : (vs.take j).length = j := by rw [List.length_take]; omega
      have hsu : vs.take (j + 1) = vs.take j ++ [vs.getD j 0] := by
        rw [List.take_succ_eq_append_getElem hjl, List.getD_eq_getElem?_getD, List.getElem?_eq_getElem hjl]
        rfl
      have bv := HVB.out (vs.getD j 0) (by rw [List.getD_eq_getElem?_getD, List.getElem?_eq_getElem hjl]; exact List.getElem_mem hjl)
      generalize vs.getD j 0 = v at ht0 hsu bv
      obtain ⟨E1, T1⟩ := sum_ins HT.out bv.1 bv.2 (by rw [hlj]; omega)
      rw [← hsu] at T1
      rw [hlj] at E1
      have hlj1 : (vs.take (j + 1)).length = j + 1 := by rw [List.length_take]; omega
      obtain ⟨E2, T2⟩ := sum_comp T1
      have ej : (j : Int) + 1 = ((j + 1 : Nat) : Int) := by omega
      rw [hlj1, ← ej] at E2 T2
      have EJ := Lib.hid ej
      have CI := fun w4 (h : SIn kk 300 (j : Nat) A2 m2 c2 ts w4) => pinsert kk 300 (j : Nat) A2 m2 c2 ts v w4 h
      rw [E1] at CI
      have CC := fun A m c w4 (h : SIn kk 300 ((j : Int) + 1) A m c (sins v ts) w4) => pscomp kk 300 ((j : Int) + 1) A m c (sins v ts) w4 h
      rw [E2] at CC
      generalize sins v ts = ts1 at CI CC T1 T2
      generalize comp (smost ((j : Int) + 1) kk) ts1 = ts2 at CC T2
      have CI := Lib.hid CI
      have CC := Lib.hid CC
      have T1 := Lib.hid T1
      have T2 := Lib.hid T2
      obtain ⟨g0, g1⟩ := ht0.below o (by rw [block_of_add]; exact hadb)
      dsimp only at g0 g1
      have i1 : (j : Int) < (nv : Int) := by omega
      have i2 : (0 : Int) ≤ (j : Int) := by omega
      have wo : IntKind.i64.wrap ((oo : Int) - 1) = (oo : Int) - 1 := IntWalk.i64_in _ (by omega)
      have oz : ¬ (oo : Int) = 0 := by omega
      have tm : ((j : Int).tmod (oo : Int)) = ((j % oo : Nat) : Int) := rfl
      have wm : IntKind.i64.wrap ((j : Int).tmod (oo : Int)) = (j : Int).tmod (oo : Int) := by rw [tm]; exact IntWalk.i64_in _ (by have := Nat.mod_lt j (show 0 < oo by omega); omega)
      clear ht0 hsu bv E1 E2 hjl hlj hlj1 tm ej
      go_upto_region 5 with (fail)
      have zx := row_lt X
      have zo := o.size
      have sin := HS.out
      have ti : Row (wr.alloc (.cells #[.int .i64 0, .int .i64 v] 41)) wr.heap.size 41 #[.int .i64 0, .int .i64 v] := row_new rfl
      have al := (Below.refl wr.heap.size wr).alloc (Nat.le_refl _) (.cells #[.int .i64 0, .int .i64 v] 41)
      generalize wr.alloc (.cells #[.int .i64 0, .int .i64 v] 41) = w4 at ti al ⊢
      replace X := row_call X al
      replace r := row_call r al
      replace sin := sin.below al
      replace o := o.trans (al.mono zo)
      generalize wr.heap.size = tb at ti zx zo ⊢
      clear g0 g1 al HS
      obtain ⟨I0, I1, If0, If1⟩ := row_two ti
      obtain ⟨X0, X1, X2, X3, Xf0, Xf1, Xf2, Xf3⟩ := row_four X
      go_wp2_with fail
      refine (CI.out _ sin).mono ?_
      intro e w5 hq
      obtain ⟨A5, m5, c5, rfl, s5, hb5, f5⟩ := sret_at rfl hq
      clear hq CI X0 X1 X2 X3 Xf0 Xf1 Xf2 Xf3 I0 I1 If0 If1 ti sin
      have zx4 := row_lt X
      have zr4 := row_lt r
      replace X := row_call X hb5
      replace r := row_call r hb5
      replace o := o.trans (hb5.mono o.size)
      have fx : ∀ a, A5 = some a → a.block ≠ bx := fun a e => by have h := f5 a e; omega
      have fw : ∀ a, A5 = some a → w.heap.size < a.block ∧ a.block ≠ bx ∧ a.block < w5.heap.size := fun a e => by have h := f5 a e; omega
      clear hb5 f5 f2
      obtain ⟨X0, X1, X2, X3, Xf0, Xf1, Xf2, Xf3⟩ := row_four X
      go_upto_region 7 with (fail)
      clear X0 X1 X2 X3 Xf0 Xf1 Xf2 Xf3
      replace X := row_four_set (u0 := .int .i64 kk) (u1 := .int .i64 300) (u2 := .int .i64 ((j : Int) + 1)) (u3 := .slice A5 m5 c5) X
      replace r := row_four_other (c := bx) (u0 := .int .i64 kk) (u1 := .int .i64 300) (u2 := .int .i64 ((j : Int) + 1)) (u3 := .slice A5 m5 c5) r (by omega)
      replace s5 := s5.row (b := bx) fx (.int .i64 kk) (.int .i64 300) (.int .i64 ((j : Int) + 1)) (.slice A5 m5 c5)
      replace o := below_four (b := bx) o (by omega) (.int .i64 kk) (.int .i64 300) (.int .i64 ((j : Int) + 1)) (.slice A5 m5 c5)
      have sz_w6 := size_four w5 bx (.int .i64 kk) (.int .i64 300) (.int .i64 ((j : Int) + 1)) (.slice A5 m5 c5)
      generalize ((((w5.setCell ⟨bx, 0, none⟩ (.int .i64 kk)).setCell ⟨bx, 1, none⟩ (.int .i64 300)).setCell ⟨bx, 2, none⟩ (.int .i64 ((j : Int) + 1))).setCell ⟨bx, 3, none⟩ (.slice A5 m5 c5)) = w6 at X r s5 o sz_w6 ⊢
      rw [← sz_w6] at fw
      by_cases hc : ((j : Int) % (oo : Int)) = (oo : Int) - 1
      · obtain ⟨X0, X1, X2, X3, Xf0, Xf1, Xf2, Xf3⟩ := row_four X
        have hcb : ((j : Int) % (oo : Int) == (oo : Int) - 1) = true := by simpa using hc
        go_wp2_with fail
        refine (CC.out _ _ _ _ s5).mono ?_
        intro e w7 hq
        obtain ⟨A7, m7, c7, rfl, s7, hb7, f7⟩ := sret_at rfl hq
        clear hq CC X0 X1 X2 X3 Xf0 Xf1 Xf2 Xf3 s5
        have zx6 := row_lt X
        have zr6 := row_lt r
        replace X := row_call X hb7
        replace r := row_call r hb7
        replace o := o.trans (hb7.mono o.size)
        replace fx : ∀ a, A7 = some a → a.block ≠ bx := fun a e => by have h := f7 a e; omega
        have fy : ∀ a, A7 = some a → w.heap.size < a.block ∧ a.block ≠ bx ∧ a.block < w7.heap.size := fun a e => by have h := f7 a e; omega
        clear hb7 f7 fw
        obtain ⟨X0, X1, X2, X3, Xf0, Xf1, Xf2, Xf3⟩ := row_four X
        go_upto_region 9 with (fail)
        clear X0 X1 X2 X3 Xf0 Xf1 Xf2 Xf3
        replace X := row_four_set (u0 := .int .i64 kk) (u1 := .int .i64 300) (u2 := .int .i64 ((j : Int) + 1)) (u3 := .slice A7 m7 c7) X
        replace r := row_four_other (c := bx) (u0 := .int .i64 kk) (u1 := .int .i64 300) (u2 := .int .i64 ((j : Int) + 1)) (u3 := .slice A7 m7 c7) r (by omega)
        replace s7 := s7.row (b := bx) fx (.int .i64 kk) (.int .i64 300) (.int .i64 ((j : Int) + 1)) (.slice A7 m7 c7)
        replace o := below_four (b := bx) o (by omega) (.int .i64 kk) (.int .i64 300) (.int .i64 ((j : Int) + 1)) (.slice A7 m7 c7)
        have sz_w8 := size_four w7 bx (.int .i64 kk) (.int .i64 300) (.int .i64 ((j : Int) + 1)) (.slice A7 m7 c7)
        generalize ((((w7.setCell ⟨bx, 0, none⟩ (.int .i64 kk)).setCell ⟨bx, 1, none⟩ (.int .i64 300)).setCell ⟨bx, 2, none⟩ (.int .i64 ((j : Int) + 1))).setCell ⟨bx, 3, none⟩ (.slice A7 m7 c7)) = w8 at X r s7 o sz_w8 ⊢
        rw [← sz_w8] at fy
        go_wp2
        go_roundw
        case rel => exact ⟨j + 1, A7, m7, c7, ts2, by omega, by go_num, rfl, r, by rw [← EJ.out]; exact X, by rw [← EJ.out]; exact Lib.hid s7, T2, fy, o⟩
        case measure => simp [intOf]; omega
      · have hcb : ((j : Int) % (oo : Int) == (oo : Int) - 1) = false := by simpa using hc
        go_wp2
        go_roundw
        case rel => exact ⟨j + 1, A5, m5, c5, ts1, by omega, by go_num, rfl, r, by rw [← EJ.out]; exact X, by rw [← EJ.out]; exact Lib.hid s5, T1, fw, o⟩
        case measure => simp [intOf]; omega
    · have i1 : ¬ (j : Int) < (nv : Int) := by omega
      obtain rfl : j = nv := by omega
      have zx := row_lt X
      have zr := row_lt r
      obtain ⟨X0, X1, X2, X3, Xf0, Xf1, Xf2, Xf3⟩ := row_four X
      obtain ⟨R0, R1, R2, R3, Rf0, Rf1, Rf2, Rf3⟩ := row_four r
      have s9 := HS.out.row (b := w.heap.size) (fun a e => by have := (f2 a e).1; omega) (.int .i64 kk) (.int .i64 300) (.int .i64 (j : Nat)) (.slice A2 m2 c2)
      have o9 := below_four (b := w.heap.size) o (Nat.le_refl _) (.int .i64 kk) (.int .i64 300) (.int .i64 (j : Nat)) (.slice A2 m2 c2)
      have T9 := HT.out
      rw [List.take_of_length_le (by rw [HVL.out]; exact Nat.le_refl _)] at T9
      have sz := size_four wr w.heap.size (.int .i64 kk) (.int .i64 300) (.int .i64 (j : Nat)) (.slice A2 m2 c2)
      have F2 := Lib.hid (fun a (e : A2 = some a) => (by have := f2 a e; omega : w.heap.size ≤ a.block ∧ a.block < wr.heap.size))
      clear f2
      go_wp2
      exact bodyPost_ret (v := .tuple #[.agg #[.int .i64 kk, .int .i64 300, .int .i64 (j : Nat), .slice A2 m2 c2], .bool true]) (by simp [results, Try.results32, go_sem, R0, R1, R2, R3]) rfl ⟨A2, m2, c2, ts, by rw [HVL.out], by rw [HVL.out]; exact s9, T9, o9, fun a e => by have := F2.out a e; rw [sz]; omega⟩
end Go.Proofs.Ytdibjlphcmjnoaa
