/- Counters that halve: adding items to a counter, walked. -/
import Derived.Test.YtpbhagikndamnaaHalveK
import Derived.Test.YtpbhagikndamnaaMathHalve6
namespace Go.Proofs.Ytpbhagikndamnaa
open Go.RowKit Go.Shelf
/-- What adding items leaves: the counter of the items. -/
def RunRet (a : Nat) (l : List Itm) (w : World) (e : Ending) (w' : World) : Prop :=
  ∃ A n c, e = .returned (.tuple #[.agg #[.int .i64 (nowAt l l.length), .slice A n c], .bool true]) ∧ HIn (nowAt l l.length) A n c (cst a l (nowAt l l.length)) w' ∧ Below w.heap.size w w' ∧ ∀ ad, A = some ad → w.heap.size ≤ ad.block
theorem phadd_at {now v : Int} {A : Option Addr} {n c : Nat} {zs : List Int} {w : World} (hin : HIn now A n c zs w) (hv : hvalE now zs = 0) (h0 : 0 ≤ v) (h1 : v ≤ 4096) (h2 : zs.getD 0 0 ≤ 409600000) :
    Calls Try.prog 16 #[.agg #[.int .i64 now, .slice A n c], .int .i64 v] w fun e w' => HRet ⟨now, zs.set 0 (zs.getD 0 0 + v), 0⟩ w e w' := by
  have h := phadd now A n c zs v w hin
  rw [hadd_ok hv h0 h1 (by omega)] at h
  exact h
theorem phadv_at {now to : Int} {A : Option Addr} {n c : Nat} {zs : List Int} {w : World} (hin : HIn now A n c zs w) (hv : hvalE now zs = 0) (h0 : now ≤ to) (h1 : to ≤ 16777216) :
    Calls Try.prog 14 #[.agg #[.int .i64 now, .slice A n c], .int .i64 to] w fun e w' => HRet ⟨to, hshift zs (to - now).toNat, 0⟩ w e w' := by
  have h := phadv now A n c zs to w hin
  rw [hadv_ok hv h0 h1] at h
  exact h
set_option maxHeartbeats 4000000 in
theorem prun (a : Nat) (ha : 1 ≤ a) (ha2 : a ≤ 64) (A : Option Addr) (m c : Nat) (l : List Itm) (w : World) (st last : Int) (hr : Reads w w.heap.size 2 A m (icells l)) (hm : Made st 0 4096 last l) (hlast : last ≤ 16777216) (hl : m ≤ 1000) :
    Calls Try.prog 24 #[.int .i64 a, .slice A m c] w (RunRet a l w) := by
  have hlen := hr.itm_len
  have HL := Lib.hid hlen
  have HR := Lib.hid hr
  have HM := Lib.hid hm
  have CN := fun w => phnew (a : Int) 0 w
  rw [hnew_yes (by omega) (by omega) (by decide) (by decide), show (a : Int).toNat = a by omega, ← cst_nil a 0] at CN
  have CN := Lib.hid CN
  have VK := Lib.hid (fun (k : Nat) (hk : k ≤ m) => cst_valid (a := a) (l := l.take k) (now := nowAt l k) ha ha2 (made_now_le hm (by omega)).1 (by have := (made_now_le hm (k := k) (by omega)).2; omega) (by rw [List.length_take]; omega) (made_take hm (by omega)).1 (fun x hx => ((made_take hm (by omega)).2 x hx).1))
  clear hlen hr hm
  go_enter Try.func24, Try.ntmps24
  go_wp2_with fail
  refine (CN.out _).mono ?_
  intro e w1 hq
  obtain ⟨A1, n1, c1, rfl, hin1, hb1, hf1⟩ := hret_at rfl hq
  clear hq
  have hz1 := hb1.size
  simp at hz1
  have r1 : Row w1 w.heap.size 24 #[.int .i64 0, .slice none 0 0] := row_call (row_new rfl) hb1
  have o1 : Below w.heap.size w w1 := by (repeat (first | exact Below.refl _ _ | refine Below.setCell ?_ (by first | (simp; done) | (simp; omega) | omega) _ | refine Below.alloc ?_ (by first | (simp; done) | (simp; omega) | omega) _ | refine Below.drew ?_ | refine Below.trans ?_ (Below.mono (by assumption) (by first | (simp; done) | (simp; omega) | omega))))
  go_wp2
  have L1 := row_alloc r1 (.cells #[.int .i64 0, .slice A1 n1 c1] 24)
  have L2 : Row (w1.alloc (.cells #[.int .i64 0, .slice A1 n1 c1] 24)) w1.heap.size 24 #[.int .i64 0, .slice A1 n1 c1] := row_new rfl
  have L3 := o1.alloc o1.size (.cells #[.int .i64 0, .slice A1 n1 c1] 24)
  have L4 := hin1.below (w' := w1.alloc (.cells #[.int .i64 0, .slice A1 n1 c1] 24)) ((Below.refl _ _).alloc (Nat.le_refl _) _)
  have f1 : ∀ ad, A1 = some ad → w.heap.size < ad.block ∧ ad.block ≠ w1.heap.size := fun ad e => by
    have h1 := hf1 ad e
    simp at h1
    have h2 : ad.block < w1.heap.size := by
      have hlen := hin1.len
      rw [cst_len] at hlen
      obtain ⟨ad', e', hb', _⟩ := hin1.reads.2 (by omega)
      rw [e] at e'
      cases e'
      exact hb'
    omega
  have q6 : w.heap.size < w1.heap.size := by omega
  generalize w1.alloc (.cells #[.int .i64 0, .slice A1 n1 c1] 24) = w2 at L1 L2 L3 L4 ⊢
  generalize hb6 : w1.heap.size = b6 at L2 f1 q6 ⊢
  have q7 := row_lt L2
  clear hb6 hin1 hb1 hf1 r1 o1 hz1
  go_loopw [7, 17] (fun f i wr => ∃ (k : Nat) (A' : Option Addr) (n' c' : Nat), k ≤ m ∧ i = .int .i64 (k : Nat) ∧ f = .int .i64 0 ∧ Row wr w.heap.size 24 #[.int .i64 0, .slice none 0 0] ∧ Row wr b6 24 #[.int .i64 (nowAt l k), .slice A' n' c'] ∧ RowKit.Hid (HIn (nowAt l k) A' n' c' (cst a (l.take k) (nowAt l k)) wr) ∧ (∀ ad, A' = some ad → w.heap.size < ad.block ∧ ad.block ≠ b6) ∧ Below w.heap.size w wr) (fun _ i _ => m - (intOf i).toNat)
  case atStart => exact ⟨0, A1, n1, c1, by omega, rfl, rfl, L1, L2, Lib.hid L4, f1, L3⟩
  case round =>
    clear L1 L2 L3 L4 f1 q7
    obtain ⟨k, A2, n2, c2, hk, rfl, rfl, L1, L2, L4, f2, L3⟩ := hrel
    by_cases hlt : k < m
    · obtain ⟨ad, rfl, hadb, ht0⟩ := HR.out.itm hlt
      obtain ⟨g0, g1⟩ := ht0.below L3 (by rw [block_of_add]; exact hadb)
      have kl : k < l.length := by rw [HL.out]; exact hlt
      have N := made_now HM.out kl
      have MT := made_take HM.out (k := k) (by omega)
      have MR := made_round HM.out (a := a) kl ha
      have MV := (HM.out.1 k kl).2.2.2
      have V1 := VK.out k hk
      have hsh := cst_shift (a := a) (d := ((itmAt l k).t - nowAt l k).toNat) (fun x hx => (MT.2 x hx).2)
      rw [show nowAt l k + (((itmAt l k).t - nowAt l k).toNat : Int) = (itmAt l k).t by omega] at hsh
      have V2 := cst_valid (a := a) (l := l.take k) (now := (itmAt l k).t) ha ha2 (by omega) (by omega) (by rw [List.length_take]; omega) MT.1 (fun x hx => (MT.2 x hx).1)
      have TP := cst_top (a := a) (l := l.take k) (now := (itmAt l k).t) ha (by rw [List.length_take]; omega) MT.1
      generalize (itmAt l k).t = tk at g0 N MR hsh V2 TP
      generalize (itmAt l k).v = vk at g1 MR MV
      obtain ⟨MV0, MV1⟩ := MV
      have i1 : (k : Int) < (m : Int) := by omega
      have i2 : (0 : Int) ≤ (k : Int) := by omega
      have z1 := row_lt L1
      have z2 := row_lt L2
      have zw := L3.size
      obtain ⟨X0, X1, X2, X3⟩ := row_two L2
      have hH := L4.out.below (w' := wr.alloc (.cells #[.int .i64 tk, .int .i64 vk] 64)) ((Below.refl _ _).alloc (Nat.le_refl _) _)
      have CA := phadv_at hH V1 N.2.1 (by omega)
      rw [hsh] at CA
      have MR1 := Lib.hid MR.1
      have MR2 := Lib.hid MR.2
      have CA := Lib.hid CA
      have V2 := Lib.hid V2
      have N0 := N.1
      have N2 := N.2.2
      clear ht0 hsh MR V1 hH N MT
      go_wp2_with fail
      refine CA.out.mono ?_
      intro e w5 hq
      obtain ⟨A5, n5, c5, rfl, hin5, hb5, hf5⟩ := hret_at rfl hq
      clear hq CA
      have hz5 := hb5.size
      simp at hz5
      have R1 := row_call (row_alloc L1 (.cells #[.int .i64 tk, .int .i64 vk] 64)) hb5
      have R2 := row_call (row_alloc L2 (.cells #[.int .i64 tk, .int .i64 vk] 64)) hb5
      have R3 : Row w5 wr.heap.size 64 #[.int .i64 tk, .int .i64 vk] := row_call (row_new rfl) hb5
      have o5 := (L3.alloc zw (.cells #[.int .i64 tk, .int .i64 vk] 64)).trans (hb5.mono (by simp; omega))
      have e5 : ∀ ad, A5 = some ad → ad.block ≠ b6 := fun ad e => by have h := hf5 ad e; simp at h; omega
      have q5 := row_lt R3
      obtain ⟨Y0, Y1, Y2, Y3⟩ := row_two R2
      obtain ⟨Z0, Z1, Z2, Z3⟩ := row_two R3
      have nb : wr.heap.size ≠ b6 := by omega
      have M1 := row_two_set (u := .int .i64 tk) (v := .slice A5 n5 c5) R2
      have M2 := row_two_other (c := b6) (u := .int .i64 tk) (v := .slice A5 n5 c5) R1 (by omega)
      have M4 := hin5.row e5 (.int .i64 tk) (.slice A5 n5 c5)
      have M5 := (o5.setCell (p := ⟨b6, 0, none⟩) (by simp; omega) (.int .i64 tk)).setCell (p := ⟨b6, 1, none⟩) (by simp; omega) (.slice A5 n5 c5)
      have sz : ((w5.setCell ⟨b6, 0, none⟩ (.int .i64 tk)).setCell ⟨b6, 1, none⟩ (.slice A5 n5 c5)).heap.size = w5.heap.size := by rw [size_setCell, size_setCell]
      clear X0 X1 X2 X3
      go_wp2_with fail
      refine (phadd_at M4 V2.out MV0 MV1 TP).mono ?_
      intro e w6 hq
      generalize ((w5.setCell ⟨b6, 0, none⟩ (.int .i64 tk)).setCell ⟨b6, 1, none⟩ (.slice A5 n5 c5)) = w7 at M1 M2 M5 sz hq
      obtain ⟨A6, n6, c6, rfl, hin6, hb6, hf6⟩ := hret_at (by rw [← MR2.out]) hq
      clear hq M4 Y0 Y1 Y2 Y3 Z0 Z1 Z2 Z3
      have R4 := row_call M1 hb6
      have R5 := row_call M2 hb6
      have o6 := M5.trans (hb6.mono (by have := M5.size; omega))
      have e6 : ∀ ad, A6 = some ad → ad.block ≠ b6 := fun ad e => by have h := hf6 ad e; omega
      have e6' : ∀ ad, A6 = some ad → w.heap.size < ad.block ∧ ad.block ≠ b6 := fun ad e => ⟨by have h := hf6 ad e; omega, e6 ad e⟩
      obtain ⟨Y0, Y1, Y2, Y3⟩ := row_two R4
      have P1 : Row ((w6.setCell ⟨b6, 0, none⟩ (.int .i64 tk)).setCell ⟨b6, 1, none⟩ (.slice A6 n6 c6)) b6 24 #[.int .i64 (nowAt l (k + 1)), .slice A6 n6 c6] := by rw [MR1.out]; exact row_two_set R4
      have P2 := row_two_other (c := b6) (u := .int .i64 tk) (v := .slice A6 n6 c6) R5 (by omega)
      have P3 : RowKit.Hid (HIn (nowAt l (k + 1)) A6 n6 c6 (cst a (l.take (k + 1)) (nowAt l (k + 1))) ((w6.setCell ⟨b6, 0, none⟩ (.int .i64 tk)).setCell ⟨b6, 1, none⟩ (.slice A6 n6 c6))) := Lib.hid (by rw [MR1.out]; exact hin6.row e6 _ _)
      have P4 := (o6.setCell (p := ⟨b6, 0, none⟩) (by simp; omega) (.int .i64 tk)).setCell (p := ⟨b6, 1, none⟩) (by simp; omega) (.slice A6 n6 c6)
      go_wp2
      go_roundw
      case rel => exact ⟨k + 1, A6, n6, c6, by omega, by go_num, rfl, P2, P1, P3, e6', P4⟩
      case measure => simp [intOf]; omega
    · have i1 : ¬ (k : Int) < (m : Int) := by omega
      obtain rfl : k = m := by omega
      have z1 := row_lt L1
      have z2 := row_lt L2
      obtain ⟨X0, X1, X2, X3⟩ := row_two L2
      obtain ⟨Y0, Y1, Y2, Y3⟩ := row_two L1
      have ne1 : b6 ≠ w.heap.size := by omega
      have hin9 := L4.out.row (b := w.heap.size) (fun ad e => by have := (f2 ad e).1; omega) (.int .i64 (nowAt l k)) (.slice A2 n2 c2)
      have o9 := (L3.setCell (p := ⟨w.heap.size, 0, none⟩) (by simp) (.int .i64 (nowAt l k))).setCell (p := ⟨w.heap.size, 1, none⟩) (by simp) (.slice A2 n2 c2)
      have F2 := Lib.hid f2
      clear f2
      go_wp2
      exact bodyPost_ret (v := .tuple #[.agg #[.int .i64 (nowAt l k), .slice A2 n2 c2], .bool true]) (by simp [results, Try.results24, go_sem, Y0, Y1]) rfl ⟨A2, n2, c2, by rw [HL.out], by rw [HL.out]; rw [List.take_of_length_le (by rw [HL.out]; exact Nat.le_refl _)] at hin9; exact hin9, o9, fun ad e => by have := (F2.out ad e).1; omega⟩
end Go.Proofs.Ytpbhagikndamnaa
