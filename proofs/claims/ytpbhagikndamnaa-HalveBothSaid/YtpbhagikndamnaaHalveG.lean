/- Counters that halve: the answer by the reference, walked. -/
import Derived.Test.YtpbhagikndamnaaHalveF
namespace Go.Proofs.Ytpbhagikndamnaa
open Go.RowKit Go.Shelf
set_option maxHeartbeats 4000000 in
theorem rhask_ok (now : Int) (A : Option Addr) (n c : Nat) (zs : List Int) (w : World) (hin : HIn now A n c zs w) (hv : hvalE now zs = 0) : Calls Try.prog 19 #[.agg #[.int .i64 now, .slice A n c]] w fun e w' => e = .returned (.tuple #[FR (hask now zs).num (hask now zs).den, .int .i64 (hask now zs).f]) ∧ Below w.heap.size w w' := by
  have V := hvalid_of hv
  have hl := hin.len
  rw [hask_ok hv, hl]
  show Calls _ _ _ _ fun e w' => e = .returned (.tuple #[FR (hhorn zs n) (2 ^ (n - 1)), .int .i64 0]) ∧ Below w.heap.size w w'
  have P := fun w1 (hb : Below w.heap.size w w1) => rhval now A n c zs w1 ((hin.reads.below hb).more hb.size) hin.nowB hin.zsB hin.nB
  rw [hv] at P
  have P := Lib.hid P
  have hlen1 : 1 ≤ n := by omega
  have hlen2 : n ≤ 64 := by omega
  have BX := Lib.hid (fun e (he : e < n) => V.2.2.2.2 e (by omega))
  have HR := Lib.hid hin
  have dB := pow_big hlen2
  have hdn : leftN 1 ((n : Int) - 1) = 2 ^ (n - 1) := by unfold leftN; rw [Nat.one_mul]; congr 1; omega
  have PD := fun w => rleft 1 ((n : Int) - 1) (by decide) ⟨by omega, by omega⟩ w
  have hly := left_yes (a := 1) (n := (n : Int) - 1) (by omega) (by rw [hdn]; exact Nat.lt_of_lt_of_le dB (by decide))
  rw [hly.1, hly.2, hdn] at PD
  have PD := Lib.hid PD
  generalize hdnn : 2 ^ (n - 1) = dn at PD ⊢
  have PO1 : RowKit.Hid (∀ w, Calls Try.prog 38 #[.int .u64 1] w fun e w' => e = .returned (W 1) ∧ Below w.heap.size w w') := Lib.hid (fun w => rof 1 (by decide) w)
  have wsn : IntKind.i64.wrap ((n : Int) - 1) = (n : Int) - 1 := IntWalk.i64_in _ (by omega)
  clear hv hin hl V hly hdn dB hdnn
  go_enter Try.func19, Try.ntmps19
  go_wp2_with (first | (go_at_call 21; with_reducible refine (P.out _ (by (repeat (first | exact Below.refl _ _ | refine Below.setCell ?_ (by first | (simp; done) | (simp; omega) | omega) _ | refine Below.alloc ?_ (by first | (simp; done) | (simp; omega) | omega) _ | refine Below.drew ?_ | refine Below.trans ?_ (Below.mono (by assumption) (by first | (simp; done) | (simp; omega) | omega)))))).mono ?_; rintro e w1 ⟨rfl, hb1⟩; have hz1 := hb1.size; (try simp at hz1); have o1 : Below w.heap.size w w1 := (by (repeat (first | exact Below.refl _ _ | refine Below.setCell ?_ (by first | (simp; done) | (simp; omega) | omega) _ | refine Below.alloc ?_ (by first | (simp; done) | (simp; omega) | omega) _ | refine Below.drew ?_ | refine Below.trans ?_ (Below.mono (by assumption) (by first | (simp; done) | (simp; omega) | omega))))); have q1_0 : w.heap.size < w1.heap.size := (by omega); have r1_0 : Row w1 (w.heap.size) 24 #[.int .i64 now, .slice A n c] := row_call (by (repeat (first | assumption | (refine row_new ?_; (first | (simp; done) | omega)) | refine row_alloc ?_ _ | refine row_drew ?_ | refine row_call ?_ (by assumption)))) hb1; obtain ⟨c1_0a, c1_0b, f1_0a, f1_0b⟩ := row_two r1_0; have q1_1 : w.heap.size + 1 < w1.heap.size := (by omega); have r1_1 : Row w1 (w.heap.size + 1) 37 #[.int .u64 0, .int .u64 0, .int .u64 0, .int .u64 0] := row_call (by (repeat (first | assumption | (refine row_new ?_; (first | (simp; done) | omega)) | refine row_alloc ?_ _ | refine row_drew ?_ | refine row_call ?_ (by assumption)))) hb1; obtain ⟨c1_1a, c1_1b, c1_1c, c1_1d, f1_1a, f1_1b, f1_1c, f1_1d⟩ := row_four r1_1) | (go_at_call 38; with_reducible refine (PO1.out _).mono ?_; rintro e w2 ⟨rfl, hb2⟩; have hz2 := hb2.size; (try simp at hz2); have o2 : Below w.heap.size w w2 := (by (repeat (first | exact Below.refl _ _ | refine Below.setCell ?_ (by first | (simp; done) | (simp; omega) | omega) _ | refine Below.alloc ?_ (by first | (simp; done) | (simp; omega) | omega) _ | refine Below.drew ?_ | refine Below.trans ?_ (Below.mono (by assumption) (by first | (simp; done) | (simp; omega) | omega))))); have q2_0 : w.heap.size < w2.heap.size := (by omega); have r2_0 : Row w2 (w.heap.size) 24 #[.int .i64 now, .slice A n c] := row_call (by (repeat (first | assumption | (refine row_new ?_; (first | (simp; done) | omega)) | refine row_alloc ?_ _ | refine row_drew ?_ | refine row_call ?_ (by assumption)))) hb2; obtain ⟨c2_0a, c2_0b, f2_0a, f2_0b⟩ := row_two r2_0; have q2_1 : w.heap.size + 1 < w2.heap.size := (by omega); have r2_1 : Row w2 (w.heap.size + 1) 37 #[.int .u64 0, .int .u64 0, .int .u64 0, .int .u64 0] := row_call (by (repeat (first | assumption | (refine row_new ?_; (first | (simp; done) | omega)) | refine row_alloc ?_ _ | refine row_drew ?_ | refine row_call ?_ (by assumption)))) hb2; obtain ⟨c2_1a, c2_1b, c2_1c, c2_1d, f2_1a, f2_1b, f2_1c, f2_1d⟩ := row_four r2_1) | (go_at_call 37; with_reducible refine (PD.out _).mono ?_; rintro e w3 ⟨rfl, hb3⟩; have hz3 := hb3.size; (try simp at hz3); have o3 : Below w.heap.size w w3 := (by (repeat (first | exact Below.refl _ _ | refine Below.setCell ?_ (by first | (simp; done) | (simp; omega) | omega) _ | refine Below.alloc ?_ (by first | (simp; done) | (simp; omega) | omega) _ | refine Below.drew ?_ | refine Below.trans ?_ (Below.mono (by assumption) (by first | (simp; done) | (simp; omega) | omega))))); have q3_0 : w.heap.size < w3.heap.size := (by omega); have r3_0 : Row w3 (w.heap.size) 24 #[.int .i64 now, .slice A n c] := row_call (by (repeat (first | assumption | (refine row_new ?_; (first | (simp; done) | omega)) | refine row_alloc ?_ _ | refine row_drew ?_ | refine row_call ?_ (by assumption)))) hb3; obtain ⟨c3_0a, c3_0b, f3_0a, f3_0b⟩ := row_two r3_0; have q3_1 : w.heap.size + 1 < w3.heap.size := (by omega); have r3_1 : Row w3 (w.heap.size + 1) 37 #[.int .u64 0, .int .u64 0, .int .u64 0, .int .u64 0] := row_call (by (repeat (first | assumption | (refine row_new ?_; (first | (simp; done) | omega)) | refine row_alloc ?_ _ | refine row_drew ?_ | refine row_call ?_ (by assumption)))) hb3; obtain ⟨c3_1a, c3_1b, c3_1c, c3_1d, f3_1a, f3_1b, f3_1c, f3_1d⟩ := row_four r3_1))
  have WS : (w3.alloc (.cells (Wc dn) 35)).alloc (.cells #[.int .u64 0, .int .u64 0, .int .u64 (hi dn), .int .u64 (lo dn)] 37) = (w3.alloc (.cells (Wc dn) 35)).alloc (.cells #[.int .u64 0, .int .u64 0, .int .u64 (hi dn), .int .u64 (lo dn)] 37) := rfl
  have L1 := row_alloc (row_alloc r3_0 (.cells (Wc dn) 35)) (.cells #[.int .u64 0, .int .u64 0, .int .u64 (hi dn), .int .u64 (lo dn)] 37)
  have L2 := row_alloc (row_alloc r3_1 (.cells (Wc dn) 35)) (.cells #[.int .u64 0, .int .u64 0, .int .u64 (hi dn), .int .u64 (lo dn)] 37)
  have L3 : Row ((w3.alloc (.cells (Wc dn) 35)).alloc (.cells #[.int .u64 0, .int .u64 0, .int .u64 (hi dn), .int .u64 (lo dn)] 37)) (w3.heap.size + 1) 37 #[.int .u64 (hi (hwide zs n 0)), .int .u64 (lo (hwide zs n 0)), .int .u64 (hi dn), .int .u64 (lo dn)] := by
    rw [hwide, hi_0, lo_0]
    exact row_new (by simp)
  have L4 : Below w.heap.size w ((w3.alloc (.cells (Wc dn) 35)).alloc (.cells #[.int .u64 0, .int .u64 0, .int .u64 (hi dn), .int .u64 (lo dn)] 37)) := by (repeat (first | exact Below.refl _ _ | refine Below.setCell ?_ (by first | (simp; done) | (simp; omega) | omega) _ | refine Below.alloc ?_ (by first | (simp; done) | (simp; omega) | omega) _ | refine Below.drew ?_ | refine Below.trans ?_ (Below.mono (by assumption) (by first | (simp; done) | (simp; omega) | omega))))
  have g51 : w3.heap.size + 1 ≠ w.heap.size := by omega
  have g52 : w3.heap.size + 1 ≠ w.heap.size + 1 := by omega
  have g53 : w.heap.size ≤ w3.heap.size + 1 := by omega
  clear WS
  generalize (w3.alloc (.cells (Wc dn) 35)).alloc (.cells #[.int .u64 0, .int .u64 0, .int .u64 (hi dn), .int .u64 (lo dn)] 37) = w4 at L1 L2 L3 L4 ⊢
  generalize w3.heap.size + 1 = g5 at L3 g51 g52 g53 ⊢
  clear P r1_0 r1_1 o1 r2_0 r2_1 o2 r3_0 r3_1 o3
  go_loopw [34] (fun i wr => ∃ k : Nat, k ≤ n ∧ i = .int .i64 (k : Nat) ∧ Row wr (w.heap.size) 24 #[.int .i64 now, .slice A n c] ∧ Row wr (w.heap.size + 1) 37 #[.int .u64 0, .int .u64 0, .int .u64 0, .int .u64 0] ∧ Row wr g5 37 #[.int .u64 (hi (hwide zs n k)), .int .u64 (lo (hwide zs n k)), .int .u64 (hi dn), .int .u64 (lo dn)] ∧ Below w.heap.size w wr) (fun i _ => n - (intOf i).toNat)
  case atStart => exact ⟨0, by omega, rfl, L1, L2, L3, L4⟩
  case round =>
    obtain ⟨k, hk, rfl, L1, L2, L3, L4⟩ := hrel
    by_cases hlt : k < n
    · obtain ⟨ad, rfl, hadb, hcell0⟩ := HR.out.reads.num hlt
      have hcell := (L4.cell (by rw [block_of_add]; exact hadb)).trans hcell0
      have hb1 := BX.out k hlt
      have hb2 := hwide_big BX.out hlen2 k hk
      have hb4 := hwide_big BX.out hlen2 (k + 1) hlt
      have hst : hwide zs n (k + 1) = hwide zs n k + (zs.getD k 0).toNat * 2 ^ (n - 1 - k) := rfl
      obtain ⟨sn, hsn⟩ : ∃ sn : Nat, zs.getD k 0 = (sn : Int) := ⟨(zs.getD k 0).toNat, by omega⟩
      rw [hsn] at hcell hb1 hst
      rw [Int.toNat_natCast] at hst
      generalize hwide zs n k = s at L3 hb2 hst
      have hb3 := hterm_big (z := sn) (n := n) (k := k) (by omega) hlen2
      have hq : leftN sn ((n : Int) - 1 - (k : Int)) = sn * 2 ^ (n - 1 - k) := by unfold leftN; congr 2; omega
      have PL := fun w => rleft sn ((n : Int) - 1 - (k : Int)) (by unfold big; omega) ⟨by omega, by omega⟩ w
      have hly := left_yes (a := sn) (n := (n : Int) - 1 - (k : Int)) (by omega) (by rw [hq]; unfold big; omega)
      rw [hly.1, hly.2, hq] at PL
      generalize sn * 2 ^ (n - 1 - k) = a at PL hst hb3
      have PA := fun w => radd_fits s a (by unfold big; omega) (by unfold big; omega) (by unfold big; omega) w
      rw [← hst] at PA
      generalize hr0 : hwide zs n (k + 1) = r at PA
      have HRR := Lib.hid hr0
      have PL := Lib.hid PL
      have PA := Lib.hid PA
      have PO := Lib.hid (fun w => rof sn (by omega) w)
      obtain ⟨s1, s2⟩ := hb1
      have i1 : (k : Int) < (n : Int) := by omega
      have i2 : (0 : Int) ≤ (k : Int) := by omega
      have wsk : IntKind.u64.wrap (sn : Int) = (sn : Int) := IntWalk.u64_in _ (by omega)
      have wsj : IntKind.i64.wrap ((n : Int) - 1 - (k : Int)) = (n : Int) - 1 - (k : Int) := IntWalk.i64_in _ (by omega)
      have z1 := row_lt L1
      have z2 := row_lt L2
      have z3 := row_lt L3
      obtain ⟨X0, X1, X2, X3, _, _, _, _⟩ := row_four L3
      clear hst hly hq hsn hcell0 hr0 hb2 hb3 hb4
      go_wp2_with (first | (go_at_call 38; with_reducible refine (PO.out _).mono ?_; rintro e w5 ⟨rfl, hb5⟩; have hz5 := hb5.size; (try simp at hz5); have o5 : Below w.heap.size w w5 := (by (repeat (first | exact Below.refl _ _ | refine Below.setCell ?_ (by first | (simp; done) | (simp; omega) | omega) _ | refine Below.alloc ?_ (by first | (simp; done) | (simp; omega) | omega) _ | refine Below.drew ?_ | refine Below.trans ?_ (Below.mono (by assumption) (by first | (simp; done) | (simp; omega) | omega))))); have q5_0 : w.heap.size < w5.heap.size := (by omega); have r5_0 : Row w5 (w.heap.size) 24 #[.int .i64 now, .slice (some ad) n c] := row_call (by (repeat (first | assumption | (refine row_new ?_; (first | (simp; done) | omega)) | refine row_alloc ?_ _ | refine row_drew ?_ | refine row_call ?_ (by assumption)))) hb5; obtain ⟨c5_0a, c5_0b, f5_0a, f5_0b⟩ := row_two r5_0; have q5_1 : w.heap.size + 1 < w5.heap.size := (by omega); have r5_1 : Row w5 (w.heap.size + 1) 37 #[.int .u64 0, .int .u64 0, .int .u64 0, .int .u64 0] := row_call (by (repeat (first | assumption | (refine row_new ?_; (first | (simp; done) | omega)) | refine row_alloc ?_ _ | refine row_drew ?_ | refine row_call ?_ (by assumption)))) hb5; obtain ⟨c5_1a, c5_1b, c5_1c, c5_1d, f5_1a, f5_1b, f5_1c, f5_1d⟩ := row_four r5_1; have q5_2 : g5 < w5.heap.size := (by omega); have r5_2 : Row w5 (g5) 37 #[.int .u64 (hi s), .int .u64 (lo s), .int .u64 (hi dn), .int .u64 (lo dn)] := row_call (by (repeat (first | assumption | (refine row_new ?_; (first | (simp; done) | omega)) | refine row_alloc ?_ _ | refine row_drew ?_ | refine row_call ?_ (by assumption)))) hb5; obtain ⟨c5_2a, c5_2b, c5_2c, c5_2d, f5_2a, f5_2b, f5_2c, f5_2d⟩ := row_four r5_2) | (go_at_call 37; with_reducible refine (PL.out _).mono ?_; rintro e w6 ⟨rfl, hb6⟩; have hz6 := hb6.size; (try simp at hz6); have o6 : Below w.heap.size w w6 := (by (repeat (first | exact Below.refl _ _ | refine Below.setCell ?_ (by first | (simp; done) | (simp; omega) | omega) _ | refine Below.alloc ?_ (by first | (simp; done) | (simp; omega) | omega) _ | refine Below.drew ?_ | refine Below.trans ?_ (Below.mono (by assumption) (by first | (simp; done) | (simp; omega) | omega))))); have q6_0 : w.heap.size < w6.heap.size := (by omega); have r6_0 : Row w6 (w.heap.size) 24 #[.int .i64 now, .slice (some ad) n c] := row_call (by (repeat (first | assumption | (refine row_new ?_; (first | (simp; done) | omega)) | refine row_alloc ?_ _ | refine row_drew ?_ | refine row_call ?_ (by assumption)))) hb6; obtain ⟨c6_0a, c6_0b, f6_0a, f6_0b⟩ := row_two r6_0; have q6_1 : w.heap.size + 1 < w6.heap.size := (by omega); have r6_1 : Row w6 (w.heap.size + 1) 37 #[.int .u64 0, .int .u64 0, .int .u64 0, .int .u64 0] := row_call (by (repeat (first | assumption | (refine row_new ?_; (first | (simp; done) | omega)) | refine row_alloc ?_ _ | refine row_drew ?_ | refine row_call ?_ (by assumption)))) hb6; obtain ⟨c6_1a, c6_1b, c6_1c, c6_1d, f6_1a, f6_1b, f6_1c, f6_1d⟩ := row_four r6_1; have q6_2 : g5 < w6.heap.size := (by omega); have r6_2 : Row w6 (g5) 37 #[.int .u64 (hi s), .int .u64 (lo s), .int .u64 (hi dn), .int .u64 (lo dn)] := row_call (by (repeat (first | assumption | (refine row_new ?_; (first | (simp; done) | omega)) | refine row_alloc ?_ _ | refine row_drew ?_ | refine row_call ?_ (by assumption)))) hb6; obtain ⟨c6_2a, c6_2b, c6_2c, c6_2d, f6_2a, f6_2b, f6_2c, f6_2d⟩ := row_four r6_2) | (go_at_call 39; with_reducible refine (PA.out _).mono ?_; rintro e w7 ⟨rfl, hb7⟩; have hz7 := hb7.size; (try simp at hz7); have o7 : Below w.heap.size w w7 := (by (repeat (first | exact Below.refl _ _ | refine Below.setCell ?_ (by first | (simp; done) | (simp; omega) | omega) _ | refine Below.alloc ?_ (by first | (simp; done) | (simp; omega) | omega) _ | refine Below.drew ?_ | refine Below.trans ?_ (Below.mono (by assumption) (by first | (simp; done) | (simp; omega) | omega))))); have q7_0 : w.heap.size < w7.heap.size := (by omega); have r7_0 : Row w7 (w.heap.size) 24 #[.int .i64 now, .slice (some ad) n c] := row_call (by (repeat (first | assumption | (refine row_new ?_; (first | (simp; done) | omega)) | refine row_alloc ?_ _ | refine row_drew ?_ | refine row_call ?_ (by assumption)))) hb7; obtain ⟨c7_0a, c7_0b, f7_0a, f7_0b⟩ := row_two r7_0; have q7_1 : w.heap.size + 1 < w7.heap.size := (by omega); have r7_1 : Row w7 (w.heap.size + 1) 37 #[.int .u64 0, .int .u64 0, .int .u64 0, .int .u64 0] := row_call (by (repeat (first | assumption | (refine row_new ?_; (first | (simp; done) | omega)) | refine row_alloc ?_ _ | refine row_drew ?_ | refine row_call ?_ (by assumption)))) hb7; obtain ⟨c7_1a, c7_1b, c7_1c, c7_1d, f7_1a, f7_1b, f7_1c, f7_1d⟩ := row_four r7_1; have q7_2 : g5 < w7.heap.size := (by omega); have r7_2 : Row w7 (g5) 37 #[.int .u64 (hi s), .int .u64 (lo s), .int .u64 (hi dn), .int .u64 (lo dn)] := row_call (by (repeat (first | assumption | (refine row_new ?_; (first | (simp; done) | omega)) | refine row_alloc ?_ _ | refine row_drew ?_ | refine row_call ?_ (by assumption)))) hb7; obtain ⟨c7_2a, c7_2b, c7_2c, c7_2d, f7_2a, f7_2b, f7_2c, f7_2d⟩ := row_four r7_2))
      go_roundw
      case rel => exact ⟨k + 1, by omega, by go_num, row_two_other r7_0 g51.symm, row_two_other r7_1 g52.symm, (by rw [HRR.out]; exact row_set (row_set r7_2 0 _) 1 _), (o7.setCell g53 _).setCell g53 _⟩
      case measure => simp [intOf]; omega
    · have i1 : ¬ (k : Int) < (n : Int) := by omega
      obtain rfl : k = n := by omega
      rw [hwide_last] at L3
      generalize hs0 : hhorn zs k = s at L3
      have HSS := Lib.hid hs0
      clear hs0
      obtain ⟨B0, B1, B2, B3, _, _, _, _⟩ := row_four L3
      obtain ⟨C0, C1, C2, C3, D0, D1, D2, D3⟩ := row_four L2
      have g54 : g5 ≠ w.heap.size + 1 := g52
      go_wp2
      exact bodyPost_ret (v := .tuple #[FR s dn, .int .i64 0]) (by simp [results, Try.results19, go_sem, C0, C1, C2, C3, FR]) rfl ⟨by rw [HSS.out], by (repeat (first | exact Below.refl _ _ | refine Below.setCell ?_ (by first | (simp; done) | (simp; omega) | omega) _ | refine Below.alloc ?_ (by first | (simp; done) | (simp; omega) | omega) _ | refine Below.drew ?_ | refine Below.trans ?_ (Below.mono (by assumption) (by first | (simp; done) | (simp; omega) | omega))))⟩
theorem rhask (now : Int) (A : Option Addr) (n c : Nat) (zs : List Int) (w : World) (hin : HIn now A n c zs w) : Calls Try.prog 19 #[.agg #[.int .i64 now, .slice A n c]] w fun e w' => e = .returned (.tuple #[FR (hask now zs).num (hask now zs).den, .int .i64 (hask now zs).f]) ∧ Below w.heap.size w w' := by
  rcases hvalE_two (now := now) (zs := zs) with hv | hv
  · exact rhask_ok now A n c zs w hin hv
  · exact rhask_bad now A n c zs w hin hv
end Go.Proofs.Ytpbhagikndamnaa
