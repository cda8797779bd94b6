/- Summaries of a stream: the answers of any state, walked. -/
import Derived.Test.YtdibjlphcmjnoaaAskG
import Derived.Test.YtdibjlphcmjnoaaSumG
namespace Go.Proofs.Ytdibjlphcmjnoaa
open Go.RowKit
theorem entries_both (k cap n : Int) (A : Option Addr) (m c : Nat) (ts : List Tup)  (w : World) (hin : SIn k cap n A m c ts w) : ∃ (es : List Tup) (f : Int), es.length ≤ m ∧ (∀ w1, Below w.heap.size w w1 → Calls Try.prog 25 #[.agg #[.int .i64 k, .int .i64 cap, .int .i64 n, .slice A m c]] w1 fun e w' => ∃ v, e = .returned (.tuple #[v, .int .i64 f]) ∧ w'.ownsRow w1.heap.size 56 3 v es.length (tcells es) ∧ Below w1.heap.size w1 w') ∧ (∀ w1, Below w.heap.size w w1 → Calls Try.prog 26 #[.agg #[.int .i64 k, .int .i64 cap, .int .i64 n, .slice A m c]] w1 fun e w' => ∃ v, e = .returned (.tuple #[v, .int .i64 f]) ∧ w'.ownsRow w1.heap.size 56 3 v es.length (tcells es) ∧ Below w1.heap.size w1 w') := by
  rcases svalE_two (k := k) (cap := cap) (n := n) (ts := ts) with hv | hv
  · refine ⟨ents ts m, 0, by rw [ents_len]; exact Nat.le_refl _, fun w1 hb => ?_, fun w1 hb => ?_⟩
    · rw [ents_len]; exact pEntries_ok k cap n A m c ts w1 (hin.below hb) hv
    · rw [ents_len]; exact rEntries_ok k cap n A m c ts w1 (hin.below hb) hv
  · refine ⟨[], 2, Nat.zero_le _, fun w1 hb => ?_, fun w1 hb => ?_⟩
    · exact (pEntries_bad k cap n A m c ts w1 (hin.below hb) hv).mono fun e w' h => ⟨_, h.1, World.ownsRow_nil _ _ _ _, h.2⟩
    · exact (rEntries_bad k cap n A m c ts w1 (hin.below hb) hv).mono fun e w' h => ⟨_, h.1, World.ownsRow_nil _ _ _ _, h.2⟩
theorem rank_both (k cap n : Int) (A : Option Addr) (m c : Nat) (ts : List Tup) (v : Int) (w : World) (hin : SIn k cap n A m c ts w) : ∃ b0 b1 b2 b3 b4 b5 f : Int, (∀ w1, Below w.heap.size w w1 → Calls Try.prog 27 #[.agg #[.int .i64 k, .int .i64 cap, .int .i64 n, .slice A m c], .int .i64 v] w1 fun e w' => e = .returned (.tuple #[.agg #[.int .i64 b0, .int .i64 b1, .int .i64 b2, .int .i64 b3, .int .i64 b4, .int .i64 b5], .int .i64 f]) ∧ Below w1.heap.size w1 w') ∧ (∀ w1, Below w.heap.size w w1 → Calls Try.prog 28 #[.agg #[.int .i64 k, .int .i64 cap, .int .i64 n, .slice A m c], .int .i64 v] w1 fun e w' => e = .returned (.tuple #[.agg #[.int .i64 b0, .int .i64 b1, .int .i64 b2, .int .i64 b3, .int .i64 b4, .int .i64 b5], .int .i64 f]) ∧ Below w1.heap.size w1 w') := by
  rcases svalE_two (k := k) (cap := cap) (n := n) (ts := ts) with hv | hv
  · have hl := hin.len
    have HK : EOK n (ents ts m) := by rw [← hl]; exact ents_ok hv
    obtain ⟨k0, k1, cp0, cp1, n0, n1, _⟩ := of_svalE hv
    have HN := HK.le n0 v
    obtain ⟨lo, hlo⟩ : ∃ lo : Nat, rkLo (ents ts m) v = (lo : Int) := ⟨(rkLo (ents ts m) v).toNat, by omega⟩
    obtain ⟨hi, hhi⟩ : ∃ hi : Nat, rkHi n (ents ts m) v = (hi : Int) := ⟨(rkHi n (ents ts m) v).toNat, by omega⟩
    exact ⟨lo, 1, ((lo + hi) / 2 : Nat), 1, hi, 1, 0, fun w1 hb => pRank_ok k cap n A m c ts v lo hi w1 (hin.below hb) hv hlo hhi, fun w1 hb => rRank_ok k cap n A m c ts v lo hi w1 (hin.below hb) hv hlo hhi⟩
  · exact ⟨0, 0, 0, 0, 0, 0, 2, fun w1 hb => pRank_bad k cap n A m c ts v w1 (hin.below hb) hv, fun w1 hb => rRank_bad k cap n A m c ts v w1 (hin.below hb) hv⟩
theorem quant_both (k cap n : Int) (A : Option Addr) (m c : Nat) (ts : List Tup) (p q : Int) (hq : q ≤ 9223372036854775807) (w : World) (hin : SIn k cap n A m c ts w) : ∃ a f : Int, (∀ w1, Below w.heap.size w w1 → Calls Try.prog 29 #[.agg #[.int .i64 k, .int .i64 cap, .int .i64 n, .slice A m c], .int .i64 p, .int .i64 q] w1 fun e w' => e = .returned (.tuple #[.int .i64 a, .int .i64 f]) ∧ Below w1.heap.size w1 w') ∧ (∀ w1, Below w.heap.size w w1 → Calls Try.prog 30 #[.agg #[.int .i64 k, .int .i64 cap, .int .i64 n, .slice A m c], .int .i64 p, .int .i64 q] w1 fun e w' => e = .returned (.tuple #[.int .i64 a, .int .i64 f]) ∧ Below w1.heap.size w1 w') := by
  rcases svalE_two (k := k) (cap := cap) (n := n) (ts := ts) with hv | hv
  · by_cases h1 : 1 ≤ q
    · by_cases h2 : 0 ≤ p
      · by_cases h3 : p ≤ q
        · by_cases h4 : n = 0
          · exact ⟨0, 7, fun w1 hb => pQ_empty k cap n A m c ts p q hv (by omega) (by omega) (by omega) h4 w1 (hin.below hb), fun w1 hb => rQ_empty k cap n A m c ts p q hv h1 h2 h3 h4 w1 (hin.below hb)⟩
          · obtain ⟨p', rfl⟩ : ∃ p' : Nat, p = (p' : Int) := ⟨p.toNat, by omega⟩
            obtain ⟨q', rfl⟩ : ∃ q' : Nat, q = (q' : Int) := ⟨q.toNat, by omega⟩
            exact ⟨_, 0, fun w1 hb => pQ_ok k cap n A m c ts p' q' _ w1 (hin.below hb) hv (by omega) (by omega) (by omega) h4 rfl, fun w1 hb => rQ_ok k cap n A m c ts p' q' _ w1 (hin.below hb) hv (by omega) (by omega) (by omega) h4 rfl⟩
        · exact ⟨0, 1, fun w1 hb => pQ_pq k cap n A m c ts p q hv (by omega) (by omega) (by omega) w1 (hin.below hb), fun w1 hb => rQ_arg k cap n A m c ts p q hv (by omega) w1 (hin.below hb)⟩
      · exact ⟨0, 1, fun w1 hb => pQ_p k cap n A m c ts p q hv (by omega) (by omega) w1 (hin.below hb), fun w1 hb => rQ_arg k cap n A m c ts p q hv (by omega) w1 (hin.below hb)⟩
    · exact ⟨0, 1, fun w1 hb => pQ_q k cap n A m c ts p q hv (by omega) w1 (hin.below hb), fun w1 hb => rQ_arg k cap n A m c ts p q hv (by omega) w1 (hin.below hb)⟩
  · exact ⟨0, 2, fun w1 hb => pQ_bad k cap n A m c ts p q hv w1 (hin.below hb), fun w1 hb => rQ_bad k cap n A m c ts p q hv w1 (hin.below hb)⟩
theorem summaryAsks_few (k cap n : Int) (A : Option Addr) (m c : Nat) (ts : List Tup) (v p q : Int) (w : World) (h : 200 < m) : Calls Try.prog 7 #[.agg #[.int .i64 k, .int .i64 cap, .int .i64 n, .slice A m c], .int .i64 v, .int .i64 p, .int .i64 q] w fun e w' => e = .returned (.bool true) ∧ Below w.heap.size w w' := by
  have FA := Lib.hid (fun w => few_no k cap n A m c ts w h)
  clear h
  go_enter Try.func7, Try.ntmps7
  go_wp2_with (first | (go_at_call 14; with_reducible refine (FA.out _).mono ?_; rintro e w1 ⟨rfl, hb1⟩; have hz1 := hb1.size; (try simp at hz1); have o1 : Below w.heap.size w w1 := (by (repeat (first | exact Below.refl _ _ | refine Below.setCell ?_ (by first | (simp; done) | (simp; omega) | omega) _ | refine Below.alloc ?_ (by first | (simp; done) | (simp; omega) | omega) _ | refine Below.drew ?_ | refine Below.trans ?_ (Below.mono (by assumption) (by first | (simp; done) | (simp; omega) | omega))))); have q1_0 : w.heap.size < w1.heap.size := (by omega); have r1_0 : Row w1 (w.heap.size) 24 #[.int .i64 k, .int .i64 cap, .int .i64 n, .slice A m c] := row_call (by (repeat (first | assumption | (refine row_new ?_; (first | (simp; done) | omega)) | refine row_alloc ?_ _ | refine row_drew ?_ | refine row_call ?_ (by assumption)))) hb1; obtain ⟨c1_0a, c1_0b, c1_0c, c1_0d, f1_0a, f1_0b, f1_0c, f1_0d⟩ := row_four r1_0) | (go_at_call 13; with_reducible refine (awake20 _).mono ?_; rintro e w2 ⟨rfl, hb2⟩; have hz2 := hb2.size; (try simp at hz2); have o2 : Below w.heap.size w w2 := (by (repeat (first | exact Below.refl _ _ | refine Below.setCell ?_ (by first | (simp; done) | (simp; omega) | omega) _ | refine Below.alloc ?_ (by first | (simp; done) | (simp; omega) | omega) _ | refine Below.drew ?_ | refine Below.trans ?_ (Below.mono (by assumption) (by first | (simp; done) | (simp; omega) | omega))))); have q2_0 : w.heap.size < w2.heap.size := (by omega); have r2_0 : Row w2 (w.heap.size) 24 #[.int .i64 k, .int .i64 cap, .int .i64 n, .slice A m c] := row_call (by (repeat (first | assumption | (refine row_new ?_; (first | (simp; done) | omega)) | refine row_alloc ?_ _ | refine row_drew ?_ | refine row_call ?_ (by assumption)))) hb2; obtain ⟨c2_0a, c2_0b, c2_0c, c2_0d, f2_0a, f2_0b, f2_0c, f2_0d⟩ := row_four r2_0))
  go_ret
  exact ⟨rfl, by (repeat (first | exact Below.refl _ _ | refine Below.setCell ?_ (by first | (simp; done) | (simp; omega) | omega) _ | refine Below.alloc ?_ (by first | (simp; done) | (simp; omega) | omega) _ | refine Below.drew ?_ | refine Below.trans ?_ (Below.mono (by assumption) (by first | (simp; done) | (simp; omega) | omega))))⟩
set_option maxHeartbeats 4000000 in
theorem summaryAsks_main (k cap n : Int) (A : Option Addr) (m c : Nat) (ts : List Tup) (v p q : Int) (hq : q ≤ 9223372036854775807) (w : World) (hin : SIn k cap n A m c ts w) (h : m ≤ 200) : Calls Try.prog 7 #[.agg #[.int .i64 k, .int .i64 cap, .int .i64 n, .slice A m c], .int .i64 v, .int .i64 p, .int .i64 q] w fun e w' => e = .returned (.bool true) ∧ Below w.heap.size w w' := by
  have FA := Lib.hid (fun w => few_yes k cap n A m c ts w h)
  obtain ⟨es, f1, hem, CE1, CE2⟩ := entries_both k cap n A m c ts w hin
  obtain ⟨b0, b1, b2, b3, b4, b5, f2, CR1, CR2⟩ := rank_both k cap n A m c ts v w hin
  obtain ⟨qa, f3, CQ1, CQ2⟩ := quant_both k cap n A m c ts p q hq w hin
  have CE1 := Lib.hid CE1
  have CE2 := Lib.hid CE2
  have CR1 := Lib.hid CR1
  have CR2 := Lib.hid CR2
  have CQ1 := Lib.hid CQ1
  have CQ2 := Lib.hid CQ2
  generalize hel : es.length = el at CE1 CE2 hem
  have hel2 : el ≤ 200 := by omega
  have HEL := Lib.hid hel
  clear hin h hq hel hem
  go_enter Try.func7, Try.ntmps7
  go_upto_region 1 with (fail)
  have x : Row (w.alloc (.cells #[.int .i64 k, .int .i64 cap, .int .i64 n, .slice A m c] 24)) w.heap.size 24 #[.int .i64 k, .int .i64 cap, .int .i64 n, .slice A m c] := row_new rfl
  have o : Below w.heap.size w (w.alloc (.cells #[.int .i64 k, .int .i64 cap, .int .i64 n, .slice A m c] 24)) := by (repeat (first | exact Below.refl _ _ | refine Below.setCell ?_ (by first | (simp; done) | (simp; omega) | omega) _ | refine Below.alloc ?_ (by first | (simp; done) | (simp; omega) | omega) _ | refine Below.drew ?_ | refine Below.trans ?_ (Below.mono (by assumption) (by first | (simp; done) | (simp; omega) | omega))))
  generalize w.alloc (.cells #[.int .i64 k, .int .i64 cap, .int .i64 n, .slice A m c] 24) = w1 at x o ⊢
  obtain ⟨X0, X1, X2, X3, Xf0, Xf1, Xf2, Xf3⟩ := row_four x
  go_wp2_with fail
  refine (FA.out _).mono ?_
  rintro e w2 ⟨rfl, hb2⟩
  replace x := row_call x hb2
  replace o := o.trans (hb2.mono o.size)
  clear hb2 X0 X1 X2 X3 Xf0 Xf1 Xf2 Xf3 FA
  obtain ⟨X0, X1, X2, X3, Xf0, Xf1, Xf2, Xf3⟩ := row_four x
  go_wp2_with fail
  refine (CE1.out _ o).mono ?_
  rintro e w3 ⟨v3, rfl, own3, hb3⟩
  have z_w3 := hb3.size
  replace x := row_call x hb3
  replace o := o.trans (hb3.mono o.size)
  clear hb3 X0 X1 X2 X3 Xf0 Xf1 Xf2 Xf3
  obtain ⟨A3, c3, rfl, rd3, _, _, _⟩ := orow_forms own3
  clear own3
  obtain ⟨X0, X1, X2, X3, Xf0, Xf1, Xf2, Xf3⟩ := row_four x
  go_wp2_with fail
  refine (CE2.out _ o).mono ?_
  rintro e w4 ⟨v4, rfl, own4, hb4⟩
  have z_w4 := hb4.size
  replace x := row_call x hb4
  replace rd3 := (rd3.below hb4).more hb4.size
  replace o := o.trans (hb4.mono o.size)
  clear hb4 X0 X1 X2 X3 Xf0 Xf1 Xf2 Xf3
  obtain ⟨A4, c4, rfl, rd4, _, _, _⟩ := orow_forms own4
  clear own4
  obtain ⟨X0, X1, X2, X3, Xf0, Xf1, Xf2, Xf3⟩ := row_four x
  go_wp2_with fail
  refine (CR1.out _ o).mono ?_
  rintro e w5 ⟨rfl, hb5⟩
  have z_w5 := hb5.size
  replace x := row_call x hb5
  replace rd3 := (rd3.below hb5).more hb5.size
  replace rd4 := (rd4.below hb5).more hb5.size
  replace o := o.trans (hb5.mono o.size)
  clear hb5 X0 X1 X2 X3 Xf0 Xf1 Xf2 Xf3
  go_upto_region 6 with (fail)
  have y : Row (w5.alloc (.cells #[.int .i64 b0, .int .i64 b1, .int .i64 b2, .int .i64 b3, .int .i64 b4, .int .i64 b5] 50)) w5.heap.size 50 #[.int .i64 b0, .int .i64 b1, .int .i64 b2, .int .i64 b3, .int .i64 b4, .int .i64 b5] := row_new rfl
  replace x := row_alloc x (.cells #[.int .i64 b0, .int .i64 b1, .int .i64 b2, .int .i64 b3, .int .i64 b4, .int .i64 b5] 50)
  replace rd3 := (rd3.alloc (Nat.le_refl _) (.cells #[.int .i64 b0, .int .i64 b1, .int .i64 b2, .int .i64 b3, .int .i64 b4, .int .i64 b5] 50)).more (show _ ≤ (w5.alloc (.cells #[.int .i64 b0, .int .i64 b1, .int .i64 b2, .int .i64 b3, .int .i64 b4, .int .i64 b5] 50)).heap.size by simp)
  replace rd4 := (rd4.alloc (Nat.le_refl _) (.cells #[.int .i64 b0, .int .i64 b1, .int .i64 b2, .int .i64 b3, .int .i64 b4, .int .i64 b5] 50)).more (show _ ≤ (w5.alloc (.cells #[.int .i64 b0, .int .i64 b1, .int .i64 b2, .int .i64 b3, .int .i64 b4, .int .i64 b5] 50)).heap.size by simp)
  replace o := o.alloc o.size (.cells #[.int .i64 b0, .int .i64 b1, .int .i64 b2, .int .i64 b3, .int .i64 b4, .int .i64 b5] 50)
  generalize w5.alloc (.cells #[.int .i64 b0, .int .i64 b1, .int .i64 b2, .int .i64 b3, .int .i64 b4, .int .i64 b5] 50) = w6 at x y rd3 rd4 o ⊢
  generalize w5.heap.size = by_ at y ⊢
  obtain ⟨X0, X1, X2, X3, Xf0, Xf1, Xf2, Xf3⟩ := row_four x
  go_wp2_with fail
  refine (CR2.out _ o).mono ?_
  rintro e w7 ⟨rfl, hb7⟩
  have z_w7 := hb7.size
  replace x := row_call x hb7
  replace y := row_call y hb7
  replace rd3 := (rd3.below hb7).more hb7.size
  replace rd4 := (rd4.below hb7).more hb7.size
  replace o := o.trans (hb7.mono o.size)
  clear hb7 X0 X1 X2 X3 Xf0 Xf1 Xf2 Xf3
  go_upto_region 7 with (fail)
  have y2 : Row (w7.alloc (.cells #[.int .i64 b0, .int .i64 b1, .int .i64 b2, .int .i64 b3, .int .i64 b4, .int .i64 b5] 50)) w7.heap.size 50 #[.int .i64 b0, .int .i64 b1, .int .i64 b2, .int .i64 b3, .int .i64 b4, .int .i64 b5] := row_new rfl
  replace x := row_alloc x (.cells #[.int .i64 b0, .int .i64 b1, .int .i64 b2, .int .i64 b3, .int .i64 b4, .int .i64 b5] 50)
  replace y := row_alloc y (.cells #[.int .i64 b0, .int .i64 b1, .int .i64 b2, .int .i64 b3, .int .i64 b4, .int .i64 b5] 50)
  replace rd3 := (rd3.alloc (Nat.le_refl _) (.cells #[.int .i64 b0, .int .i64 b1, .int .i64 b2, .int .i64 b3, .int .i64 b4, .int .i64 b5] 50)).more (show _ ≤ (w7.alloc (.cells #[.int .i64 b0, .int .i64 b1, .int .i64 b2, .int .i64 b3, .int .i64 b4, .int .i64 b5] 50)).heap.size by simp)
  replace rd4 := (rd4.alloc (Nat.le_refl _) (.cells #[.int .i64 b0, .int .i64 b1, .int .i64 b2, .int .i64 b3, .int .i64 b4, .int .i64 b5] 50)).more (show _ ≤ (w7.alloc (.cells #[.int .i64 b0, .int .i64 b1, .int .i64 b2, .int .i64 b3, .int .i64 b4, .int .i64 b5] 50)).heap.size by simp)
  replace o := o.alloc o.size (.cells #[.int .i64 b0, .int .i64 b1, .int .i64 b2, .int .i64 b3, .int .i64 b4, .int .i64 b5] 50)
  generalize w7.alloc (.cells #[.int .i64 b0, .int .i64 b1, .int .i64 b2, .int .i64 b3, .int .i64 b4, .int .i64 b5] 50) = w8 at x y y2 rd3 rd4 o ⊢
  generalize w7.heap.size = bz_ at y2 ⊢
  obtain ⟨X0, X1, X2, X3, Xf0, Xf1, Xf2, Xf3⟩ := row_four x
  go_wp2_with fail
  refine (CQ1.out _ o).mono ?_
  rintro e w9 ⟨rfl, hb9⟩
  have z_w9 := hb9.size
  replace x := row_call x hb9
  replace y := row_call y hb9
  replace y2 := row_call y2 hb9
  replace rd3 := (rd3.below hb9).more hb9.size
  replace rd4 := (rd4.below hb9).more hb9.size
  replace o := o.trans (hb9.mono o.size)
  clear hb9 X0 X1 X2 X3 Xf0 Xf1 Xf2 Xf3
  obtain ⟨X0, X1, X2, X3, Xf0, Xf1, Xf2, Xf3⟩ := row_four x
  go_wp2_with fail
  refine (CQ2.out _ o).mono ?_
  rintro e w10 ⟨rfl, hb10⟩
  have z_w10 := hb10.size
  replace x := row_call x hb10
  replace y := row_call y hb10
  replace y2 := row_call y2 hb10
  replace rd3 := (rd3.below hb10).more hb10.size
  replace rd4 := (rd4.below hb10).more hb10.size
  replace o := o.trans (hb10.mono o.size)
  clear hb10 X0 X1 X2 X3 Xf0 Xf1 Xf2 Xf3
  have RD3 := Lib.hid rd3
  have RD4 := Lib.hid rd4
  have b := Below.refl w10.heap.size w10
  clear rd3 rd4 x CE1 CE2 CR1 CR2 CQ1 CQ2
  have i0 : ((el : Int) != (el : Int)) = false := by simp
  go_wp2
  go_loopw [69] (fun i wr => ∃ j : Nat, j ≤ el ∧ i = .int .i64 (j : Nat) ∧ Below w10.heap.size w10 wr) (fun i _ => el - (intOf i).toNat)
  case atStart => exact ⟨0, by omega, rfl, b⟩
  case round =>
    clear b
    obtain ⟨j, hj, rfl, b⟩ := hrel
    by_cases hlt : j < el
    · obtain ⟨ad, rfl, hadb, ht0⟩ := ent_at RD3.out hlt
      obtain ⟨ad2, rfl, hadb2, ht2⟩ := ent_at RD4.out hlt
      generalize tupAt es j = e1 at ht0 ht2
      obtain ⟨ev, eg, ed⟩ := e1
      obtain ⟨p0, p1, p2⟩ := ht0.below b (by rw [block_of_add]; exact hadb)
      obtain ⟨q0, q1, q2⟩ := ht2.below b (by rw [block_of_add]; exact hadb2)
      dsimp only at p0 p1 p2 q0 q1 q2
      have i1 : (j : Int) < (el : Int) := by omega
      have i2 : (0 : Int) ≤ (j : Int) := by omega
      have HJ := Lib.hid (show j + 1 ≤ el ∧ el - (j + 1) < el - j by omega)
      clear ht0 ht2
      go_upto_region 14 with (fail)
      go_quiet (fail)
      go_wp2
      go_roundw
      case rel => exact ⟨j + 1, HJ.out.1, by go_num, b.trans ⟨rfl, rfl, rfl, Nat.le_refl _, fun _ _ => rfl⟩⟩
      case measure => have := HJ.out.2; simp [intOf]; omega
    · have i1 : ¬ (j : Int) < (el : Int) := by omega
      have zz := b.size
      replace y := row_call y b
      replace y2 := row_call y2 b
      obtain ⟨Y0, Y1, Y2, Y3, Y4, Y5, Yf0, Yf1, Yf2, Yf3, Yf4, Yf5⟩ := row_six y
      obtain ⟨Z0, Z1, Z2, Z3, Z4, Z5, Zf0, Zf1, Zf2, Zf3, Zf4, Zf5⟩ := row_six y2
      replace o := o.trans (b.mono o.size)
      go_wp2_with (go_at_call 13; refine (awake20 _).mono ?_; rintro e w12 ⟨rfl, hb12⟩)
      go_ret
      exact ⟨rfl, o.trans (hb12.mono o.size)⟩
theorem summaryAsks (k cap n : Int) (A : Option Addr) (m c : Nat) (ts : List Tup) (v p q : Int) (hq : -9223372036854775808 ≤ q ∧ q ≤ 9223372036854775807) (w : World) (hin : SIn k cap n A m c ts w) : Calls Try.prog 7 #[.agg #[.int .i64 k, .int .i64 cap, .int .i64 n, .slice A m c], .int .i64 v, .int .i64 p, .int .i64 q] w fun e w' => e = .returned (.bool true) ∧ Below w.heap.size w w' := by
  by_cases h : m ≤ 200
  · exact summaryAsks_main k cap n A m c ts v p q hq.2 w hin h
  · exact summaryAsks_few k cap n A m c ts v p q w (by omega)
end Go.Proofs.Ytdibjlphcmjnoaa
