/- Counters that halve: a step of the clock by the reference, walked. -/
import Derived.Test.YtpbhagikndamnaaHalveB
namespace Go.Proofs.Ytpbhagikndamnaa
open Go.RowKit Go.Shelf
set_option maxHeartbeats 2000000 in
theorem rhadv_ok (now : Int) (A : Option Addr) (n c : Nat) (zs : List Int) (to : Int) (w : World) (hin : HIn now A n c zs w) (hv : hvalE now zs = 0) (h1 : now ≤ to) (h2 : to ≤ 16777216) :
    Calls Try.prog 15 #[.agg #[.int .i64 now, .slice A n c], .int .i64 to] w fun e w' => HRet (hadv now zs to) w e w' := by
  rw [hadv_ok hv h1 h2]
  have P := fun w1 (hb : Below w.heap.size w w1) => rhval now A n c zs w1 ((hin.reads.below hb).more hb.size) hin.nowB hin.zsB hin.nB
  rw [hv] at P
  have P := Lib.hid P
  have V := hvalid_of hv
  have hl := hin.len
  have hn0 := V.2.2.1
  have hn1 := V.2.2.2.1
  have HR := Lib.hid hin
  have HL := Lib.hid hl
  have hlen2 : n ≤ 64 := by omega
  have hlen1 : 1 ≤ n := by omega
  obtain ⟨d, hd⟩ : ∃ d : Nat, to - now = (d : Int) := ⟨(to - now).toNat, by omega⟩
  have e0 : (to - now).toNat = d := by omega
  rw [e0]
  have HD := Lib.hid hd
  have hto : 0 ≤ to := by omega
  have dB : d ≤ 16777216 := by omega
  obtain ⟨i0, hi, iz0, iz1, iz2⟩ := info_parts info_i64
  clear hv hin hl V hd e0
  go_enter Try.func15, Try.ntmps15
  go_wp2_with (first | (go_at_call 21; with_reducible refine (P.out _ (by (repeat (first | exact Below.refl _ _ | refine Below.setCell ?_ (by first | (simp; done) | (simp; omega) | omega) _ | refine Below.alloc ?_ (by first | (simp; done) | (simp; omega) | omega) _ | refine Below.drew ?_ | refine Below.trans ?_ (Below.mono (by assumption) (by first | (simp; done) | (simp; omega) | omega)))))).mono ?_; rintro e w1 ⟨rfl, hb1⟩; have hz1 := hb1.size; (try simp at hz1); have o1 : Below w.heap.size w w1 := (by (repeat (first | exact Below.refl _ _ | refine Below.setCell ?_ (by first | (simp; done) | (simp; omega) | omega) _ | refine Below.alloc ?_ (by first | (simp; done) | (simp; omega) | omega) _ | refine Below.drew ?_ | refine Below.trans ?_ (Below.mono (by assumption) (by first | (simp; done) | (simp; omega) | omega))))); have q1_0 : w.heap.size < w1.heap.size := (by omega); have r1_0 : Row w1 (w.heap.size) 24 #[.int .i64 now, .slice A n c] := row_call (by (repeat (first | assumption | (refine row_new ?_; (first | (simp; done) | omega)) | refine row_alloc ?_ _ | refine row_drew ?_ | refine row_call ?_ (by assumption)))) hb1; obtain ⟨c1_0a, c1_0b, f1_0a, f1_0b⟩ := row_two r1_0; have q1_1 : w.heap.size + 1 < w1.heap.size := (by omega); have r1_1 : Row w1 (w.heap.size + 1) 24 #[.int .i64 0, .slice none 0 0] := row_call (by (repeat (first | assumption | (refine row_new ?_; (first | (simp; done) | omega)) | refine row_alloc ?_ _ | refine row_drew ?_ | refine row_call ?_ (by assumption)))) hb1; obtain ⟨c1_1a, c1_1b, f1_1a, f1_1b⟩ := row_two r1_1) | (go_at_call 32; with_reducible refine (rback_ok _ _ h1 h2 _).mono ?_; rintro e w9 ⟨rfl, rfl⟩; obtain ⟨w2, hmk, own2, hb2⟩ := make_vec w9 Try.underlying22 hi iz0 iz1 iz2 rfl .i64 .i64 n (by omega) (by unfold maxLen; omega); have hz2 := hb2.size; have o2 : Below w.heap.size w w2 := (by (repeat (first | exact Below.refl _ _ | refine Below.setCell ?_ (by first | (simp; done) | (simp; omega) | omega) _ | refine Below.alloc ?_ (by first | (simp; done) | (simp; omega) | omega) _ | refine Below.drew ?_ | refine Below.trans ?_ (Below.mono (by assumption) (by first | (simp; done) | (simp; omega) | omega))))); have q2_0 : w.heap.size < w2.heap.size := (by omega); have r2_0 : Row w2 (w.heap.size) 24 #[.int .i64 now, .slice A n c] := row_call (by (repeat (first | assumption | (refine row_new ?_; (first | (simp; done) | omega)) | refine row_alloc ?_ _ | refine row_drew ?_ | refine row_call ?_ (by assumption)))) hb2; obtain ⟨c2_0a, c2_0b, f2_0a, f2_0b⟩ := row_two r2_0; have q2_1 : w.heap.size + 1 < w2.heap.size := (by omega); have r2_1 : Row w2 (w.heap.size + 1) 24 #[.int .i64 0, .slice none 0 0] := row_call (by (repeat (first | assumption | (refine row_new ?_; (first | (simp; done) | omega)) | refine row_alloc ?_ _ | refine row_drew ?_ | refine row_call ?_ (by assumption)))) hb2; obtain ⟨c2_1a, c2_1b, f2_1a, f2_1b⟩ := row_two r2_1))
  have hgs : w9.heap.size = w9.heap.size := rfl
  generalize hgg : w9.heap.size = g at own2 hgs hz1 q1_0 q1_1 ⊢
  have hgx : g ≠ w.heap.size := by omega
  have hgr : g ≠ w.heap.size + 1 := by omega
  have rd2 := HR.out.reads.below o2
  have L0 : Own w2 2 1 g n n ((hst zs d 0).map (Value.int .i64)) := by
    rw [hst_zero, HL.out, List.map_replicate]
    exact own2
  clear own2 hmk hb2 hgg hgs
  go_loopw [33] (fun i wr => ∃ k : Nat, k ≤ n ∧ i = .int .i64 (k : Nat) ∧ Own wr 2 1 g n n ((hst zs d k).map (Value.int .i64)) ∧ Row wr (w.heap.size) 24 #[.int .i64 now, .slice A n c] ∧ Row wr (w.heap.size + 1) 24 #[.int .i64 0, .slice none 0 0] ∧ Below w.heap.size w wr) (fun i _ => n - (intOf i).toNat)
  case atStart => exact ⟨0, by omega, rfl, L0, r2_0, r2_1, o2⟩
  case round =>
    obtain ⟨k, hk, rfl, L1, L2, L3, L4⟩ := hrel
    obtain ⟨X0, X1, X2, X3⟩ := row_two L2
    by_cases hlt : k < n
    · obtain ⟨ad, rfl, hadb, hcell0⟩ := HR.out.reads.num hlt
      have hcell := (L4.cell (by rw [block_of_add]; exact hadb)).trans hcell0
      have hs := HR.out.zsB k
      generalize hz : zs.getD k 0 = s at hs hcell
      have HZ := Lib.hid hz
      clear hz hcell0 rd2
      have i1 : (k : Int) < (n : Int) := by omega
      obtain ⟨m, hm⟩ : ∃ m : Nat, (k : Int) + to - now = (m : Int) := ⟨k + d, by have := HD.out; omega⟩
      have HM : RowKit.Hid (m = k + d) := Lib.hid (by have := HD.out; omega)
      by_cases hmn : m < n
      · have j1 : (m : Int) < (n : Int) := by omega
        have hx : ∃ v, wr.cell? ⟨g, m, none⟩ = some v := by
          rw [L1.cell (by omega)]
          rw [List.getElem?_eq_getElem (by rw [List.length_map, hst_len, HL.out]; exact hmn)]
          exact ⟨_, rfl⟩
        obtain ⟨v0, hx⟩ := hx
        have hf := L1.free m
        have L5 : Own (wr.setCell ⟨g, m, none⟩ (.int .i64 s)) 2 1 g n n ((hst zs d (k + 1)).map (Value.int .i64)) := by
          rw [hst_step (by rw [HL.out]; exact hlt) (by rw [HL.out, ← HM.out]; exact hmn), List.map_set, ← HM.out, HZ.out]
          exact L1.set m _
        have L6 := row_other (p := ⟨g, m, none⟩) L2 hgx.symm (.int .i64 s)
        have L7 := row_other (p := ⟨g, m, none⟩) L3 hgr.symm (.int .i64 s)
        have L8 : Below w.heap.size w (wr.setCell ⟨g, m, none⟩ (.int .i64 s)) := L4.setCell (by simp; omega) _
        clear L1 L2 L3 L4
        go_wp2
        go_roundw
        case rel => exact ⟨k + 1, by omega, by go_num, L5, L6, L7, L8⟩
        case measure => simp [intOf]; omega
      · have j1 : ¬ (m : Int) < (n : Int) := by omega
        have L5 : Own wr 2 1 g n n ((hst zs d (k + 1)).map (Value.int .i64)) := by
          rw [hst_keep (by rw [HL.out, ← HM.out]; omega)]
          exact L1
        clear L1
        go_wp2
        go_roundw
        case rel => exact ⟨k + 1, by omega, by go_num, L5, L2, L3, L4⟩
        case measure => simp [intOf]; omega
    · have i1 : ¬ (k : Int) < (n : Int) := by omega
      obtain rfl : k = n := by omega
      have L5 : Own wr 2 1 g k k ((hshift zs d).map (Value.int .i64)) := by
        rw [← hst_all, HL.out]
        exact L1
      obtain ⟨Y0, Y1, Y2, Y3⟩ := row_two L3
      clear L1 rd2
      go_wp2
      have ow := (L5.other (by simp; omega) (.int .i64 to) (p := ⟨w.heap.size + 1, 0, none⟩)).other (by simp; omega) (.slice (some ⟨g, 0, none⟩) k k) (p := ⟨w.heap.size + 1, 1, none⟩)
      exact bodyPost_ret (v := .tuple #[.agg #[.int .i64 to, .slice (some ⟨g, 0, none⟩) k k], .int .i64 0]) (by simp [results, Try.results15, go_sem, Y0, Y1]) rfl (hret_own ow ⟨by omega, by omega⟩ (shift_bound HR.out.zsB _) (by (repeat (first | exact Below.refl _ _ | refine Below.setCell ?_ (by first | (simp; done) | (simp; omega) | omega) _ | refine Below.alloc ?_ (by first | (simp; done) | (simp; omega) | omega) _ | refine Below.drew ?_ | refine Below.trans ?_ (Below.mono (by assumption) (by first | (simp; done) | (simp; omega) | omega))))) (by first | omega | (simp; done) | (simp; omega)))
theorem phadv (now : Int) (A : Option Addr) (n c : Nat) (zs : List Int) (to : Int) (w : World) (hin : HIn now A n c zs w) : Calls Try.prog 14 #[.agg #[.int .i64 now, .slice A n c], .int .i64 to] w fun e w' => HRet (hadv now zs to) w e w' := by
  rcases hvalE_two (now := now) (zs := zs) with hv | hv
  · by_cases h0 : to < now
    · exact phadv_low now A n c zs to w hin hv h0
    · by_cases h1 : 16777216 < to
      · exact phadv_high now A n c zs to w hin hv h1
      · exact phadv_ok now A n c zs to w hin hv (by omega) (by omega)
  · exact phadv_bad now A n c zs to w hin hv
theorem rhadv (now : Int) (A : Option Addr) (n c : Nat) (zs : List Int) (to : Int) (w : World) (hin : HIn now A n c zs w) : Calls Try.prog 15 #[.agg #[.int .i64 now, .slice A n c], .int .i64 to] w fun e w' => HRet (hadv now zs to) w e w' := by
  rcases hvalE_two (now := now) (zs := zs) with hv | hv
  · by_cases h0 : to < now
    · exact rhadv_low now A n c zs to w hin hv h0
    · by_cases h1 : 16777216 < to
      · exact rhadv_high now A n c zs to w hin hv h1
      · exact rhadv_ok now A n c zs to w hin hv (by omega) (by omega)
  · exact rhadv_bad now A n c zs to w hin hv
end Go.Proofs.Ytpbhagikndamnaa
