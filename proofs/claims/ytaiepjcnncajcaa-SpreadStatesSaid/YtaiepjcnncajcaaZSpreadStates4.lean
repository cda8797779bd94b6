/- What the law SpreadStates needs, joined of its texts by a program (slim.py); part 4. -/
import Derived.Test.YtaiepjcnncajcaaZSpreadStates3
section
/- Spread histograms: the clock moved on, walked. -/
set_option linter.unusedVariables false
set_option linter.unusedSimpArgs false
set_option linter.unusedSectionVars false
set_option linter.unnecessarySimpa false
namespace Go.Proofs.Ytaiepjcnncajcaa
open Go.RowKit
theorem MIn.blk {A : Option Addr} {m c : Nat} {l : List Mk} {w : World} (h : MIn A m c l w) (hm : 0 < m) (a : Addr) (e : A = some a) : a.block < w.heap.size := by
  obtain ⟨ad, e', hb, _⟩ := h.reads.2 hm
  rw [e'] at e
  cases e
  exact hb
theorem MIn.keep0 {A : Option Addr} {m c : Nat} {l : List Mk} {w w' : World} (h : MIn A m c l w) (hs : w.heap.size ≤ w'.heap.size) (hk : 0 < m → ∀ a, A = some a → w'.heap[a.block]? = w.heap[a.block]?) : MIn A m c l w' := by
  refine ⟨⟨h.reads.1, fun hn => ?_⟩, h.mB, h.mc, h.cB⟩
  obtain ⟨ad, e, hb, hc⟩ := h.reads.2 hn
  exact ⟨ad, e, Nat.lt_of_lt_of_le hb hs, fun j u hu => (World.cell?_of_block (by rw [block_of_add]; exact hk hn ad e)).trans (hc j u hu)⟩
theorem pclk_yes (now tt : Int) (w : World) (n0 : 0 ≤ now) (n1 : now ≤ 16777216) (h1 : now ≤ tt) (h2 : tt ≤ 16777216) : Calls Try.prog 64 #[.int .i64 now, .int .i64 tt] w fun e w' => e = .returned (.tuple #[.int .i64 tt, .int .i64 0]) ∧ w' = w := by
  have PT := Lib.hid (fun w => ptick_2 now w n0 n1)
  clear n0 n1
  go_enter Try.func64, Try.ntmps64
  go_wp2_with (go_at_call 99; with_reducible refine (PT.out _).mono ?_; rintro e w9 ⟨rfl, h9⟩; obtain rfl := h9.symm)
  go_ret2
  exact ⟨rfl, rfl⟩
theorem pclk_no1 (now tt : Int) (w : World) (n0 : 0 ≤ now) (n1 : now ≤ 16777216) (h1 : tt < now) : Calls Try.prog 64 #[.int .i64 now, .int .i64 tt] w fun e w' => e = .returned (.tuple #[.int .i64 0, .int .i64 3]) ∧ w' = w := by
  have PT := Lib.hid (fun w => ptick_2 now w n0 n1)
  clear n0 n1
  go_enter Try.func64, Try.ntmps64
  go_wp2_with (go_at_call 99; with_reducible refine (PT.out _).mono ?_; rintro e w9 ⟨rfl, h9⟩; obtain rfl := h9.symm)
  go_ret2
  exact ⟨rfl, rfl⟩
theorem pclk_no2 (now tt : Int) (w : World) (n0 : 0 ≤ now) (n1 : now ≤ 16777216) (h0 : now ≤ tt) (h1 : 16777216 < tt) : Calls Try.prog 64 #[.int .i64 now, .int .i64 tt] w fun e w' => e = .returned (.tuple #[.int .i64 0, .int .i64 3]) ∧ w' = w := by
  have PT := Lib.hid (fun w => ptick_2 now w n0 n1)
  clear n0 n1
  go_enter Try.func64, Try.ntmps64
  go_wp2_with (go_at_call 99; with_reducible refine (PT.out _).mono ?_; rintro e w9 ⟨rfl, h9⟩; obtain rfl := h9.symm)
  go_ret2
  exact ⟨rfl, rfl⟩
theorem pclk (now tt : Int) (w : World) (n0 : 0 ≤ now) (n1 : now ≤ 16777216) : Calls Try.prog 64 #[.int .i64 now, .int .i64 tt] w fun e w' => e = .returned (.tuple #[.int .i64 (if tt < now ∨ 16777216 < tt then 0 else tt), .int .i64 (if tt < now ∨ 16777216 < tt then 3 else 0)]) ∧ w' = w := by
  by_cases h1 : tt < now
  · rw [if_pos (.inl h1), if_pos (.inl h1)]
    exact pclk_no1 now tt w n0 n1 h1
  · by_cases h2 : 16777216 < tt
    · rw [if_pos (.inr h2), if_pos (.inr h2)]
      exact pclk_no2 now tt w n0 n1 (by omega) h2
    · rw [if_neg (by omega), if_neg (by omega)]
      exact pclk_yes now tt w n0 n1 (by omega) (by omega)
theorem rback_yes (now tt : Int) (w : World) (h1 : ¬ tt < now) (h2 : ¬ 16777216 < tt) : Calls Try.prog 71 #[.int .i64 now, .int .i64 tt] w fun e w' => e = .returned (.int .i64 0) ∧ w' = w := by
  go_enter Try.func71, Try.ntmps71
  go_wp2
  go_ret
  exact ⟨rfl, rfl⟩
theorem rback_no1 (now tt : Int) (w : World) (h1 : tt < now) : Calls Try.prog 71 #[.int .i64 now, .int .i64 tt] w fun e w' => e = .returned (.int .i64 3) ∧ w' = w := by
  go_enter Try.func71, Try.ntmps71
  go_wp2
  go_ret
  exact ⟨rfl, rfl⟩
theorem rback_no2 (now tt : Int) (w : World) (h0 : ¬ tt < now) (h1 : 16777216 < tt) : Calls Try.prog 71 #[.int .i64 now, .int .i64 tt] w fun e w' => e = .returned (.int .i64 3) ∧ w' = w := by
  go_enter Try.func71, Try.ntmps71
  go_wp2
  go_ret
  exact ⟨rfl, rfl⟩
theorem rback (now tt : Int) (w : World) : Calls Try.prog 71 #[.int .i64 now, .int .i64 tt] w fun e w' => e = .returned (.int .i64 (if tt < now ∨ 16777216 < tt then 3 else 0)) ∧ w' = w := by
  by_cases h1 : tt < now
  · rw [if_pos (.inl h1)]
    exact rback_no1 now tt w h1
  · by_cases h2 : 16777216 < tt
    · rw [if_pos (.inr h2)]
      exact rback_no2 now tt w h1 h2
    · rw [if_neg (by omega)]
      exact rback_yes now tt w h1 h2
theorem spTick_a {wd k cap now seq tt : Int} {l : List Mk} (h : spvalE wd k cap now seq l = 2) : spTick wd k cap now seq l tt = spZero 2 := by
  unfold spTick
  rw [if_neg (by omega)]
theorem spTick_b {wd k cap now seq tt : Int} {l : List Mk} (h : spvalE wd k cap now seq l = 0) (h1 : tt < now ∨ 16777216 < tt) : spTick wd k cap now seq l tt = spZero 3 := by
  unfold spTick
  rw [if_pos h, if_pos h1]
theorem spTick_c {wd k cap now seq tt : Int} {l : List Mk} (h : spvalE wd k cap now seq l = 0) (h1 : ¬ (tt < now ∨ 16777216 < tt)) : spTick wd k cap now seq l tt = ⟨wd, k, cap, tt, seq, dropM tt wd l, 0⟩ := by
  unfold spTick
  rw [if_pos h, if_neg h1]
set_option maxRecDepth 100000 in
theorem psptick_a (A : Option Addr) (m c : Nat) (l : List Mk) (wd k cap now seq : Int) (tt : Int) (w : World) (hin : MIn A m c l w) (sB : I64 seq) (hv : spvalE wd k cap now seq l = 2) : Calls Try.prog 26 #[.agg #[.int .i64 wd, .int .i64 k, .int .i64 cap, .int .i64 now, .int .i64 seq, .slice A m c], .int .i64 tt] w fun e w' => SpRet A (spTick wd k cap now seq l tt) w e w' := by
  rw [spTick_a hv]
  have P := fun w' (hb : Below w.heap.size w w') => pvalP A m c l wd k cap now seq w' (hin.below hb) sB
  rw [hv] at P
  replace P := Lib.hid P
  clear hv hin sB
  go_enter Try.func26, Try.ntmps26
  go_wp2_with (first | (go_at_call 27; with_reducible refine (P.out _ (by (repeat (first | exact Below.refl _ _ | refine Below.setCell ?_ (by first | (simp; done) | (simp; omega) | omega) _ | refine Below.alloc ?_ (by first | (simp; done) | (simp; omega) | omega) _ | refine Below.drew ?_ | refine Below.trans ?_ (Below.mono (by assumption) (by first | (simp; done) | (simp; omega) | omega)))))).mono ?_; rintro e w1 ⟨rfl, hb1⟩; have hz1 := hb1.size; (try simp at hz1); have o1 : Below w.heap.size w w1 := (by (repeat (first | exact Below.refl _ _ | refine Below.setCell ?_ (by first | (simp; done) | (simp; omega) | omega) _ | refine Below.alloc ?_ (by first | (simp; done) | (simp; omega) | omega) _ | refine Below.drew ?_ | refine Below.trans ?_ (Below.mono (by assumption) (by first | (simp; done) | (simp; omega) | omega))))); have q1_0 : w.heap.size < w1.heap.size := (by omega); have r1_0 : Row w1 (w.heap.size) 24 #[.int .i64 wd, .int .i64 k, .int .i64 cap, .int .i64 now, .int .i64 seq, .slice A m c] := row_call (by (repeat (first | assumption | (refine row_new ?_; (first | (simp; done) | omega)) | refine row_alloc ?_ _ | refine row_drew ?_ | refine row_call ?_ (by assumption)))) hb1; obtain ⟨c1_0a, c1_0b, c1_0c, c1_0d, c1_0e, c1_0f, f1_0a, f1_0b, f1_0c, f1_0d, f1_0e, f1_0f⟩ := row_six r1_0; have q1_1 : w.heap.size + 1 < w1.heap.size := (by omega); have r1_1 : Row w1 (w.heap.size + 1) 24 #[.int .i64 0, .int .i64 0, .int .i64 0, .int .i64 0, .int .i64 0, .slice none 0 0] := row_call (by (repeat (first | assumption | (refine row_new ?_; (first | (simp; done) | omega)) | refine row_alloc ?_ _ | refine row_drew ?_ | refine row_call ?_ (by assumption)))) hb1; obtain ⟨c1_1a, c1_1b, c1_1c, c1_1d, c1_1e, c1_1f, f1_1a, f1_1b, f1_1c, f1_1d, f1_1e, f1_1f⟩ := row_six r1_1))
  have hbge : w.heap.size ≤ w.heap.size + 1 := by omega
  have R9 : Row ((((((w1.setCell ⟨w.heap.size + 1, 0, none⟩ (.int .i64 0)).setCell ⟨w.heap.size + 1, 1, none⟩ (.int .i64 0)).setCell ⟨w.heap.size + 1, 2, none⟩ (.int .i64 0)).setCell ⟨w.heap.size + 1, 3, none⟩ (.int .i64 0)).setCell ⟨w.heap.size + 1, 4, none⟩ (.int .i64 0)).setCell ⟨w.heap.size + 1, 5, none⟩ (.slice none 0 0)) (w.heap.size + 1) 24 #[.int .i64 0, .int .i64 0, .int .i64 0, .int .i64 0, .int .i64 0, .slice none 0 0] := (row_set (row_set (row_set (row_set (row_set (row_set r1_1 0 (.int .i64 0)) 1 (.int .i64 0)) 2 (.int .i64 0)) 3 (.int .i64 0)) 4 (.int .i64 0)) 5 (.slice none 0 0))
  have o9 : Below w.heap.size w ((((((w1.setCell ⟨w.heap.size + 1, 0, none⟩ (.int .i64 0)).setCell ⟨w.heap.size + 1, 1, none⟩ (.int .i64 0)).setCell ⟨w.heap.size + 1, 2, none⟩ (.int .i64 0)).setCell ⟨w.heap.size + 1, 3, none⟩ (.int .i64 0)).setCell ⟨w.heap.size + 1, 4, none⟩ (.int .i64 0)).setCell ⟨w.heap.size + 1, 5, none⟩ (.slice none 0 0)) := (Below.setCell (p := ⟨w.heap.size + 1, 5, none⟩) (Below.setCell (p := ⟨w.heap.size + 1, 4, none⟩) (Below.setCell (p := ⟨w.heap.size + 1, 3, none⟩) (Below.setCell (p := ⟨w.heap.size + 1, 2, none⟩) (Below.setCell (p := ⟨w.heap.size + 1, 1, none⟩) (Below.setCell (p := ⟨w.heap.size + 1, 0, none⟩) o1 hbge (.int .i64 0)) hbge (.int .i64 0)) hbge (.int .i64 0)) hbge (.int .i64 0)) hbge (.int .i64 0)) hbge (.slice none 0 0))
  generalize ((((((w1.setCell ⟨w.heap.size + 1, 0, none⟩ (.int .i64 0)).setCell ⟨w.heap.size + 1, 1, none⟩ (.int .i64 0)).setCell ⟨w.heap.size + 1, 2, none⟩ (.int .i64 0)).setCell ⟨w.heap.size + 1, 3, none⟩ (.int .i64 0)).setCell ⟨w.heap.size + 1, 4, none⟩ (.int .i64 0)).setCell ⟨w.heap.size + 1, 5, none⟩ (.slice none 0 0)) = w9 at R9 o9 ⊢
  obtain ⟨N0, N1, N2, N3, N4, N5, Nf0, Nf1, Nf2, Nf3, Nf4, Nf5⟩ := row_six R9
  exact bodyPost_ret (v := .tuple #[.agg #[.int .i64 0, .int .i64 0, .int .i64 0, .int .i64 0, .int .i64 0, .slice none 0 0], .int .i64 2]) (by simp [results, Try.results26, go_sem, List.getElem?_toArray, N0, N1, N2, N3, N4, N5]) rfl (spret_zero o9)
set_option maxRecDepth 100000 in
theorem psptick_b (A : Option Addr) (m c : Nat) (l : List Mk) (wd k cap now seq : Int) (tt : Int) (w : World) (hin : MIn A m c l w) (sB : I64 seq) (hv : spvalE wd k cap now seq l = 0) (hto : tt < now ∨ 16777216 < tt) : Calls Try.prog 26 #[.agg #[.int .i64 wd, .int .i64 k, .int .i64 cap, .int .i64 now, .int .i64 seq, .slice A m c], .int .i64 tt] w fun e w' => SpRet A (spTick wd k cap now seq l tt) w e w' := by
  rw [spTick_b hv hto]
  obtain ⟨⟨_, _, _, _, _, _, n0, n1⟩, _, _⟩ := of_spvalE hv
  have PC := fun w => pclk now tt w n0 n1
  simp only [if_pos hto] at PC
  replace PC := Lib.hid PC
  have P := fun w' (hb : Below w.heap.size w w') => pvalP A m c l wd k cap now seq w' (hin.below hb) sB
  rw [hv] at P
  replace P := Lib.hid P
  clear hv hin sB hto n0 n1
  go_enter Try.func26, Try.ntmps26
  go_wp2_with (first | (go_at_call 27; with_reducible refine (P.out _ (by (repeat (first | exact Below.refl _ _ | refine Below.setCell ?_ (by first | (simp; done) | (simp; omega) | omega) _ | refine Below.alloc ?_ (by first | (simp; done) | (simp; omega) | omega) _ | refine Below.drew ?_ | refine Below.trans ?_ (Below.mono (by assumption) (by first | (simp; done) | (simp; omega) | omega)))))).mono ?_; rintro e w1 ⟨rfl, hb1⟩; have hz1 := hb1.size; (try simp at hz1); have o1 : Below w.heap.size w w1 := (by (repeat (first | exact Below.refl _ _ | refine Below.setCell ?_ (by first | (simp; done) | (simp; omega) | omega) _ | refine Below.alloc ?_ (by first | (simp; done) | (simp; omega) | omega) _ | refine Below.drew ?_ | refine Below.trans ?_ (Below.mono (by assumption) (by first | (simp; done) | (simp; omega) | omega))))); have q1_0 : w.heap.size < w1.heap.size := (by omega); have r1_0 : Row w1 (w.heap.size) 24 #[.int .i64 wd, .int .i64 k, .int .i64 cap, .int .i64 now, .int .i64 seq, .slice A m c] := row_call (by (repeat (first | assumption | (refine row_new ?_; (first | (simp; done) | omega)) | refine row_alloc ?_ _ | refine row_drew ?_ | refine row_call ?_ (by assumption)))) hb1; obtain ⟨c1_0a, c1_0b, c1_0c, c1_0d, c1_0e, c1_0f, f1_0a, f1_0b, f1_0c, f1_0d, f1_0e, f1_0f⟩ := row_six r1_0; have q1_1 : w.heap.size + 1 < w1.heap.size := (by omega); have r1_1 : Row w1 (w.heap.size + 1) 24 #[.int .i64 0, .int .i64 0, .int .i64 0, .int .i64 0, .int .i64 0, .slice none 0 0] := row_call (by (repeat (first | assumption | (refine row_new ?_; (first | (simp; done) | omega)) | refine row_alloc ?_ _ | refine row_drew ?_ | refine row_call ?_ (by assumption)))) hb1; obtain ⟨c1_1a, c1_1b, c1_1c, c1_1d, c1_1e, c1_1f, f1_1a, f1_1b, f1_1c, f1_1d, f1_1e, f1_1f⟩ := row_six r1_1) | (go_at_call 64; with_reducible refine (PC.out _).mono ?_; rintro e w9 ⟨rfl, h9⟩; obtain rfl := h9.symm))
  have hbge : w.heap.size ≤ w.heap.size + 1 := by omega
  have R9 : Row ((((((w1.setCell ⟨w.heap.size + 1, 0, none⟩ (.int .i64 0)).setCell ⟨w.heap.size + 1, 1, none⟩ (.int .i64 0)).setCell ⟨w.heap.size + 1, 2, none⟩ (.int .i64 0)).setCell ⟨w.heap.size + 1, 3, none⟩ (.int .i64 0)).setCell ⟨w.heap.size + 1, 4, none⟩ (.int .i64 0)).setCell ⟨w.heap.size + 1, 5, none⟩ (.slice none 0 0)) (w.heap.size + 1) 24 #[.int .i64 0, .int .i64 0, .int .i64 0, .int .i64 0, .int .i64 0, .slice none 0 0] := (row_set (row_set (row_set (row_set (row_set (row_set r1_1 0 (.int .i64 0)) 1 (.int .i64 0)) 2 (.int .i64 0)) 3 (.int .i64 0)) 4 (.int .i64 0)) 5 (.slice none 0 0))
  have o9 : Below w.heap.size w ((((((w1.setCell ⟨w.heap.size + 1, 0, none⟩ (.int .i64 0)).setCell ⟨w.heap.size + 1, 1, none⟩ (.int .i64 0)).setCell ⟨w.heap.size + 1, 2, none⟩ (.int .i64 0)).setCell ⟨w.heap.size + 1, 3, none⟩ (.int .i64 0)).setCell ⟨w.heap.size + 1, 4, none⟩ (.int .i64 0)).setCell ⟨w.heap.size + 1, 5, none⟩ (.slice none 0 0)) := (Below.setCell (p := ⟨w.heap.size + 1, 5, none⟩) (Below.setCell (p := ⟨w.heap.size + 1, 4, none⟩) (Below.setCell (p := ⟨w.heap.size + 1, 3, none⟩) (Below.setCell (p := ⟨w.heap.size + 1, 2, none⟩) (Below.setCell (p := ⟨w.heap.size + 1, 1, none⟩) (Below.setCell (p := ⟨w.heap.size + 1, 0, none⟩) o1 hbge (.int .i64 0)) hbge (.int .i64 0)) hbge (.int .i64 0)) hbge (.int .i64 0)) hbge (.int .i64 0)) hbge (.slice none 0 0))
  generalize ((((((w1.setCell ⟨w.heap.size + 1, 0, none⟩ (.int .i64 0)).setCell ⟨w.heap.size + 1, 1, none⟩ (.int .i64 0)).setCell ⟨w.heap.size + 1, 2, none⟩ (.int .i64 0)).setCell ⟨w.heap.size + 1, 3, none⟩ (.int .i64 0)).setCell ⟨w.heap.size + 1, 4, none⟩ (.int .i64 0)).setCell ⟨w.heap.size + 1, 5, none⟩ (.slice none 0 0)) = w9 at R9 o9 ⊢
  obtain ⟨N0, N1, N2, N3, N4, N5, Nf0, Nf1, Nf2, Nf3, Nf4, Nf5⟩ := row_six R9
  exact bodyPost_ret (v := .tuple #[.agg #[.int .i64 0, .int .i64 0, .int .i64 0, .int .i64 0, .int .i64 0, .slice none 0 0], .int .i64 3]) (by simp [results, Try.results26, go_sem, List.getElem?_toArray, N0, N1, N2, N3, N4, N5]) rfl (spret_zero o9)
set_option maxRecDepth 100000 in
set_option maxHeartbeats 4000000 in
theorem psptick_c (A : Option Addr) (m c : Nat) (l : List Mk) (wd k cap now seq : Int) (tt : Int) (w : World) (hin : MIn A m c l w) (sB : I64 seq) (hmm : m ≤ 100000) (hv : spvalE wd k cap now seq l = 0) (hto : ¬ (tt < now ∨ 16777216 < tt)) : Calls Try.prog 26 #[.agg #[.int .i64 wd, .int .i64 k, .int .i64 cap, .int .i64 now, .int .i64 seq, .slice A m c], .int .i64 tt] w fun e w' => SpRet A (spTick wd k cap now seq l tt) w e w' := by
  rw [spTick_c hv hto]
  obtain ⟨⟨d0, d1, _, _, _, _, n0, n1⟩, hMV, _⟩ := of_spvalE hv
  have HT := Lib.hid (show ∀ x ∈ l, 0 ≤ x.t ∧ x.t ≤ tt from fun x hx => by
    have := (mvalid_iff.1 hMV).2.one x hx
    have h5 := this.2.2.2.2.1
    have h6 := this.2.2.2.2.2.1
    omega)
  have PC := fun w => pclk now tt w n0 n1
  simp only [if_neg hto] at PC
  replace PC := Lib.hid PC
  have HR := Lib.hid hin
  have HFB := Lib.hid (fun h a e => hin.blk h a e)
  have P := fun w' (hb : Below w.heap.size w w') => pvalP A m c l wd k cap now seq w' (hin.below hb) sB
  rw [hv] at P
  replace P := Lib.hid P
  have t0 : 0 ≤ tt := by omega
  have t1 : tt ≤ 16777216 := by omega
  clear hv hin sB hto hMV
  go_enter Try.func26, Try.ntmps26
  go_upto_region 7 with (first | (go_at_call 27; with_reducible refine (P.out _ (by (repeat (first | exact Below.refl _ _ | refine Below.setCell ?_ (by first | (simp; done) | (simp; omega) | omega) _ | refine Below.alloc ?_ (by first | (simp; done) | (simp; omega) | omega) _ | refine Below.drew ?_ | refine Below.trans ?_ (Below.mono (by assumption) (by first | (simp; done) | (simp; omega) | omega)))))).mono ?_; rintro e w1 ⟨rfl, hb1⟩; have hz1 := hb1.size; (try simp at hz1); have o1 : Below w.heap.size w w1 := (by (repeat (first | exact Below.refl _ _ | refine Below.setCell ?_ (by first | (simp; done) | (simp; omega) | omega) _ | refine Below.alloc ?_ (by first | (simp; done) | (simp; omega) | omega) _ | refine Below.drew ?_ | refine Below.trans ?_ (Below.mono (by assumption) (by first | (simp; done) | (simp; omega) | omega))))); have q1_0 : w.heap.size < w1.heap.size := (by omega); have r1_0 : Row w1 (w.heap.size) 24 #[.int .i64 wd, .int .i64 k, .int .i64 cap, .int .i64 now, .int .i64 seq, .slice A m c] := row_call (by (repeat (first | assumption | (refine row_new ?_; (first | (simp; done) | omega)) | refine row_alloc ?_ _ | refine row_drew ?_ | refine row_call ?_ (by assumption)))) hb1; obtain ⟨c1_0a, c1_0b, c1_0c, c1_0d, c1_0e, c1_0f, f1_0a, f1_0b, f1_0c, f1_0d, f1_0e, f1_0f⟩ := row_six r1_0; have q1_1 : w.heap.size + 1 < w1.heap.size := (by omega); have r1_1 : Row w1 (w.heap.size + 1) 24 #[.int .i64 0, .int .i64 0, .int .i64 0, .int .i64 0, .int .i64 0, .slice none 0 0] := row_call (by (repeat (first | assumption | (refine row_new ?_; (first | (simp; done) | omega)) | refine row_alloc ?_ _ | refine row_drew ?_ | refine row_call ?_ (by assumption)))) hb1; obtain ⟨c1_1a, c1_1b, c1_1c, c1_1d, c1_1e, c1_1f, f1_1a, f1_1b, f1_1c, f1_1d, f1_1e, f1_1f⟩ := row_six r1_1) | (go_at_call 64; with_reducible refine (PC.out _).mono ?_; rintro e w9 ⟨rfl, h9⟩; obtain rfl := h9.symm))
  clear P PC c1_0a c1_0b c1_0c c1_0d c1_0e c1_0f f1_0a f1_0b f1_0c f1_0d f1_0e f1_0f c1_1a c1_1b c1_1c c1_1d c1_1e c1_1f f1_1a f1_1b f1_1c f1_1d f1_1e f1_1f 
  obtain ⟨X0, X1, X2, X3, X4, X5, Xf0, Xf1, Xf2, Xf3, Xf4, Xf5⟩ := row_six r1_0
  have KR := Lib.hid r1_0
  clear r1_0
  go_upto_region 8 with (fail)
  have X : Row (w1.setCell ⟨w.heap.size, 3, none⟩ (.int .i64 tt)) (w.heap.size) 24 #[.int .i64 wd, .int .i64 k, .int .i64 cap, .int .i64 tt, .int .i64 seq, .slice A m c] := row_set KR.out 3 _
  have R : Row (w1.setCell ⟨w.heap.size, 3, none⟩ (.int .i64 tt)) (w.heap.size + 1) 24 #[.int .i64 0, .int .i64 0, .int .i64 0, .int .i64 0, .int .i64 0, .slice none 0 0] := row_other (p := ⟨w.heap.size, 3, none⟩) r1_1 (by show w.heap.size + 1 ≠ w.heap.size; omega) _
  have o : Below w.heap.size w (w1.setCell ⟨w.heap.size, 3, none⟩ (.int .i64 tt)) := o1.setCell (p := ⟨w.heap.size, 3, none⟩) (Nat.le_refl _) _
  generalize w1.setCell ⟨w.heap.size, 3, none⟩ (.int .i64 tt) = w3 at X R o ⊢
  clear X0 X1 X2 X3 X4 X5 Xf0 Xf1 Xf2 Xf3 Xf4 Xf5 KR o1 r1_1
  obtain ⟨X0, X1, X2, X3, X4, X5, Xf0, Xf1, Xf2, Xf3, Xf4, Xf5⟩ := row_six X
  go_wp2_with fail
  refine (pmdrop A m c l tt wd w3 (HR.out.below o) (by omega) t0 t1 d0 d1 HT.out).mono ?_
  rintro e w4 ⟨A5, m5, c5, rfl, inA, hb4, fr4⟩
  have z3 := row_lt R
  clear X0 X1 X2 X3 X4 X5 Xf0 Xf1 Xf2 Xf3 Xf4 Xf5
  replace X := row_call X hb4
  replace R := row_call R hb4
  have z4 := hb4.size
  have o3 := o.size
  replace o := o.trans (hb4.mono o.size)
  have IN := Lib.hid inA
  have XB0 := Lib.hid (show 0 < m5 → ∀ a, A5 = some a → a.block ≠ w.heap.size ∧ a.block ≠ w.heap.size + 1 from fun h a e => by
    rcases fr4 a e with g | ⟨b, eb, g⟩
    · omega
    · have hl := inA.len
      have hm0 : 0 < m := by
        rcases Nat.eq_zero_or_pos m with h0 | h0
        · exfalso
          have h1 := HR.out.len
          have h2 : l = [] := List.eq_nil_of_length_eq_zero (by omega)
          rw [h2, dropM_nil] at hl
          simp at hl
          omega
        · exact h0
      have := HFB.out hm0 b eb
      omega)
  have FR := Lib.hid (show ∀ a, A5 = some a → (w.heap.size ≤ a.block ∧ a.block < w4.heap.size) ∨ ∃ b, A = some b ∧ a.block = b.block from fun a e => by
    rcases fr4 a e with g | g
    · exact .inl (by omega)
    · exact .inr g)
  clear hb4 inA fr4
  obtain ⟨X0, X1, X2, X3, X4, X5, Xf0, Xf1, Xf2, Xf3, Xf4, Xf5⟩ := row_six X
  obtain ⟨R0, R1, R2, R3, R4, R5, Rf0, Rf1, Rf2, Rf3, Rf4, Rf5⟩ := row_six R
  have XR := Lib.hid X
  have RR := Lib.hid R
  clear X R
  go_upto_region 9 with (fail)
  have X : Row (w4.setCell ⟨w.heap.size, 5, none⟩ (.slice A5 m5 c5)) (w.heap.size) 24 #[.int .i64 wd, .int .i64 k, .int .i64 cap, .int .i64 tt, .int .i64 seq, .slice A5 m5 c5] := (row_set XR.out 5 (.slice A5 m5 c5))
  have R : Row (w4.setCell ⟨w.heap.size, 5, none⟩ (.slice A5 m5 c5)) (w.heap.size + 1) 24 #[.int .i64 0, .int .i64 0, .int .i64 0, .int .i64 0, .int .i64 0, .slice none 0 0] := (row_other (p := ⟨w.heap.size, 5, none⟩) RR.out (by show w.heap.size + 1 ≠ w.heap.size; omega) (.slice A5 m5 c5))
  have o6 : Below w.heap.size w (w4.setCell ⟨w.heap.size, 5, none⟩ (.slice A5 m5 c5)) := (Below.setCell (p := ⟨w.heap.size, 5, none⟩) o (Nat.le_refl _) (.slice A5 m5 c5))
  have hkp6 : ∀ b', b' ≠ w.heap.size → ((w4.setCell ⟨w.heap.size, 5, none⟩ (.slice A5 m5 c5))).heap[b']? = w4.heap[b']? := fun b' h' => ((Below.heap_setCell _ ⟨w.heap.size, 5, none⟩ (.slice A5 m5 c5) b' h').trans rfl)
  have hs6 : w4.heap.size ≤ ((w4.setCell ⟨w.heap.size, 5, none⟩ (.slice A5 m5 c5))).heap.size := by simp only [size_setCell]; exact Nat.le_refl _
  have IN6 := Lib.hid (IN.out.keep0 hs6 (fun h a e => hkp6 a.block (XB0.out h a e).1))
  clear hkp6
  generalize (w4.setCell ⟨w.heap.size, 5, none⟩ (.slice A5 m5 c5)) = w6 at X R o6 hs6 IN6 ⊢
  clear X0 X1 X2 X3 X4 X5 Xf0 Xf1 Xf2 Xf3 Xf4 Xf5 R0 R1 R2 R3 R4 R5 Rf0 Rf1 Rf2 Rf3 Rf4 Rf5 XR RR IN o
  obtain ⟨X0, X1, X2, X3, X4, X5, Xf0, Xf1, Xf2, Xf3, Xf4, Xf5⟩ := row_six X
  obtain ⟨R0, R1, R2, R3, R4, R5, Rf0, Rf1, Rf2, Rf3, Rf4, Rf5⟩ := row_six R
  go_wp2
  have hbge : w.heap.size ≤ w.heap.size + 1 := by omega
  have hkp : ∀ b', b' ≠ w.heap.size + 1 → (((((((w6.setCell ⟨w.heap.size + 1, 0, none⟩ (.int .i64 wd)).setCell ⟨w.heap.size + 1, 1, none⟩ (.int .i64 k)).setCell ⟨w.heap.size + 1, 2, none⟩ (.int .i64 cap)).setCell ⟨w.heap.size + 1, 3, none⟩ (.int .i64 tt)).setCell ⟨w.heap.size + 1, 4, none⟩ (.int .i64 seq)).setCell ⟨w.heap.size + 1, 5, none⟩ (.slice A5 m5 c5))).heap[b']? = w6.heap[b']? := fun b' h' => ((Below.heap_setCell _ ⟨w.heap.size + 1, 5, none⟩ (.slice A5 m5 c5) b' h').trans ((Below.heap_setCell _ ⟨w.heap.size + 1, 4, none⟩ (.int .i64 seq) b' h').trans ((Below.heap_setCell _ ⟨w.heap.size + 1, 3, none⟩ (.int .i64 tt) b' h').trans ((Below.heap_setCell _ ⟨w.heap.size + 1, 2, none⟩ (.int .i64 cap) b' h').trans ((Below.heap_setCell _ ⟨w.heap.size + 1, 1, none⟩ (.int .i64 k) b' h').trans ((Below.heap_setCell _ ⟨w.heap.size + 1, 0, none⟩ (.int .i64 wd) b' h').trans rfl))))))
  have hksz : w6.heap.size ≤ (((((((w6.setCell ⟨w.heap.size + 1, 0, none⟩ (.int .i64 wd)).setCell ⟨w.heap.size + 1, 1, none⟩ (.int .i64 k)).setCell ⟨w.heap.size + 1, 2, none⟩ (.int .i64 cap)).setCell ⟨w.heap.size + 1, 3, none⟩ (.int .i64 tt)).setCell ⟨w.heap.size + 1, 4, none⟩ (.int .i64 seq)).setCell ⟨w.heap.size + 1, 5, none⟩ (.slice A5 m5 c5))).heap.size := by simp only [size_setCell]; exact Nat.le_refl _
  have R9 : Row ((((((w6.setCell ⟨w.heap.size + 1, 0, none⟩ (.int .i64 wd)).setCell ⟨w.heap.size + 1, 1, none⟩ (.int .i64 k)).setCell ⟨w.heap.size + 1, 2, none⟩ (.int .i64 cap)).setCell ⟨w.heap.size + 1, 3, none⟩ (.int .i64 tt)).setCell ⟨w.heap.size + 1, 4, none⟩ (.int .i64 seq)).setCell ⟨w.heap.size + 1, 5, none⟩ (.slice A5 m5 c5)) (w.heap.size + 1) 24 #[.int .i64 wd, .int .i64 k, .int .i64 cap, .int .i64 tt, .int .i64 seq, .slice A5 m5 c5] := (row_set (row_set (row_set (row_set (row_set (row_set R 0 (.int .i64 wd)) 1 (.int .i64 k)) 2 (.int .i64 cap)) 3 (.int .i64 tt)) 4 (.int .i64 seq)) 5 (.slice A5 m5 c5))
  have o9 : Below w.heap.size w ((((((w6.setCell ⟨w.heap.size + 1, 0, none⟩ (.int .i64 wd)).setCell ⟨w.heap.size + 1, 1, none⟩ (.int .i64 k)).setCell ⟨w.heap.size + 1, 2, none⟩ (.int .i64 cap)).setCell ⟨w.heap.size + 1, 3, none⟩ (.int .i64 tt)).setCell ⟨w.heap.size + 1, 4, none⟩ (.int .i64 seq)).setCell ⟨w.heap.size + 1, 5, none⟩ (.slice A5 m5 c5)) := (Below.setCell (p := ⟨w.heap.size + 1, 5, none⟩) (Below.setCell (p := ⟨w.heap.size + 1, 4, none⟩) (Below.setCell (p := ⟨w.heap.size + 1, 3, none⟩) (Below.setCell (p := ⟨w.heap.size + 1, 2, none⟩) (Below.setCell (p := ⟨w.heap.size + 1, 1, none⟩) (Below.setCell (p := ⟨w.heap.size + 1, 0, none⟩) o6 hbge (.int .i64 wd)) hbge (.int .i64 k)) hbge (.int .i64 cap)) hbge (.int .i64 tt)) hbge (.int .i64 seq)) hbge (.slice A5 m5 c5))
  generalize ((((((w6.setCell ⟨w.heap.size + 1, 0, none⟩ (.int .i64 wd)).setCell ⟨w.heap.size + 1, 1, none⟩ (.int .i64 k)).setCell ⟨w.heap.size + 1, 2, none⟩ (.int .i64 cap)).setCell ⟨w.heap.size + 1, 3, none⟩ (.int .i64 tt)).setCell ⟨w.heap.size + 1, 4, none⟩ (.int .i64 seq)).setCell ⟨w.heap.size + 1, 5, none⟩ (.slice A5 m5 c5)) = w9 at R9 o9 hkp hksz ⊢
  obtain ⟨N0, N1, N2, N3, N4, N5, Nf0, Nf1, Nf2, Nf3, Nf4, Nf5⟩ := row_six R9
  exact bodyPost_ret (v := .tuple #[.agg #[.int .i64 wd, .int .i64 k, .int .i64 cap, .int .i64 tt, .int .i64 seq, .slice A5 m5 c5], .int .i64 0]) (by simp [results, Try.results26, go_sem, List.getElem?_toArray, N0, N1, N2, N3, N4, N5]) rfl (spret_ok (IN6.out.keep0 hksz (fun h a e => hkp a.block (XB0.out h a e).2)) o9 (fun a e => (FR.out a e).imp (fun g => ⟨g.1, by omega⟩) (fun g => g)))
theorem psptick (A : Option Addr) (m c : Nat) (l : List Mk) (wd k cap now seq : Int) (tt : Int) (w : World) (hin : MIn A m c l w) (sB : I64 seq) (hmm : m ≤ 100000) : Calls Try.prog 26 #[.agg #[.int .i64 wd, .int .i64 k, .int .i64 cap, .int .i64 now, .int .i64 seq, .slice A m c], .int .i64 tt] w fun e w' => SpRet A (spTick wd k cap now seq l tt) w e w' := by
  rcases spvalE_two (wd := wd) (k := k) (cap := cap) (now := now) (seq := seq) (l := l) with hv | hv
  · by_cases hto : tt < now ∨ 16777216 < tt
    · exact psptick_b A m c l wd k cap now seq tt w hin sB hv hto
    · exact psptick_c A m c l wd k cap now seq tt w hin sB hmm hv hto
  · exact psptick_a A m c l wd k cap now seq tt w hin sB hv
set_option maxRecDepth 100000 in
theorem rsptick_a (A : Option Addr) (m c : Nat) (l : List Mk) (wd k cap now seq : Int) (tt : Int) (w : World) (hin : MIn A m c l w) (sB : I64 seq) (hv : spvalE wd k cap now seq l = 2) : Calls Try.prog 31 #[.agg #[.int .i64 wd, .int .i64 k, .int .i64 cap, .int .i64 now, .int .i64 seq, .slice A m c], .int .i64 tt] w fun e w' => SpRet A (spTick wd k cap now seq l tt) w e w' := by
  rw [spTick_a hv]
  have P := fun w' (hb : Below w.heap.size w w') => rvalP A m c l wd k cap now seq w' (hin.below hb) sB
  rw [hv] at P
  replace P := Lib.hid P
  clear hv hin sB
  go_enter Try.func31, Try.ntmps31
  go_wp2_with (first | (go_at_call 28; with_reducible refine (P.out _ (by (repeat (first | exact Below.refl _ _ | refine Below.setCell ?_ (by first | (simp; done) | (simp; omega) | omega) _ | refine Below.alloc ?_ (by first | (simp; done) | (simp; omega) | omega) _ | refine Below.drew ?_ | refine Below.trans ?_ (Below.mono (by assumption) (by first | (simp; done) | (simp; omega) | omega)))))).mono ?_; rintro e w1 ⟨rfl, hb1⟩; have hz1 := hb1.size; (try simp at hz1); have o1 : Below w.heap.size w w1 := (by (repeat (first | exact Below.refl _ _ | refine Below.setCell ?_ (by first | (simp; done) | (simp; omega) | omega) _ | refine Below.alloc ?_ (by first | (simp; done) | (simp; omega) | omega) _ | refine Below.drew ?_ | refine Below.trans ?_ (Below.mono (by assumption) (by first | (simp; done) | (simp; omega) | omega))))); have q1_0 : w.heap.size < w1.heap.size := (by omega); have r1_0 : Row w1 (w.heap.size) 24 #[.int .i64 wd, .int .i64 k, .int .i64 cap, .int .i64 now, .int .i64 seq, .slice A m c] := row_call (by (repeat (first | assumption | (refine row_new ?_; (first | (simp; done) | omega)) | refine row_alloc ?_ _ | refine row_drew ?_ | refine row_call ?_ (by assumption)))) hb1; obtain ⟨c1_0a, c1_0b, c1_0c, c1_0d, c1_0e, c1_0f, f1_0a, f1_0b, f1_0c, f1_0d, f1_0e, f1_0f⟩ := row_six r1_0; have q1_1 : w.heap.size + 1 < w1.heap.size := (by omega); have r1_1 : Row w1 (w.heap.size + 1) 24 #[.int .i64 0, .int .i64 0, .int .i64 0, .int .i64 0, .int .i64 0, .slice none 0 0] := row_call (by (repeat (first | assumption | (refine row_new ?_; (first | (simp; done) | omega)) | refine row_alloc ?_ _ | refine row_drew ?_ | refine row_call ?_ (by assumption)))) hb1; obtain ⟨c1_1a, c1_1b, c1_1c, c1_1d, c1_1e, c1_1f, f1_1a, f1_1b, f1_1c, f1_1d, f1_1e, f1_1f⟩ := row_six r1_1))
  have hbge : w.heap.size ≤ w.heap.size + 1 := by omega
  have R9 : Row ((((((w1.setCell ⟨w.heap.size + 1, 0, none⟩ (.int .i64 0)).setCell ⟨w.heap.size + 1, 1, none⟩ (.int .i64 0)).setCell ⟨w.heap.size + 1, 2, none⟩ (.int .i64 0)).setCell ⟨w.heap.size + 1, 3, none⟩ (.int .i64 0)).setCell ⟨w.heap.size + 1, 4, none⟩ (.int .i64 0)).setCell ⟨w.heap.size + 1, 5, none⟩ (.slice none 0 0)) (w.heap.size + 1) 24 #[.int .i64 0, .int .i64 0, .int .i64 0, .int .i64 0, .int .i64 0, .slice none 0 0] := (row_set (row_set (row_set (row_set (row_set (row_set r1_1 0 (.int .i64 0)) 1 (.int .i64 0)) 2 (.int .i64 0)) 3 (.int .i64 0)) 4 (.int .i64 0)) 5 (.slice none 0 0))
  have o9 : Below w.heap.size w ((((((w1.setCell ⟨w.heap.size + 1, 0, none⟩ (.int .i64 0)).setCell ⟨w.heap.size + 1, 1, none⟩ (.int .i64 0)).setCell ⟨w.heap.size + 1, 2, none⟩ (.int .i64 0)).setCell ⟨w.heap.size + 1, 3, none⟩ (.int .i64 0)).setCell ⟨w.heap.size + 1, 4, none⟩ (.int .i64 0)).setCell ⟨w.heap.size + 1, 5, none⟩ (.slice none 0 0)) := (Below.setCell (p := ⟨w.heap.size + 1, 5, none⟩) (Below.setCell (p := ⟨w.heap.size + 1, 4, none⟩) (Below.setCell (p := ⟨w.heap.size + 1, 3, none⟩) (Below.setCell (p := ⟨w.heap.size + 1, 2, none⟩) (Below.setCell (p := ⟨w.heap.size + 1, 1, none⟩) (Below.setCell (p := ⟨w.heap.size + 1, 0, none⟩) o1 hbge (.int .i64 0)) hbge (.int .i64 0)) hbge (.int .i64 0)) hbge (.int .i64 0)) hbge (.int .i64 0)) hbge (.slice none 0 0))
  generalize ((((((w1.setCell ⟨w.heap.size + 1, 0, none⟩ (.int .i64 0)).setCell ⟨w.heap.size + 1, 1, none⟩ (.int .i64 0)).setCell ⟨w.heap.size + 1, 2, none⟩ (.int .i64 0)).setCell ⟨w.heap.size + 1, 3, none⟩ (.int .i64 0)).setCell ⟨w.heap.size + 1, 4, none⟩ (.int .i64 0)).setCell ⟨w.heap.size + 1, 5, none⟩ (.slice none 0 0)) = w9 at R9 o9 ⊢
  obtain ⟨N0, N1, N2, N3, N4, N5, Nf0, Nf1, Nf2, Nf3, Nf4, Nf5⟩ := row_six R9
  exact bodyPost_ret (v := .tuple #[.agg #[.int .i64 0, .int .i64 0, .int .i64 0, .int .i64 0, .int .i64 0, .slice none 0 0], .int .i64 2]) (by simp [results, Try.results31, go_sem, List.getElem?_toArray, N0, N1, N2, N3, N4, N5]) rfl (spret_zero o9)
set_option maxRecDepth 100000 in
theorem rsptick_b (A : Option Addr) (m c : Nat) (l : List Mk) (wd k cap now seq : Int) (tt : Int) (w : World) (hin : MIn A m c l w) (sB : I64 seq) (hv : spvalE wd k cap now seq l = 0) (hto : tt < now ∨ 16777216 < tt) : Calls Try.prog 31 #[.agg #[.int .i64 wd, .int .i64 k, .int .i64 cap, .int .i64 now, .int .i64 seq, .slice A m c], .int .i64 tt] w fun e w' => SpRet A (spTick wd k cap now seq l tt) w e w' := by
  rw [spTick_b hv hto]
  obtain ⟨⟨_, _, _, _, _, _, n0, n1⟩, _, _⟩ := of_spvalE hv
  have PC := fun w => rback now tt w
  rw [if_pos hto] at PC
  replace PC := Lib.hid PC
  have P := fun w' (hb : Below w.heap.size w w') => rvalP A m c l wd k cap now seq w' (hin.below hb) sB
  rw [hv] at P
  replace P := Lib.hid P
  clear hv hin sB hto n0 n1
  go_enter Try.func31, Try.ntmps31
  go_wp2_with (first | (go_at_call 28; with_reducible refine (P.out _ (by (repeat (first | exact Below.refl _ _ | refine Below.setCell ?_ (by first | (simp; done) | (simp; omega) | omega) _ | refine Below.alloc ?_ (by first | (simp; done) | (simp; omega) | omega) _ | refine Below.drew ?_ | refine Below.trans ?_ (Below.mono (by assumption) (by first | (simp; done) | (simp; omega) | omega)))))).mono ?_; rintro e w1 ⟨rfl, hb1⟩; have hz1 := hb1.size; (try simp at hz1); have o1 : Below w.heap.size w w1 := (by (repeat (first | exact Below.refl _ _ | refine Below.setCell ?_ (by first | (simp; done) | (simp; omega) | omega) _ | refine Below.alloc ?_ (by first | (simp; done) | (simp; omega) | omega) _ | refine Below.drew ?_ | refine Below.trans ?_ (Below.mono (by assumption) (by first | (simp; done) | (simp; omega) | omega))))); have q1_0 : w.heap.size < w1.heap.size := (by omega); have r1_0 : Row w1 (w.heap.size) 24 #[.int .i64 wd, .int .i64 k, .int .i64 cap, .int .i64 now, .int .i64 seq, .slice A m c] := row_call (by (repeat (first | assumption | (refine row_new ?_; (first | (simp; done) | omega)) | refine row_alloc ?_ _ | refine row_drew ?_ | refine row_call ?_ (by assumption)))) hb1; obtain ⟨c1_0a, c1_0b, c1_0c, c1_0d, c1_0e, c1_0f, f1_0a, f1_0b, f1_0c, f1_0d, f1_0e, f1_0f⟩ := row_six r1_0; have q1_1 : w.heap.size + 1 < w1.heap.size := (by omega); have r1_1 : Row w1 (w.heap.size + 1) 24 #[.int .i64 0, .int .i64 0, .int .i64 0, .int .i64 0, .int .i64 0, .slice none 0 0] := row_call (by (repeat (first | assumption | (refine row_new ?_; (first | (simp; done) | omega)) | refine row_alloc ?_ _ | refine row_drew ?_ | refine row_call ?_ (by assumption)))) hb1; obtain ⟨c1_1a, c1_1b, c1_1c, c1_1d, c1_1e, c1_1f, f1_1a, f1_1b, f1_1c, f1_1d, f1_1e, f1_1f⟩ := row_six r1_1) | (go_at_call 71; with_reducible refine (PC.out _).mono ?_; rintro e w9 ⟨rfl, h9⟩; obtain rfl := h9.symm))
  have hbge : w.heap.size ≤ w.heap.size + 1 := by omega
  have R9 : Row ((((((w1.setCell ⟨w.heap.size + 1, 0, none⟩ (.int .i64 0)).setCell ⟨w.heap.size + 1, 1, none⟩ (.int .i64 0)).setCell ⟨w.heap.size + 1, 2, none⟩ (.int .i64 0)).setCell ⟨w.heap.size + 1, 3, none⟩ (.int .i64 0)).setCell ⟨w.heap.size + 1, 4, none⟩ (.int .i64 0)).setCell ⟨w.heap.size + 1, 5, none⟩ (.slice none 0 0)) (w.heap.size + 1) 24 #[.int .i64 0, .int .i64 0, .int .i64 0, .int .i64 0, .int .i64 0, .slice none 0 0] := (row_set (row_set (row_set (row_set (row_set (row_set r1_1 0 (.int .i64 0)) 1 (.int .i64 0)) 2 (.int .i64 0)) 3 (.int .i64 0)) 4 (.int .i64 0)) 5 (.slice none 0 0))
  have o9 : Below w.heap.size w ((((((w1.setCell ⟨w.heap.size + 1, 0, none⟩ (.int .i64 0)).setCell ⟨w.heap.size + 1, 1, none⟩ (.int .i64 0)).setCell ⟨w.heap.size + 1, 2, none⟩ (.int .i64 0)).setCell ⟨w.heap.size + 1, 3, none⟩ (.int .i64 0)).setCell ⟨w.heap.size + 1, 4, none⟩ (.int .i64 0)).setCell ⟨w.heap.size + 1, 5, none⟩ (.slice none 0 0)) := (Below.setCell (p := ⟨w.heap.size + 1, 5, none⟩) (Below.setCell (p := ⟨w.heap.size + 1, 4, none⟩) (Below.setCell (p := ⟨w.heap.size + 1, 3, none⟩) (Below.setCell (p := ⟨w.heap.size + 1, 2, none⟩) (Below.setCell (p := ⟨w.heap.size + 1, 1, none⟩) (Below.setCell (p := ⟨w.heap.size + 1, 0, none⟩) o1 hbge (.int .i64 0)) hbge (.int .i64 0)) hbge (.int .i64 0)) hbge (.int .i64 0)) hbge (.int .i64 0)) hbge (.slice none 0 0))
  generalize ((((((w1.setCell ⟨w.heap.size + 1, 0, none⟩ (.int .i64 0)).setCell ⟨w.heap.size + 1, 1, none⟩ (.int .i64 0)).setCell ⟨w.heap.size + 1, 2, none⟩ (.int .i64 0)).setCell ⟨w.heap.size + 1, 3, none⟩ (.int .i64 0)).setCell ⟨w.heap.size + 1, 4, none⟩ (.int .i64 0)).setCell ⟨w.heap.size + 1, 5, none⟩ (.slice none 0 0)) = w9 at R9 o9 ⊢
  obtain ⟨N0, N1, N2, N3, N4, N5, Nf0, Nf1, Nf2, Nf3, Nf4, Nf5⟩ := row_six R9
  exact bodyPost_ret (v := .tuple #[.agg #[.int .i64 0, .int .i64 0, .int .i64 0, .int .i64 0, .int .i64 0, .slice none 0 0], .int .i64 3]) (by simp [results, Try.results31, go_sem, List.getElem?_toArray, N0, N1, N2, N3, N4, N5]) rfl (spret_zero o9)
set_option maxRecDepth 100000 in
set_option maxHeartbeats 4000000 in
theorem rsptick_c (A : Option Addr) (m c : Nat) (l : List Mk) (wd k cap now seq : Int) (tt : Int) (w : World) (hin : MIn A m c l w) (sB : I64 seq) (hmm : m ≤ 100000) (hv : spvalE wd k cap now seq l = 0) (hto : ¬ (tt < now ∨ 16777216 < tt)) : Calls Try.prog 31 #[.agg #[.int .i64 wd, .int .i64 k, .int .i64 cap, .int .i64 now, .int .i64 seq, .slice A m c], .int .i64 tt] w fun e w' => SpRet A (spTick wd k cap now seq l tt) w e w' := by
  rw [spTick_c hv hto]
  obtain ⟨⟨d0, d1, _, _, _, _, n0, n1⟩, hMV, _⟩ := of_spvalE hv
  have HT := Lib.hid (show ∀ x ∈ l, 0 ≤ x.t ∧ x.t ≤ tt from fun x hx => by
    have := (mvalid_iff.1 hMV).2.one x hx
    have h5 := this.2.2.2.2.1
    have h6 := this.2.2.2.2.2.1
    omega)
  have PC := fun w => rback now tt w
  rw [if_neg hto] at PC
  replace PC := Lib.hid PC
  have HR := Lib.hid hin
  have HFB := Lib.hid (fun h a e => hin.blk h a e)
  have P := fun w' (hb : Below w.heap.size w w') => rvalP A m c l wd k cap now seq w' (hin.below hb) sB
  rw [hv] at P
  replace P := Lib.hid P
  have t0 : 0 ≤ tt := by omega
  have t1 : tt ≤ 16777216 := by omega
  clear hv hin sB hto hMV
  go_enter Try.func31, Try.ntmps31
  go_upto_region 7 with (first | (go_at_call 28; with_reducible refine (P.out _ (by (repeat (first | exact Below.refl _ _ | refine Below.setCell ?_ (by first | (simp; done) | (simp; omega) | omega) _ | refine Below.alloc ?_ (by first | (simp; done) | (simp; omega) | omega) _ | refine Below.drew ?_ | refine Below.trans ?_ (Below.mono (by assumption) (by first | (simp; done) | (simp; omega) | omega)))))).mono ?_; rintro e w1 ⟨rfl, hb1⟩; have hz1 := hb1.size; (try simp at hz1); have o1 : Below w.heap.size w w1 := (by (repeat (first | exact Below.refl _ _ | refine Below.setCell ?_ (by first | (simp; done) | (simp; omega) | omega) _ | refine Below.alloc ?_ (by first | (simp; done) | (simp; omega) | omega) _ | refine Below.drew ?_ | refine Below.trans ?_ (Below.mono (by assumption) (by first | (simp; done) | (simp; omega) | omega))))); have q1_0 : w.heap.size < w1.heap.size := (by omega); have r1_0 : Row w1 (w.heap.size) 24 #[.int .i64 wd, .int .i64 k, .int .i64 cap, .int .i64 now, .int .i64 seq, .slice A m c] := row_call (by (repeat (first | assumption | (refine row_new ?_; (first | (simp; done) | omega)) | refine row_alloc ?_ _ | refine row_drew ?_ | refine row_call ?_ (by assumption)))) hb1; obtain ⟨c1_0a, c1_0b, c1_0c, c1_0d, c1_0e, c1_0f, f1_0a, f1_0b, f1_0c, f1_0d, f1_0e, f1_0f⟩ := row_six r1_0; have q1_1 : w.heap.size + 1 < w1.heap.size := (by omega); have r1_1 : Row w1 (w.heap.size + 1) 24 #[.int .i64 0, .int .i64 0, .int .i64 0, .int .i64 0, .int .i64 0, .slice none 0 0] := row_call (by (repeat (first | assumption | (refine row_new ?_; (first | (simp; done) | omega)) | refine row_alloc ?_ _ | refine row_drew ?_ | refine row_call ?_ (by assumption)))) hb1; obtain ⟨c1_1a, c1_1b, c1_1c, c1_1d, c1_1e, c1_1f, f1_1a, f1_1b, f1_1c, f1_1d, f1_1e, f1_1f⟩ := row_six r1_1) | (go_at_call 71; with_reducible refine (PC.out _).mono ?_; rintro e w9 ⟨rfl, h9⟩; obtain rfl := h9.symm))
  clear P PC c1_0a c1_0b c1_0c c1_0d c1_0e c1_0f f1_0a f1_0b f1_0c f1_0d f1_0e f1_0f c1_1a c1_1b c1_1c c1_1d c1_1e c1_1f f1_1a f1_1b f1_1c f1_1d f1_1e f1_1f 
  obtain ⟨X0, X1, X2, X3, X4, X5, Xf0, Xf1, Xf2, Xf3, Xf4, Xf5⟩ := row_six r1_0
  have X := r1_0
  have R := r1_1
  have o := o1
  clear r1_0 r1_1 o1
  obtain ⟨w3, hw3⟩ : ∃ x, x = w1 := ⟨_, rfl⟩
  rw [← hw3] at X R o X0 X1 X2 X3 X4 X5 Xf0 Xf1 Xf2 Xf3 Xf4 Xf5 ⊢
  clear hw3
  go_wp2_with fail
  refine (rmdrop A m c l tt wd w3 (HR.out.below o) (by omega) t0 t1 d0 d1 HT.out).mono ?_
  rintro e w4 ⟨A5, m5, c5, rfl, inA, hb4, fr4⟩
  have z3 := row_lt R
  clear X0 X1 X2 X3 X4 X5 Xf0 Xf1 Xf2 Xf3 Xf4 Xf5
  replace X := row_call X hb4
  replace R := row_call R hb4
  have z4 := hb4.size
  have o3 := o.size
  replace o := o.trans (hb4.mono o.size)
  have IN := Lib.hid inA
  have XB0 := Lib.hid (show 0 < m5 → ∀ a, A5 = some a → a.block ≠ w.heap.size ∧ a.block ≠ w.heap.size + 1 from fun h a e => by
    rcases fr4 a e with g | ⟨b, eb, g⟩
    · omega
    · have hl := inA.len
      have hm0 : 0 < m := by
        rcases Nat.eq_zero_or_pos m with h0 | h0
        · exfalso
          have h1 := HR.out.len
          have h2 : l = [] := List.eq_nil_of_length_eq_zero (by omega)
          rw [h2, dropM_nil] at hl
          simp at hl
          omega
        · exact h0
      have := HFB.out hm0 b eb
      omega)
  have FR := Lib.hid (show ∀ a, A5 = some a → (w.heap.size ≤ a.block ∧ a.block < w4.heap.size) ∨ ∃ b, A = some b ∧ a.block = b.block from fun a e => by
    rcases fr4 a e with g | g
    · exact .inl (by omega)
    · exact .inr g)
  clear hb4 inA fr4
  obtain ⟨X0, X1, X2, X3, X4, X5, Xf0, Xf1, Xf2, Xf3, Xf4, Xf5⟩ := row_six X
  obtain ⟨R0, R1, R2, R3, R4, R5, Rf0, Rf1, Rf2, Rf3, Rf4, Rf5⟩ := row_six R
  have XR := Lib.hid X
  have RR := Lib.hid R
  clear X R
  go_upto_region 8 with (fail)
  have X : Row ((w4.setCell ⟨w.heap.size, 3, none⟩ (.int .i64 tt)).setCell ⟨w.heap.size, 5, none⟩ (.slice A5 m5 c5)) (w.heap.size) 24 #[.int .i64 wd, .int .i64 k, .int .i64 cap, .int .i64 tt, .int .i64 seq, .slice A5 m5 c5] := (row_set (row_set XR.out 3 (.int .i64 tt)) 5 (.slice A5 m5 c5))
  have R : Row ((w4.setCell ⟨w.heap.size, 3, none⟩ (.int .i64 tt)).setCell ⟨w.heap.size, 5, none⟩ (.slice A5 m5 c5)) (w.heap.size + 1) 24 #[.int .i64 0, .int .i64 0, .int .i64 0, .int .i64 0, .int .i64 0, .slice none 0 0] := (row_other (p := ⟨w.heap.size, 5, none⟩) (row_other (p := ⟨w.heap.size, 3, none⟩) RR.out (by show w.heap.size + 1 ≠ w.heap.size; omega) (.int .i64 tt)) (by show w.heap.size + 1 ≠ w.heap.size; omega) (.slice A5 m5 c5))
  have o6 : Below w.heap.size w ((w4.setCell ⟨w.heap.size, 3, none⟩ (.int .i64 tt)).setCell ⟨w.heap.size, 5, none⟩ (.slice A5 m5 c5)) := (Below.setCell (p := ⟨w.heap.size, 5, none⟩) (Below.setCell (p := ⟨w.heap.size, 3, none⟩) o (Nat.le_refl _) (.int .i64 tt)) (Nat.le_refl _) (.slice A5 m5 c5))
  have hkp6 : ∀ b', b' ≠ w.heap.size → (((w4.setCell ⟨w.heap.size, 3, none⟩ (.int .i64 tt)).setCell ⟨w.heap.size, 5, none⟩ (.slice A5 m5 c5))).heap[b']? = w4.heap[b']? := fun b' h' => ((Below.heap_setCell _ ⟨w.heap.size, 5, none⟩ (.slice A5 m5 c5) b' h').trans ((Below.heap_setCell _ ⟨w.heap.size, 3, none⟩ (.int .i64 tt) b' h').trans rfl))
  have hs6 : w4.heap.size ≤ (((w4.setCell ⟨w.heap.size, 3, none⟩ (.int .i64 tt)).setCell ⟨w.heap.size, 5, none⟩ (.slice A5 m5 c5))).heap.size := by simp only [size_setCell]; exact Nat.le_refl _
  have IN6 := Lib.hid (IN.out.keep0 hs6 (fun h a e => hkp6 a.block (XB0.out h a e).1))
  clear hkp6
  generalize ((w4.setCell ⟨w.heap.size, 3, none⟩ (.int .i64 tt)).setCell ⟨w.heap.size, 5, none⟩ (.slice A5 m5 c5)) = w6 at X R o6 hs6 IN6 ⊢
  clear X0 X1 X2 X3 X4 X5 Xf0 Xf1 Xf2 Xf3 Xf4 Xf5 R0 R1 R2 R3 R4 R5 Rf0 Rf1 Rf2 Rf3 Rf4 Rf5 XR RR IN o
  obtain ⟨X0, X1, X2, X3, X4, X5, Xf0, Xf1, Xf2, Xf3, Xf4, Xf5⟩ := row_six X
  obtain ⟨R0, R1, R2, R3, R4, R5, Rf0, Rf1, Rf2, Rf3, Rf4, Rf5⟩ := row_six R
  go_wp2
  have hbge : w.heap.size ≤ w.heap.size + 1 := by omega
  have hkp : ∀ b', b' ≠ w.heap.size + 1 → (((((((w6.setCell ⟨w.heap.size + 1, 0, none⟩ (.int .i64 wd)).setCell ⟨w.heap.size + 1, 1, none⟩ (.int .i64 k)).setCell ⟨w.heap.size + 1, 2, none⟩ (.int .i64 cap)).setCell ⟨w.heap.size + 1, 3, none⟩ (.int .i64 tt)).setCell ⟨w.heap.size + 1, 4, none⟩ (.int .i64 seq)).setCell ⟨w.heap.size + 1, 5, none⟩ (.slice A5 m5 c5))).heap[b']? = w6.heap[b']? := fun b' h' => ((Below.heap_setCell _ ⟨w.heap.size + 1, 5, none⟩ (.slice A5 m5 c5) b' h').trans ((Below.heap_setCell _ ⟨w.heap.size + 1, 4, none⟩ (.int .i64 seq) b' h').trans ((Below.heap_setCell _ ⟨w.heap.size + 1, 3, none⟩ (.int .i64 tt) b' h').trans ((Below.heap_setCell _ ⟨w.heap.size + 1, 2, none⟩ (.int .i64 cap) b' h').trans ((Below.heap_setCell _ ⟨w.heap.size + 1, 1, none⟩ (.int .i64 k) b' h').trans ((Below.heap_setCell _ ⟨w.heap.size + 1, 0, none⟩ (.int .i64 wd) b' h').trans rfl))))))
  have hksz : w6.heap.size ≤ (((((((w6.setCell ⟨w.heap.size + 1, 0, none⟩ (.int .i64 wd)).setCell ⟨w.heap.size + 1, 1, none⟩ (.int .i64 k)).setCell ⟨w.heap.size + 1, 2, none⟩ (.int .i64 cap)).setCell ⟨w.heap.size + 1, 3, none⟩ (.int .i64 tt)).setCell ⟨w.heap.size + 1, 4, none⟩ (.int .i64 seq)).setCell ⟨w.heap.size + 1, 5, none⟩ (.slice A5 m5 c5))).heap.size := by simp only [size_setCell]; exact Nat.le_refl _
  have R9 : Row ((((((w6.setCell ⟨w.heap.size + 1, 0, none⟩ (.int .i64 wd)).setCell ⟨w.heap.size + 1, 1, none⟩ (.int .i64 k)).setCell ⟨w.heap.size + 1, 2, none⟩ (.int .i64 cap)).setCell ⟨w.heap.size + 1, 3, none⟩ (.int .i64 tt)).setCell ⟨w.heap.size + 1, 4, none⟩ (.int .i64 seq)).setCell ⟨w.heap.size + 1, 5, none⟩ (.slice A5 m5 c5)) (w.heap.size + 1) 24 #[.int .i64 wd, .int .i64 k, .int .i64 cap, .int .i64 tt, .int .i64 seq, .slice A5 m5 c5] := (row_set (row_set (row_set (row_set (row_set (row_set R 0 (.int .i64 wd)) 1 (.int .i64 k)) 2 (.int .i64 cap)) 3 (.int .i64 tt)) 4 (.int .i64 seq)) 5 (.slice A5 m5 c5))
  have o9 : Below w.heap.size w ((((((w6.setCell ⟨w.heap.size + 1, 0, none⟩ (.int .i64 wd)).setCell ⟨w.heap.size + 1, 1, none⟩ (.int .i64 k)).setCell ⟨w.heap.size + 1, 2, none⟩ (.int .i64 cap)).setCell ⟨w.heap.size + 1, 3, none⟩ (.int .i64 tt)).setCell ⟨w.heap.size + 1, 4, none⟩ (.int .i64 seq)).setCell ⟨w.heap.size + 1, 5, none⟩ (.slice A5 m5 c5)) := (Below.setCell (p := ⟨w.heap.size + 1, 5, none⟩) (Below.setCell (p := ⟨w.heap.size + 1, 4, none⟩) (Below.setCell (p := ⟨w.heap.size + 1, 3, none⟩) (Below.setCell (p := ⟨w.heap.size + 1, 2, none⟩) (Below.setCell (p := ⟨w.heap.size + 1, 1, none⟩) (Below.setCell (p := ⟨w.heap.size + 1, 0, none⟩) o6 hbge (.int .i64 wd)) hbge (.int .i64 k)) hbge (.int .i64 cap)) hbge (.int .i64 tt)) hbge (.int .i64 seq)) hbge (.slice A5 m5 c5))
  generalize ((((((w6.setCell ⟨w.heap.size + 1, 0, none⟩ (.int .i64 wd)).setCell ⟨w.heap.size + 1, 1, none⟩ (.int .i64 k)).setCell ⟨w.heap.size + 1, 2, none⟩ (.int .i64 cap)).setCell ⟨w.heap.size + 1, 3, none⟩ (.int .i64 tt)).setCell ⟨w.heap.size + 1, 4, none⟩ (.int .i64 seq)).setCell ⟨w.heap.size + 1, 5, none⟩ (.slice A5 m5 c5)) = w9 at R9 o9 hkp hksz ⊢
  obtain ⟨N0, N1, N2, N3, N4, N5, Nf0, Nf1, Nf2, Nf3, Nf4, Nf5⟩ := row_six R9
  exact bodyPost_ret (v := .tuple #[.agg #[.int .i64 wd, .int .i64 k, .int .i64 cap, .int .i64 tt, .int .i64 seq, .slice A5 m5 c5], .int .i64 0]) (by simp [results, Try.results31, go_sem, List.getElem?_toArray, N0, N1, N2, N3, N4, N5]) rfl (spret_ok (IN6.out.keep0 hksz (fun h a e => hkp a.block (XB0.out h a e).2)) o9 (fun a e => (FR.out a e).imp (fun g => ⟨g.1, by omega⟩) (fun g => g)))
theorem rsptick (A : Option Addr) (m c : Nat) (l : List Mk) (wd k cap now seq : Int) (tt : Int) (w : World) (hin : MIn A m c l w) (sB : I64 seq) (hmm : m ≤ 100000) : Calls Try.prog 31 #[.agg #[.int .i64 wd, .int .i64 k, .int .i64 cap, .int .i64 now, .int .i64 seq, .slice A m c], .int .i64 tt] w fun e w' => SpRet A (spTick wd k cap now seq l tt) w e w' := by
  rcases spvalE_two (wd := wd) (k := k) (cap := cap) (now := now) (seq := seq) (l := l) with hv | hv
  · by_cases hto : tt < now ∨ 16777216 < tt
    · exact rsptick_b A m c l wd k cap now seq tt w hin sB hv hto
    · exact rsptick_c A m c l wd k cap now seq tt w hin sB hmm hv hto
  · exact rsptick_a A m c l wd k cap now seq tt w hin sB hv
end Go.Proofs.Ytaiepjcnncajcaa
end
section
/- Spread histograms: a value more, walked. -/
set_option linter.unusedVariables false
set_option linter.unusedSimpArgs false
set_option linter.unusedSectionVars false
set_option linter.unnecessarySimpa false
namespace Go.Proofs.Ytaiepjcnncajcaa
open Go.RowKit
theorem pcloseB (k : Int) (a b : Mk) (w : World) : Calls Try.prog 17 #[.agg #[.int .i64 a.seq, .int .i64 a.t, .int .i64 a.n, .int .i64 a.s, .int .i64 a.q, .int .i64 a.lo, .int .i64 a.hi], .agg #[.int .i64 b.seq, .int .i64 b.t, .int .i64 b.n, .int .i64 b.s, .int .i64 b.q, .int .i64 b.lo, .int .i64 b.hi], .int .i64 k] w fun e w' => e = .returned (.bool (closeB k a b)) ∧ Below w.heap.size w w' := by
  have h := pclose a.seq a.t a.n a.s a.q a.lo a.hi b.seq b.t b.n b.s b.q b.lo b.hi k w
  rw [show decide (closeP a.n a.s a.q b.n b.s b.q k) = closeB k a b from decide_eq_decide.2 Iff.rfl] at h
  exact h
theorem rcloseB (k : Int) (a b : Mk) (w : World) : Calls Try.prog 18 #[.agg #[.int .i64 a.seq, .int .i64 a.t, .int .i64 a.n, .int .i64 a.s, .int .i64 a.q, .int .i64 a.lo, .int .i64 a.hi], .agg #[.int .i64 b.seq, .int .i64 b.t, .int .i64 b.n, .int .i64 b.s, .int .i64 b.q, .int .i64 b.lo, .int .i64 b.hi], .int .i64 k] w fun e w' => e = .returned (.bool (closeB k a b)) ∧ Below w.heap.size w w' := by
  have h := rclose a.seq a.t a.n a.s a.q a.lo a.hi b.seq b.t b.n b.s b.q b.lo b.hi k w
  rw [show decide (closeP a.n a.s a.q b.n b.s b.q k) = closeB k a b from decide_eq_decide.2 Iff.rfl] at h
  exact h
theorem fc_run (args : Array Value) (w : World) : Sem.run Try.prog (callFunc 70 args) w = .ok (.enter 70 args) w := by
  unfold callFunc
  simp [go_sem, Try.func70]
  rfl
set_option maxHeartbeats 2000000 in
theorem pclos_flat (wd k cap now sq1 : Int) (A : Option Addr) (m c xb : Nat) (sq tk n s q lo hi bsq btk bn bs bq blo bhi : Int) (nv : Bool) (w : World) (X : Row w xb 24 #[.int .i64 wd, .int .i64 k, .int .i64 cap, .int .i64 now, .int .i64 sq1, .slice A m c])
    (PN : ∀ w, Calls Try.prog 17 #[.agg #[.int .i64 sq, .int .i64 tk, .int .i64 n, .int .i64 s, .int .i64 q, .int .i64 lo, .int .i64 hi], .agg #[.int .i64 bsq, .int .i64 btk, .int .i64 bn, .int .i64 bs, .int .i64 bq, .int .i64 blo, .int .i64 bhi], .int .i64 k] w fun e w' => e = .returned (.bool nv) ∧ Below w.heap.size w w') :
    Calls Try.prog 70 #[.agg #[.int .i64 sq, .int .i64 tk, .int .i64 n, .int .i64 s, .int .i64 q, .int .i64 lo, .int .i64 hi], .agg #[.int .i64 bsq, .int .i64 btk, .int .i64 bn, .int .i64 bs, .int .i64 bq, .int .i64 blo, .int .i64 bhi], .pointer (some ⟨xb, 0, none⟩)] w fun e w' => e = .returned (.bool nv) ∧ Below w.heap.size w w' := by
  have PN := Lib.hid PN
  go_enter Try.func70, Try.ntmps70
  go_upto_region 1 with (fail)
  have K : Row ((w.alloc (.cells #[.int .i64 sq, .int .i64 tk, .int .i64 n, .int .i64 s, .int .i64 q, .int .i64 lo, .int .i64 hi] 33)).alloc (.cells #[.int .i64 bsq, .int .i64 btk, .int .i64 bn, .int .i64 bs, .int .i64 bq, .int .i64 blo, .int .i64 bhi] 33)) w.heap.size 33 #[.int .i64 sq, .int .i64 tk, .int .i64 n, .int .i64 s, .int .i64 q, .int .i64 lo, .int .i64 hi] := row_alloc (row_new rfl) _
  have L : Row ((w.alloc (.cells #[.int .i64 sq, .int .i64 tk, .int .i64 n, .int .i64 s, .int .i64 q, .int .i64 lo, .int .i64 hi] 33)).alloc (.cells #[.int .i64 bsq, .int .i64 btk, .int .i64 bn, .int .i64 bs, .int .i64 bq, .int .i64 blo, .int .i64 bhi] 33)) (w.heap.size + 1) 33 #[.int .i64 bsq, .int .i64 btk, .int .i64 bn, .int .i64 bs, .int .i64 bq, .int .i64 blo, .int .i64 bhi] := row_new (by simp)
  have o : Below w.heap.size w ((w.alloc (.cells #[.int .i64 sq, .int .i64 tk, .int .i64 n, .int .i64 s, .int .i64 q, .int .i64 lo, .int .i64 hi] 33)).alloc (.cells #[.int .i64 bsq, .int .i64 btk, .int .i64 bn, .int .i64 bs, .int .i64 bq, .int .i64 blo, .int .i64 bhi] 33)) := by (repeat (first | exact Below.refl _ _ | refine Below.setCell ?_ (by first | (simp; done) | (simp; omega) | omega) _ | refine Below.alloc ?_ (by first | (simp; done) | (simp; omega) | omega) _ | refine Below.drew ?_ | refine Below.trans ?_ (Below.mono (by assumption) (by first | (simp; done) | (simp; omega) | omega))))
  replace X := row_alloc (row_alloc X (.cells #[.int .i64 sq, .int .i64 tk, .int .i64 n, .int .i64 s, .int .i64 q, .int .i64 lo, .int .i64 hi] 33)) (.cells #[.int .i64 bsq, .int .i64 btk, .int .i64 bn, .int .i64 bs, .int .i64 bq, .int .i64 blo, .int .i64 bhi] 33)
  generalize ((w.alloc (.cells #[.int .i64 sq, .int .i64 tk, .int .i64 n, .int .i64 s, .int .i64 q, .int .i64 lo, .int .i64 hi] 33)).alloc (.cells #[.int .i64 bsq, .int .i64 btk, .int .i64 bn, .int .i64 bs, .int .i64 bq, .int .i64 blo, .int .i64 bhi] 33)) = w3 at K L X o ⊢
  obtain ⟨X0, X1, X2, X3, X4, X5, Xf0, Xf1, Xf2, Xf3, Xf4, Xf5⟩ := row_six X
  obtain ⟨K0, K1, K2, K3, K4, K5, K6, Kf0, Kf1, Kf2, Kf3, Kf4, Kf5, Kf6⟩ := row_seven K
  obtain ⟨L0, L1, L2, L3, L4, L5, L6, Lf0, Lf1, Lf2, Lf3, Lf4, Lf5, Lf6⟩ := row_seven L
  clear K L X
  go_wp2_with fail
  refine (PN.out _).mono ?_
  rintro e w4 ⟨rfl, hb4⟩
  replace o := o.trans (hb4.mono o.size)
  go_wp2
  go_ret
  exact ⟨rfl, o⟩
theorem spAdd_a {wd k cap now seq v : Int} {l : List Mk} (h : spvalE wd k cap now seq l = 2) : spAdd wd k cap now seq l v = spZero 2 := by
  unfold spAdd
  rw [if_neg (by omega)]
theorem spAdd_b {wd k cap now seq v : Int} {l : List Mk} (h : spvalE wd k cap now seq l = 0) (h1 : v < (-4096) ∨ 4096 < v) : spAdd wd k cap now seq l v = spZero 4 := by
  unfold spAdd
  rw [if_pos h, if_pos h1]
theorem spAdd_c {wd k cap now seq v : Int} {l : List Mk} (h : spvalE wd k cap now seq l = 0) (h1 : ¬ (v < (-4096) ∨ 4096 < v)) (h2 : smFull cap seq l) : spAdd wd k cap now seq l v = spZero 5 := by
  unfold spAdd
  rw [if_pos h, if_neg h1, if_pos h2]
theorem spAdd_d {wd k cap now seq v : Int} {l : List Mk} (h : spvalE wd k cap now seq l = 0) (h1 : ¬ (v < (-4096) ∨ 4096 < v)) (h2 : ¬ smFull cap seq l) : spAdd wd k cap now seq l v = ⟨wd, k, cap, now, seq + 1, prune (closeB k) (incl l (seq + 1) now v), 0⟩ := by
  unfold spAdd
  rw [if_pos h, if_neg h1, if_neg h2]
set_option maxRecDepth 100000 in
theorem pspadd_a (A : Option Addr) (m c : Nat) (l : List Mk) (wd k cap now seq : Int) (v : Int) (w : World) (hin : MIn A m c l w) (sB : I64 seq) (hv : spvalE wd k cap now seq l = 2) : Calls Try.prog 29 #[.agg #[.int .i64 wd, .int .i64 k, .int .i64 cap, .int .i64 now, .int .i64 seq, .slice A m c], .int .i64 v] w fun e w' => SpRet A (spAdd wd k cap now seq l v) w e w' := by
  rw [spAdd_a hv]
  have P := fun w' (hb : Below w.heap.size w w') => pvalP A m c l wd k cap now seq w' (hin.below hb) sB
  rw [hv] at P
  replace P := Lib.hid P
  clear hv hin sB
  go_enter Try.func29, Try.ntmps29
  go_wp2_with (first | (go_at_call 27; with_reducible refine (P.out _ (by (repeat (first | exact Below.refl _ _ | refine Below.setCell ?_ (by first | (simp; done) | (simp; omega) | omega) _ | refine Below.alloc ?_ (by first | (simp; done) | (simp; omega) | omega) _ | refine Below.drew ?_ | refine Below.trans ?_ (Below.mono (by assumption) (by first | (simp; done) | (simp; omega) | omega)))))).mono ?_; rintro e w1 ⟨rfl, hb1⟩; have hz1 := hb1.size; (try simp at hz1); have o1 : Below w.heap.size w w1 := (by (repeat (first | exact Below.refl _ _ | refine Below.setCell ?_ (by first | (simp; done) | (simp; omega) | omega) _ | refine Below.alloc ?_ (by first | (simp; done) | (simp; omega) | omega) _ | refine Below.drew ?_ | refine Below.trans ?_ (Below.mono (by assumption) (by first | (simp; done) | (simp; omega) | omega))))); have q1_0 : w.heap.size < w1.heap.size := (by omega); have r1_0 : Row w1 (w.heap.size) 24 #[.int .i64 wd, .int .i64 k, .int .i64 cap, .int .i64 now, .int .i64 seq, .slice A m c] := row_call (by (repeat (first | assumption | (refine row_new ?_; (first | (simp; done) | omega)) | refine row_alloc ?_ _ | refine row_drew ?_ | refine row_call ?_ (by assumption)))) hb1; obtain ⟨c1_0a, c1_0b, c1_0c, c1_0d, c1_0e, c1_0f, f1_0a, f1_0b, f1_0c, f1_0d, f1_0e, f1_0f⟩ := row_six r1_0; have q1_1 : w.heap.size + 1 < w1.heap.size := (by omega); have r1_1 : Row w1 (w.heap.size + 1) 24 #[.int .i64 0, .int .i64 0, .int .i64 0, .int .i64 0, .int .i64 0, .slice none 0 0] := row_call (by (repeat (first | assumption | (refine row_new ?_; (first | (simp; done) | omega)) | refine row_alloc ?_ _ | refine row_drew ?_ | refine row_call ?_ (by assumption)))) hb1; obtain ⟨c1_1a, c1_1b, c1_1c, c1_1d, c1_1e, c1_1f, f1_1a, f1_1b, f1_1c, f1_1d, f1_1e, f1_1f⟩ := row_six r1_1))
  have hbge : w.heap.size ≤ w.heap.size + 1 := by omega
  have R9 : Row ((((((w1.setCell ⟨w.heap.size + 1, 0, none⟩ (.int .i64 0)).setCell ⟨w.heap.size + 1, 1, none⟩ (.int .i64 0)).setCell ⟨w.heap.size + 1, 2, none⟩ (.int .i64 0)).setCell ⟨w.heap.size + 1, 3, none⟩ (.int .i64 0)).setCell ⟨w.heap.size + 1, 4, none⟩ (.int .i64 0)).setCell ⟨w.heap.size + 1, 5, none⟩ (.slice none 0 0)) (w.heap.size + 1) 24 #[.int .i64 0, .int .i64 0, .int .i64 0, .int .i64 0, .int .i64 0, .slice none 0 0] := (row_set (row_set (row_set (row_set (row_set (row_set r1_1 0 (.int .i64 0)) 1 (.int .i64 0)) 2 (.int .i64 0)) 3 (.int .i64 0)) 4 (.int .i64 0)) 5 (.slice none 0 0))
  have o9 : Below w.heap.size w ((((((w1.setCell ⟨w.heap.size + 1, 0, none⟩ (.int .i64 0)).setCell ⟨w.heap.size + 1, 1, none⟩ (.int .i64 0)).setCell ⟨w.heap.size + 1, 2, none⟩ (.int .i64 0)).setCell ⟨w.heap.size + 1, 3, none⟩ (.int .i64 0)).setCell ⟨w.heap.size + 1, 4, none⟩ (.int .i64 0)).setCell ⟨w.heap.size + 1, 5, none⟩ (.slice none 0 0)) := (Below.setCell (p := ⟨w.heap.size + 1, 5, none⟩) (Below.setCell (p := ⟨w.heap.size + 1, 4, none⟩) (Below.setCell (p := ⟨w.heap.size + 1, 3, none⟩) (Below.setCell (p := ⟨w.heap.size + 1, 2, none⟩) (Below.setCell (p := ⟨w.heap.size + 1, 1, none⟩) (Below.setCell (p := ⟨w.heap.size + 1, 0, none⟩) o1 hbge (.int .i64 0)) hbge (.int .i64 0)) hbge (.int .i64 0)) hbge (.int .i64 0)) hbge (.int .i64 0)) hbge (.slice none 0 0))
  generalize ((((((w1.setCell ⟨w.heap.size + 1, 0, none⟩ (.int .i64 0)).setCell ⟨w.heap.size + 1, 1, none⟩ (.int .i64 0)).setCell ⟨w.heap.size + 1, 2, none⟩ (.int .i64 0)).setCell ⟨w.heap.size + 1, 3, none⟩ (.int .i64 0)).setCell ⟨w.heap.size + 1, 4, none⟩ (.int .i64 0)).setCell ⟨w.heap.size + 1, 5, none⟩ (.slice none 0 0)) = w9 at R9 o9 ⊢
  obtain ⟨N0, N1, N2, N3, N4, N5, Nf0, Nf1, Nf2, Nf3, Nf4, Nf5⟩ := row_six R9
  exact bodyPost_ret (v := .tuple #[.agg #[.int .i64 0, .int .i64 0, .int .i64 0, .int .i64 0, .int .i64 0, .slice none 0 0], .int .i64 2]) (by simp [results, Try.results29, go_sem, List.getElem?_toArray, N0, N1, N2, N3, N4, N5]) rfl (spret_zero o9)
set_option maxRecDepth 100000 in
theorem pspadd_b1 (A : Option Addr) (m c : Nat) (l : List Mk) (wd k cap now seq : Int) (v : Int) (w : World) (hin : MIn A m c l w) (sB : I64 seq) (hv : spvalE wd k cap now seq l = 0) (h1 : v < (-4096)) : Calls Try.prog 29 #[.agg #[.int .i64 wd, .int .i64 k, .int .i64 cap, .int .i64 now, .int .i64 seq, .slice A m c], .int .i64 v] w fun e w' => SpRet A (spAdd wd k cap now seq l v) w e w' := by
  rw [spAdd_b hv (by omega)]
  have P := fun w' (hb : Below w.heap.size w w') => pvalP A m c l wd k cap now seq w' (hin.below hb) sB
  rw [hv] at P
  replace P := Lib.hid P
  have d1 : decide (v < -4096) = true := decide_eq_true h1
  clear hv hin sB h1
  go_enter Try.func29, Try.ntmps29
  go_wp2_with (first | (go_at_call 27; with_reducible refine (P.out _ (by (repeat (first | exact Below.refl _ _ | refine Below.setCell ?_ (by first | (simp; done) | (simp; omega) | omega) _ | refine Below.alloc ?_ (by first | (simp; done) | (simp; omega) | omega) _ | refine Below.drew ?_ | refine Below.trans ?_ (Below.mono (by assumption) (by first | (simp; done) | (simp; omega) | omega)))))).mono ?_; rintro e w1 ⟨rfl, hb1⟩; have hz1 := hb1.size; (try simp at hz1); have o1 : Below w.heap.size w w1 := (by (repeat (first | exact Below.refl _ _ | refine Below.setCell ?_ (by first | (simp; done) | (simp; omega) | omega) _ | refine Below.alloc ?_ (by first | (simp; done) | (simp; omega) | omega) _ | refine Below.drew ?_ | refine Below.trans ?_ (Below.mono (by assumption) (by first | (simp; done) | (simp; omega) | omega))))); have q1_0 : w.heap.size < w1.heap.size := (by omega); have r1_0 : Row w1 (w.heap.size) 24 #[.int .i64 wd, .int .i64 k, .int .i64 cap, .int .i64 now, .int .i64 seq, .slice A m c] := row_call (by (repeat (first | assumption | (refine row_new ?_; (first | (simp; done) | omega)) | refine row_alloc ?_ _ | refine row_drew ?_ | refine row_call ?_ (by assumption)))) hb1; obtain ⟨c1_0a, c1_0b, c1_0c, c1_0d, c1_0e, c1_0f, f1_0a, f1_0b, f1_0c, f1_0d, f1_0e, f1_0f⟩ := row_six r1_0; have q1_1 : w.heap.size + 1 < w1.heap.size := (by omega); have r1_1 : Row w1 (w.heap.size + 1) 24 #[.int .i64 0, .int .i64 0, .int .i64 0, .int .i64 0, .int .i64 0, .slice none 0 0] := row_call (by (repeat (first | assumption | (refine row_new ?_; (first | (simp; done) | omega)) | refine row_alloc ?_ _ | refine row_drew ?_ | refine row_call ?_ (by assumption)))) hb1; obtain ⟨c1_1a, c1_1b, c1_1c, c1_1d, c1_1e, c1_1f, f1_1a, f1_1b, f1_1c, f1_1d, f1_1e, f1_1f⟩ := row_six r1_1))
  have hbge : w.heap.size ≤ w.heap.size + 1 := by omega
  have R9 : Row ((((((w1.setCell ⟨w.heap.size + 1, 0, none⟩ (.int .i64 0)).setCell ⟨w.heap.size + 1, 1, none⟩ (.int .i64 0)).setCell ⟨w.heap.size + 1, 2, none⟩ (.int .i64 0)).setCell ⟨w.heap.size + 1, 3, none⟩ (.int .i64 0)).setCell ⟨w.heap.size + 1, 4, none⟩ (.int .i64 0)).setCell ⟨w.heap.size + 1, 5, none⟩ (.slice none 0 0)) (w.heap.size + 1) 24 #[.int .i64 0, .int .i64 0, .int .i64 0, .int .i64 0, .int .i64 0, .slice none 0 0] := (row_set (row_set (row_set (row_set (row_set (row_set r1_1 0 (.int .i64 0)) 1 (.int .i64 0)) 2 (.int .i64 0)) 3 (.int .i64 0)) 4 (.int .i64 0)) 5 (.slice none 0 0))
  have o9 : Below w.heap.size w ((((((w1.setCell ⟨w.heap.size + 1, 0, none⟩ (.int .i64 0)).setCell ⟨w.heap.size + 1, 1, none⟩ (.int .i64 0)).setCell ⟨w.heap.size + 1, 2, none⟩ (.int .i64 0)).setCell ⟨w.heap.size + 1, 3, none⟩ (.int .i64 0)).setCell ⟨w.heap.size + 1, 4, none⟩ (.int .i64 0)).setCell ⟨w.heap.size + 1, 5, none⟩ (.slice none 0 0)) := (Below.setCell (p := ⟨w.heap.size + 1, 5, none⟩) (Below.setCell (p := ⟨w.heap.size + 1, 4, none⟩) (Below.setCell (p := ⟨w.heap.size + 1, 3, none⟩) (Below.setCell (p := ⟨w.heap.size + 1, 2, none⟩) (Below.setCell (p := ⟨w.heap.size + 1, 1, none⟩) (Below.setCell (p := ⟨w.heap.size + 1, 0, none⟩) o1 hbge (.int .i64 0)) hbge (.int .i64 0)) hbge (.int .i64 0)) hbge (.int .i64 0)) hbge (.int .i64 0)) hbge (.slice none 0 0))
  generalize ((((((w1.setCell ⟨w.heap.size + 1, 0, none⟩ (.int .i64 0)).setCell ⟨w.heap.size + 1, 1, none⟩ (.int .i64 0)).setCell ⟨w.heap.size + 1, 2, none⟩ (.int .i64 0)).setCell ⟨w.heap.size + 1, 3, none⟩ (.int .i64 0)).setCell ⟨w.heap.size + 1, 4, none⟩ (.int .i64 0)).setCell ⟨w.heap.size + 1, 5, none⟩ (.slice none 0 0)) = w9 at R9 o9 ⊢
  obtain ⟨N0, N1, N2, N3, N4, N5, Nf0, Nf1, Nf2, Nf3, Nf4, Nf5⟩ := row_six R9
  exact bodyPost_ret (v := .tuple #[.agg #[.int .i64 0, .int .i64 0, .int .i64 0, .int .i64 0, .int .i64 0, .slice none 0 0], .int .i64 4]) (by simp [results, Try.results29, go_sem, List.getElem?_toArray, N0, N1, N2, N3, N4, N5]) rfl (spret_zero o9)
set_option maxRecDepth 100000 in
theorem pspadd_b2 (A : Option Addr) (m c : Nat) (l : List Mk) (wd k cap now seq : Int) (v : Int) (w : World) (hin : MIn A m c l w) (sB : I64 seq) (hv : spvalE wd k cap now seq l = 0) (h0 : ¬ v < (-4096)) (h1 : 4096 < v) : Calls Try.prog 29 #[.agg #[.int .i64 wd, .int .i64 k, .int .i64 cap, .int .i64 now, .int .i64 seq, .slice A m c], .int .i64 v] w fun e w' => SpRet A (spAdd wd k cap now seq l v) w e w' := by
  rw [spAdd_b hv (by omega)]
  have P := fun w' (hb : Below w.heap.size w w') => pvalP A m c l wd k cap now seq w' (hin.below hb) sB
  rw [hv] at P
  replace P := Lib.hid P
  have d0 : decide (v < -4096) = false := decide_eq_false h0
  have d1 : decide (4096 < v) = true := decide_eq_true h1
  clear hv hin sB h1 h0
  go_enter Try.func29, Try.ntmps29
  go_wp2_with (first | (go_at_call 27; with_reducible refine (P.out _ (by (repeat (first | exact Below.refl _ _ | refine Below.setCell ?_ (by first | (simp; done) | (simp; omega) | omega) _ | refine Below.alloc ?_ (by first | (simp; done) | (simp; omega) | omega) _ | refine Below.drew ?_ | refine Below.trans ?_ (Below.mono (by assumption) (by first | (simp; done) | (simp; omega) | omega)))))).mono ?_; rintro e w1 ⟨rfl, hb1⟩; have hz1 := hb1.size; (try simp at hz1); have o1 : Below w.heap.size w w1 := (by (repeat (first | exact Below.refl _ _ | refine Below.setCell ?_ (by first | (simp; done) | (simp; omega) | omega) _ | refine Below.alloc ?_ (by first | (simp; done) | (simp; omega) | omega) _ | refine Below.drew ?_ | refine Below.trans ?_ (Below.mono (by assumption) (by first | (simp; done) | (simp; omega) | omega))))); have q1_0 : w.heap.size < w1.heap.size := (by omega); have r1_0 : Row w1 (w.heap.size) 24 #[.int .i64 wd, .int .i64 k, .int .i64 cap, .int .i64 now, .int .i64 seq, .slice A m c] := row_call (by (repeat (first | assumption | (refine row_new ?_; (first | (simp; done) | omega)) | refine row_alloc ?_ _ | refine row_drew ?_ | refine row_call ?_ (by assumption)))) hb1; obtain ⟨c1_0a, c1_0b, c1_0c, c1_0d, c1_0e, c1_0f, f1_0a, f1_0b, f1_0c, f1_0d, f1_0e, f1_0f⟩ := row_six r1_0; have q1_1 : w.heap.size + 1 < w1.heap.size := (by omega); have r1_1 : Row w1 (w.heap.size + 1) 24 #[.int .i64 0, .int .i64 0, .int .i64 0, .int .i64 0, .int .i64 0, .slice none 0 0] := row_call (by (repeat (first | assumption | (refine row_new ?_; (first | (simp; done) | omega)) | refine row_alloc ?_ _ | refine row_drew ?_ | refine row_call ?_ (by assumption)))) hb1; obtain ⟨c1_1a, c1_1b, c1_1c, c1_1d, c1_1e, c1_1f, f1_1a, f1_1b, f1_1c, f1_1d, f1_1e, f1_1f⟩ := row_six r1_1))
  have hbge : w.heap.size ≤ w.heap.size + 1 := by omega
  have R9 : Row ((((((w1.setCell ⟨w.heap.size + 1, 0, none⟩ (.int .i64 0)).setCell ⟨w.heap.size + 1, 1, none⟩ (.int .i64 0)).setCell ⟨w.heap.size + 1, 2, none⟩ (.int .i64 0)).setCell ⟨w.heap.size + 1, 3, none⟩ (.int .i64 0)).setCell ⟨w.heap.size + 1, 4, none⟩ (.int .i64 0)).setCell ⟨w.heap.size + 1, 5, none⟩ (.slice none 0 0)) (w.heap.size + 1) 24 #[.int .i64 0, .int .i64 0, .int .i64 0, .int .i64 0, .int .i64 0, .slice none 0 0] := (row_set (row_set (row_set (row_set (row_set (row_set r1_1 0 (.int .i64 0)) 1 (.int .i64 0)) 2 (.int .i64 0)) 3 (.int .i64 0)) 4 (.int .i64 0)) 5 (.slice none 0 0))
  have o9 : Below w.heap.size w ((((((w1.setCell ⟨w.heap.size + 1, 0, none⟩ (.int .i64 0)).setCell ⟨w.heap.size + 1, 1, none⟩ (.int .i64 0)).setCell ⟨w.heap.size + 1, 2, none⟩ (.int .i64 0)).setCell ⟨w.heap.size + 1, 3, none⟩ (.int .i64 0)).setCell ⟨w.heap.size + 1, 4, none⟩ (.int .i64 0)).setCell ⟨w.heap.size + 1, 5, none⟩ (.slice none 0 0)) := (Below.setCell (p := ⟨w.heap.size + 1, 5, none⟩) (Below.setCell (p := ⟨w.heap.size + 1, 4, none⟩) (Below.setCell (p := ⟨w.heap.size + 1, 3, none⟩) (Below.setCell (p := ⟨w.heap.size + 1, 2, none⟩) (Below.setCell (p := ⟨w.heap.size + 1, 1, none⟩) (Below.setCell (p := ⟨w.heap.size + 1, 0, none⟩) o1 hbge (.int .i64 0)) hbge (.int .i64 0)) hbge (.int .i64 0)) hbge (.int .i64 0)) hbge (.int .i64 0)) hbge (.slice none 0 0))
  generalize ((((((w1.setCell ⟨w.heap.size + 1, 0, none⟩ (.int .i64 0)).setCell ⟨w.heap.size + 1, 1, none⟩ (.int .i64 0)).setCell ⟨w.heap.size + 1, 2, none⟩ (.int .i64 0)).setCell ⟨w.heap.size + 1, 3, none⟩ (.int .i64 0)).setCell ⟨w.heap.size + 1, 4, none⟩ (.int .i64 0)).setCell ⟨w.heap.size + 1, 5, none⟩ (.slice none 0 0)) = w9 at R9 o9 ⊢
  obtain ⟨N0, N1, N2, N3, N4, N5, Nf0, Nf1, Nf2, Nf3, Nf4, Nf5⟩ := row_six R9
  exact bodyPost_ret (v := .tuple #[.agg #[.int .i64 0, .int .i64 0, .int .i64 0, .int .i64 0, .int .i64 0, .slice none 0 0], .int .i64 4]) (by simp [results, Try.results29, go_sem, List.getElem?_toArray, N0, N1, N2, N3, N4, N5]) rfl (spret_zero o9)
set_option maxRecDepth 100000 in
set_option maxHeartbeats 2000000 in
theorem pspadd_c1 (A : Option Addr) (m c : Nat) (l : List Mk) (wd k cap now seq : Int) (v : Int) (w : World) (hin : MIn A m c l w) (sB : I64 seq) (hv : spvalE wd k cap now seq l = 0) (h0 : ¬ v < (-4096)) (h1 : ¬ 4096 < v) (hm0 : 0 < m) (hn : (mkAt l 0).n = cap) (hf : smFull cap seq l) : Calls Try.prog 29 #[.agg #[.int .i64 wd, .int .i64 k, .int .i64 cap, .int .i64 now, .int .i64 seq, .slice A m c], .int .i64 v] w fun e w' => SpRet A (spAdd wd k cap now seq l v) w e w' := by
  rw [spAdd_c hv (by omega) hf]
  clear hf
  have P := fun w' (hb : Below w.heap.size w w') => pvalP A m c l wd k cap now seq w' (hin.below hb) sB
  rw [hv] at P
  replace P := Lib.hid P
  have d0 : decide (v < -4096) = false := decide_eq_false h0
  have d1 : decide (4096 < v) = false := decide_eq_false h1
  have HR := Lib.hid hin
  have HL := Lib.hid hin.len
  clear hin sB h0 h1
  go_enter Try.func29, Try.ntmps29
  go_upto_region 6 with (first | (go_at_call 27; with_reducible refine (P.out _ (by (repeat (first | exact Below.refl _ _ | refine Below.setCell ?_ (by first | (simp; done) | (simp; omega) | omega) _ | refine Below.alloc ?_ (by first | (simp; done) | (simp; omega) | omega) _ | refine Below.drew ?_ | refine Below.trans ?_ (Below.mono (by assumption) (by first | (simp; done) | (simp; omega) | omega)))))).mono ?_; rintro e w1 ⟨rfl, hb1⟩; have hz1 := hb1.size; (try simp at hz1); have o1 : Below w.heap.size w w1 := (by (repeat (first | exact Below.refl _ _ | refine Below.setCell ?_ (by first | (simp; done) | (simp; omega) | omega) _ | refine Below.alloc ?_ (by first | (simp; done) | (simp; omega) | omega) _ | refine Below.drew ?_ | refine Below.trans ?_ (Below.mono (by assumption) (by first | (simp; done) | (simp; omega) | omega))))); have q1_0 : w.heap.size < w1.heap.size := (by omega); have r1_0 : Row w1 (w.heap.size) 24 #[.int .i64 wd, .int .i64 k, .int .i64 cap, .int .i64 now, .int .i64 seq, .slice A m c] := row_call (by (repeat (first | assumption | (refine row_new ?_; (first | (simp; done) | omega)) | refine row_alloc ?_ _ | refine row_drew ?_ | refine row_call ?_ (by assumption)))) hb1; obtain ⟨c1_0a, c1_0b, c1_0c, c1_0d, c1_0e, c1_0f, f1_0a, f1_0b, f1_0c, f1_0d, f1_0e, f1_0f⟩ := row_six r1_0; have q1_1 : w.heap.size + 1 < w1.heap.size := (by omega); have r1_1 : Row w1 (w.heap.size + 1) 24 #[.int .i64 0, .int .i64 0, .int .i64 0, .int .i64 0, .int .i64 0, .slice none 0 0] := row_call (by (repeat (first | assumption | (refine row_new ?_; (first | (simp; done) | omega)) | refine row_alloc ?_ _ | refine row_drew ?_ | refine row_call ?_ (by assumption)))) hb1; obtain ⟨c1_1a, c1_1b, c1_1c, c1_1d, c1_1e, c1_1f, f1_1a, f1_1b, f1_1c, f1_1d, f1_1e, f1_1f⟩ := row_six r1_1))
  clear d0 d1 P
  clear hv
  obtain ⟨ad, rfl, hadb, ht0⟩ := HR.out.reads.mk (i := 0) hm0
  have ht0 : MkCells w ad (mkAt l 0) := ht0
  generalize mkAt l 0 = m0 at ht0 hn
  obtain ⟨sq, tk, n, s, q, lo, hi⟩ := m0
  obtain ⟨q0, q1, q2, q3, q4, q5, q6⟩ := ht0.below o1 hadb
  dsimp only at q0 q1 q2 q3 q4 q5 q6 hn
  clear ht0
  have e0 : decide (0 < m) = true := decide_eq_true hm0
  have g0 : (0 : Int) < (m : Int) := by omega
  have e1 : (n == cap) = true := by simpa using hn
  refine wp_region_quiet_lit (by as_aux_lemma => kernel_rfl) (by as_aux_lemma => kernel_rfl) ?_
  repeat (go_big_quiet_step (fail))
  refine wpQuiet_nil ?_
  intro _ hw'
  obtain ⟨nq, hw''⟩ := hw'
  subst hw''
  replace r1_0 : Row (w1.drewN nq) (w.heap.size) 24 #[.int .i64 wd, .int .i64 k, .int .i64 cap, .int .i64 now, .int .i64 seq, .slice (some ad) m c] := r1_0
  replace r1_1 : Row (w1.drewN nq) (w.heap.size + 1) 24 #[.int .i64 0, .int .i64 0, .int .i64 0, .int .i64 0, .int .i64 0, .slice none 0 0] := r1_1
  replace o1 := o1.trans (⟨rfl, rfl, rfl, Nat.le_refl _, fun _ _ => rfl⟩ : Below _ w1 (w1.drewN nq))
  generalize w1.drewN nq = w2 at r1_0 r1_1 o1 ⊢
  clear c1_0a c1_0b c1_0c c1_0d c1_0e c1_0f f1_0a f1_0b f1_0c f1_0d f1_0e f1_0f c1_1a c1_1b c1_1c c1_1d c1_1e c1_1f f1_1a f1_1b f1_1c f1_1d f1_1e f1_1f
  obtain ⟨Z0, Z1, Z2, Z3, Z4, Z5, Zf0, Zf1, Zf2, Zf3, Zf4, Zf5⟩ := row_six r1_1
  clear r1_0
  clear q0 q1 q2 q3 q4 q5 q6
  go_wp2
  have hbge : w.heap.size ≤ w.heap.size + 1 := by omega
  have R9 : Row ((((((w2.setCell ⟨w.heap.size + 1, 0, none⟩ (.int .i64 0)).setCell ⟨w.heap.size + 1, 1, none⟩ (.int .i64 0)).setCell ⟨w.heap.size + 1, 2, none⟩ (.int .i64 0)).setCell ⟨w.heap.size + 1, 3, none⟩ (.int .i64 0)).setCell ⟨w.heap.size + 1, 4, none⟩ (.int .i64 0)).setCell ⟨w.heap.size + 1, 5, none⟩ (.slice none 0 0)) (w.heap.size + 1) 24 #[.int .i64 0, .int .i64 0, .int .i64 0, .int .i64 0, .int .i64 0, .slice none 0 0] := (row_set (row_set (row_set (row_set (row_set (row_set r1_1 0 (.int .i64 0)) 1 (.int .i64 0)) 2 (.int .i64 0)) 3 (.int .i64 0)) 4 (.int .i64 0)) 5 (.slice none 0 0))
  have o9 : Below w.heap.size w ((((((w2.setCell ⟨w.heap.size + 1, 0, none⟩ (.int .i64 0)).setCell ⟨w.heap.size + 1, 1, none⟩ (.int .i64 0)).setCell ⟨w.heap.size + 1, 2, none⟩ (.int .i64 0)).setCell ⟨w.heap.size + 1, 3, none⟩ (.int .i64 0)).setCell ⟨w.heap.size + 1, 4, none⟩ (.int .i64 0)).setCell ⟨w.heap.size + 1, 5, none⟩ (.slice none 0 0)) := (Below.setCell (p := ⟨w.heap.size + 1, 5, none⟩) (Below.setCell (p := ⟨w.heap.size + 1, 4, none⟩) (Below.setCell (p := ⟨w.heap.size + 1, 3, none⟩) (Below.setCell (p := ⟨w.heap.size + 1, 2, none⟩) (Below.setCell (p := ⟨w.heap.size + 1, 1, none⟩) (Below.setCell (p := ⟨w.heap.size + 1, 0, none⟩) o1 hbge (.int .i64 0)) hbge (.int .i64 0)) hbge (.int .i64 0)) hbge (.int .i64 0)) hbge (.int .i64 0)) hbge (.slice none 0 0))
  generalize ((((((w2.setCell ⟨w.heap.size + 1, 0, none⟩ (.int .i64 0)).setCell ⟨w.heap.size + 1, 1, none⟩ (.int .i64 0)).setCell ⟨w.heap.size + 1, 2, none⟩ (.int .i64 0)).setCell ⟨w.heap.size + 1, 3, none⟩ (.int .i64 0)).setCell ⟨w.heap.size + 1, 4, none⟩ (.int .i64 0)).setCell ⟨w.heap.size + 1, 5, none⟩ (.slice none 0 0)) = w9 at R9 o9 ⊢
  obtain ⟨N0, N1, N2, N3, N4, N5, Nf0, Nf1, Nf2, Nf3, Nf4, Nf5⟩ := row_six R9
  exact bodyPost_ret (v := .tuple #[.agg #[.int .i64 0, .int .i64 0, .int .i64 0, .int .i64 0, .int .i64 0, .slice none 0 0], .int .i64 5]) (by simp [results, Try.results29, go_sem, List.getElem?_toArray, N0, N1, N2, N3, N4, N5]) rfl (spret_zero o9)
set_option maxRecDepth 100000 in
set_option maxHeartbeats 2000000 in
theorem pspadd_c2 (A : Option Addr) (m c : Nat) (l : List Mk) (wd k cap now seq : Int) (v : Int) (w : World) (hin : MIn A m c l w) (sB : I64 seq) (hv : spvalE wd k cap now seq l = 0) (h0 : ¬ v < (-4096)) (h1 : ¬ 4096 < v) (hm0 : 0 < m) (hn : (mkAt l 0).n ≠ cap) (hs : seq = 1099511627776) (hf : smFull cap seq l) : Calls Try.prog 29 #[.agg #[.int .i64 wd, .int .i64 k, .int .i64 cap, .int .i64 now, .int .i64 seq, .slice A m c], .int .i64 v] w fun e w' => SpRet A (spAdd wd k cap now seq l v) w e w' := by
  rw [spAdd_c hv (by omega) hf]
  clear hf
  have HSQ := Lib.hid hs
  clear hs
  have P := fun w' (hb : Below w.heap.size w w') => pvalP A m c l wd k cap now seq w' (hin.below hb) sB
  rw [hv] at P
  replace P := Lib.hid P
  have d0 : decide (v < -4096) = false := decide_eq_false h0
  have d1 : decide (4096 < v) = false := decide_eq_false h1
  have HR := Lib.hid hin
  have HL := Lib.hid hin.len
  clear hin sB h0 h1
  go_enter Try.func29, Try.ntmps29
  go_upto_region 6 with (first | (go_at_call 27; with_reducible refine (P.out _ (by (repeat (first | exact Below.refl _ _ | refine Below.setCell ?_ (by first | (simp; done) | (simp; omega) | omega) _ | refine Below.alloc ?_ (by first | (simp; done) | (simp; omega) | omega) _ | refine Below.drew ?_ | refine Below.trans ?_ (Below.mono (by assumption) (by first | (simp; done) | (simp; omega) | omega)))))).mono ?_; rintro e w1 ⟨rfl, hb1⟩; have hz1 := hb1.size; (try simp at hz1); have o1 : Below w.heap.size w w1 := (by (repeat (first | exact Below.refl _ _ | refine Below.setCell ?_ (by first | (simp; done) | (simp; omega) | omega) _ | refine Below.alloc ?_ (by first | (simp; done) | (simp; omega) | omega) _ | refine Below.drew ?_ | refine Below.trans ?_ (Below.mono (by assumption) (by first | (simp; done) | (simp; omega) | omega))))); have q1_0 : w.heap.size < w1.heap.size := (by omega); have r1_0 : Row w1 (w.heap.size) 24 #[.int .i64 wd, .int .i64 k, .int .i64 cap, .int .i64 now, .int .i64 seq, .slice A m c] := row_call (by (repeat (first | assumption | (refine row_new ?_; (first | (simp; done) | omega)) | refine row_alloc ?_ _ | refine row_drew ?_ | refine row_call ?_ (by assumption)))) hb1; obtain ⟨c1_0a, c1_0b, c1_0c, c1_0d, c1_0e, c1_0f, f1_0a, f1_0b, f1_0c, f1_0d, f1_0e, f1_0f⟩ := row_six r1_0; have q1_1 : w.heap.size + 1 < w1.heap.size := (by omega); have r1_1 : Row w1 (w.heap.size + 1) 24 #[.int .i64 0, .int .i64 0, .int .i64 0, .int .i64 0, .int .i64 0, .slice none 0 0] := row_call (by (repeat (first | assumption | (refine row_new ?_; (first | (simp; done) | omega)) | refine row_alloc ?_ _ | refine row_drew ?_ | refine row_call ?_ (by assumption)))) hb1; obtain ⟨c1_1a, c1_1b, c1_1c, c1_1d, c1_1e, c1_1f, f1_1a, f1_1b, f1_1c, f1_1d, f1_1e, f1_1f⟩ := row_six r1_1))
  clear d0 d1 P
  clear hv
  have e2 : (seq == 1099511627776) = true := by simpa using HSQ.out
  obtain ⟨ad, rfl, hadb, ht0⟩ := HR.out.reads.mk (i := 0) hm0
  have ht0 : MkCells w ad (mkAt l 0) := ht0
  generalize mkAt l 0 = m0 at ht0 hn
  obtain ⟨sq, tk, n, s, q, lo, hi⟩ := m0
  obtain ⟨q0, q1, q2, q3, q4, q5, q6⟩ := ht0.below o1 hadb
  dsimp only at q0 q1 q2 q3 q4 q5 q6 hn
  clear ht0
  have e0 : decide (0 < m) = true := decide_eq_true hm0
  have g0 : (0 : Int) < (m : Int) := by omega
  have e1 : (n == cap) = false := by simpa using hn
  refine wp_region_quiet_lit (by as_aux_lemma => kernel_rfl) (by as_aux_lemma => kernel_rfl) ?_
  repeat (go_big_quiet_step (fail))
  refine wpQuiet_nil ?_
  intro _ hw'
  obtain ⟨nq, hw''⟩ := hw'
  subst hw''
  replace r1_0 : Row (w1.drewN nq) (w.heap.size) 24 #[.int .i64 wd, .int .i64 k, .int .i64 cap, .int .i64 now, .int .i64 seq, .slice (some ad) m c] := r1_0
  replace r1_1 : Row (w1.drewN nq) (w.heap.size + 1) 24 #[.int .i64 0, .int .i64 0, .int .i64 0, .int .i64 0, .int .i64 0, .slice none 0 0] := r1_1
  replace o1 := o1.trans (⟨rfl, rfl, rfl, Nat.le_refl _, fun _ _ => rfl⟩ : Below _ w1 (w1.drewN nq))
  generalize w1.drewN nq = w2 at r1_0 r1_1 o1 ⊢
  clear c1_0a c1_0b c1_0c c1_0d c1_0e c1_0f f1_0a f1_0b f1_0c f1_0d f1_0e f1_0f c1_1a c1_1b c1_1c c1_1d c1_1e c1_1f f1_1a f1_1b f1_1c f1_1d f1_1e f1_1f
  obtain ⟨Z0, Z1, Z2, Z3, Z4, Z5, Zf0, Zf1, Zf2, Zf3, Zf4, Zf5⟩ := row_six r1_1
  clear r1_0
  clear q0 q1 q2 q3 q4 q5 q6
  go_wp2
  have hbge : w.heap.size ≤ w.heap.size + 1 := by omega
  have R9 : Row ((((((w2.setCell ⟨w.heap.size + 1, 0, none⟩ (.int .i64 0)).setCell ⟨w.heap.size + 1, 1, none⟩ (.int .i64 0)).setCell ⟨w.heap.size + 1, 2, none⟩ (.int .i64 0)).setCell ⟨w.heap.size + 1, 3, none⟩ (.int .i64 0)).setCell ⟨w.heap.size + 1, 4, none⟩ (.int .i64 0)).setCell ⟨w.heap.size + 1, 5, none⟩ (.slice none 0 0)) (w.heap.size + 1) 24 #[.int .i64 0, .int .i64 0, .int .i64 0, .int .i64 0, .int .i64 0, .slice none 0 0] := (row_set (row_set (row_set (row_set (row_set (row_set r1_1 0 (.int .i64 0)) 1 (.int .i64 0)) 2 (.int .i64 0)) 3 (.int .i64 0)) 4 (.int .i64 0)) 5 (.slice none 0 0))
  have o9 : Below w.heap.size w ((((((w2.setCell ⟨w.heap.size + 1, 0, none⟩ (.int .i64 0)).setCell ⟨w.heap.size + 1, 1, none⟩ (.int .i64 0)).setCell ⟨w.heap.size + 1, 2, none⟩ (.int .i64 0)).setCell ⟨w.heap.size + 1, 3, none⟩ (.int .i64 0)).setCell ⟨w.heap.size + 1, 4, none⟩ (.int .i64 0)).setCell ⟨w.heap.size + 1, 5, none⟩ (.slice none 0 0)) := (Below.setCell (p := ⟨w.heap.size + 1, 5, none⟩) (Below.setCell (p := ⟨w.heap.size + 1, 4, none⟩) (Below.setCell (p := ⟨w.heap.size + 1, 3, none⟩) (Below.setCell (p := ⟨w.heap.size + 1, 2, none⟩) (Below.setCell (p := ⟨w.heap.size + 1, 1, none⟩) (Below.setCell (p := ⟨w.heap.size + 1, 0, none⟩) o1 hbge (.int .i64 0)) hbge (.int .i64 0)) hbge (.int .i64 0)) hbge (.int .i64 0)) hbge (.int .i64 0)) hbge (.slice none 0 0))
  generalize ((((((w2.setCell ⟨w.heap.size + 1, 0, none⟩ (.int .i64 0)).setCell ⟨w.heap.size + 1, 1, none⟩ (.int .i64 0)).setCell ⟨w.heap.size + 1, 2, none⟩ (.int .i64 0)).setCell ⟨w.heap.size + 1, 3, none⟩ (.int .i64 0)).setCell ⟨w.heap.size + 1, 4, none⟩ (.int .i64 0)).setCell ⟨w.heap.size + 1, 5, none⟩ (.slice none 0 0)) = w9 at R9 o9 ⊢
  obtain ⟨N0, N1, N2, N3, N4, N5, Nf0, Nf1, Nf2, Nf3, Nf4, Nf5⟩ := row_six R9
  exact bodyPost_ret (v := .tuple #[.agg #[.int .i64 0, .int .i64 0, .int .i64 0, .int .i64 0, .int .i64 0, .slice none 0 0], .int .i64 5]) (by simp [results, Try.results29, go_sem, List.getElem?_toArray, N0, N1, N2, N3, N4, N5]) rfl (spret_zero o9)
set_option maxRecDepth 100000 in
set_option maxHeartbeats 2000000 in
theorem pspadd_c3 (A : Option Addr) (c : Nat) (l : List Mk) (wd k cap now seq : Int) (v : Int) (w : World) (hin : MIn A 0 c l w) (sB : I64 seq) (hv : spvalE wd k cap now seq l = 0) (h0 : ¬ v < (-4096)) (h1 : ¬ 4096 < v) (hs : seq = 1099511627776) (hf : smFull cap seq l) : Calls Try.prog 29 #[.agg #[.int .i64 wd, .int .i64 k, .int .i64 cap, .int .i64 now, .int .i64 seq, .slice A 0 c], .int .i64 v] w fun e w' => SpRet A (spAdd wd k cap now seq l v) w e w' := by
  rw [spAdd_c hv (by omega) hf]
  clear hf
  have HSQ := Lib.hid hs
  clear hs
  have P := fun w' (hb : Below w.heap.size w w') => pvalP A 0 c l wd k cap now seq w' (hin.below hb) sB
  rw [hv] at P
  replace P := Lib.hid P
  have d0 : decide (v < -4096) = false := decide_eq_false h0
  have d1 : decide (4096 < v) = false := decide_eq_false h1
  have HR := Lib.hid hin
  have HL := Lib.hid hin.len
  clear hin sB h0 h1
  go_enter Try.func29, Try.ntmps29
  go_upto_region 6 with (first | (go_at_call 27; with_reducible refine (P.out _ (by (repeat (first | exact Below.refl _ _ | refine Below.setCell ?_ (by first | (simp; done) | (simp; omega) | omega) _ | refine Below.alloc ?_ (by first | (simp; done) | (simp; omega) | omega) _ | refine Below.drew ?_ | refine Below.trans ?_ (Below.mono (by assumption) (by first | (simp; done) | (simp; omega) | omega)))))).mono ?_; rintro e w1 ⟨rfl, hb1⟩; have hz1 := hb1.size; (try simp at hz1); have o1 : Below w.heap.size w w1 := (by (repeat (first | exact Below.refl _ _ | refine Below.setCell ?_ (by first | (simp; done) | (simp; omega) | omega) _ | refine Below.alloc ?_ (by first | (simp; done) | (simp; omega) | omega) _ | refine Below.drew ?_ | refine Below.trans ?_ (Below.mono (by assumption) (by first | (simp; done) | (simp; omega) | omega))))); have q1_0 : w.heap.size < w1.heap.size := (by omega); have r1_0 : Row w1 (w.heap.size) 24 #[.int .i64 wd, .int .i64 k, .int .i64 cap, .int .i64 now, .int .i64 seq, .slice A 0 c] := row_call (by (repeat (first | assumption | (refine row_new ?_; (first | (simp; done) | omega)) | refine row_alloc ?_ _ | refine row_drew ?_ | refine row_call ?_ (by assumption)))) hb1; obtain ⟨c1_0a, c1_0b, c1_0c, c1_0d, c1_0e, c1_0f, f1_0a, f1_0b, f1_0c, f1_0d, f1_0e, f1_0f⟩ := row_six r1_0; have q1_1 : w.heap.size + 1 < w1.heap.size := (by omega); have r1_1 : Row w1 (w.heap.size + 1) 24 #[.int .i64 0, .int .i64 0, .int .i64 0, .int .i64 0, .int .i64 0, .slice none 0 0] := row_call (by (repeat (first | assumption | (refine row_new ?_; (first | (simp; done) | omega)) | refine row_alloc ?_ _ | refine row_drew ?_ | refine row_call ?_ (by assumption)))) hb1; obtain ⟨c1_1a, c1_1b, c1_1c, c1_1d, c1_1e, c1_1f, f1_1a, f1_1b, f1_1c, f1_1d, f1_1e, f1_1f⟩ := row_six r1_1))
  clear d0 d1 P
  clear hv
  have e2 : (seq == 1099511627776) = true := by simpa using HSQ.out
  refine wp_region_quiet_lit (by as_aux_lemma => kernel_rfl) (by as_aux_lemma => kernel_rfl) ?_
  repeat (go_big_quiet_step (fail))
  refine wpQuiet_nil ?_
  intro _ hw'
  obtain ⟨nq, hw''⟩ := hw'
  subst hw''
  replace r1_0 : Row (w1.drewN nq) (w.heap.size) 24 #[.int .i64 wd, .int .i64 k, .int .i64 cap, .int .i64 now, .int .i64 seq, .slice A 0 c] := r1_0
  replace r1_1 : Row (w1.drewN nq) (w.heap.size + 1) 24 #[.int .i64 0, .int .i64 0, .int .i64 0, .int .i64 0, .int .i64 0, .slice none 0 0] := r1_1
  replace o1 := o1.trans (⟨rfl, rfl, rfl, Nat.le_refl _, fun _ _ => rfl⟩ : Below _ w1 (w1.drewN nq))
  generalize w1.drewN nq = w2 at r1_0 r1_1 o1 ⊢
  clear c1_0a c1_0b c1_0c c1_0d c1_0e c1_0f f1_0a f1_0b f1_0c f1_0d f1_0e f1_0f c1_1a c1_1b c1_1c c1_1d c1_1e c1_1f f1_1a f1_1b f1_1c f1_1d f1_1e f1_1f
  obtain ⟨Z0, Z1, Z2, Z3, Z4, Z5, Zf0, Zf1, Zf2, Zf3, Zf4, Zf5⟩ := row_six r1_1
  clear r1_0
  skip
  go_wp2
  have hbge : w.heap.size ≤ w.heap.size + 1 := by omega
  have R9 : Row ((((((w2.setCell ⟨w.heap.size + 1, 0, none⟩ (.int .i64 0)).setCell ⟨w.heap.size + 1, 1, none⟩ (.int .i64 0)).setCell ⟨w.heap.size + 1, 2, none⟩ (.int .i64 0)).setCell ⟨w.heap.size + 1, 3, none⟩ (.int .i64 0)).setCell ⟨w.heap.size + 1, 4, none⟩ (.int .i64 0)).setCell ⟨w.heap.size + 1, 5, none⟩ (.slice none 0 0)) (w.heap.size + 1) 24 #[.int .i64 0, .int .i64 0, .int .i64 0, .int .i64 0, .int .i64 0, .slice none 0 0] := (row_set (row_set (row_set (row_set (row_set (row_set r1_1 0 (.int .i64 0)) 1 (.int .i64 0)) 2 (.int .i64 0)) 3 (.int .i64 0)) 4 (.int .i64 0)) 5 (.slice none 0 0))
  have o9 : Below w.heap.size w ((((((w2.setCell ⟨w.heap.size + 1, 0, none⟩ (.int .i64 0)).setCell ⟨w.heap.size + 1, 1, none⟩ (.int .i64 0)).setCell ⟨w.heap.size + 1, 2, none⟩ (.int .i64 0)).setCell ⟨w.heap.size + 1, 3, none⟩ (.int .i64 0)).setCell ⟨w.heap.size + 1, 4, none⟩ (.int .i64 0)).setCell ⟨w.heap.size + 1, 5, none⟩ (.slice none 0 0)) := (Below.setCell (p := ⟨w.heap.size + 1, 5, none⟩) (Below.setCell (p := ⟨w.heap.size + 1, 4, none⟩) (Below.setCell (p := ⟨w.heap.size + 1, 3, none⟩) (Below.setCell (p := ⟨w.heap.size + 1, 2, none⟩) (Below.setCell (p := ⟨w.heap.size + 1, 1, none⟩) (Below.setCell (p := ⟨w.heap.size + 1, 0, none⟩) o1 hbge (.int .i64 0)) hbge (.int .i64 0)) hbge (.int .i64 0)) hbge (.int .i64 0)) hbge (.int .i64 0)) hbge (.slice none 0 0))
  generalize ((((((w2.setCell ⟨w.heap.size + 1, 0, none⟩ (.int .i64 0)).setCell ⟨w.heap.size + 1, 1, none⟩ (.int .i64 0)).setCell ⟨w.heap.size + 1, 2, none⟩ (.int .i64 0)).setCell ⟨w.heap.size + 1, 3, none⟩ (.int .i64 0)).setCell ⟨w.heap.size + 1, 4, none⟩ (.int .i64 0)).setCell ⟨w.heap.size + 1, 5, none⟩ (.slice none 0 0)) = w9 at R9 o9 ⊢
  obtain ⟨N0, N1, N2, N3, N4, N5, Nf0, Nf1, Nf2, Nf3, Nf4, Nf5⟩ := row_six R9
  exact bodyPost_ret (v := .tuple #[.agg #[.int .i64 0, .int .i64 0, .int .i64 0, .int .i64 0, .int .i64 0, .slice none 0 0], .int .i64 5]) (by simp [results, Try.results29, go_sem, List.getElem?_toArray, N0, N1, N2, N3, N4, N5]) rfl (spret_zero o9)
set_option maxRecDepth 100000 in
set_option maxHeartbeats 4000000 in
theorem pspadd_d1 (A : Option Addr) (m c : Nat) (l : List Mk) (wd k cap now seq : Int) (v : Int) (w : World) (hin : MIn A m c l w) (sB : I64 seq) (hv : spvalE wd k cap now seq l = 0) (h0 : ¬ v < (-4096)) (h1 : ¬ 4096 < v) (hmm : m ≤ 100000) (hm0 : 0 < m) (hn : (mkAt l 0).n ≠ cap) (hs : seq ≠ 1099511627776) (hf : ¬ smFull cap seq l) : Calls Try.prog 29 #[.agg #[.int .i64 wd, .int .i64 k, .int .i64 cap, .int .i64 now, .int .i64 seq, .slice A m c], .int .i64 v] w fun e w' => SpRet A (spAdd wd k cap now seq l v) w e w' := by
  rw [spAdd_d hv (by omega) hf]
  have hV := of_spvalE hv
  obtain ⟨hG, hMV, _⟩ := hV
  obtain ⟨d0, d1, k0, k1, c0, c1, n0, n1⟩ := hG
  obtain ⟨⟨s0, s1⟩, hVL⟩ := mvalid_iff.1 hMV
  have HVI := Lib.hid (hVL.incl s0 (hVL.n_lt (fun a => hf (.inl a))) c0 n0 d0 (Int.not_lt.1 h0) (by omega) (Int.not_lt.1 h1))
  have HSM := Lib.hid (fun i (hi : i < m) => SmallM.of_one (hVL.one _ (mkAt_mem (l := l) (i := i) (by rw [hin.len]; exact hi))) c1 ((Int.le_refl (-4096))))
  have hv0 : -4096 ≤ v := by omega
  have hv1 : v ≤ 4096 := by omega
  have HLE := Lib.hid ((Int.le_refl (-4096)))
  have HMI := Lib.hid (show ∀ i, M64 (mkAt (incl l (seq + 1) now v) i) from M64.all fun x hx => M64.of_one (HVI.out.one x hx) (by omega) c1 n1 HLE.out)
  have HMP := Lib.hid (show ∀ i, M64 (mkAt (prune (closeB k) (incl l (seq + 1) now v)) i) from M64.all fun x hx => M64.of_one (HVI.out.one x ((prune_sub _ _ _ (Nat.le_refl _)).subset hx)) (by omega) c1 n1 HLE.out)
  clear hf hMV hVL
  have P := fun w' (hb : Below w.heap.size w w') => pvalP A m c l wd k cap now seq w' (hin.below hb) sB
  rw [hv] at P
  replace P := Lib.hid P
  have d0 : decide (v < -4096) = false := decide_eq_false h0
  have d1 : decide (4096 < v) = false := decide_eq_false h1
  have HR := Lib.hid hin
  have HL := Lib.hid hin.len
  clear hin sB h0 h1
  go_enter Try.func29, Try.ntmps29
  go_upto_region 6 with (first | (go_at_call 27; with_reducible refine (P.out _ (by (repeat (first | exact Below.refl _ _ | refine Below.setCell ?_ (by first | (simp; done) | (simp; omega) | omega) _ | refine Below.alloc ?_ (by first | (simp; done) | (simp; omega) | omega) _ | refine Below.drew ?_ | refine Below.trans ?_ (Below.mono (by assumption) (by first | (simp; done) | (simp; omega) | omega)))))).mono ?_; rintro e w1 ⟨rfl, hb1⟩; have hz1 := hb1.size; (try simp at hz1); have o1 : Below w.heap.size w w1 := (by (repeat (first | exact Below.refl _ _ | refine Below.setCell ?_ (by first | (simp; done) | (simp; omega) | omega) _ | refine Below.alloc ?_ (by first | (simp; done) | (simp; omega) | omega) _ | refine Below.drew ?_ | refine Below.trans ?_ (Below.mono (by assumption) (by first | (simp; done) | (simp; omega) | omega))))); have q1_0 : w.heap.size < w1.heap.size := (by omega); have r1_0 : Row w1 (w.heap.size) 24 #[.int .i64 wd, .int .i64 k, .int .i64 cap, .int .i64 now, .int .i64 seq, .slice A m c] := row_call (by (repeat (first | assumption | (refine row_new ?_; (first | (simp; done) | omega)) | refine row_alloc ?_ _ | refine row_drew ?_ | refine row_call ?_ (by assumption)))) hb1; obtain ⟨c1_0a, c1_0b, c1_0c, c1_0d, c1_0e, c1_0f, f1_0a, f1_0b, f1_0c, f1_0d, f1_0e, f1_0f⟩ := row_six r1_0; have q1_1 : w.heap.size + 1 < w1.heap.size := (by omega); have r1_1 : Row w1 (w.heap.size + 1) 24 #[.int .i64 0, .int .i64 0, .int .i64 0, .int .i64 0, .int .i64 0, .slice none 0 0] := row_call (by (repeat (first | assumption | (refine row_new ?_; (first | (simp; done) | omega)) | refine row_alloc ?_ _ | refine row_drew ?_ | refine row_call ?_ (by assumption)))) hb1; obtain ⟨c1_1a, c1_1b, c1_1c, c1_1d, c1_1e, c1_1f, f1_1a, f1_1b, f1_1c, f1_1d, f1_1e, f1_1f⟩ := row_six r1_1))
  clear d0 d1 P
  clear hv
  obtain ⟨ad, rfl, hadb, ht0⟩ := HR.out.reads.mk (i := 0) hm0
  have ht0 : MkCells w ad (mkAt l 0) := ht0
  generalize mkAt l 0 = m0 at ht0 hn
  obtain ⟨sq, tk, n, s, q, lo, hi⟩ := m0
  obtain ⟨q0, q1, q2, q3, q4, q5, q6⟩ := ht0.below o1 hadb
  dsimp only at q0 q1 q2 q3 q4 q5 q6 hn
  clear ht0
  have e0 : decide (0 < m) = true := decide_eq_true hm0
  have g0 : (0 : Int) < (m : Int) := by omega
  have e1 : (n == cap) = false := by simpa using hn
  have e2 : (seq == 1099511627776) = false := by simpa using hs
  refine wp_region_quiet_lit (by as_aux_lemma => kernel_rfl) (by as_aux_lemma => kernel_rfl) ?_
  repeat (go_big_quiet_step (fail))
  refine wpQuiet_nil ?_
  intro _ hw'
  obtain ⟨nq, hw''⟩ := hw'
  subst hw''
  replace r1_0 : Row (w1.drewN nq) (w.heap.size) 24 #[.int .i64 wd, .int .i64 k, .int .i64 cap, .int .i64 now, .int .i64 seq, .slice (some ad) m c] := r1_0
  replace r1_1 : Row (w1.drewN nq) (w.heap.size + 1) 24 #[.int .i64 0, .int .i64 0, .int .i64 0, .int .i64 0, .int .i64 0, .slice none 0 0] := r1_1
  replace o1 := o1.trans (⟨rfl, rfl, rfl, Nat.le_refl _, fun _ _ => rfl⟩ : Below _ w1 (w1.drewN nq))
  generalize w1.drewN nq = w2 at r1_0 r1_1 o1 ⊢
  clear c1_0a c1_0b c1_0c c1_0d c1_0e c1_0f f1_0a f1_0b f1_0c f1_0d f1_0e f1_0f c1_1a c1_1b c1_1c c1_1d c1_1e c1_1f f1_1a f1_1b f1_1c f1_1d f1_1e f1_1f
  clear e2 q0 q1 q2 q3 q4 q5 q6 e0 g0 e1 hn
  have wsq : IntKind.i64.wrap (seq + 1) = seq + 1 := IntWalk.i64_in _ (by omega)
  obtain ⟨X0, X1, X2, X3, X4, X5, Xf0, Xf1, Xf2, Xf3, Xf4, Xf5⟩ := row_six r1_0
  have KR := Lib.hid r1_0
  clear r1_0
  go_upto_region 9 with (fail)
  have X : Row (w2.setCell ⟨w.heap.size, 4, none⟩ (.int .i64 (seq + 1))) (w.heap.size) 24 #[.int .i64 wd, .int .i64 k, .int .i64 cap, .int .i64 now, .int .i64 (seq + 1), .slice (some ad) m c] := row_set KR.out 4 _
  have R : Row (w2.setCell ⟨w.heap.size, 4, none⟩ (.int .i64 (seq + 1))) (w.heap.size + 1) 24 #[.int .i64 0, .int .i64 0, .int .i64 0, .int .i64 0, .int .i64 0, .slice none 0 0] := row_other (p := ⟨w.heap.size, 4, none⟩) r1_1 (by show w.heap.size + 1 ≠ w.heap.size; omega) _
  have o : Below w.heap.size w (w2.setCell ⟨w.heap.size, 4, none⟩ (.int .i64 (seq + 1))) := o1.setCell (p := ⟨w.heap.size, 4, none⟩) (Nat.le_refl _) _
  generalize w2.setCell ⟨w.heap.size, 4, none⟩ (.int .i64 (seq + 1)) = w3 at X R o ⊢
  clear X0 X1 X2 X3 X4 X5 Xf0 Xf1 Xf2 Xf3 Xf4 Xf5 KR o1 r1_1 wsq
  obtain ⟨X0, X1, X2, X3, X4, X5, Xf0, Xf1, Xf2, Xf3, Xf4, Xf5⟩ := row_six X
  go_wp2_with fail
  refine (pmadd (some ad) m c l (seq + 1) now v w3 (HR.out.below o) (by omega) HSM.out hv0 hv1).mono ?_
  rintro e w4 ⟨va, rfl, ownA, hb4⟩
  obtain ⟨A4, c4, rfl, inA, fr4⟩ := MIn.of_row ownA HMI.out
  have z4 := row_lt X
  clear X0 X1 X2 X3 X4 X5 Xf0 Xf1 Xf2 Xf3 Xf4 Xf5 ownA fr4
  replace X := row_call X hb4
  replace R := row_call R hb4
  replace o := o.trans (hb4.mono o.size)
  have z8 := row_lt R
  clear hb4
  have INA := Lib.hid inA
  clear inA
  have LI : RowKit.Hid ((incl l (seq + 1) now v).length = m + 1) := Lib.hid (by rw [incl_len, HL.out])
  have PP := Lib.hid (pprune (closeB k) 70 (w.heap.size) A4 (m + 1) c4 (incl l (seq + 1) now v) w4 INA.out (by omega) fc_run (fun i j w' hij hj hb => by
    have hi1 := HVI.out.one _ (mkAt_mem (l := incl l (seq + 1) now v) (i := i) (by rw [LI.out]; omega))
    have hj1 := HVI.out.one _ (mkAt_mem (l := incl l (seq + 1) now v) (i := j) (by rw [LI.out]; omega))
    exact pclos_flat wd k cap now (seq + 1) (some ad) m c (w.heap.size) (mkAt (incl l (seq + 1) now v) i).seq (mkAt (incl l (seq + 1) now v) i).t (mkAt (incl l (seq + 1) now v) i).n (mkAt (incl l (seq + 1) now v) i).s (mkAt (incl l (seq + 1) now v) i).q (mkAt (incl l (seq + 1) now v) i).lo (mkAt (incl l (seq + 1) now v) i).hi (mkAt (incl l (seq + 1) now v) j).seq (mkAt (incl l (seq + 1) now v) j).t (mkAt (incl l (seq + 1) now v) j).n (mkAt (incl l (seq + 1) now v) j).s (mkAt (incl l (seq + 1) now v) j).q (mkAt (incl l (seq + 1) now v) j).lo (mkAt (incl l (seq + 1) now v) j).hi _ w' (row_call X hb) (fun w => pcloseB k (mkAt (incl l (seq + 1) now v) i) (mkAt (incl l (seq + 1) now v) j) w)))
  obtain ⟨X0, X1, X2, X3, X4, X5, Xf0, Xf1, Xf2, Xf3, Xf4, Xf5⟩ := row_six X
  go_wp2_with fail
  refine PP.out.mono ?_
  rintro e w5 ⟨vp, rfl, ownP, hb5⟩
  obtain ⟨A5, c5, rfl, inP, fr5⟩ := MIn.of_row ownP HMP.out
  have z5 := inP.reads
  clear X0 X1 X2 X3 X4 X5 Xf0 Xf1 Xf2 Xf3 Xf4 Xf5 ownP PP
  replace X := row_call X hb5
  replace R := row_call R hb5
  have z6 := row_lt R
  have o4 := o.size
  replace o := o.trans (hb5.mono o.size)
  have z7 := hb5.size
  have INP := Lib.hid inP
  have FR := Lib.hid fr5
  clear hb5 inP fr5 z5
  generalize hpl : (prune (closeB k) (incl l (seq + 1) now v)).length = pl at INP
  clear hpl
  obtain ⟨X0, X1, X2, X3, X4, X5, Xf0, Xf1, Xf2, Xf3, Xf4, Xf5⟩ := row_six X
  obtain ⟨R0, R1, R2, R3, R4, R5, Rf0, Rf1, Rf2, Rf3, Rf4, Rf5⟩ := row_six R
  have XR := Lib.hid X
  have RR := Lib.hid R
  clear X R
  go_upto_region 10 with (fail)
  have X : Row (w5.setCell ⟨w.heap.size, 5, none⟩ (.slice A5 pl c5)) (w.heap.size) 24 #[.int .i64 wd, .int .i64 k, .int .i64 cap, .int .i64 now, .int .i64 (seq + 1), .slice A5 pl c5] := row_set XR.out 5 _
  have R : Row (w5.setCell ⟨w.heap.size, 5, none⟩ (.slice A5 pl c5)) (w.heap.size + 1) 24 #[.int .i64 0, .int .i64 0, .int .i64 0, .int .i64 0, .int .i64 0, .slice none 0 0] := row_other (p := ⟨w.heap.size, 5, none⟩) RR.out (by show w.heap.size + 1 ≠ w.heap.size; omega) _
  have o6 : Below w.heap.size w (w5.setCell ⟨w.heap.size, 5, none⟩ (.slice A5 pl c5)) := o.setCell (p := ⟨w.heap.size, 5, none⟩) (Nat.le_refl _) _
  have INP6 := Lib.hid (INP.out.keep (w' := w5.setCell ⟨w.heap.size, 5, none⟩ (.slice A5 pl c5)) (by rw [size_setCell]; exact Nat.le_refl _) (fun a e => Below.heap_setCell _ ⟨w.heap.size, 5, none⟩ _ a.block (by have := FR.out a e; show a.block ≠ w.heap.size; omega)))
  have hs6 : w5.heap.size ≤ (w5.setCell ⟨w.heap.size, 5, none⟩ (.slice A5 pl c5)).heap.size := by rw [size_setCell]; exact Nat.le_refl _
  generalize w5.setCell ⟨w.heap.size, 5, none⟩ (.slice A5 pl c5) = w6 at X R o6 INP6 hs6 ⊢
  clear X0 X1 X2 X3 X4 X5 Xf0 Xf1 Xf2 Xf3 Xf4 Xf5 R0 R1 R2 R3 R4 R5 Rf0 Rf1 Rf2 Rf3 Rf4 Rf5 XR RR INP o
  obtain ⟨X0, X1, X2, X3, X4, X5, Xf0, Xf1, Xf2, Xf3, Xf4, Xf5⟩ := row_six X
  obtain ⟨R0, R1, R2, R3, R4, R5, Rf0, Rf1, Rf2, Rf3, Rf4, Rf5⟩ := row_six R
  go_wp2
  have hbge : w.heap.size ≤ w.heap.size + 1 := by omega
  have hkp : ∀ b', b' ≠ w.heap.size + 1 → (((((((w6.setCell ⟨w.heap.size + 1, 0, none⟩ (.int .i64 wd)).setCell ⟨w.heap.size + 1, 1, none⟩ (.int .i64 k)).setCell ⟨w.heap.size + 1, 2, none⟩ (.int .i64 cap)).setCell ⟨w.heap.size + 1, 3, none⟩ (.int .i64 now)).setCell ⟨w.heap.size + 1, 4, none⟩ (.int .i64 (seq + 1))).setCell ⟨w.heap.size + 1, 5, none⟩ (.slice A5 pl c5))).heap[b']? = w6.heap[b']? := fun b' h' => ((Below.heap_setCell _ ⟨w.heap.size + 1, 5, none⟩ (.slice A5 pl c5) b' h').trans ((Below.heap_setCell _ ⟨w.heap.size + 1, 4, none⟩ (.int .i64 (seq + 1)) b' h').trans ((Below.heap_setCell _ ⟨w.heap.size + 1, 3, none⟩ (.int .i64 now) b' h').trans ((Below.heap_setCell _ ⟨w.heap.size + 1, 2, none⟩ (.int .i64 cap) b' h').trans ((Below.heap_setCell _ ⟨w.heap.size + 1, 1, none⟩ (.int .i64 k) b' h').trans ((Below.heap_setCell _ ⟨w.heap.size + 1, 0, none⟩ (.int .i64 wd) b' h').trans rfl))))))
  have hksz : w6.heap.size ≤ (((((((w6.setCell ⟨w.heap.size + 1, 0, none⟩ (.int .i64 wd)).setCell ⟨w.heap.size + 1, 1, none⟩ (.int .i64 k)).setCell ⟨w.heap.size + 1, 2, none⟩ (.int .i64 cap)).setCell ⟨w.heap.size + 1, 3, none⟩ (.int .i64 now)).setCell ⟨w.heap.size + 1, 4, none⟩ (.int .i64 (seq + 1))).setCell ⟨w.heap.size + 1, 5, none⟩ (.slice A5 pl c5))).heap.size := by simp only [size_setCell]; exact Nat.le_refl _
  have R9 : Row ((((((w6.setCell ⟨w.heap.size + 1, 0, none⟩ (.int .i64 wd)).setCell ⟨w.heap.size + 1, 1, none⟩ (.int .i64 k)).setCell ⟨w.heap.size + 1, 2, none⟩ (.int .i64 cap)).setCell ⟨w.heap.size + 1, 3, none⟩ (.int .i64 now)).setCell ⟨w.heap.size + 1, 4, none⟩ (.int .i64 (seq + 1))).setCell ⟨w.heap.size + 1, 5, none⟩ (.slice A5 pl c5)) (w.heap.size + 1) 24 #[.int .i64 wd, .int .i64 k, .int .i64 cap, .int .i64 now, .int .i64 (seq + 1), .slice A5 pl c5] := (row_set (row_set (row_set (row_set (row_set (row_set R 0 (.int .i64 wd)) 1 (.int .i64 k)) 2 (.int .i64 cap)) 3 (.int .i64 now)) 4 (.int .i64 (seq + 1))) 5 (.slice A5 pl c5))
  have o9 : Below w.heap.size w ((((((w6.setCell ⟨w.heap.size + 1, 0, none⟩ (.int .i64 wd)).setCell ⟨w.heap.size + 1, 1, none⟩ (.int .i64 k)).setCell ⟨w.heap.size + 1, 2, none⟩ (.int .i64 cap)).setCell ⟨w.heap.size + 1, 3, none⟩ (.int .i64 now)).setCell ⟨w.heap.size + 1, 4, none⟩ (.int .i64 (seq + 1))).setCell ⟨w.heap.size + 1, 5, none⟩ (.slice A5 pl c5)) := (Below.setCell (p := ⟨w.heap.size + 1, 5, none⟩) (Below.setCell (p := ⟨w.heap.size + 1, 4, none⟩) (Below.setCell (p := ⟨w.heap.size + 1, 3, none⟩) (Below.setCell (p := ⟨w.heap.size + 1, 2, none⟩) (Below.setCell (p := ⟨w.heap.size + 1, 1, none⟩) (Below.setCell (p := ⟨w.heap.size + 1, 0, none⟩) o6 hbge (.int .i64 wd)) hbge (.int .i64 k)) hbge (.int .i64 cap)) hbge (.int .i64 now)) hbge (.int .i64 (seq + 1))) hbge (.slice A5 pl c5))
  generalize ((((((w6.setCell ⟨w.heap.size + 1, 0, none⟩ (.int .i64 wd)).setCell ⟨w.heap.size + 1, 1, none⟩ (.int .i64 k)).setCell ⟨w.heap.size + 1, 2, none⟩ (.int .i64 cap)).setCell ⟨w.heap.size + 1, 3, none⟩ (.int .i64 now)).setCell ⟨w.heap.size + 1, 4, none⟩ (.int .i64 (seq + 1))).setCell ⟨w.heap.size + 1, 5, none⟩ (.slice A5 pl c5)) = w9 at R9 o9 hkp hksz ⊢
  obtain ⟨N0, N1, N2, N3, N4, N5, Nf0, Nf1, Nf2, Nf3, Nf4, Nf5⟩ := row_six R9
  exact bodyPost_ret (v := .tuple #[.agg #[.int .i64 wd, .int .i64 k, .int .i64 cap, .int .i64 now, .int .i64 (seq + 1), .slice A5 pl c5], .int .i64 0]) (by simp [results, Try.results29, go_sem, List.getElem?_toArray, N0, N1, N2, N3, N4, N5]) rfl (spret_ok (INP6.out.keep hksz (fun a e => hkp a.block (by have := FR.out a e; omega))) o9 (fun a e => .inl (by have := FR.out a e; omega)))
set_option maxRecDepth 100000 in
set_option maxHeartbeats 4000000 in
theorem pspadd_d0 (A : Option Addr) (c : Nat) (l : List Mk) (wd k cap now seq : Int) (v : Int) (w : World) (hin : MIn A 0 c l w) (sB : I64 seq) (hv : spvalE wd k cap now seq l = 0) (h0 : ¬ v < (-4096)) (h1 : ¬ 4096 < v)  (hs : seq ≠ 1099511627776) (hf : ¬ smFull cap seq l) : Calls Try.prog 29 #[.agg #[.int .i64 wd, .int .i64 k, .int .i64 cap, .int .i64 now, .int .i64 seq, .slice A 0 c], .int .i64 v] w fun e w' => SpRet A (spAdd wd k cap now seq l v) w e w' := by
  rw [spAdd_d hv (by omega) hf]
  have hV := of_spvalE hv
  obtain ⟨hG, hMV, _⟩ := hV
  obtain ⟨d0, d1, k0, k1, c0, c1, n0, n1⟩ := hG
  obtain ⟨⟨s0, s1⟩, hVL⟩ := mvalid_iff.1 hMV
  have HVI := Lib.hid (hVL.incl s0 (hVL.n_lt (fun a => hf (.inl a))) c0 n0 d0 (Int.not_lt.1 h0) (by omega) (Int.not_lt.1 h1))
  have HSM := Lib.hid (fun i (hi : i < 0) => SmallM.of_one (hVL.one _ (mkAt_mem (l := l) (i := i) (by rw [hin.len]; exact hi))) c1 ((Int.le_refl (-4096))))
  have hv0 : -4096 ≤ v := by omega
  have hv1 : v ≤ 4096 := by omega
  have HLE := Lib.hid ((Int.le_refl (-4096)))
  have HMI := Lib.hid (show ∀ i, M64 (mkAt (incl l (seq + 1) now v) i) from M64.all fun x hx => M64.of_one (HVI.out.one x hx) (by omega) c1 n1 HLE.out)
  have HMP := Lib.hid (show ∀ i, M64 (mkAt (prune (closeB k) (incl l (seq + 1) now v)) i) from M64.all fun x hx => M64.of_one (HVI.out.one x ((prune_sub _ _ _ (Nat.le_refl _)).subset hx)) (by omega) c1 n1 HLE.out)
  clear hf hMV hVL
  have P := fun w' (hb : Below w.heap.size w w') => pvalP A 0 c l wd k cap now seq w' (hin.below hb) sB
  rw [hv] at P
  replace P := Lib.hid P
  have d0 : decide (v < -4096) = false := decide_eq_false h0
  have d1 : decide (4096 < v) = false := decide_eq_false h1
  have HR := Lib.hid hin
  have HL := Lib.hid hin.len
  clear hin sB h0 h1
  go_enter Try.func29, Try.ntmps29
  go_upto_region 6 with (first | (go_at_call 27; with_reducible refine (P.out _ (by (repeat (first | exact Below.refl _ _ | refine Below.setCell ?_ (by first | (simp; done) | (simp; omega) | omega) _ | refine Below.alloc ?_ (by first | (simp; done) | (simp; omega) | omega) _ | refine Below.drew ?_ | refine Below.trans ?_ (Below.mono (by assumption) (by first | (simp; done) | (simp; omega) | omega)))))).mono ?_; rintro e w1 ⟨rfl, hb1⟩; have hz1 := hb1.size; (try simp at hz1); have o1 : Below w.heap.size w w1 := (by (repeat (first | exact Below.refl _ _ | refine Below.setCell ?_ (by first | (simp; done) | (simp; omega) | omega) _ | refine Below.alloc ?_ (by first | (simp; done) | (simp; omega) | omega) _ | refine Below.drew ?_ | refine Below.trans ?_ (Below.mono (by assumption) (by first | (simp; done) | (simp; omega) | omega))))); have q1_0 : w.heap.size < w1.heap.size := (by omega); have r1_0 : Row w1 (w.heap.size) 24 #[.int .i64 wd, .int .i64 k, .int .i64 cap, .int .i64 now, .int .i64 seq, .slice A 0 c] := row_call (by (repeat (first | assumption | (refine row_new ?_; (first | (simp; done) | omega)) | refine row_alloc ?_ _ | refine row_drew ?_ | refine row_call ?_ (by assumption)))) hb1; obtain ⟨c1_0a, c1_0b, c1_0c, c1_0d, c1_0e, c1_0f, f1_0a, f1_0b, f1_0c, f1_0d, f1_0e, f1_0f⟩ := row_six r1_0; have q1_1 : w.heap.size + 1 < w1.heap.size := (by omega); have r1_1 : Row w1 (w.heap.size + 1) 24 #[.int .i64 0, .int .i64 0, .int .i64 0, .int .i64 0, .int .i64 0, .slice none 0 0] := row_call (by (repeat (first | assumption | (refine row_new ?_; (first | (simp; done) | omega)) | refine row_alloc ?_ _ | refine row_drew ?_ | refine row_call ?_ (by assumption)))) hb1; obtain ⟨c1_1a, c1_1b, c1_1c, c1_1d, c1_1e, c1_1f, f1_1a, f1_1b, f1_1c, f1_1d, f1_1e, f1_1f⟩ := row_six r1_1))
  clear d0 d1 P
  clear hv
  have e2 : (seq == 1099511627776) = false := by simpa using hs
  refine wp_region_quiet_lit (by as_aux_lemma => kernel_rfl) (by as_aux_lemma => kernel_rfl) ?_
  repeat (go_big_quiet_step (fail))
  refine wpQuiet_nil ?_
  intro _ hw'
  obtain ⟨nq, hw''⟩ := hw'
  subst hw''
  replace r1_0 : Row (w1.drewN nq) (w.heap.size) 24 #[.int .i64 wd, .int .i64 k, .int .i64 cap, .int .i64 now, .int .i64 seq, .slice A 0 c] := r1_0
  replace r1_1 : Row (w1.drewN nq) (w.heap.size + 1) 24 #[.int .i64 0, .int .i64 0, .int .i64 0, .int .i64 0, .int .i64 0, .slice none 0 0] := r1_1
  replace o1 := o1.trans (⟨rfl, rfl, rfl, Nat.le_refl _, fun _ _ => rfl⟩ : Below _ w1 (w1.drewN nq))
  generalize w1.drewN nq = w2 at r1_0 r1_1 o1 ⊢
  clear c1_0a c1_0b c1_0c c1_0d c1_0e c1_0f f1_0a f1_0b f1_0c f1_0d f1_0e f1_0f c1_1a c1_1b c1_1c c1_1d c1_1e c1_1f f1_1a f1_1b f1_1c f1_1d f1_1e f1_1f
  clear e2
  have wsq : IntKind.i64.wrap (seq + 1) = seq + 1 := IntWalk.i64_in _ (by omega)
  obtain ⟨X0, X1, X2, X3, X4, X5, Xf0, Xf1, Xf2, Xf3, Xf4, Xf5⟩ := row_six r1_0
  have KR := Lib.hid r1_0
  clear r1_0
  go_upto_region 9 with (fail)
  have X : Row (w2.setCell ⟨w.heap.size, 4, none⟩ (.int .i64 (seq + 1))) (w.heap.size) 24 #[.int .i64 wd, .int .i64 k, .int .i64 cap, .int .i64 now, .int .i64 (seq + 1), .slice A 0 c] := row_set KR.out 4 _
  have R : Row (w2.setCell ⟨w.heap.size, 4, none⟩ (.int .i64 (seq + 1))) (w.heap.size + 1) 24 #[.int .i64 0, .int .i64 0, .int .i64 0, .int .i64 0, .int .i64 0, .slice none 0 0] := row_other (p := ⟨w.heap.size, 4, none⟩) r1_1 (by show w.heap.size + 1 ≠ w.heap.size; omega) _
  have o : Below w.heap.size w (w2.setCell ⟨w.heap.size, 4, none⟩ (.int .i64 (seq + 1))) := o1.setCell (p := ⟨w.heap.size, 4, none⟩) (Nat.le_refl _) _
  generalize w2.setCell ⟨w.heap.size, 4, none⟩ (.int .i64 (seq + 1)) = w3 at X R o ⊢
  clear X0 X1 X2 X3 X4 X5 Xf0 Xf1 Xf2 Xf3 Xf4 Xf5 KR o1 r1_1 wsq
  obtain ⟨X0, X1, X2, X3, X4, X5, Xf0, Xf1, Xf2, Xf3, Xf4, Xf5⟩ := row_six X
  go_wp2_with fail
  refine (pmadd A 0 c l (seq + 1) now v w3 (HR.out.below o) (by omega) HSM.out hv0 hv1).mono ?_
  rintro e w4 ⟨va, rfl, ownA, hb4⟩
  obtain ⟨A4, c4, rfl, inA, fr4⟩ := MIn.of_row ownA HMI.out
  have z4 := row_lt X
  clear X0 X1 X2 X3 X4 X5 Xf0 Xf1 Xf2 Xf3 Xf4 Xf5 ownA fr4
  replace X := row_call X hb4
  replace R := row_call R hb4
  replace o := o.trans (hb4.mono o.size)
  have z8 := row_lt R
  clear hb4
  have INA := Lib.hid inA
  clear inA
  have LI : RowKit.Hid ((incl l (seq + 1) now v).length = 0 + 1) := Lib.hid (by rw [incl_len, HL.out])
  have PP := Lib.hid (pprune (closeB k) 70 (w.heap.size) A4 (0 + 1) c4 (incl l (seq + 1) now v) w4 INA.out (by omega) fc_run (fun i j w' hij hj hb => by
    have hi1 := HVI.out.one _ (mkAt_mem (l := incl l (seq + 1) now v) (i := i) (by rw [LI.out]; omega))
    have hj1 := HVI.out.one _ (mkAt_mem (l := incl l (seq + 1) now v) (i := j) (by rw [LI.out]; omega))
    exact pclos_flat wd k cap now (seq + 1) A 0 c (w.heap.size) (mkAt (incl l (seq + 1) now v) i).seq (mkAt (incl l (seq + 1) now v) i).t (mkAt (incl l (seq + 1) now v) i).n (mkAt (incl l (seq + 1) now v) i).s (mkAt (incl l (seq + 1) now v) i).q (mkAt (incl l (seq + 1) now v) i).lo (mkAt (incl l (seq + 1) now v) i).hi (mkAt (incl l (seq + 1) now v) j).seq (mkAt (incl l (seq + 1) now v) j).t (mkAt (incl l (seq + 1) now v) j).n (mkAt (incl l (seq + 1) now v) j).s (mkAt (incl l (seq + 1) now v) j).q (mkAt (incl l (seq + 1) now v) j).lo (mkAt (incl l (seq + 1) now v) j).hi _ w' (row_call X hb) (fun w => pcloseB k (mkAt (incl l (seq + 1) now v) i) (mkAt (incl l (seq + 1) now v) j) w)))
  obtain ⟨X0, X1, X2, X3, X4, X5, Xf0, Xf1, Xf2, Xf3, Xf4, Xf5⟩ := row_six X
  go_wp2_with fail
  refine PP.out.mono ?_
  rintro e w5 ⟨vp, rfl, ownP, hb5⟩
  obtain ⟨A5, c5, rfl, inP, fr5⟩ := MIn.of_row ownP HMP.out
  have z5 := inP.reads
  clear X0 X1 X2 X3 X4 X5 Xf0 Xf1 Xf2 Xf3 Xf4 Xf5 ownP PP
  replace X := row_call X hb5
  replace R := row_call R hb5
  have z6 := row_lt R
  have o4 := o.size
  replace o := o.trans (hb5.mono o.size)
  have z7 := hb5.size
  have INP := Lib.hid inP
  have FR := Lib.hid fr5
  clear hb5 inP fr5 z5
  generalize hpl : (prune (closeB k) (incl l (seq + 1) now v)).length = pl at INP
  clear hpl
  obtain ⟨X0, X1, X2, X3, X4, X5, Xf0, Xf1, Xf2, Xf3, Xf4, Xf5⟩ := row_six X
  obtain ⟨R0, R1, R2, R3, R4, R5, Rf0, Rf1, Rf2, Rf3, Rf4, Rf5⟩ := row_six R
  have XR := Lib.hid X
  have RR := Lib.hid R
  clear X R
  go_upto_region 10 with (fail)
  have X : Row (w5.setCell ⟨w.heap.size, 5, none⟩ (.slice A5 pl c5)) (w.heap.size) 24 #[.int .i64 wd, .int .i64 k, .int .i64 cap, .int .i64 now, .int .i64 (seq + 1), .slice A5 pl c5] := row_set XR.out 5 _
  have R : Row (w5.setCell ⟨w.heap.size, 5, none⟩ (.slice A5 pl c5)) (w.heap.size + 1) 24 #[.int .i64 0, .int .i64 0, .int .i64 0, .int .i64 0, .int .i64 0, .slice none 0 0] := row_other (p := ⟨w.heap.size, 5, none⟩) RR.out (by show w.heap.size + 1 ≠ w.heap.size; omega) _
  have o6 : Below w.heap.size w (w5.setCell ⟨w.heap.size, 5, none⟩ (.slice A5 pl c5)) := o.setCell (p := ⟨w.heap.size, 5, none⟩) (Nat.le_refl _) _
  have INP6 := Lib.hid (INP.out.keep (w' := w5.setCell ⟨w.heap.size, 5, none⟩ (.slice A5 pl c5)) (by rw [size_setCell]; exact Nat.le_refl _) (fun a e => Below.heap_setCell _ ⟨w.heap.size, 5, none⟩ _ a.block (by have := FR.out a e; show a.block ≠ w.heap.size; omega)))
  have hs6 : w5.heap.size ≤ (w5.setCell ⟨w.heap.size, 5, none⟩ (.slice A5 pl c5)).heap.size := by rw [size_setCell]; exact Nat.le_refl _
  generalize w5.setCell ⟨w.heap.size, 5, none⟩ (.slice A5 pl c5) = w6 at X R o6 INP6 hs6 ⊢
  clear X0 X1 X2 X3 X4 X5 Xf0 Xf1 Xf2 Xf3 Xf4 Xf5 R0 R1 R2 R3 R4 R5 Rf0 Rf1 Rf2 Rf3 Rf4 Rf5 XR RR INP o
  obtain ⟨X0, X1, X2, X3, X4, X5, Xf0, Xf1, Xf2, Xf3, Xf4, Xf5⟩ := row_six X
  obtain ⟨R0, R1, R2, R3, R4, R5, Rf0, Rf1, Rf2, Rf3, Rf4, Rf5⟩ := row_six R
  go_wp2
  have hbge : w.heap.size ≤ w.heap.size + 1 := by omega
  have hkp : ∀ b', b' ≠ w.heap.size + 1 → (((((((w6.setCell ⟨w.heap.size + 1, 0, none⟩ (.int .i64 wd)).setCell ⟨w.heap.size + 1, 1, none⟩ (.int .i64 k)).setCell ⟨w.heap.size + 1, 2, none⟩ (.int .i64 cap)).setCell ⟨w.heap.size + 1, 3, none⟩ (.int .i64 now)).setCell ⟨w.heap.size + 1, 4, none⟩ (.int .i64 (seq + 1))).setCell ⟨w.heap.size + 1, 5, none⟩ (.slice A5 pl c5))).heap[b']? = w6.heap[b']? := fun b' h' => ((Below.heap_setCell _ ⟨w.heap.size + 1, 5, none⟩ (.slice A5 pl c5) b' h').trans ((Below.heap_setCell _ ⟨w.heap.size + 1, 4, none⟩ (.int .i64 (seq + 1)) b' h').trans ((Below.heap_setCell _ ⟨w.heap.size + 1, 3, none⟩ (.int .i64 now) b' h').trans ((Below.heap_setCell _ ⟨w.heap.size + 1, 2, none⟩ (.int .i64 cap) b' h').trans ((Below.heap_setCell _ ⟨w.heap.size + 1, 1, none⟩ (.int .i64 k) b' h').trans ((Below.heap_setCell _ ⟨w.heap.size + 1, 0, none⟩ (.int .i64 wd) b' h').trans rfl))))))
  have hksz : w6.heap.size ≤ (((((((w6.setCell ⟨w.heap.size + 1, 0, none⟩ (.int .i64 wd)).setCell ⟨w.heap.size + 1, 1, none⟩ (.int .i64 k)).setCell ⟨w.heap.size + 1, 2, none⟩ (.int .i64 cap)).setCell ⟨w.heap.size + 1, 3, none⟩ (.int .i64 now)).setCell ⟨w.heap.size + 1, 4, none⟩ (.int .i64 (seq + 1))).setCell ⟨w.heap.size + 1, 5, none⟩ (.slice A5 pl c5))).heap.size := by simp only [size_setCell]; exact Nat.le_refl _
  have R9 : Row ((((((w6.setCell ⟨w.heap.size + 1, 0, none⟩ (.int .i64 wd)).setCell ⟨w.heap.size + 1, 1, none⟩ (.int .i64 k)).setCell ⟨w.heap.size + 1, 2, none⟩ (.int .i64 cap)).setCell ⟨w.heap.size + 1, 3, none⟩ (.int .i64 now)).setCell ⟨w.heap.size + 1, 4, none⟩ (.int .i64 (seq + 1))).setCell ⟨w.heap.size + 1, 5, none⟩ (.slice A5 pl c5)) (w.heap.size + 1) 24 #[.int .i64 wd, .int .i64 k, .int .i64 cap, .int .i64 now, .int .i64 (seq + 1), .slice A5 pl c5] := (row_set (row_set (row_set (row_set (row_set (row_set R 0 (.int .i64 wd)) 1 (.int .i64 k)) 2 (.int .i64 cap)) 3 (.int .i64 now)) 4 (.int .i64 (seq + 1))) 5 (.slice A5 pl c5))
  have o9 : Below w.heap.size w ((((((w6.setCell ⟨w.heap.size + 1, 0, none⟩ (.int .i64 wd)).setCell ⟨w.heap.size + 1, 1, none⟩ (.int .i64 k)).setCell ⟨w.heap.size + 1, 2, none⟩ (.int .i64 cap)).setCell ⟨w.heap.size + 1, 3, none⟩ (.int .i64 now)).setCell ⟨w.heap.size + 1, 4, none⟩ (.int .i64 (seq + 1))).setCell ⟨w.heap.size + 1, 5, none⟩ (.slice A5 pl c5)) := (Below.setCell (p := ⟨w.heap.size + 1, 5, none⟩) (Below.setCell (p := ⟨w.heap.size + 1, 4, none⟩) (Below.setCell (p := ⟨w.heap.size + 1, 3, none⟩) (Below.setCell (p := ⟨w.heap.size + 1, 2, none⟩) (Below.setCell (p := ⟨w.heap.size + 1, 1, none⟩) (Below.setCell (p := ⟨w.heap.size + 1, 0, none⟩) o6 hbge (.int .i64 wd)) hbge (.int .i64 k)) hbge (.int .i64 cap)) hbge (.int .i64 now)) hbge (.int .i64 (seq + 1))) hbge (.slice A5 pl c5))
  generalize ((((((w6.setCell ⟨w.heap.size + 1, 0, none⟩ (.int .i64 wd)).setCell ⟨w.heap.size + 1, 1, none⟩ (.int .i64 k)).setCell ⟨w.heap.size + 1, 2, none⟩ (.int .i64 cap)).setCell ⟨w.heap.size + 1, 3, none⟩ (.int .i64 now)).setCell ⟨w.heap.size + 1, 4, none⟩ (.int .i64 (seq + 1))).setCell ⟨w.heap.size + 1, 5, none⟩ (.slice A5 pl c5)) = w9 at R9 o9 hkp hksz ⊢
  obtain ⟨N0, N1, N2, N3, N4, N5, Nf0, Nf1, Nf2, Nf3, Nf4, Nf5⟩ := row_six R9
  exact bodyPost_ret (v := .tuple #[.agg #[.int .i64 wd, .int .i64 k, .int .i64 cap, .int .i64 now, .int .i64 (seq + 1), .slice A5 pl c5], .int .i64 0]) (by simp [results, Try.results29, go_sem, List.getElem?_toArray, N0, N1, N2, N3, N4, N5]) rfl (spret_ok (INP6.out.keep hksz (fun a e => hkp a.block (by have := FR.out a e; omega))) o9 (fun a e => .inl (by have := FR.out a e; omega)))
theorem pspadd (A : Option Addr) (m c : Nat) (l : List Mk) (wd k cap now seq : Int) (v : Int) (w : World) (hin : MIn A m c l w) (sB : I64 seq) (hmm : m ≤ 100000) : Calls Try.prog 29 #[.agg #[.int .i64 wd, .int .i64 k, .int .i64 cap, .int .i64 now, .int .i64 seq, .slice A m c], .int .i64 v] w fun e w' => SpRet A (spAdd wd k cap now seq l v) w e w' := by
  rcases spvalE_two (wd := wd) (k := k) (cap := cap) (now := now) (seq := seq) (l := l) with hv | hv
  · by_cases h0 : v < (-4096)
    · exact pspadd_b1 A m c l wd k cap now seq v w hin sB hv h0
    · by_cases h1 : 4096 < v
      · exact pspadd_b2 A m c l wd k cap now seq v w hin sB hv h0 h1
      · have hl := hin.len
        by_cases hm0 : 0 < m
        · have hne : l ≠ [] := fun e => by rw [e] at hl; simp at hl; omega
          by_cases hn : (mkAt l 0).n = cap
          · exact pspadd_c1 A m c l wd k cap now seq v w hin sB hv h0 h1 hm0 hn (.inl ⟨hne, hn⟩)
          · by_cases hs : seq = 1099511627776
            · exact pspadd_c2 A m c l wd k cap now seq v w hin sB hv h0 h1 hm0 hn hs (.inr hs)
            · exact pspadd_d1 A m c l wd k cap now seq v w hin sB hv h0 h1 hmm hm0 hn hs (fun a => a.elim (fun a => hn a.2) hs)
        · obtain rfl : m = 0 := by omega
          have he : l = [] := by simpa using hl
          by_cases hs : seq = 1099511627776
          · exact pspadd_c3 A c l wd k cap now seq v w hin sB hv h0 h1 hs (.inr hs)
          · exact pspadd_d0 A c l wd k cap now seq v w hin sB hv h0 h1 hs (fun a => a.elim (fun a => a.1 he) hs)
  · exact pspadd_a A m c l wd k cap now seq v w hin sB hv
end Go.Proofs.Ytaiepjcnncajcaa
end
section
/- A law on statements whose order is open and whose last operations wait for all the others: the operations ahead of them are taken in whatever order, a condition S on the world holding behind each of them; the last ones stand in their own order, and S need not outlive them. -/
set_option linter.unusedVariables false
set_option linter.unusedSimpArgs false
set_option linter.unusedSectionVars false
set_option linter.unnecessarySimpa false
namespace Go.Proofs.Ytaiepjcnncajcaa
open Go.RowKit
section
variable {P : Program} {ops : Array Oper} {md : Region.Mode} {S : World → Prop} {Q : Exit → Act → World → Prop} {n g : Nat} {tail : List Oper}
/-- What is left of the operations ahead, in whatever order; then the last ones. -/
def HeadW (P : Program) (md : Region.Mode) (ops : Array Oper) (S : World → Prop) (Q : Exit → Act → World → Prop) (n g : Nat) (tail : List Oper) : Nat → Array Bool → Act → World → Prop
  | 0, listed, a, w => Region.seqB md ops g n listed = true ∧ wpList P ops Q tail a w
  | f + 1, listed, a, w => Region.ready md ops listed ≠ [] ∧ ∀ i ∈ Region.ready md ops listed, i < n ∧ wpOp P ops Q i (fun a' w' => S w' ∧ HeadW P md ops S Q n g tail f (listed.setIfInBounds i true) a' w') a w
theorem headW_any (hg : tail.length = g) (ht : ∀ j, tail[j]? = ops[n + j]?) : ∀ (f : Nat) (listed : Array Bool) (a : Act) (w : World), HeadW P md ops S Q n g tail f listed a w → wpAny P md ops Q (f + g) listed a w
  | 0, listed, a, w, h => by
    rw [Nat.zero_add]
    subst hg
    exact wpAny_of_seq tail n listed a w ht h.1 h.2
  | f + 1, listed, a, w, h => by
    rw [show f + 1 + g = (f + g) + 1 from by omega]
    exact ⟨fun h0 => absurd h0 h.1, fun i hi => wpOp_mono (fun a' w' h' => headW_any hg ht f _ a' w' h'.2) (h.2 i hi).2⟩
/-- The conditions on the statement. -/
structure PhaseOK (md : Region.Mode) (ops : Array Oper) (n : Nat) : Prop where
  sel : Region.noSelect ops = true
  sink : Region.sinkB md ops n = true
  chain : Region.chainB md ops n = true
  lt : n < ops.size
theorem headW_first (ok : PhaseOK md ops n) {i : Nat} {oi : Oper} {v : Value} (hi : ops[i]? = some oi) (hin : i < n) (hQ : ∀ c a w, Q (.panic c) (a.put oi.dst v) w → Q (.panic c) a w) :
    ∀ (f : Nat) (listed : Array Bool) (a : Act) (w : World), HeadInv md ops n listed →
      (∀ j oj, ops[j]? = some oj → j ≠ i → listed.getD j true = false → (∀ e ∈ oj.after, Region.binds md e = true → e.on ≠ i) → oi.apart ops oj = true) →
      i ∈ Region.ready md ops listed → YieldsIf P ops S oi v a → S w → HeadW P md ops S Q n g tail f (listed.setIfInBounds i true) (a.put oi.dst v) w → HeadW P md ops S Q n g tail (f + 1) listed a w := by
  have hsel := Region.noSelect_spec ok.sel
  intro f
  induction f with
  | zero =>
    intro listed a w inv _ hr hy hS H
    refine ⟨fun h0 => by rw [h0] at hr; exact absurd hr (by simp), fun j hj => ?_⟩
    have hjn : j < n := Nat.lt_of_not_le fun hle => tail_waits ok.sink ok.chain ok.lt inv _ i rfl hin (mem_ready.1 hr).1 j hle hj
    by_cases hji : j = i
    · subst hji
      exact ⟨hjn, hy.wpOp hi hS ⟨hS, H⟩⟩
    · exact absurd (seqB_ready H.1 j (ready_mono hj hji)) (by omega)
  | succ f ih =>
    intro listed a w inv hfree hr hy hS H
    refine ⟨fun h0 => by rw [h0] at hr; exact absurd hr (by simp), fun j hj => ?_⟩
    have hun := (mem_ready.1 hr).1
    have hjn : j < n := Nat.lt_of_not_le fun hle => tail_waits ok.sink ok.chain ok.lt inv _ i rfl hin hun j hle hj
    by_cases hji : j = i
    · subst hji
      exact ⟨hjn, hy.wpOp hi hS ⟨hS, H⟩⟩
    · have h1 := (H.2 j (ready_mono hj hji)).2
      obtain ⟨hjun, oj, hoj, hall⟩ := mem_ready.1 hj
      have hnot : ∀ e ∈ oj.after, Region.binds md e = true → e.on ≠ i := fun e he hb heq => by
        have h1 := hall e he hb
        rw [heq, getD_both hun] at h1
        cases h1
      have h2 := wpOp_putIf hoj (hfree j oj hoj hji hjun hnot) (fun cs b => hsel i oi cs b hi) (fun cs b => hsel j oj cs b hoj) hQ hy h1
      refine ⟨hjn, wpOp_mono (fun a' w' h3 => ⟨h3.2.1, ih (listed.setIfInBounds j true) a' w' (inv.set hj hjn) (fun k ok' hk hki hku hno => ?_) (ready_mono hr (Ne.symm hji)) h3.1 h3.2.1 ?_⟩) h2⟩
      · refine hfree k ok' hk hki ?_ hno
        by_cases hjk : j = k
        · subst hjk
          exact hjun
        · rw [getD_set_ne true hjk] at hku
          exact hku
      · rw [Array.setIfInBounds_comm _ _ hji]
        exact h3.2.2
/-- The same, where what is listed hangs together. -/
def HW (P : Program) (md : Region.Mode) (ops : Array Oper) (S : World → Prop) (Q : Exit → Act → World → Prop) (n g : Nat) (tail : List Oper) (f : Nat) (listed : Array Bool) (a : Act) (w : World) : Prop :=
  HeadInv md ops n listed → HeadW P md ops S Q n g tail f listed a w
variable {f : Nat} {listed : Array Bool} {a : Act} {w : World}
/-- An operation that gives one value in every world that meets S is taken first. -/
theorem hw_take (ok : PhaseOK md ops n) {i : Nat} {oi : Oper} (v : Value) (hi : ops[i]? = some oi) (hin : i < n) (hf : Region.free md ops listed i = true) (hr : (Region.ready md ops listed).contains i = true)
    (hQ : ∀ c a w, Q (.panic c) (a.put oi.dst v) w → Q (.panic c) a w) (hy : YieldsIf P ops S oi v a) (hS : S w) (h : HW P md ops S Q n g tail f (listed.setIfInBounds i true) (a.put oi.dst v) w) : HW P md ops S Q n g tail (f + 1) listed a w := fun inv =>
  have hr' : i ∈ Region.ready md ops listed := by simpa using hr
  headW_first ok hi hin hQ f listed a w inv (Region.free_spec hi hf) hr' hy hS (h (inv.set hr' hin))
/-- One operation alone may come up. -/
theorem hw_one {i : Nat} {oi : Oper} (hi : ops[i]? = some oi) (hin : i < n) (hr : Region.ready md ops listed = [i])
    (h : ∀ K : Act → World → Prop, (∀ a' w', S w' → HW P md ops S Q n g tail f (listed.setIfInBounds i true) a' w' → K a' w') → if Region.wanted oi (yielded ops a.tmps) = true then Oper.wp P oi a w K Q else K (a.put oi.dst undef) w) : HW P md ops S Q n g tail (f + 1) listed a w := fun inv => by
  refine ⟨by rw [hr]; simp, fun j hj => ?_⟩
  have hj' := hj
  rw [hr] at hj
  obtain rfl : j = i := by simpa using hj
  refine ⟨hin, ?_⟩
  have := h (fun a' w' => S w' ∧ HeadW P md ops S Q n g tail f (listed.setIfInBounds j true) a' w') (fun a' w' hS hh => ⟨hS, hh (inv.set hj' hin)⟩)
  unfold wpOp
  simp only [hi]
  split at this
  · rename_i hw
    simp only [hw, if_true]
    exact .inl this
  · rename_i hw
    simp only [hw]
    exact this
theorem hw_done (hB : Region.seqB md ops g n listed = true) (h : wpList P ops Q tail a w) : HW P md ops S Q n g tail 0 listed a w := fun _ => ⟨hB, h⟩
/-- The statement: n operations ahead of those that wait. -/
theorem wp_region_phase {id : Nat} {l : List Oper} (n : Nat) (S : World → Prop) (hm : P.follows .mixedOrders = true) (hsel : Region.noSelect l.toArray = true) (hs : Region.sinkB .any l.toArray n = true) (hc : Region.chainB .any l.toArray n = true) (hn : decide (n < l.toArray.size) = true)
    (h : PhaseOK .any l.toArray n → HW P .any l.toArray S Q n (l.drop n).length (l.drop n) n (Array.replicate l.toArray.size false) a w.drew) : (Code.region id l.toArray true).wp P Q a w := by
  have hn := of_decide_eq_true hn
  refine wp_region_any hm ?_
  have inv0 : HeadInv .any l.toArray n (Array.replicate l.toArray.size false) :=
    ⟨by simp, fun j oj _ hl => (by rw [getD_replicate_false] at hl; cases hl), fun t _ ht => getD_in (by simpa using ht) (getD_replicate_false _ _)⟩
  have H := headW_any (P := P) (S := S) (Q := Q) (md := .any) (ops := l.toArray) (n := n) (tail := l.drop n) rfl (fun j => by simp [List.getElem?_drop]) n _ a _ (h ⟨hsel, hs, hc, hn⟩ inv0)
  have e : n + (l.drop n).length = l.toArray.size := by
    have : n < l.length := by simpa using hn
    simp
    omega
  rw [e] at H
  exact H
end
end Go.Proofs.Ytaiepjcnncajcaa
end
section
/- Spread histograms: a value more by the reference, walked. -/
set_option linter.unusedVariables false
set_option linter.unusedSimpArgs false
set_option linter.unusedSectionVars false
set_option linter.unnecessarySimpa false
namespace Go.Proofs.Ytaiepjcnncajcaa
open Go.RowKit
theorem step_clone {P : Program} {w1 : World} {ops : Array Oper} {o : Oper} {a : Act} {K : Act → World → Prop} {Q : Exit → Act → World → Prop} {E : Prop} (hgd : o.guard = none) (s x : Operand) (t : TypeId)
    (ho : o.op = .call { callee := .builtin .append, args := #[s, x], argTypes := #[t, t] })
    (e : TypeId) (i : TypeInfo) (z : Value) (size bytes : Nat) (ht : P.underlying t = some (.slice e)) (hi : P.info? e = some i) (hz : i.zero = some z)
    (hsize : i.size = size) (hby : i.bytes = bytes) (hzs : z.cells.size = size) (hsz : 0 < size)
    (hs : a.eval s = .slice (some ⟨w1.heap.size, 0, none⟩) 0 0)
    (B : Nat) (A : Option Addr) (m c : Nat) (news : List Value) (hx : a.eval x = .slice A m c) (hr : Reads w1 B size A m news) (hB : B ≤ w1.heap.size) (h1 : ∀ u ∈ news, u.oneCell' = true)
    (h63 : m ≤ maxLen) (hbytes : m * bytes ≤ 140737488355328)
    (h : ∀ g c' w', Own w' e size g m c' news → w1.heap.size ≤ g → Below w1.heap.size w1 w' → w1.heap.size + 1 ≤ w'.heap.size → K (a.put o.dst (.slice (some ⟨g, 0, none⟩) m c')) w') :
    if Region.wanted o (yielded ops a.tmps) = true then Oper.wp P o a (w1.alloc (.cells #[] e)).drew K Q else E := by
  refine step_append_any (w1.alloc (.cells #[] e)).drew hgd s x t ho w1.heap.size e i z size bytes ht hi hz hsize hby hzs hsz (.slice (some ⟨w1.heap.size, 0, none⟩) 0 0) 0 [] hs
    ((own_new (n := 0) rfl (by unfold maxLen; omega) (by simp)).drew.row (Nat.le_refl _)) B A m c news hx ((hr.alloc hB _).drew) h1 (by omega) (by simpa using hbytes) (by simp) ?_
  intro v' w' hown hg hat
  rw [Nat.zero_add, List.nil_append] at hown
  have hv : ∃ g c', v' = .slice (some ⟨g, 0, none⟩) m c' := by
    rcases hown.2 with ⟨hv, _⟩ | ⟨g, c', cur, hv, _⟩
    · subst hv
      simp [Value.ownBlock] at hat
    · exact ⟨g, c', hv⟩
  obtain ⟨g, c', rfl⟩ := hv
  obtain ⟨ho', hbg⟩ := own_of_row hown
  refine h g c' w' ho' hbg ?_ ?_
  · exact below_grown ((Below.refl _ _).alloc (Nat.le_refl _) _).drew hg (fun k hk => by simp [Value.ownBlock] at hk; omega) (by simp)
  · have := hg.size
    simpa using this
theorem rvalue9D (v : Int) (w : World) : Calls Try.prog 73 #[.int .i64 v] w fun e w' => e = .returned (.bool (decide (-4096 ≤ v ∧ v ≤ 4096))) ∧ w' = w := by
  by_cases h0 : v < -4096
  · rw [decide_eq_false (by omega)]; exact rval9_0 v w h0
  · by_cases h1 : 4096 < v
    · rw [decide_eq_false (by omega)]; exact rval9_1 v w (by omega) h1
    · rw [decide_eq_true (by omega)]; exact rval9_2 v w (by omega) (by omega)
theorem take_snoc_mk {l : List Mk} {j : Nat} (h : j < l.length) : l.take (j + 1) = l.take j ++ [mkAt l j] := mk_take h
theorem prune_stepA {nr : Mk → Mk → Bool} {L : List Mk} {k : Nat} (hk : k < L.length) (h : ∀ e, k < e → e < L.length → nr (mkAt L k) (mkAt L e) = false) : L.take k ++ prune nr (L.drop k) = L.take (k + 1) ++ prune nr (L.drop (k + 1)) := by
  rw [drop_mk hk, prune_cons, lastN_none (fun i hi => by rw [List.length_drop] at hi; rw [mkAt_drop]; exact h _ (by omega) (by omega)), List.drop_zero, take_snoc_mk hk, List.append_assoc]
  rfl
theorem prune_stepB {nr : Mk → Mk → Bool} {L : List Mk} {k J : Nat} (hk : k < J) (hJ : J < L.length) (h1 : nr (mkAt L k) (mkAt L J) = true) (h : ∀ e, J < e → e < L.length → nr (mkAt L k) (mkAt L e) = false) : L.take k ++ prune nr (L.drop k) = L.take (k + 1) ++ prune nr (L.drop J) := by
  have hk' : k < L.length := by omega
  rw [drop_mk hk', prune_cons, lastN_is (p := J - (k + 1)) (by rw [List.length_drop]; omega) (by rw [mkAt_drop, show k + 1 + (J - (k + 1)) = J by omega]; exact h1) (fun i h2 h3 => by rw [List.length_drop] at h3; rw [mkAt_drop]; exact h _ (by omega) (by omega)), List.drop_drop, show k + 1 + (J - (k + 1)) = J by omega, take_snoc_mk hk', List.append_assoc]
  rfl
def JSpec (nr : Mk → Mk → Bool) (L : List Mk) (k J N : Nat) : Prop := (J = k ∧ ∀ e, k < e → e < N → nr (mkAt L k) (mkAt L e) = false) ∨ (k < J ∧ J < N ∧ nr (mkAt L k) (mkAt L J) = true ∧ ∀ e, J < e → e < N → nr (mkAt L k) (mkAt L e) = false)
theorem JSpec.no {nr : Mk → Mk → Bool} {L : List Mk} {k J N : Nat} (h : JSpec nr L k J N) (hn : nr (mkAt L k) (mkAt L N) = false) : JSpec nr L k J (N + 1) := by
  rcases h with ⟨h1, h2⟩ | ⟨h1, h2, h3, h4⟩
  · refine .inl ⟨h1, fun e g1 g2 => ?_⟩
    rcases Nat.lt_or_ge e N with g | g
    · exact h2 e g1 g
    · rw [show e = N by omega]; exact hn
  · refine .inr ⟨h1, by omega, h3, fun e g1 g2 => ?_⟩
    rcases Nat.lt_or_ge e N with g | g
    · exact h4 e g1 g
    · rw [show e = N by omega]; exact hn
theorem MIn.pre {A : Option Addr} {m c k : Nat} {l : List Mk} {w : World} (h : MIn A m c l w) (hk : k ≤ m) : Reads w w.heap.size 7 A k (mcells (l.take k)) := by
  have hl := h.len
  refine ⟨by rw [mcells_len, List.length_take, hl]; omega, fun hn => ?_⟩
  obtain ⟨ad, e, hb, hc⟩ := h.reads.2 (by omega)
  refine ⟨ad, e, hb, fun j u hu => hc j u ?_⟩
  rw [← mcells_take, List.getElem?_take] at hu
  split at hu
  · exact hu
  · cases hu
theorem MIn.post {ad : Addr} {m c k : Nat} {l : List Mk} {w : World} (h : MIn (some ad) m c l w) (hk : k ≤ m) : Reads w w.heap.size 7 (some (ad.add (k * 7))) (m - k) (mcells (l.drop k)) := by
  have hl := h.len
  refine ⟨by rw [mcells_len, List.length_drop, hl], fun hn => ?_⟩
  obtain ⟨ad', e, hb, hc⟩ := h.reads.2 (by omega)
  obtain rfl : ad = ad' := by injection e
  refine ⟨_, rfl, by rw [block_of_add]; exact hb, fun j u hu => ?_⟩
  rw [add_of_add]
  rw [← mcells_drop, List.getElem?_drop] at hu
  exact hc _ u hu
theorem JSpec.yes {nr : Mk → Mk → Bool} {L : List Mk} {k N : Nat} (hk : k < N) (hn : nr (mkAt L k) (mkAt L N) = true) : JSpec nr L k N (N + 1) := .inr ⟨hk, by omega, hn, fun e g1 g2 => absurd g1 (by omega)⟩
set_option maxRecDepth 100000 in
theorem rspadd_a (A : Option Addr) (m c : Nat) (l : List Mk) (wd k cap now seq : Int) (v : Int) (w : World) (hin : MIn A m c l w) (sB : I64 seq) (hv : spvalE wd k cap now seq l = 2) : Calls Try.prog 32 #[.agg #[.int .i64 wd, .int .i64 k, .int .i64 cap, .int .i64 now, .int .i64 seq, .slice A m c], .int .i64 v] w fun e w' => SpRet A (spAdd wd k cap now seq l v) w e w' := by
  rw [spAdd_a hv]
  have P := fun w' (hb : Below w.heap.size w w') => rvalP A m c l wd k cap now seq w' (hin.below hb) sB
  rw [hv] at P
  replace P := Lib.hid P
  clear hv hin sB
  go_enter Try.func32, Try.ntmps32
  go_wp2_with (first | (go_at_call 28; with_reducible refine (P.out _ (by (repeat (first | exact Below.refl _ _ | refine Below.setCell ?_ (by first | (simp; done) | (simp; omega) | omega) _ | refine Below.alloc ?_ (by first | (simp; done) | (simp; omega) | omega) _ | refine Below.drew ?_ | refine Below.trans ?_ (Below.mono (by assumption) (by first | (simp; done) | (simp; omega) | omega)))))).mono ?_; rintro e w1 ⟨rfl, hb1⟩; have hz1 := hb1.size; (try simp at hz1); have o1 : Below w.heap.size w w1 := (by (repeat (first | exact Below.refl _ _ | refine Below.setCell ?_ (by first | (simp; done) | (simp; omega) | omega) _ | refine Below.alloc ?_ (by first | (simp; done) | (simp; omega) | omega) _ | refine Below.drew ?_ | refine Below.trans ?_ (Below.mono (by assumption) (by first | (simp; done) | (simp; omega) | omega))))); have q1_0 : w.heap.size < w1.heap.size := (by omega); have r1_0 : Row w1 (w.heap.size) 24 #[.int .i64 wd, .int .i64 k, .int .i64 cap, .int .i64 now, .int .i64 seq, .slice A m c] := row_call (by (repeat (first | assumption | (refine row_new ?_; (first | (simp; done) | omega)) | refine row_alloc ?_ _ | refine row_drew ?_ | refine row_call ?_ (by assumption)))) hb1; obtain ⟨c1_0a, c1_0b, c1_0c, c1_0d, c1_0e, c1_0f, f1_0a, f1_0b, f1_0c, f1_0d, f1_0e, f1_0f⟩ := row_six r1_0; have q1_1 : w.heap.size + 1 < w1.heap.size := (by omega); have r1_1 : Row w1 (w.heap.size + 1) 24 #[.int .i64 0, .int .i64 0, .int .i64 0, .int .i64 0, .int .i64 0, .slice none 0 0] := row_call (by (repeat (first | assumption | (refine row_new ?_; (first | (simp; done) | omega)) | refine row_alloc ?_ _ | refine row_drew ?_ | refine row_call ?_ (by assumption)))) hb1; obtain ⟨c1_1a, c1_1b, c1_1c, c1_1d, c1_1e, c1_1f, f1_1a, f1_1b, f1_1c, f1_1d, f1_1e, f1_1f⟩ := row_six r1_1))
  have hbge : w.heap.size ≤ w.heap.size + 1 := by omega
  have R9 : Row ((((((w1.setCell ⟨w.heap.size + 1, 0, none⟩ (.int .i64 0)).setCell ⟨w.heap.size + 1, 1, none⟩ (.int .i64 0)).setCell ⟨w.heap.size + 1, 2, none⟩ (.int .i64 0)).setCell ⟨w.heap.size + 1, 3, none⟩ (.int .i64 0)).setCell ⟨w.heap.size + 1, 4, none⟩ (.int .i64 0)).setCell ⟨w.heap.size + 1, 5, none⟩ (.slice none 0 0)) (w.heap.size + 1) 24 #[.int .i64 0, .int .i64 0, .int .i64 0, .int .i64 0, .int .i64 0, .slice none 0 0] := (row_set (row_set (row_set (row_set (row_set (row_set r1_1 0 (.int .i64 0)) 1 (.int .i64 0)) 2 (.int .i64 0)) 3 (.int .i64 0)) 4 (.int .i64 0)) 5 (.slice none 0 0))
  have o9 : Below w.heap.size w ((((((w1.setCell ⟨w.heap.size + 1, 0, none⟩ (.int .i64 0)).setCell ⟨w.heap.size + 1, 1, none⟩ (.int .i64 0)).setCell ⟨w.heap.size + 1, 2, none⟩ (.int .i64 0)).setCell ⟨w.heap.size + 1, 3, none⟩ (.int .i64 0)).setCell ⟨w.heap.size + 1, 4, none⟩ (.int .i64 0)).setCell ⟨w.heap.size + 1, 5, none⟩ (.slice none 0 0)) := (Below.setCell (p := ⟨w.heap.size + 1, 5, none⟩) (Below.setCell (p := ⟨w.heap.size + 1, 4, none⟩) (Below.setCell (p := ⟨w.heap.size + 1, 3, none⟩) (Below.setCell (p := ⟨w.heap.size + 1, 2, none⟩) (Below.setCell (p := ⟨w.heap.size + 1, 1, none⟩) (Below.setCell (p := ⟨w.heap.size + 1, 0, none⟩) o1 hbge (.int .i64 0)) hbge (.int .i64 0)) hbge (.int .i64 0)) hbge (.int .i64 0)) hbge (.int .i64 0)) hbge (.slice none 0 0))
  generalize ((((((w1.setCell ⟨w.heap.size + 1, 0, none⟩ (.int .i64 0)).setCell ⟨w.heap.size + 1, 1, none⟩ (.int .i64 0)).setCell ⟨w.heap.size + 1, 2, none⟩ (.int .i64 0)).setCell ⟨w.heap.size + 1, 3, none⟩ (.int .i64 0)).setCell ⟨w.heap.size + 1, 4, none⟩ (.int .i64 0)).setCell ⟨w.heap.size + 1, 5, none⟩ (.slice none 0 0)) = w9 at R9 o9 ⊢
  obtain ⟨N0, N1, N2, N3, N4, N5, Nf0, Nf1, Nf2, Nf3, Nf4, Nf5⟩ := row_six R9
  exact bodyPost_ret (v := .tuple #[.agg #[.int .i64 0, .int .i64 0, .int .i64 0, .int .i64 0, .int .i64 0, .slice none 0 0], .int .i64 2]) (by simp [results, Try.results32, go_sem, List.getElem?_toArray, N0, N1, N2, N3, N4, N5]) rfl (spret_zero o9)
set_option maxRecDepth 100000 in
theorem rspadd_b (A : Option Addr) (m c : Nat) (l : List Mk) (wd k cap now seq : Int) (v : Int) (w : World) (hin : MIn A m c l w) (sB : I64 seq) (hv : spvalE wd k cap now seq l = 0) (h1 : v < (-4096) ∨ 4096 < v) : Calls Try.prog 32 #[.agg #[.int .i64 wd, .int .i64 k, .int .i64 cap, .int .i64 now, .int .i64 seq, .slice A m c], .int .i64 v] w fun e w' => SpRet A (spAdd wd k cap now seq l v) w e w' := by
  rw [spAdd_b hv h1]
  have PV := fun w => rvalue9D v w
  rw [decide_eq_false (by omega)] at PV
  replace PV := Lib.hid PV
  have P := fun w' (hb : Below w.heap.size w w') => rvalP A m c l wd k cap now seq w' (hin.below hb) sB
  rw [hv] at P
  replace P := Lib.hid P
  clear hv hin sB h1
  go_enter Try.func32, Try.ntmps32
  go_wp2_with (first | (go_at_call 28; with_reducible refine (P.out _ (by (repeat (first | exact Below.refl _ _ | refine Below.setCell ?_ (by first | (simp; done) | (simp; omega) | omega) _ | refine Below.alloc ?_ (by first | (simp; done) | (simp; omega) | omega) _ | refine Below.drew ?_ | refine Below.trans ?_ (Below.mono (by assumption) (by first | (simp; done) | (simp; omega) | omega)))))).mono ?_; rintro e w1 ⟨rfl, hb1⟩; have hz1 := hb1.size; (try simp at hz1); have o1 : Below w.heap.size w w1 := (by (repeat (first | exact Below.refl _ _ | refine Below.setCell ?_ (by first | (simp; done) | (simp; omega) | omega) _ | refine Below.alloc ?_ (by first | (simp; done) | (simp; omega) | omega) _ | refine Below.drew ?_ | refine Below.trans ?_ (Below.mono (by assumption) (by first | (simp; done) | (simp; omega) | omega))))); have q1_0 : w.heap.size < w1.heap.size := (by omega); have r1_0 : Row w1 (w.heap.size) 24 #[.int .i64 wd, .int .i64 k, .int .i64 cap, .int .i64 now, .int .i64 seq, .slice A m c] := row_call (by (repeat (first | assumption | (refine row_new ?_; (first | (simp; done) | omega)) | refine row_alloc ?_ _ | refine row_drew ?_ | refine row_call ?_ (by assumption)))) hb1; obtain ⟨c1_0a, c1_0b, c1_0c, c1_0d, c1_0e, c1_0f, f1_0a, f1_0b, f1_0c, f1_0d, f1_0e, f1_0f⟩ := row_six r1_0; have q1_1 : w.heap.size + 1 < w1.heap.size := (by omega); have r1_1 : Row w1 (w.heap.size + 1) 24 #[.int .i64 0, .int .i64 0, .int .i64 0, .int .i64 0, .int .i64 0, .slice none 0 0] := row_call (by (repeat (first | assumption | (refine row_new ?_; (first | (simp; done) | omega)) | refine row_alloc ?_ _ | refine row_drew ?_ | refine row_call ?_ (by assumption)))) hb1; obtain ⟨c1_1a, c1_1b, c1_1c, c1_1d, c1_1e, c1_1f, f1_1a, f1_1b, f1_1c, f1_1d, f1_1e, f1_1f⟩ := row_six r1_1) | (go_at_call 73; with_reducible refine (PV.out _).mono ?_; rintro e w9 ⟨rfl, h9⟩; obtain rfl := h9.symm))
  have hbge : w.heap.size ≤ w.heap.size + 1 := by omega
  have R9 : Row ((((((w1.setCell ⟨w.heap.size + 1, 0, none⟩ (.int .i64 0)).setCell ⟨w.heap.size + 1, 1, none⟩ (.int .i64 0)).setCell ⟨w.heap.size + 1, 2, none⟩ (.int .i64 0)).setCell ⟨w.heap.size + 1, 3, none⟩ (.int .i64 0)).setCell ⟨w.heap.size + 1, 4, none⟩ (.int .i64 0)).setCell ⟨w.heap.size + 1, 5, none⟩ (.slice none 0 0)) (w.heap.size + 1) 24 #[.int .i64 0, .int .i64 0, .int .i64 0, .int .i64 0, .int .i64 0, .slice none 0 0] := (row_set (row_set (row_set (row_set (row_set (row_set r1_1 0 (.int .i64 0)) 1 (.int .i64 0)) 2 (.int .i64 0)) 3 (.int .i64 0)) 4 (.int .i64 0)) 5 (.slice none 0 0))
  have o9 : Below w.heap.size w ((((((w1.setCell ⟨w.heap.size + 1, 0, none⟩ (.int .i64 0)).setCell ⟨w.heap.size + 1, 1, none⟩ (.int .i64 0)).setCell ⟨w.heap.size + 1, 2, none⟩ (.int .i64 0)).setCell ⟨w.heap.size + 1, 3, none⟩ (.int .i64 0)).setCell ⟨w.heap.size + 1, 4, none⟩ (.int .i64 0)).setCell ⟨w.heap.size + 1, 5, none⟩ (.slice none 0 0)) := (Below.setCell (p := ⟨w.heap.size + 1, 5, none⟩) (Below.setCell (p := ⟨w.heap.size + 1, 4, none⟩) (Below.setCell (p := ⟨w.heap.size + 1, 3, none⟩) (Below.setCell (p := ⟨w.heap.size + 1, 2, none⟩) (Below.setCell (p := ⟨w.heap.size + 1, 1, none⟩) (Below.setCell (p := ⟨w.heap.size + 1, 0, none⟩) o1 hbge (.int .i64 0)) hbge (.int .i64 0)) hbge (.int .i64 0)) hbge (.int .i64 0)) hbge (.int .i64 0)) hbge (.slice none 0 0))
  generalize ((((((w1.setCell ⟨w.heap.size + 1, 0, none⟩ (.int .i64 0)).setCell ⟨w.heap.size + 1, 1, none⟩ (.int .i64 0)).setCell ⟨w.heap.size + 1, 2, none⟩ (.int .i64 0)).setCell ⟨w.heap.size + 1, 3, none⟩ (.int .i64 0)).setCell ⟨w.heap.size + 1, 4, none⟩ (.int .i64 0)).setCell ⟨w.heap.size + 1, 5, none⟩ (.slice none 0 0)) = w9 at R9 o9 ⊢
  obtain ⟨N0, N1, N2, N3, N4, N5, Nf0, Nf1, Nf2, Nf3, Nf4, Nf5⟩ := row_six R9
  exact bodyPost_ret (v := .tuple #[.agg #[.int .i64 0, .int .i64 0, .int .i64 0, .int .i64 0, .int .i64 0, .slice none 0 0], .int .i64 4]) (by simp [results, Try.results32, go_sem, List.getElem?_toArray, N0, N1, N2, N3, N4, N5]) rfl (spret_zero o9)
set_option maxRecDepth 100000 in
set_option maxHeartbeats 2000000 in
theorem rspadd_c1 (A : Option Addr) (m c : Nat) (l : List Mk) (wd k cap now seq : Int) (v : Int) (w : World) (hin : MIn A m c l w) (sB : I64 seq) (hv : spvalE wd k cap now seq l = 0) (h0 : ¬ v < (-4096)) (h1 : ¬ 4096 < v) (hm0 : 0 < m) (hn : (mkAt l 0).n = cap) (hf : smFull cap seq l) : Calls Try.prog 32 #[.agg #[.int .i64 wd, .int .i64 k, .int .i64 cap, .int .i64 now, .int .i64 seq, .slice A m c], .int .i64 v] w fun e w' => SpRet A (spAdd wd k cap now seq l v) w e w' := by
  rw [spAdd_c hv (by omega) hf]
  clear hf
  have PV := fun w => rvalue9D v w
  rw [decide_eq_true ⟨Int.not_lt.1 h0, Int.not_lt.1 h1⟩] at PV
  replace PV := Lib.hid PV
  have P := fun w' (hb : Below w.heap.size w w') => rvalP A m c l wd k cap now seq w' (hin.below hb) sB
  rw [hv] at P
  replace P := Lib.hid P
  have HR := Lib.hid hin
  have HL := Lib.hid hin.len
  clear hin sB h0 h1
  go_enter Try.func32, Try.ntmps32
  go_upto_region 6 with (first | (go_at_call 28; with_reducible refine (P.out _ (by (repeat (first | exact Below.refl _ _ | refine Below.setCell ?_ (by first | (simp; done) | (simp; omega) | omega) _ | refine Below.alloc ?_ (by first | (simp; done) | (simp; omega) | omega) _ | refine Below.drew ?_ | refine Below.trans ?_ (Below.mono (by assumption) (by first | (simp; done) | (simp; omega) | omega)))))).mono ?_; rintro e w1 ⟨rfl, hb1⟩; have hz1 := hb1.size; (try simp at hz1); have o1 : Below w.heap.size w w1 := (by (repeat (first | exact Below.refl _ _ | refine Below.setCell ?_ (by first | (simp; done) | (simp; omega) | omega) _ | refine Below.alloc ?_ (by first | (simp; done) | (simp; omega) | omega) _ | refine Below.drew ?_ | refine Below.trans ?_ (Below.mono (by assumption) (by first | (simp; done) | (simp; omega) | omega))))); have q1_0 : w.heap.size < w1.heap.size := (by omega); have r1_0 : Row w1 (w.heap.size) 24 #[.int .i64 wd, .int .i64 k, .int .i64 cap, .int .i64 now, .int .i64 seq, .slice A m c] := row_call (by (repeat (first | assumption | (refine row_new ?_; (first | (simp; done) | omega)) | refine row_alloc ?_ _ | refine row_drew ?_ | refine row_call ?_ (by assumption)))) hb1; obtain ⟨c1_0a, c1_0b, c1_0c, c1_0d, c1_0e, c1_0f, f1_0a, f1_0b, f1_0c, f1_0d, f1_0e, f1_0f⟩ := row_six r1_0; have q1_1 : w.heap.size + 1 < w1.heap.size := (by omega); have r1_1 : Row w1 (w.heap.size + 1) 24 #[.int .i64 0, .int .i64 0, .int .i64 0, .int .i64 0, .int .i64 0, .slice none 0 0] := row_call (by (repeat (first | assumption | (refine row_new ?_; (first | (simp; done) | omega)) | refine row_alloc ?_ _ | refine row_drew ?_ | refine row_call ?_ (by assumption)))) hb1; obtain ⟨c1_1a, c1_1b, c1_1c, c1_1d, c1_1e, c1_1f, f1_1a, f1_1b, f1_1c, f1_1d, f1_1e, f1_1f⟩ := row_six r1_1) | (go_at_call 73; with_reducible refine (PV.out _).mono ?_; rintro e w9 ⟨rfl, h9⟩; obtain rfl := h9.symm))
  clear P PV
  clear hv
  obtain ⟨ad, rfl, hadb, ht0⟩ := HR.out.reads.mk (i := 0) hm0
  have ht0 : MkCells w ad (mkAt l 0) := ht0
  generalize mkAt l 0 = m0 at ht0 hn
  obtain ⟨sq, tk, n, s, q, lo, hi⟩ := m0
  obtain ⟨q0, q1, q2, q3, q4, q5, q6⟩ := ht0.below o1 hadb
  dsimp only at q0 q1 q2 q3 q4 q5 q6 hn
  clear ht0
  have e0 : decide (0 < m) = true := decide_eq_true hm0
  have g0 : (0 : Int) < (m : Int) := by omega
  have e1 : (n == cap) = true := by simpa using hn
  refine wp_region_quiet_lit (by as_aux_lemma => kernel_rfl) (by as_aux_lemma => kernel_rfl) ?_
  repeat (go_big_quiet_step (fail))
  refine wpQuiet_nil ?_
  intro _ hw'
  obtain ⟨nq, hw''⟩ := hw'
  subst hw''
  replace r1_0 : Row (w1.drewN nq) (w.heap.size) 24 #[.int .i64 wd, .int .i64 k, .int .i64 cap, .int .i64 now, .int .i64 seq, .slice (some ad) m c] := r1_0
  replace r1_1 : Row (w1.drewN nq) (w.heap.size + 1) 24 #[.int .i64 0, .int .i64 0, .int .i64 0, .int .i64 0, .int .i64 0, .slice none 0 0] := r1_1
  replace o1 := o1.trans (⟨rfl, rfl, rfl, Nat.le_refl _, fun _ _ => rfl⟩ : Below _ w1 (w1.drewN nq))
  generalize w1.drewN nq = w2 at r1_0 r1_1 o1 ⊢
  clear c1_0a c1_0b c1_0c c1_0d c1_0e c1_0f f1_0a f1_0b f1_0c f1_0d f1_0e f1_0f c1_1a c1_1b c1_1c c1_1d c1_1e c1_1f f1_1a f1_1b f1_1c f1_1d f1_1e f1_1f
  obtain ⟨Z0, Z1, Z2, Z3, Z4, Z5, Zf0, Zf1, Zf2, Zf3, Zf4, Zf5⟩ := row_six r1_1
  clear r1_0
  clear q0 q1 q2 q3 q4 q5 q6
  go_wp2
  have hbge : w.heap.size ≤ w.heap.size + 1 := by omega
  have R9 : Row ((((((w2.setCell ⟨w.heap.size + 1, 0, none⟩ (.int .i64 0)).setCell ⟨w.heap.size + 1, 1, none⟩ (.int .i64 0)).setCell ⟨w.heap.size + 1, 2, none⟩ (.int .i64 0)).setCell ⟨w.heap.size + 1, 3, none⟩ (.int .i64 0)).setCell ⟨w.heap.size + 1, 4, none⟩ (.int .i64 0)).setCell ⟨w.heap.size + 1, 5, none⟩ (.slice none 0 0)) (w.heap.size + 1) 24 #[.int .i64 0, .int .i64 0, .int .i64 0, .int .i64 0, .int .i64 0, .slice none 0 0] := (row_set (row_set (row_set (row_set (row_set (row_set r1_1 0 (.int .i64 0)) 1 (.int .i64 0)) 2 (.int .i64 0)) 3 (.int .i64 0)) 4 (.int .i64 0)) 5 (.slice none 0 0))
  have o9 : Below w.heap.size w ((((((w2.setCell ⟨w.heap.size + 1, 0, none⟩ (.int .i64 0)).setCell ⟨w.heap.size + 1, 1, none⟩ (.int .i64 0)).setCell ⟨w.heap.size + 1, 2, none⟩ (.int .i64 0)).setCell ⟨w.heap.size + 1, 3, none⟩ (.int .i64 0)).setCell ⟨w.heap.size + 1, 4, none⟩ (.int .i64 0)).setCell ⟨w.heap.size + 1, 5, none⟩ (.slice none 0 0)) := (Below.setCell (p := ⟨w.heap.size + 1, 5, none⟩) (Below.setCell (p := ⟨w.heap.size + 1, 4, none⟩) (Below.setCell (p := ⟨w.heap.size + 1, 3, none⟩) (Below.setCell (p := ⟨w.heap.size + 1, 2, none⟩) (Below.setCell (p := ⟨w.heap.size + 1, 1, none⟩) (Below.setCell (p := ⟨w.heap.size + 1, 0, none⟩) o1 hbge (.int .i64 0)) hbge (.int .i64 0)) hbge (.int .i64 0)) hbge (.int .i64 0)) hbge (.int .i64 0)) hbge (.slice none 0 0))
  generalize ((((((w2.setCell ⟨w.heap.size + 1, 0, none⟩ (.int .i64 0)).setCell ⟨w.heap.size + 1, 1, none⟩ (.int .i64 0)).setCell ⟨w.heap.size + 1, 2, none⟩ (.int .i64 0)).setCell ⟨w.heap.size + 1, 3, none⟩ (.int .i64 0)).setCell ⟨w.heap.size + 1, 4, none⟩ (.int .i64 0)).setCell ⟨w.heap.size + 1, 5, none⟩ (.slice none 0 0)) = w9 at R9 o9 ⊢
  obtain ⟨N0, N1, N2, N3, N4, N5, Nf0, Nf1, Nf2, Nf3, Nf4, Nf5⟩ := row_six R9
  exact bodyPost_ret (v := .tuple #[.agg #[.int .i64 0, .int .i64 0, .int .i64 0, .int .i64 0, .int .i64 0, .slice none 0 0], .int .i64 5]) (by simp [results, Try.results32, go_sem, List.getElem?_toArray, N0, N1, N2, N3, N4, N5]) rfl (spret_zero o9)
set_option maxRecDepth 100000 in
set_option maxHeartbeats 2000000 in
theorem rspadd_c2 (A : Option Addr) (m c : Nat) (l : List Mk) (wd k cap now seq : Int) (v : Int) (w : World) (hin : MIn A m c l w) (sB : I64 seq) (hv : spvalE wd k cap now seq l = 0) (h0 : ¬ v < (-4096)) (h1 : ¬ 4096 < v) (hm0 : 0 < m) (hn : (mkAt l 0).n ≠ cap) (hs : seq = 1099511627776) (hf : smFull cap seq l) : Calls Try.prog 32 #[.agg #[.int .i64 wd, .int .i64 k, .int .i64 cap, .int .i64 now, .int .i64 seq, .slice A m c], .int .i64 v] w fun e w' => SpRet A (spAdd wd k cap now seq l v) w e w' := by
  rw [spAdd_c hv (by omega) hf]
  clear hf
  have HSQ := Lib.hid hs
  clear hs
  have PV := fun w => rvalue9D v w
  rw [decide_eq_true ⟨Int.not_lt.1 h0, Int.not_lt.1 h1⟩] at PV
  replace PV := Lib.hid PV
  have P := fun w' (hb : Below w.heap.size w w') => rvalP A m c l wd k cap now seq w' (hin.below hb) sB
  rw [hv] at P
  replace P := Lib.hid P
  have HR := Lib.hid hin
  have HL := Lib.hid hin.len
  clear hin sB h0 h1
  go_enter Try.func32, Try.ntmps32
  go_upto_region 6 with (first | (go_at_call 28; with_reducible refine (P.out _ (by (repeat (first | exact Below.refl _ _ | refine Below.setCell ?_ (by first | (simp; done) | (simp; omega) | omega) _ | refine Below.alloc ?_ (by first | (simp; done) | (simp; omega) | omega) _ | refine Below.drew ?_ | refine Below.trans ?_ (Below.mono (by assumption) (by first | (simp; done) | (simp; omega) | omega)))))).mono ?_; rintro e w1 ⟨rfl, hb1⟩; have hz1 := hb1.size; (try simp at hz1); have o1 : Below w.heap.size w w1 := (by (repeat (first | exact Below.refl _ _ | refine Below.setCell ?_ (by first | (simp; done) | (simp; omega) | omega) _ | refine Below.alloc ?_ (by first | (simp; done) | (simp; omega) | omega) _ | refine Below.drew ?_ | refine Below.trans ?_ (Below.mono (by assumption) (by first | (simp; done) | (simp; omega) | omega))))); have q1_0 : w.heap.size < w1.heap.size := (by omega); have r1_0 : Row w1 (w.heap.size) 24 #[.int .i64 wd, .int .i64 k, .int .i64 cap, .int .i64 now, .int .i64 seq, .slice A m c] := row_call (by (repeat (first | assumption | (refine row_new ?_; (first | (simp; done) | omega)) | refine row_alloc ?_ _ | refine row_drew ?_ | refine row_call ?_ (by assumption)))) hb1; obtain ⟨c1_0a, c1_0b, c1_0c, c1_0d, c1_0e, c1_0f, f1_0a, f1_0b, f1_0c, f1_0d, f1_0e, f1_0f⟩ := row_six r1_0; have q1_1 : w.heap.size + 1 < w1.heap.size := (by omega); have r1_1 : Row w1 (w.heap.size + 1) 24 #[.int .i64 0, .int .i64 0, .int .i64 0, .int .i64 0, .int .i64 0, .slice none 0 0] := row_call (by (repeat (first | assumption | (refine row_new ?_; (first | (simp; done) | omega)) | refine row_alloc ?_ _ | refine row_drew ?_ | refine row_call ?_ (by assumption)))) hb1; obtain ⟨c1_1a, c1_1b, c1_1c, c1_1d, c1_1e, c1_1f, f1_1a, f1_1b, f1_1c, f1_1d, f1_1e, f1_1f⟩ := row_six r1_1) | (go_at_call 73; with_reducible refine (PV.out _).mono ?_; rintro e w9 ⟨rfl, h9⟩; obtain rfl := h9.symm))
  clear P PV
  clear hv
  have e2 : (seq == 1099511627776) = true := by simpa using HSQ.out
  obtain ⟨ad, rfl, hadb, ht0⟩ := HR.out.reads.mk (i := 0) hm0
  have ht0 : MkCells w ad (mkAt l 0) := ht0
  generalize mkAt l 0 = m0 at ht0 hn
  obtain ⟨sq, tk, n, s, q, lo, hi⟩ := m0
  obtain ⟨q0, q1, q2, q3, q4, q5, q6⟩ := ht0.below o1 hadb
  dsimp only at q0 q1 q2 q3 q4 q5 q6 hn
  clear ht0
  have e0 : decide (0 < m) = true := decide_eq_true hm0
  have g0 : (0 : Int) < (m : Int) := by omega
  have e1 : (n == cap) = false := by simpa using hn
  refine wp_region_quiet_lit (by as_aux_lemma => kernel_rfl) (by as_aux_lemma => kernel_rfl) ?_
  repeat (go_big_quiet_step (fail))
  refine wpQuiet_nil ?_
  intro _ hw'
  obtain ⟨nq, hw''⟩ := hw'
  subst hw''
  replace r1_0 : Row (w1.drewN nq) (w.heap.size) 24 #[.int .i64 wd, .int .i64 k, .int .i64 cap, .int .i64 now, .int .i64 seq, .slice (some ad) m c] := r1_0
  replace r1_1 : Row (w1.drewN nq) (w.heap.size + 1) 24 #[.int .i64 0, .int .i64 0, .int .i64 0, .int .i64 0, .int .i64 0, .slice none 0 0] := r1_1
  replace o1 := o1.trans (⟨rfl, rfl, rfl, Nat.le_refl _, fun _ _ => rfl⟩ : Below _ w1 (w1.drewN nq))
  generalize w1.drewN nq = w2 at r1_0 r1_1 o1 ⊢
  clear c1_0a c1_0b c1_0c c1_0d c1_0e c1_0f f1_0a f1_0b f1_0c f1_0d f1_0e f1_0f c1_1a c1_1b c1_1c c1_1d c1_1e c1_1f f1_1a f1_1b f1_1c f1_1d f1_1e f1_1f
  obtain ⟨Z0, Z1, Z2, Z3, Z4, Z5, Zf0, Zf1, Zf2, Zf3, Zf4, Zf5⟩ := row_six r1_1
  clear r1_0
  clear q0 q1 q2 q3 q4 q5 q6
  go_wp2
  have hbge : w.heap.size ≤ w.heap.size + 1 := by omega
  have R9 : Row ((((((w2.setCell ⟨w.heap.size + 1, 0, none⟩ (.int .i64 0)).setCell ⟨w.heap.size + 1, 1, none⟩ (.int .i64 0)).setCell ⟨w.heap.size + 1, 2, none⟩ (.int .i64 0)).setCell ⟨w.heap.size + 1, 3, none⟩ (.int .i64 0)).setCell ⟨w.heap.size + 1, 4, none⟩ (.int .i64 0)).setCell ⟨w.heap.size + 1, 5, none⟩ (.slice none 0 0)) (w.heap.size + 1) 24 #[.int .i64 0, .int .i64 0, .int .i64 0, .int .i64 0, .int .i64 0, .slice none 0 0] := (row_set (row_set (row_set (row_set (row_set (row_set r1_1 0 (.int .i64 0)) 1 (.int .i64 0)) 2 (.int .i64 0)) 3 (.int .i64 0)) 4 (.int .i64 0)) 5 (.slice none 0 0))
  have o9 : Below w.heap.size w ((((((w2.setCell ⟨w.heap.size + 1, 0, none⟩ (.int .i64 0)).setCell ⟨w.heap.size + 1, 1, none⟩ (.int .i64 0)).setCell ⟨w.heap.size + 1, 2, none⟩ (.int .i64 0)).setCell ⟨w.heap.size + 1, 3, none⟩ (.int .i64 0)).setCell ⟨w.heap.size + 1, 4, none⟩ (.int .i64 0)).setCell ⟨w.heap.size + 1, 5, none⟩ (.slice none 0 0)) := (Below.setCell (p := ⟨w.heap.size + 1, 5, none⟩) (Below.setCell (p := ⟨w.heap.size + 1, 4, none⟩) (Below.setCell (p := ⟨w.heap.size + 1, 3, none⟩) (Below.setCell (p := ⟨w.heap.size + 1, 2, none⟩) (Below.setCell (p := ⟨w.heap.size + 1, 1, none⟩) (Below.setCell (p := ⟨w.heap.size + 1, 0, none⟩) o1 hbge (.int .i64 0)) hbge (.int .i64 0)) hbge (.int .i64 0)) hbge (.int .i64 0)) hbge (.int .i64 0)) hbge (.slice none 0 0))
  generalize ((((((w2.setCell ⟨w.heap.size + 1, 0, none⟩ (.int .i64 0)).setCell ⟨w.heap.size + 1, 1, none⟩ (.int .i64 0)).setCell ⟨w.heap.size + 1, 2, none⟩ (.int .i64 0)).setCell ⟨w.heap.size + 1, 3, none⟩ (.int .i64 0)).setCell ⟨w.heap.size + 1, 4, none⟩ (.int .i64 0)).setCell ⟨w.heap.size + 1, 5, none⟩ (.slice none 0 0)) = w9 at R9 o9 ⊢
  obtain ⟨N0, N1, N2, N3, N4, N5, Nf0, Nf1, Nf2, Nf3, Nf4, Nf5⟩ := row_six R9
  exact bodyPost_ret (v := .tuple #[.agg #[.int .i64 0, .int .i64 0, .int .i64 0, .int .i64 0, .int .i64 0, .slice none 0 0], .int .i64 5]) (by simp [results, Try.results32, go_sem, List.getElem?_toArray, N0, N1, N2, N3, N4, N5]) rfl (spret_zero o9)
set_option maxRecDepth 100000 in
set_option maxHeartbeats 2000000 in
theorem rspadd_c3 (A : Option Addr) (c : Nat) (l : List Mk) (wd k cap now seq : Int) (v : Int) (w : World) (hin : MIn A 0 c l w) (sB : I64 seq) (hv : spvalE wd k cap now seq l = 0) (h0 : ¬ v < (-4096)) (h1 : ¬ 4096 < v) (hs : seq = 1099511627776) (hf : smFull cap seq l) : Calls Try.prog 32 #[.agg #[.int .i64 wd, .int .i64 k, .int .i64 cap, .int .i64 now, .int .i64 seq, .slice A 0 c], .int .i64 v] w fun e w' => SpRet A (spAdd wd k cap now seq l v) w e w' := by
  rw [spAdd_c hv (by omega) hf]
  clear hf
  have HSQ := Lib.hid hs
  clear hs
  have PV := fun w => rvalue9D v w
  rw [decide_eq_true ⟨Int.not_lt.1 h0, Int.not_lt.1 h1⟩] at PV
  replace PV := Lib.hid PV
  have P := fun w' (hb : Below w.heap.size w w') => rvalP A 0 c l wd k cap now seq w' (hin.below hb) sB
  rw [hv] at P
  replace P := Lib.hid P
  have HR := Lib.hid hin
  have HL := Lib.hid hin.len
  clear hin sB h0 h1
  go_enter Try.func32, Try.ntmps32
  go_upto_region 6 with (first | (go_at_call 28; with_reducible refine (P.out _ (by (repeat (first | exact Below.refl _ _ | refine Below.setCell ?_ (by first | (simp; done) | (simp; omega) | omega) _ | refine Below.alloc ?_ (by first | (simp; done) | (simp; omega) | omega) _ | refine Below.drew ?_ | refine Below.trans ?_ (Below.mono (by assumption) (by first | (simp; done) | (simp; omega) | omega)))))).mono ?_; rintro e w1 ⟨rfl, hb1⟩; have hz1 := hb1.size; (try simp at hz1); have o1 : Below w.heap.size w w1 := (by (repeat (first | exact Below.refl _ _ | refine Below.setCell ?_ (by first | (simp; done) | (simp; omega) | omega) _ | refine Below.alloc ?_ (by first | (simp; done) | (simp; omega) | omega) _ | refine Below.drew ?_ | refine Below.trans ?_ (Below.mono (by assumption) (by first | (simp; done) | (simp; omega) | omega))))); have q1_0 : w.heap.size < w1.heap.size := (by omega); have r1_0 : Row w1 (w.heap.size) 24 #[.int .i64 wd, .int .i64 k, .int .i64 cap, .int .i64 now, .int .i64 seq, .slice A 0 c] := row_call (by (repeat (first | assumption | (refine row_new ?_; (first | (simp; done) | omega)) | refine row_alloc ?_ _ | refine row_drew ?_ | refine row_call ?_ (by assumption)))) hb1; obtain ⟨c1_0a, c1_0b, c1_0c, c1_0d, c1_0e, c1_0f, f1_0a, f1_0b, f1_0c, f1_0d, f1_0e, f1_0f⟩ := row_six r1_0; have q1_1 : w.heap.size + 1 < w1.heap.size := (by omega); have r1_1 : Row w1 (w.heap.size + 1) 24 #[.int .i64 0, .int .i64 0, .int .i64 0, .int .i64 0, .int .i64 0, .slice none 0 0] := row_call (by (repeat (first | assumption | (refine row_new ?_; (first | (simp; done) | omega)) | refine row_alloc ?_ _ | refine row_drew ?_ | refine row_call ?_ (by assumption)))) hb1; obtain ⟨c1_1a, c1_1b, c1_1c, c1_1d, c1_1e, c1_1f, f1_1a, f1_1b, f1_1c, f1_1d, f1_1e, f1_1f⟩ := row_six r1_1) | (go_at_call 73; with_reducible refine (PV.out _).mono ?_; rintro e w9 ⟨rfl, h9⟩; obtain rfl := h9.symm))
  clear P PV
  clear hv
  have e2 : (seq == 1099511627776) = true := by simpa using HSQ.out
  refine wp_region_quiet_lit (by as_aux_lemma => kernel_rfl) (by as_aux_lemma => kernel_rfl) ?_
  repeat (go_big_quiet_step (fail))
  refine wpQuiet_nil ?_
  intro _ hw'
  obtain ⟨nq, hw''⟩ := hw'
  subst hw''
  replace r1_0 : Row (w1.drewN nq) (w.heap.size) 24 #[.int .i64 wd, .int .i64 k, .int .i64 cap, .int .i64 now, .int .i64 seq, .slice A 0 c] := r1_0
  replace r1_1 : Row (w1.drewN nq) (w.heap.size + 1) 24 #[.int .i64 0, .int .i64 0, .int .i64 0, .int .i64 0, .int .i64 0, .slice none 0 0] := r1_1
  replace o1 := o1.trans (⟨rfl, rfl, rfl, Nat.le_refl _, fun _ _ => rfl⟩ : Below _ w1 (w1.drewN nq))
  generalize w1.drewN nq = w2 at r1_0 r1_1 o1 ⊢
  clear c1_0a c1_0b c1_0c c1_0d c1_0e c1_0f f1_0a f1_0b f1_0c f1_0d f1_0e f1_0f c1_1a c1_1b c1_1c c1_1d c1_1e c1_1f f1_1a f1_1b f1_1c f1_1d f1_1e f1_1f
  obtain ⟨Z0, Z1, Z2, Z3, Z4, Z5, Zf0, Zf1, Zf2, Zf3, Zf4, Zf5⟩ := row_six r1_1
  clear r1_0
  skip
  go_wp2
  have hbge : w.heap.size ≤ w.heap.size + 1 := by omega
  have R9 : Row ((((((w2.setCell ⟨w.heap.size + 1, 0, none⟩ (.int .i64 0)).setCell ⟨w.heap.size + 1, 1, none⟩ (.int .i64 0)).setCell ⟨w.heap.size + 1, 2, none⟩ (.int .i64 0)).setCell ⟨w.heap.size + 1, 3, none⟩ (.int .i64 0)).setCell ⟨w.heap.size + 1, 4, none⟩ (.int .i64 0)).setCell ⟨w.heap.size + 1, 5, none⟩ (.slice none 0 0)) (w.heap.size + 1) 24 #[.int .i64 0, .int .i64 0, .int .i64 0, .int .i64 0, .int .i64 0, .slice none 0 0] := (row_set (row_set (row_set (row_set (row_set (row_set r1_1 0 (.int .i64 0)) 1 (.int .i64 0)) 2 (.int .i64 0)) 3 (.int .i64 0)) 4 (.int .i64 0)) 5 (.slice none 0 0))
  have o9 : Below w.heap.size w ((((((w2.setCell ⟨w.heap.size + 1, 0, none⟩ (.int .i64 0)).setCell ⟨w.heap.size + 1, 1, none⟩ (.int .i64 0)).setCell ⟨w.heap.size + 1, 2, none⟩ (.int .i64 0)).setCell ⟨w.heap.size + 1, 3, none⟩ (.int .i64 0)).setCell ⟨w.heap.size + 1, 4, none⟩ (.int .i64 0)).setCell ⟨w.heap.size + 1, 5, none⟩ (.slice none 0 0)) := (Below.setCell (p := ⟨w.heap.size + 1, 5, none⟩) (Below.setCell (p := ⟨w.heap.size + 1, 4, none⟩) (Below.setCell (p := ⟨w.heap.size + 1, 3, none⟩) (Below.setCell (p := ⟨w.heap.size + 1, 2, none⟩) (Below.setCell (p := ⟨w.heap.size + 1, 1, none⟩) (Below.setCell (p := ⟨w.heap.size + 1, 0, none⟩) o1 hbge (.int .i64 0)) hbge (.int .i64 0)) hbge (.int .i64 0)) hbge (.int .i64 0)) hbge (.int .i64 0)) hbge (.slice none 0 0))
  generalize ((((((w2.setCell ⟨w.heap.size + 1, 0, none⟩ (.int .i64 0)).setCell ⟨w.heap.size + 1, 1, none⟩ (.int .i64 0)).setCell ⟨w.heap.size + 1, 2, none⟩ (.int .i64 0)).setCell ⟨w.heap.size + 1, 3, none⟩ (.int .i64 0)).setCell ⟨w.heap.size + 1, 4, none⟩ (.int .i64 0)).setCell ⟨w.heap.size + 1, 5, none⟩ (.slice none 0 0)) = w9 at R9 o9 ⊢
  obtain ⟨N0, N1, N2, N3, N4, N5, Nf0, Nf1, Nf2, Nf3, Nf4, Nf5⟩ := row_six R9
  exact bodyPost_ret (v := .tuple #[.agg #[.int .i64 0, .int .i64 0, .int .i64 0, .int .i64 0, .int .i64 0, .slice none 0 0], .int .i64 5]) (by simp [results, Try.results32, go_sem, List.getElem?_toArray, N0, N1, N2, N3, N4, N5]) rfl (spret_zero o9)
set_option maxRecDepth 100000 in
set_option maxHeartbeats 8000000 in
theorem rspadd_d1 (A : Option Addr) (m c : Nat) (l : List Mk) (wd k cap now seq : Int) (v : Int) (w : World) (hin : MIn A m c l w) (sB : I64 seq) (hv : spvalE wd k cap now seq l = 0) (h0 : ¬ v < (-4096)) (h1 : ¬ 4096 < v) (hmm : m ≤ 100000) (hm0 : 0 < m) (hn : (mkAt l 0).n ≠ cap) (hs : seq ≠ 1099511627776) (hf : ¬ smFull cap seq l) : Calls Try.prog 32 #[.agg #[.int .i64 wd, .int .i64 k, .int .i64 cap, .int .i64 now, .int .i64 seq, .slice A m c], .int .i64 v] w fun e w' => SpRet A (spAdd wd k cap now seq l v) w e w' := by
  rw [spAdd_d hv (by omega) hf]
  have hV := of_spvalE hv
  obtain ⟨hG, hMV, _⟩ := hV
  obtain ⟨d0, d1, k0, k1, c0, c1, n0, n1⟩ := hG
  obtain ⟨⟨s0, s1⟩, hVL⟩ := mvalid_iff.1 hMV
  have HVI := Lib.hid (hVL.incl s0 (hVL.n_lt (fun a => hf (.inl a))) c0 n0 d0 (Int.not_lt.1 h0) (by omega) (Int.not_lt.1 h1))
  have HSM := Lib.hid (fun i (hi : i < m) => SmallM.of_one (hVL.one _ (mkAt_mem (l := l) (i := i) (by rw [hin.len]; exact hi))) c1 ((Int.le_refl (-4096))))
  have hv0 : -4096 ≤ v := by omega
  have hv1 : v ≤ 4096 := by omega
  have HLE := Lib.hid ((Int.le_refl (-4096)))
  have HMI := Lib.hid (show ∀ x ∈ incl l (seq + 1) now v, M64 x from fun x hx => M64.of_one (HVI.out.one x hx) (by omega) c1 n1 HLE.out)
  clear hf hMV hVL
  have PV := fun w => rvalue9D v w
  rw [decide_eq_true ⟨Int.not_lt.1 h0, Int.not_lt.1 h1⟩] at PV
  replace PV := Lib.hid PV
  have P := fun w' (hb : Below w.heap.size w w') => rvalP A m c l wd k cap now seq w' (hin.below hb) sB
  rw [hv] at P
  replace P := Lib.hid P
  have HR := Lib.hid hin
  have HL := Lib.hid hin.len
  clear hin sB h0 h1
  go_enter Try.func32, Try.ntmps32
  go_upto_region 6 with (first | (go_at_call 28; with_reducible refine (P.out _ (by (repeat (first | exact Below.refl _ _ | refine Below.setCell ?_ (by first | (simp; done) | (simp; omega) | omega) _ | refine Below.alloc ?_ (by first | (simp; done) | (simp; omega) | omega) _ | refine Below.drew ?_ | refine Below.trans ?_ (Below.mono (by assumption) (by first | (simp; done) | (simp; omega) | omega)))))).mono ?_; rintro e w1 ⟨rfl, hb1⟩; have hz1 := hb1.size; (try simp at hz1); have o1 : Below w.heap.size w w1 := (by (repeat (first | exact Below.refl _ _ | refine Below.setCell ?_ (by first | (simp; done) | (simp; omega) | omega) _ | refine Below.alloc ?_ (by first | (simp; done) | (simp; omega) | omega) _ | refine Below.drew ?_ | refine Below.trans ?_ (Below.mono (by assumption) (by first | (simp; done) | (simp; omega) | omega))))); have q1_0 : w.heap.size < w1.heap.size := (by omega); have r1_0 : Row w1 (w.heap.size) 24 #[.int .i64 wd, .int .i64 k, .int .i64 cap, .int .i64 now, .int .i64 seq, .slice A m c] := row_call (by (repeat (first | assumption | (refine row_new ?_; (first | (simp; done) | omega)) | refine row_alloc ?_ _ | refine row_drew ?_ | refine row_call ?_ (by assumption)))) hb1; obtain ⟨c1_0a, c1_0b, c1_0c, c1_0d, c1_0e, c1_0f, f1_0a, f1_0b, f1_0c, f1_0d, f1_0e, f1_0f⟩ := row_six r1_0; have q1_1 : w.heap.size + 1 < w1.heap.size := (by omega); have r1_1 : Row w1 (w.heap.size + 1) 24 #[.int .i64 0, .int .i64 0, .int .i64 0, .int .i64 0, .int .i64 0, .slice none 0 0] := row_call (by (repeat (first | assumption | (refine row_new ?_; (first | (simp; done) | omega)) | refine row_alloc ?_ _ | refine row_drew ?_ | refine row_call ?_ (by assumption)))) hb1; obtain ⟨c1_1a, c1_1b, c1_1c, c1_1d, c1_1e, c1_1f, f1_1a, f1_1b, f1_1c, f1_1d, f1_1e, f1_1f⟩ := row_six r1_1) | (go_at_call 73; with_reducible refine (PV.out _).mono ?_; rintro e w9 ⟨rfl, h9⟩; obtain rfl := h9.symm))
  clear P PV
  clear hv
  obtain ⟨ad, rfl, hadb, ht0⟩ := HR.out.reads.mk (i := 0) hm0
  have ht0 : MkCells w ad (mkAt l 0) := ht0
  generalize mkAt l 0 = m0 at ht0 hn
  obtain ⟨sq, tk, n, s, q, lo, hi⟩ := m0
  obtain ⟨q0, q1, q2, q3, q4, q5, q6⟩ := ht0.below o1 hadb
  dsimp only at q0 q1 q2 q3 q4 q5 q6 hn
  clear ht0
  have e0 : decide (0 < m) = true := decide_eq_true hm0
  have g0 : (0 : Int) < (m : Int) := by omega
  have e1 : (n == cap) = false := by simpa using hn
  have e2 : (seq == 1099511627776) = false := by simpa using hs
  refine wp_region_quiet_lit (by as_aux_lemma => kernel_rfl) (by as_aux_lemma => kernel_rfl) ?_
  repeat (go_big_quiet_step (fail))
  refine wpQuiet_nil ?_
  intro _ hw'
  obtain ⟨nq, hw''⟩ := hw'
  subst hw''
  replace r1_0 : Row (w1.drewN nq) (w.heap.size) 24 #[.int .i64 wd, .int .i64 k, .int .i64 cap, .int .i64 now, .int .i64 seq, .slice (some ad) m c] := r1_0
  replace r1_1 : Row (w1.drewN nq) (w.heap.size + 1) 24 #[.int .i64 0, .int .i64 0, .int .i64 0, .int .i64 0, .int .i64 0, .slice none 0 0] := r1_1
  replace o1 := o1.trans (⟨rfl, rfl, rfl, Nat.le_refl _, fun _ _ => rfl⟩ : Below _ w1 (w1.drewN nq))
  generalize w1.drewN nq = w2 at r1_0 r1_1 o1 ⊢
  clear c1_0a c1_0b c1_0c c1_0d c1_0e c1_0f f1_0a f1_0b f1_0c f1_0d f1_0e f1_0f c1_1a c1_1b c1_1c c1_1d c1_1e c1_1f f1_1a f1_1b f1_1c f1_1d f1_1e f1_1f
  clear e2 q0 q1 q2 q3 q4 q5 q6 e0 g0 e1 hn
  have wsq : IntKind.i64.wrap (seq + 1) = seq + 1 := IntWalk.i64_in _ (by omega)
  obtain ⟨X0, X1, X2, X3, X4, X5, Xf0, Xf1, Xf2, Xf3, Xf4, Xf5⟩ := row_six r1_0
  have KR := Lib.hid r1_0
  clear r1_0
  go_upto_region 9 with (fail)
  have X : Row (w2.setCell ⟨w.heap.size, 4, none⟩ (.int .i64 (seq + 1))) (w.heap.size) 24 #[.int .i64 wd, .int .i64 k, .int .i64 cap, .int .i64 now, .int .i64 (seq + 1), .slice (some ad) m c] := row_set KR.out 4 _
  have R : Row (w2.setCell ⟨w.heap.size, 4, none⟩ (.int .i64 (seq + 1))) (w.heap.size + 1) 24 #[.int .i64 0, .int .i64 0, .int .i64 0, .int .i64 0, .int .i64 0, .slice none 0 0] := row_other (p := ⟨w.heap.size, 4, none⟩) r1_1 (by show w.heap.size + 1 ≠ w.heap.size; omega) _
  have o : Below w.heap.size w (w2.setCell ⟨w.heap.size, 4, none⟩ (.int .i64 (seq + 1))) := o1.setCell (p := ⟨w.heap.size, 4, none⟩) (Nat.le_refl _) _
  generalize w2.setCell ⟨w.heap.size, 4, none⟩ (.int .i64 (seq + 1)) = w3 at X R o ⊢
  clear X0 X1 X2 X3 X4 X5 Xf0 Xf1 Xf2 Xf3 Xf4 Xf5 KR o1 r1_1 wsq
  obtain ⟨X0, X1, X2, X3, X4, X5, Xf0, Xf1, Xf2, Xf3, Xf4, Xf5⟩ := row_six X
  go_wp2_with fail
  refine (rmadd (some ad) m c l (seq + 1) now v _ (HR.out.below o) (by omega) HSM.out hv0 hv1).mono ?_
  rintro e w4 ⟨va, rfl, ownA, hb4⟩
  obtain ⟨A4, c4, rfl, inA, fr4⟩ := MIn.of_row ownA (M64.all HMI.out)
  have z3 := row_lt R
  replace X := row_call X hb4
  replace R := row_call R hb4
  replace o := o.trans (hb4.mono o.size)
  have fr : ∀ a, A4 = some a → w.heap.size + 1 < a.block ∧ a.block < w4.heap.size := fun a e => by have := fr4 a e; omega
  clear hb4 fr4 ownA X0 X1 X2 X3 X4 X5 Xf0 Xf1 Xf2 Xf3 Xf4 Xf5
  have INA := Lib.hid inA
  have LI : RowKit.Hid ((incl l (seq + 1) now v).length = m + 1) := Lib.hid (by rw [incl_len, HL.out])
  clear inA
  obtain ⟨X0, X1, X2, X3, X4, X5, Xf0, Xf1, Xf2, Xf3, Xf4, Xf5⟩ := row_six X
  go_wp2
  go_loopw [7, 8] (fun u i wr => ∃ (L : List Mk) (kk : Nat) (A' : Option Addr) (m' c' : Nat), u = .slice A' m' c' ∧ i = .int .i64 (kk : Nat) ∧ MIn A' m' c' L wr ∧ kk ≤ m' ∧ m' ≤ 100001 ∧ RowKit.Hid (L.take kk ++ prune (closeB k) (L.drop kk) = prune (closeB k) (incl l (seq + 1) now v) ∧ (∀ x ∈ L, x ∈ incl l (seq + 1) now v) ∧ ∀ a, A' = some a → w.heap.size + 1 < a.block ∧ a.block < wr.heap.size) ∧ Row wr (w.heap.size) 24 #[.int .i64 wd, .int .i64 k, .int .i64 cap, .int .i64 now, .int .i64 (seq + 1), .slice (some ad) m c] ∧ Row wr (w.heap.size + 1) 24 #[.int .i64 0, .int .i64 0, .int .i64 0, .int .i64 0, .int .i64 0, .slice none 0 0] ∧ Below w.heap.size w wr) (fun u i _ => lenV u - (intOf i).toNat)
  case atStart => exact ⟨incl l (seq + 1) now v, 0, A4, m + 1, c4, rfl, rfl, INA.out, by omega, by omega, Lib.hid ⟨rfl, fun x h => h, fr⟩, X, R, o⟩
  case round =>
    clear X R o X0 X1 X2 X3 X4 X5 Xf0 Xf1 Xf2 Xf3 Xf4 Xf5 fr INA LI
    obtain ⟨L, kk, A', m', c', rfl, rfl, hinL, hkk, hm', HP, X, R, o⟩ := hrel
    have HLL := Lib.hid hinL.len
    by_cases hlt : kk < m'
    · have i1 : (kk : Int) < (m' : Int) := by omega
      have i2 : (0 : Int) ≤ (kk : Int) := by omega
      have wk : IntKind.i64.wrap ((kk : Int) + 1) = (kk : Int) + 1 := IntWalk.i64_in _ (by omega)
      go_upto_block 2 with (fail)
      go_cut [9] (fun jv wx => ∃ J : Nat, jv = .int .i64 (J : Nat) ∧ RowKit.Hid (JSpec (closeB k) L kk J m') ∧ MIn A' m' c' L wx ∧ Row wx (w.heap.size) 24 #[.int .i64 wd, .int .i64 k, .int .i64 cap, .int .i64 now, .int .i64 (seq + 1), .slice (some ad) m c] ∧ Row wx (w.heap.size + 1) 24 #[.int .i64 0, .int .i64 0, .int .i64 0, .int .i64 0, .int .i64 0, .slice none 0 0] ∧ Below w.heap.size w wx ∧ wr.heap.size ≤ wx.heap.size)
      case first =>
        go_wp2_with fail
        go_loopw [9, 10] (fun jv nv wy => ∃ J N : Nat, jv = .int .i64 (J : Nat) ∧ nv = .int .i64 (N : Nat) ∧ kk < N ∧ N ≤ m' ∧ RowKit.Hid (JSpec (closeB k) L kk J N) ∧ MIn A' m' c' L wy ∧ Row wy (w.heap.size) 24 #[.int .i64 wd, .int .i64 k, .int .i64 cap, .int .i64 now, .int .i64 (seq + 1), .slice (some ad) m c] ∧ Row wy (w.heap.size + 1) 24 #[.int .i64 0, .int .i64 0, .int .i64 0, .int .i64 0, .int .i64 0, .slice none 0 0] ∧ Below w.heap.size w wy ∧ wr.heap.size ≤ wy.heap.size) (fun _ nv _ => m' - (intOf nv).toNat)
        case atStart => exact ⟨kk, kk + 1, rfl, by go_num, by omega, by omega, Lib.hid (.inl ⟨rfl, fun e h1 h2 => absurd h1 (by omega)⟩), hinL, X, R, o, Nat.le_refl _⟩
        case round =>
          clear X R o hinL
          obtain ⟨J, N, rfl, rfl, hkN, hNm, HJ, hinL, X, R, o, hsz⟩ := hrel
          by_cases hN : N < m'
          · obtain ⟨ad1, rfl, hb1, htk⟩ := hinL.reads.mk hlt
            obtain ⟨ad2, ea2, hb2, htN⟩ := hinL.reads.mk hN
            obtain rfl : ad1 = ad2 := by injection ea2
            have mk1 : mkAt L kk ∈ incl l (seq + 1) now v := HP.out.2.1 _ (mkAt_mem (by rw [HLL.out]; exact hlt))
            have mk2 : mkAt L N ∈ incl l (seq + 1) now v := HP.out.2.1 _ (mkAt_mem (by rw [HLL.out]; exact hN))
            have PC := fun w => rcloseB k (mkAt L kk) (mkAt L N) w
            obtain ⟨nv, hnv⟩ : ∃ nv, closeB k (mkAt L kk) (mkAt L N) = nv := ⟨_, rfl⟩
            rw [hnv] at PC
            have HNR2 := Lib.hid hnv
            clear mk1 mk2 ea2 hnv
            generalize hmk : mkAt L kk = ma at htk PC
            generalize hmN : mkAt L N = mb at htN PC
            have HMK := Lib.hid hmk
            have HMN := Lib.hid hmN
            obtain ⟨sq, tk, n, s, q, lo, hi⟩ := ma
            obtain ⟨osq, otk, on, os, oq, olo, ohi⟩ := mb
            dsimp only at PC
            replace PC := Lib.hid PC
            have HTK := Lib.hid htk
            have HTN := Lib.hid htN
            have hbk : (ad1.add (kk * 7)).block < wr.heap.size := by rw [block_of_add]; exact hb1
            have hbN : (ad1.add (N * 7)).block < wr.heap.size := by rw [block_of_add]; exact hb1
            have HBK := Lib.hid hbk
            have HBN := Lib.hid hbN
            clear hmk hmN htk htN hbk hbN hb1 hb2
            have j1 : (N : Int) < (m' : Int) := by omega
            have j0 : (0 : Int) ≤ (N : Int) := by omega
            have wN : IntKind.i64.wrap ((N : Int) + 1) = (N : Int) + 1 := IntWalk.i64_in _ (by omega)
            go_upto_region 17 with (fail)
            cases nv
            rotate_left
            · skip
              refine wp_region_free0 [0, 1, 2, 4, 5, 6, 8, 3, 7, 9] [] [0, 1, 2, 3, 4, 5, 6, 7, 8, 9] 10 (fun w' => Below wr.heap.size wr w') (by kernel_rfl) (by kernel_rfl) (fun _ _ d _ _ h => by cases d <;> exact h) ?_ ?_
              · exact (Below.refl _ _).drew
              (refine plan_pure ?_ rfl rfl (fun w' => ?_) ?_; rotate_left; (go_simp; try with_reducible rfl); simp only [Act.put, List.setIfInBounds_toArray, List.set_cons_zero, List.set_cons_succ])
              (refine plan_pure ?_ rfl rfl (fun w' => ?_) ?_; rotate_left; (go_simp; try with_reducible rfl); simp only [Act.put, List.setIfInBounds_toArray, List.set_cons_zero, List.set_cons_succ])
              (refine plan_pure ?_ rfl rfl (fun w' => ?_) ?_; rotate_left; (go_simp; try with_reducible rfl); simp only [Act.put, List.setIfInBounds_toArray, List.set_cons_zero, List.set_cons_succ])
              (refine plan_pure ?_ rfl rfl (fun w' => ?_) ?_; rotate_left; (go_simp; try with_reducible rfl); simp only [Act.put, List.setIfInBounds_toArray, List.set_cons_zero, List.set_cons_succ])
              (refine plan_pure ?_ rfl rfl (fun w' => ?_) ?_; rotate_left; (go_simp; try with_reducible rfl); simp only [Act.put, List.setIfInBounds_toArray, List.set_cons_zero, List.set_cons_succ])
              (refine plan_pure ?_ rfl rfl (fun w' => ?_) ?_; rotate_left; (go_simp; try with_reducible rfl); simp only [Act.put, List.setIfInBounds_toArray, List.set_cons_zero, List.set_cons_succ])
              (refine plan_pure ?_ rfl rfl (fun w' => ?_) ?_; rotate_left; (go_simp; try with_reducible rfl); simp only [Act.put, List.setIfInBounds_toArray, List.set_cons_zero, List.set_cons_succ])
              (refine plan_val ?_ rfl rfl rfl (fun w' hS => ?_) ?_; rotate_left; (obtain ⟨X0, X1, X2, X3, X4, X5, Xf0, Xf1, Xf2, Xf3, Xf4, Xf5⟩ := row_six (row_call X hS); obtain ⟨p0, p1, p2, p3, p4, p5, p6⟩ := HTK.out.below hS HBK.out; dsimp only at p0 p1 p2 p3 p4 p5 p6; obtain ⟨q0, q1, q2, q3, q4, q5, q6⟩ := HTN.out.below hS HBN.out; dsimp only at q0 q1 q2 q3 q4 q5 q6; go_simp; try with_reducible rfl); simp only [Act.put, List.setIfInBounds_toArray, List.set_cons_zero, List.set_cons_succ])
              (refine plan_val ?_ rfl rfl rfl (fun w' hS => ?_) ?_; rotate_left; (obtain ⟨X0, X1, X2, X3, X4, X5, Xf0, Xf1, Xf2, Xf3, Xf4, Xf5⟩ := row_six (row_call X hS); obtain ⟨p0, p1, p2, p3, p4, p5, p6⟩ := HTK.out.below hS HBK.out; dsimp only at p0 p1 p2 p3 p4 p5 p6; obtain ⟨q0, q1, q2, q3, q4, q5, q6⟩ := HTN.out.below hS HBN.out; dsimp only at q0 q1 q2 q3 q4 q5 q6; go_simp; try with_reducible rfl); simp only [Act.put, List.setIfInBounds_toArray, List.set_cons_zero, List.set_cons_succ])
              (refine plan_val ?_ rfl rfl rfl (fun w' hS => ?_) ?_; rotate_left; (obtain ⟨X0, X1, X2, X3, X4, X5, Xf0, Xf1, Xf2, Xf3, Xf4, Xf5⟩ := row_six (row_call X hS); obtain ⟨p0, p1, p2, p3, p4, p5, p6⟩ := HTK.out.below hS HBK.out; dsimp only at p0 p1 p2 p3 p4 p5 p6; obtain ⟨q0, q1, q2, q3, q4, q5, q6⟩ := HTN.out.below hS HBN.out; dsimp only at q0 q1 q2 q3 q4 q5 q6; go_simp; try with_reducible rfl); simp only [Act.put, List.setIfInBounds_toArray, List.set_cons_zero, List.set_cons_succ])
              refine plan_nil ?_
              intro w5 L5
              simp only [List.drop_succ_cons, List.drop_zero]
              try simp only [Act.put, List.setIfInBounds_toArray, List.set_cons_zero, List.set_cons_succ]
              go_wp2_with fail
              refine (PC.out _).mono ?_
              rintro e w5b ⟨rfl, hb5b⟩
              replace L5 := L5.trans (hb5b.mono L5.size)
              clear hb5b
              replace X := row_call X L5
              replace R := row_call R L5
              replace o := o.trans (L5.mono o.size)
              replace hinL := hinL.below L5
              have hsz5 := Nat.le_trans hsz L5.size
              clear L5 hsz
              have HJ2 := Lib.hid (JSpec.yes (nr := closeB k) (L := L) hkN HNR2.out)
              go_wp2
              go_roundw
              case rel => exact ⟨N, N + 1, rfl, by go_num, by omega, by omega, HJ2, hinL, X, R, o, hsz5⟩
              case measure => simp [intOf]; omega
            · skip
              refine wp_region_free0 [0, 1, 2, 4, 5, 6, 8, 3, 7, 9] [] [0, 1, 2, 3, 4, 5, 6, 7, 8, 9] 10 (fun w' => Below wr.heap.size wr w') (by kernel_rfl) (by kernel_rfl) (fun _ _ d _ _ h => by cases d <;> exact h) ?_ ?_
              · exact (Below.refl _ _).drew
              (refine plan_pure ?_ rfl rfl (fun w' => ?_) ?_; rotate_left; (go_simp; try with_reducible rfl); simp only [Act.put, List.setIfInBounds_toArray, List.set_cons_zero, List.set_cons_succ])
              (refine plan_pure ?_ rfl rfl (fun w' => ?_) ?_; rotate_left; (go_simp; try with_reducible rfl); simp only [Act.put, List.setIfInBounds_toArray, List.set_cons_zero, List.set_cons_succ])
              (refine plan_pure ?_ rfl rfl (fun w' => ?_) ?_; rotate_left; (go_simp; try with_reducible rfl); simp only [Act.put, List.setIfInBounds_toArray, List.set_cons_zero, List.set_cons_succ])
              (refine plan_pure ?_ rfl rfl (fun w' => ?_) ?_; rotate_left; (go_simp; try with_reducible rfl); simp only [Act.put, List.setIfInBounds_toArray, List.set_cons_zero, List.set_cons_succ])
              (refine plan_pure ?_ rfl rfl (fun w' => ?_) ?_; rotate_left; (go_simp; try with_reducible rfl); simp only [Act.put, List.setIfInBounds_toArray, List.set_cons_zero, List.set_cons_succ])
              (refine plan_pure ?_ rfl rfl (fun w' => ?_) ?_; rotate_left; (go_simp; try with_reducible rfl); simp only [Act.put, List.setIfInBounds_toArray, List.set_cons_zero, List.set_cons_succ])
              (refine plan_pure ?_ rfl rfl (fun w' => ?_) ?_; rotate_left; (go_simp; try with_reducible rfl); simp only [Act.put, List.setIfInBounds_toArray, List.set_cons_zero, List.set_cons_succ])
              (refine plan_val ?_ rfl rfl rfl (fun w' hS => ?_) ?_; rotate_left; (obtain ⟨X0, X1, X2, X3, X4, X5, Xf0, Xf1, Xf2, Xf3, Xf4, Xf5⟩ := row_six (row_call X hS); obtain ⟨p0, p1, p2, p3, p4, p5, p6⟩ := HTK.out.below hS HBK.out; dsimp only at p0 p1 p2 p3 p4 p5 p6; obtain ⟨q0, q1, q2, q3, q4, q5, q6⟩ := HTN.out.below hS HBN.out; dsimp only at q0 q1 q2 q3 q4 q5 q6; go_simp; try with_reducible rfl); simp only [Act.put, List.setIfInBounds_toArray, List.set_cons_zero, List.set_cons_succ])
              (refine plan_val ?_ rfl rfl rfl (fun w' hS => ?_) ?_; rotate_left; (obtain ⟨X0, X1, X2, X3, X4, X5, Xf0, Xf1, Xf2, Xf3, Xf4, Xf5⟩ := row_six (row_call X hS); obtain ⟨p0, p1, p2, p3, p4, p5, p6⟩ := HTK.out.below hS HBK.out; dsimp only at p0 p1 p2 p3 p4 p5 p6; obtain ⟨q0, q1, q2, q3, q4, q5, q6⟩ := HTN.out.below hS HBN.out; dsimp only at q0 q1 q2 q3 q4 q5 q6; go_simp; try with_reducible rfl); simp only [Act.put, List.setIfInBounds_toArray, List.set_cons_zero, List.set_cons_succ])
              (refine plan_val ?_ rfl rfl rfl (fun w' hS => ?_) ?_; rotate_left; (obtain ⟨X0, X1, X2, X3, X4, X5, Xf0, Xf1, Xf2, Xf3, Xf4, Xf5⟩ := row_six (row_call X hS); obtain ⟨p0, p1, p2, p3, p4, p5, p6⟩ := HTK.out.below hS HBK.out; dsimp only at p0 p1 p2 p3 p4 p5 p6; obtain ⟨q0, q1, q2, q3, q4, q5, q6⟩ := HTN.out.below hS HBN.out; dsimp only at q0 q1 q2 q3 q4 q5 q6; go_simp; try with_reducible rfl); simp only [Act.put, List.setIfInBounds_toArray, List.set_cons_zero, List.set_cons_succ])
              refine plan_nil ?_
              intro w5 L5
              simp only [List.drop_succ_cons, List.drop_zero]
              try simp only [Act.put, List.setIfInBounds_toArray, List.set_cons_zero, List.set_cons_succ]
              go_wp2_with fail
              refine (PC.out _).mono ?_
              rintro e w5b ⟨rfl, hb5b⟩
              replace L5 := L5.trans (hb5b.mono L5.size)
              clear hb5b
              replace X := row_call X L5
              replace R := row_call R L5
              replace o := o.trans (L5.mono o.size)
              replace hinL := hinL.below L5
              have hsz5 := Nat.le_trans hsz L5.size
              clear L5 hsz
              have HJ2 := Lib.hid (HJ.out.no HNR2.out)
              go_wp2
              go_roundw
              case rel => exact ⟨J, N + 1, rfl, by go_num, by omega, by omega, HJ2, hinL, X, R, o, hsz5⟩
              case measure => simp [intOf]; omega
          · have j1 : ¬ (N : Int) < (m' : Int) := by omega
            obtain rfl : N = m' := by omega
            go_wp2
            go_meet
            exact ⟨J, rfl, HJ, hinL, X, R, o, hsz⟩
      case rest =>
        clear X R o hinL
        obtain ⟨J, rfl, HJ, hinL, X, R, o, hsz⟩ := hcut
        by_cases hJ : J = kk
        · subst hJ
          have HP2 := Lib.hid (show L.take (J + 1) ++ prune (closeB k) (L.drop (J + 1)) = prune (closeB k) (incl l (seq + 1) now v) from by
            rw [← prune_stepA (by rw [HLL.out]; exact hlt) (fun e h1 h2 => by
              rcases HJ.out with ⟨_, h3⟩ | ⟨h3, _⟩
              · exact h3 e h1 (by rw [HLL.out] at h2; exact h2)
              · omega)]
            exact HP.out.1)
          go_wp2
          go_roundw
          case rel => exact ⟨L, J + 1, A', m', c', rfl, by go_num, hinL, by omega, hm', Lib.hid ⟨HP2.out, HP.out.2.1, fun a e => ⟨(HP.out.2.2 a e).1, Nat.lt_of_lt_of_le (HP.out.2.2 a e).2 hsz⟩⟩, X, R, o⟩
          case measure => simp [lenV, intOf]; omega
        · have hkJ : kk < J := by
            rcases HJ.out with ⟨h3, _⟩ | ⟨h3, _⟩
            · exact absurd h3 hJ
            · exact h3
          have hJm : J < m' := by
            rcases HJ.out with ⟨h3, _⟩ | ⟨_, h3, _⟩
            · exact absurd h3 hJ
            · exact h3
          have HP2 := Lib.hid (show L.take (kk + 1) ++ prune (closeB k) (L.drop J) = prune (closeB k) (incl l (seq + 1) now v) from by
            rcases HJ.out with ⟨h3, _⟩ | ⟨h3, h4, h5, h6⟩
            · exact absurd h3 hJ
            · rw [← prune_stepB h3 (by rw [HLL.out]; exact h4) h5 (fun e g1 g2 => h6 e g1 (by rw [HLL.out] at g2; exact g2))]
              exact HP.out.1)
          obtain ⟨ad1, rfl, hb1, _⟩ := hinL.reads.mk hlt
          have hmc := hinL.mc
          have hcB := hinL.cB
          have RD1 := Lib.hid (hinL.pre (k := kk + 1) (by omega))
          have RD2 := Lib.hid (hinL.post (k := J) (by omega))
          have HMB := Lib.hid (show ∀ i, M64 (mkAt (L.take (kk + 1) ++ L.drop J) i) from M64.all fun x hx => HMI.out x (HP.out.2.1 x (by
            rcases List.mem_append.1 hx with h | h
            · exact (List.take_subset _ _) h
            · exact (List.drop_subset _ _) h)))
          have g1 : (kk : Int) < (J : Int) := by omega
          have s1 : (kk : Int) + 1 ≤ (c' : Int) := by omega
          have s2 : (0 : Int) ≤ (kk : Int) + 1 := by omega
          have s3 : ((kk : Int) + 1).toNat = kk + 1 := by omega
          have s4 : (J : Int) ≤ (m' : Int) := by omega
          have s5 : (m' : Int) ≤ (c' : Int) := by omega
          have s6 : ¬ c' = J := by omega
          have s7 : (0 : Int) ≤ (J : Int) := by omega
          obtain ⟨i0, hi0, iz0, iz1, iz2⟩ := info_parts info_mk
          go_upto_region 20 with (fail)
          refine wp_region_phase 10 (fun w' => Row w' (w.heap.size) 24 #[.int .i64 wd, .int .i64 k, .int .i64 cap, .int .i64 now, .int .i64 (seq + 1), .slice (some ad) m c] ∧ Row w' (w.heap.size + 1) 24 #[.int .i64 0, .int .i64 0, .int .i64 0, .int .i64 0, .int .i64 0, .slice none 0 0] ∧ Below w.heap.size w w') (by kernel_rfl) (by kernel_rfl) (by kernel_rfl) (by kernel_rfl) (by kernel_rfl) (fun HOK => ?_)
          have HS := (⟨X, R, o.drew⟩ : Row wc.drew (w.heap.size) 24 #[.int .i64 wd, .int .i64 k, .int .i64 cap, .int .i64 now, .int .i64 (seq + 1), .slice (some ad) m c] ∧ Row wc.drew (w.heap.size + 1) 24 #[.int .i64 0, .int .i64 0, .int .i64 0, .int .i64 0, .int .i64 0, .slice none 0 0] ∧ Below w.heap.size w wc.drew)
          (refine hw_take HOK (i := 1) ?_ rfl (by decide) (by kernel_rfl) (by kernel_rfl) (by exact fun _ _ _ h => h) (Or.inl ⟨by rfl, fun w' hS => ?_⟩) HS ?_; rotate_left; (go_simp; try with_reducible rfl); simp only [Act.put, List.setIfInBounds_toArray, List.set_cons_zero, List.set_cons_succ])
          (refine hw_take HOK (i := 2) ?_ rfl (by decide) (by kernel_rfl) (by kernel_rfl) (by exact fun _ _ _ h => h) (Or.inl ⟨by rfl, fun w' hS => ?_⟩) HS ?_; rotate_left; (go_simp; try with_reducible rfl); simp only [Act.put, List.setIfInBounds_toArray, List.set_cons_zero, List.set_cons_succ])
          (refine hw_take HOK (i := 3) ?_ rfl (by decide) (by kernel_rfl) (by kernel_rfl) (by exact fun _ _ _ h => h) (Or.inl ⟨by rfl, fun w' hS => ?_⟩) HS ?_; rotate_left; (go_simp; try with_reducible rfl); simp only [Act.put, List.setIfInBounds_toArray, List.set_cons_zero, List.set_cons_succ])
          (refine hw_take HOK (i := 4) ?_ rfl (by decide) (by kernel_rfl) (by kernel_rfl) (by exact fun _ _ _ h => h) (Or.inl ⟨by rfl, fun w' hS => ?_⟩) HS ?_; rotate_left; (go_simp; try with_reducible rfl); simp only [Act.put, List.setIfInBounds_toArray, List.set_cons_zero, List.set_cons_succ])
          (refine hw_take HOK (i := 6) ?_ rfl (by decide) (by kernel_rfl) (by kernel_rfl) (by exact fun _ _ _ h => h) (Or.inl ⟨by rfl, fun w' hS => ?_⟩) HS ?_; rotate_left; (go_simp; try with_reducible rfl); simp only [Act.put, List.setIfInBounds_toArray, List.set_cons_zero, List.set_cons_succ])
          (refine hw_take HOK (i := 7) ?_ rfl (by decide) (by kernel_rfl) (by kernel_rfl) (by exact fun _ _ _ h => h) (Or.inl ⟨by rfl, fun w' hS => ?_⟩) HS ?_; rotate_left; (go_simp; try with_reducible rfl); simp only [Act.put, List.setIfInBounds_toArray, List.set_cons_zero, List.set_cons_succ])
          (refine hw_take HOK (i := 8) ?_ rfl (by decide) (by kernel_rfl) (by kernel_rfl) (by exact fun _ _ _ h => h) (Or.inl ⟨by rfl, fun w' hS => ?_⟩) HS ?_; rotate_left; (go_simp; try with_reducible rfl); simp only [Act.put, List.setIfInBounds_toArray, List.set_cons_zero, List.set_cons_succ])
          refine hw_one (i := 0) rfl (by decide) (by kernel_rfl) (fun K hK => ?_)
          go_simp
          refine hK _ _ ⟨row_drew (row_alloc X _), row_drew (row_alloc R _), (o.alloc o.size _).drew⟩ ?_
          clear hK K HS
          refine hw_one (i := 5) rfl (by decide) (by kernel_rfl) (fun K hK => ?_)
          refine step_clone rfl _ _ 22 rfl 33 i0 (.agg #[.int .i64 0, .int .i64 0, .int .i64 0, .int .i64 0, .int .i64 0, .int .i64 0, .int .i64 0]) 7 56 Try.underlying22 hi0 iz0 iz1 iz2 rfl (by decide) rfl wc.heap.size (some ad1) (kk + 1) c' (mcells (L.take (kk + 1))) rfl RD1.out (Nat.le_refl _) (mcells_one _) (by unfold maxLen at *; omega) (by omega) ?_
          intro g c5 w5 own5 hg5 hb5 hz5
          have U0 := row_call X hb5
          have U1 := row_call R hb5
          have o5 := o.trans (hb5.mono o.size)
          have zR := row_lt R
          refine hK _ _ ⟨U0, U1, o5⟩ ?_
          clear hK K
          try simp only [Act.put, List.setIfInBounds_toArray, List.set_cons_zero, List.set_cons_succ]
          refine hw_one (i := 9) rfl (by decide) (by kernel_rfl) (fun K hK => ?_)
          refine step_append_any w5 rfl _ _ 22 rfl wc.heap.size 33 i0 (.agg #[.int .i64 0, .int .i64 0, .int .i64 0, .int .i64 0, .int .i64 0, .int .i64 0, .int .i64 0]) 7 56 Try.underlying22 hi0 iz0 iz1 iz2 rfl (by decide) (.slice (some ⟨g, 0, none⟩) (kk + 1) c5) (kk + 1) (mcells (L.take (kk + 1))) rfl (own5.row hg5) w5.heap.size (some (ad1.add (J * 7))) (m' - J) (c' - J) (mcells (L.drop J)) rfl ((RD2.out.below hb5).more hb5.size) (mcells_one _) (by unfold maxLen at *; omega) (by omega) hb5.size ?_
          intro v6 w6 own6 hg6 hat6
          have zg : w.heap.size + 1 < g := by omega
          have e0 : (Value.slice (some ⟨g, 0, none⟩) (kk + 1) c5).ownBlock = some g := rfl
          rw [e0] at hg6
          have V0 := row_grown U0 hg6 (by intro e; injection e; omega)
          have V1 := row_grown U1 hg6 (by intro e; injection e; omega)
          have o6 := below_grown o5 hg6 (fun b e => by injection e; omega) o5.size
          rw [← mcells_append] at own6
          obtain ⟨A6, c6, rfl, in6, fr6⟩ := MIn.of_row own6 HMB.out
          have fr7 : ∀ a, A6 = some a → w.heap.size + 1 < a.block ∧ a.block < w6.heap.size := fun a e => ⟨by have := (fr6 a e).1; omega, (fr6 a e).2⟩
          refine hK _ _ ⟨V0, V1, o6⟩ ?_
          clear hK K
          try simp only [Act.put, List.setIfInBounds_toArray, List.set_cons_zero, List.set_cons_succ]
          refine hw_done (by kernel_rfl) ?_
          simp only [List.drop_succ_cons, List.drop_zero]
          have hlt2 : (L.take (kk + 1)).length = kk + 1 := by rw [List.length_take, HLL.out]; omega
          have HP3 := Lib.hid (show (L.take (kk + 1) ++ L.drop J).take (kk + 1) ++ prune (closeB k) ((L.take (kk + 1) ++ L.drop J).drop (kk + 1)) = prune (closeB k) (incl l (seq + 1) now v) ∧ ∀ x ∈ L.take (kk + 1) ++ L.drop J, x ∈ incl l (seq + 1) now v from ⟨by
            rw [List.take_left' hlt2, List.drop_left' hlt2]
            exact HP2.out, fun x hx => HP.out.2.1 x (by
            rcases List.mem_append.1 hx with h | h
            · exact (List.take_subset _ _) h
            · exact (List.drop_subset _ _) h)⟩)
          have hmm2 : kk + 1 + (m' - J) ≤ m' := by omega
          clear HOK U0 U1 own5 hb5 own6 hg6 hat6 RD1 RD2 HMB hlt2 e0 o5 X R o
          go_wp2
          go_roundw
          case rel => exact ⟨L.take (kk + 1) ++ L.drop J, kk + 1, A6, kk + 1 + (m' - J), c6, rfl, by go_num, in6, by omega, by omega, Lib.hid ⟨HP3.out.1, HP3.out.2, fr7⟩, V0, V1, o6⟩
          case measure => simp [lenV, intOf]; omega
    · have i1 : ¬ (kk : Int) < (m' : Int) := by omega
      obtain rfl : kk = m' := by omega
      have HE : RowKit.Hid (L = prune (closeB k) (incl l (seq + 1) now v)) := Lib.hid (by
        have h := HP.out.1
        rw [List.take_of_length_le (by rw [HLL.out]; exact Nat.le_refl _), List.drop_of_length_le (by rw [HLL.out]; exact Nat.le_refl _), prune_nil, List.append_nil] at h
        exact h)
      have FR := Lib.hid HP.out.2.2
      have INP := Lib.hid hinL
      clear hinL
      obtain ⟨X0, X1, X2, X3, X4, X5, Xf0, Xf1, Xf2, Xf3, Xf4, Xf5⟩ := row_six X
      obtain ⟨R0, R1, R2, R3, R4, R5, Rf0, Rf1, Rf2, Rf3, Rf4, Rf5⟩ := row_six R
      have XR := Lib.hid X
      have RR := Lib.hid R
      clear X R
      go_upto_region 22 with (fail)
      have X : Row (wr.setCell ⟨w.heap.size, 5, none⟩ (.slice A' kk c')) (w.heap.size) 24 #[.int .i64 wd, .int .i64 k, .int .i64 cap, .int .i64 now, .int .i64 (seq + 1), .slice A' kk c'] := row_set XR.out 5 _
      have R : Row (wr.setCell ⟨w.heap.size, 5, none⟩ (.slice A' kk c')) (w.heap.size + 1) 24 #[.int .i64 0, .int .i64 0, .int .i64 0, .int .i64 0, .int .i64 0, .slice none 0 0] := row_other (p := ⟨w.heap.size, 5, none⟩) RR.out (by show w.heap.size + 1 ≠ w.heap.size; omega) _
      have o6 : Below w.heap.size w (wr.setCell ⟨w.heap.size, 5, none⟩ (.slice A' kk c')) := o.setCell (p := ⟨w.heap.size, 5, none⟩) (Nat.le_refl _) _
      have INP6 := Lib.hid (INP.out.keep (w' := wr.setCell ⟨w.heap.size, 5, none⟩ (.slice A' kk c')) (by rw [size_setCell]; exact Nat.le_refl _) (fun a e => Below.heap_setCell _ ⟨w.heap.size, 5, none⟩ _ a.block (by have := FR.out a e; show a.block ≠ w.heap.size; omega)))
      have hs6 : wr.heap.size ≤ (wr.setCell ⟨w.heap.size, 5, none⟩ (.slice A' kk c')).heap.size := by rw [size_setCell]; exact Nat.le_refl _
      generalize wr.setCell ⟨w.heap.size, 5, none⟩ (.slice A' kk c') = w6 at X R o6 INP6 hs6 ⊢
      clear X0 X1 X2 X3 X4 X5 Xf0 Xf1 Xf2 Xf3 Xf4 Xf5 R0 R1 R2 R3 R4 R5 Rf0 Rf1 Rf2 Rf3 Rf4 Rf5 XR RR INP o
      obtain ⟨X0, X1, X2, X3, X4, X5, Xf0, Xf1, Xf2, Xf3, Xf4, Xf5⟩ := row_six X
      obtain ⟨R0, R1, R2, R3, R4, R5, Rf0, Rf1, Rf2, Rf3, Rf4, Rf5⟩ := row_six R
      go_wp2
      have hbge : w.heap.size ≤ w.heap.size + 1 := by omega
      have hkp : ∀ b', b' ≠ w.heap.size + 1 → (((((((w6.setCell ⟨w.heap.size + 1, 0, none⟩ (.int .i64 wd)).setCell ⟨w.heap.size + 1, 1, none⟩ (.int .i64 k)).setCell ⟨w.heap.size + 1, 2, none⟩ (.int .i64 cap)).setCell ⟨w.heap.size + 1, 3, none⟩ (.int .i64 now)).setCell ⟨w.heap.size + 1, 4, none⟩ (.int .i64 (seq + 1))).setCell ⟨w.heap.size + 1, 5, none⟩ (.slice A' kk c'))).heap[b']? = w6.heap[b']? := fun b' h' => ((Below.heap_setCell _ ⟨w.heap.size + 1, 5, none⟩ (.slice A' kk c') b' h').trans ((Below.heap_setCell _ ⟨w.heap.size + 1, 4, none⟩ (.int .i64 (seq + 1)) b' h').trans ((Below.heap_setCell _ ⟨w.heap.size + 1, 3, none⟩ (.int .i64 now) b' h').trans ((Below.heap_setCell _ ⟨w.heap.size + 1, 2, none⟩ (.int .i64 cap) b' h').trans ((Below.heap_setCell _ ⟨w.heap.size + 1, 1, none⟩ (.int .i64 k) b' h').trans ((Below.heap_setCell _ ⟨w.heap.size + 1, 0, none⟩ (.int .i64 wd) b' h').trans rfl))))))
      have hksz : w6.heap.size ≤ (((((((w6.setCell ⟨w.heap.size + 1, 0, none⟩ (.int .i64 wd)).setCell ⟨w.heap.size + 1, 1, none⟩ (.int .i64 k)).setCell ⟨w.heap.size + 1, 2, none⟩ (.int .i64 cap)).setCell ⟨w.heap.size + 1, 3, none⟩ (.int .i64 now)).setCell ⟨w.heap.size + 1, 4, none⟩ (.int .i64 (seq + 1))).setCell ⟨w.heap.size + 1, 5, none⟩ (.slice A' kk c'))).heap.size := by simp only [size_setCell]; exact Nat.le_refl _
      have R9 : Row ((((((w6.setCell ⟨w.heap.size + 1, 0, none⟩ (.int .i64 wd)).setCell ⟨w.heap.size + 1, 1, none⟩ (.int .i64 k)).setCell ⟨w.heap.size + 1, 2, none⟩ (.int .i64 cap)).setCell ⟨w.heap.size + 1, 3, none⟩ (.int .i64 now)).setCell ⟨w.heap.size + 1, 4, none⟩ (.int .i64 (seq + 1))).setCell ⟨w.heap.size + 1, 5, none⟩ (.slice A' kk c')) (w.heap.size + 1) 24 #[.int .i64 wd, .int .i64 k, .int .i64 cap, .int .i64 now, .int .i64 (seq + 1), .slice A' kk c'] := (row_set (row_set (row_set (row_set (row_set (row_set R 0 (.int .i64 wd)) 1 (.int .i64 k)) 2 (.int .i64 cap)) 3 (.int .i64 now)) 4 (.int .i64 (seq + 1))) 5 (.slice A' kk c'))
      have o9 : Below w.heap.size w ((((((w6.setCell ⟨w.heap.size + 1, 0, none⟩ (.int .i64 wd)).setCell ⟨w.heap.size + 1, 1, none⟩ (.int .i64 k)).setCell ⟨w.heap.size + 1, 2, none⟩ (.int .i64 cap)).setCell ⟨w.heap.size + 1, 3, none⟩ (.int .i64 now)).setCell ⟨w.heap.size + 1, 4, none⟩ (.int .i64 (seq + 1))).setCell ⟨w.heap.size + 1, 5, none⟩ (.slice A' kk c')) := (Below.setCell (p := ⟨w.heap.size + 1, 5, none⟩) (Below.setCell (p := ⟨w.heap.size + 1, 4, none⟩) (Below.setCell (p := ⟨w.heap.size + 1, 3, none⟩) (Below.setCell (p := ⟨w.heap.size + 1, 2, none⟩) (Below.setCell (p := ⟨w.heap.size + 1, 1, none⟩) (Below.setCell (p := ⟨w.heap.size + 1, 0, none⟩) o6 hbge (.int .i64 wd)) hbge (.int .i64 k)) hbge (.int .i64 cap)) hbge (.int .i64 now)) hbge (.int .i64 (seq + 1))) hbge (.slice A' kk c'))
      generalize ((((((w6.setCell ⟨w.heap.size + 1, 0, none⟩ (.int .i64 wd)).setCell ⟨w.heap.size + 1, 1, none⟩ (.int .i64 k)).setCell ⟨w.heap.size + 1, 2, none⟩ (.int .i64 cap)).setCell ⟨w.heap.size + 1, 3, none⟩ (.int .i64 now)).setCell ⟨w.heap.size + 1, 4, none⟩ (.int .i64 (seq + 1))).setCell ⟨w.heap.size + 1, 5, none⟩ (.slice A' kk c')) = w9 at R9 o9 hkp hksz ⊢
      obtain ⟨N0, N1, N2, N3, N4, N5, Nf0, Nf1, Nf2, Nf3, Nf4, Nf5⟩ := row_six R9
      exact bodyPost_ret (v := .tuple #[.agg #[.int .i64 wd, .int .i64 k, .int .i64 cap, .int .i64 now, .int .i64 (seq + 1), .slice A' kk c'], .int .i64 0]) (by simp [results, Try.results32, go_sem, List.getElem?_toArray, N0, N1, N2, N3, N4, N5]) rfl (spret_ok (HE.out ▸ INP6.out.keep hksz (fun a e => hkp a.block (by have := FR.out a e; omega))) o9 (fun a e => .inl (by have := FR.out a e; omega)))
set_option maxRecDepth 100000 in
set_option maxHeartbeats 8000000 in
theorem rspadd_d0 (A : Option Addr) (c : Nat) (l : List Mk) (wd k cap now seq : Int) (v : Int) (w : World) (hin : MIn A 0 c l w) (sB : I64 seq) (hv : spvalE wd k cap now seq l = 0) (h0 : ¬ v < (-4096)) (h1 : ¬ 4096 < v)  (hs : seq ≠ 1099511627776) (hf : ¬ smFull cap seq l) : Calls Try.prog 32 #[.agg #[.int .i64 wd, .int .i64 k, .int .i64 cap, .int .i64 now, .int .i64 seq, .slice A 0 c], .int .i64 v] w fun e w' => SpRet A (spAdd wd k cap now seq l v) w e w' := by
  rw [spAdd_d hv (by omega) hf]
  have hV := of_spvalE hv
  obtain ⟨hG, hMV, _⟩ := hV
  obtain ⟨d0, d1, k0, k1, c0, c1, n0, n1⟩ := hG
  obtain ⟨⟨s0, s1⟩, hVL⟩ := mvalid_iff.1 hMV
  have HVI := Lib.hid (hVL.incl s0 (hVL.n_lt (fun a => hf (.inl a))) c0 n0 d0 (Int.not_lt.1 h0) (by omega) (Int.not_lt.1 h1))
  have HSM := Lib.hid (fun i (hi : i < 0) => SmallM.of_one (hVL.one _ (mkAt_mem (l := l) (i := i) (by rw [hin.len]; exact hi))) c1 ((Int.le_refl (-4096))))
  have hv0 : -4096 ≤ v := by omega
  have hv1 : v ≤ 4096 := by omega
  have HLE := Lib.hid ((Int.le_refl (-4096)))
  have HMI := Lib.hid (show ∀ x ∈ incl l (seq + 1) now v, M64 x from fun x hx => M64.of_one (HVI.out.one x hx) (by omega) c1 n1 HLE.out)
  clear hf hMV hVL
  have PV := fun w => rvalue9D v w
  rw [decide_eq_true ⟨Int.not_lt.1 h0, Int.not_lt.1 h1⟩] at PV
  replace PV := Lib.hid PV
  have P := fun w' (hb : Below w.heap.size w w') => rvalP A 0 c l wd k cap now seq w' (hin.below hb) sB
  rw [hv] at P
  replace P := Lib.hid P
  have HR := Lib.hid hin
  have HL := Lib.hid hin.len
  clear hin sB h0 h1
  go_enter Try.func32, Try.ntmps32
  go_upto_region 6 with (first | (go_at_call 28; with_reducible refine (P.out _ (by (repeat (first | exact Below.refl _ _ | refine Below.setCell ?_ (by first | (simp; done) | (simp; omega) | omega) _ | refine Below.alloc ?_ (by first | (simp; done) | (simp; omega) | omega) _ | refine Below.drew ?_ | refine Below.trans ?_ (Below.mono (by assumption) (by first | (simp; done) | (simp; omega) | omega)))))).mono ?_; rintro e w1 ⟨rfl, hb1⟩; have hz1 := hb1.size; (try simp at hz1); have o1 : Below w.heap.size w w1 := (by (repeat (first | exact Below.refl _ _ | refine Below.setCell ?_ (by first | (simp; done) | (simp; omega) | omega) _ | refine Below.alloc ?_ (by first | (simp; done) | (simp; omega) | omega) _ | refine Below.drew ?_ | refine Below.trans ?_ (Below.mono (by assumption) (by first | (simp; done) | (simp; omega) | omega))))); have q1_0 : w.heap.size < w1.heap.size := (by omega); have r1_0 : Row w1 (w.heap.size) 24 #[.int .i64 wd, .int .i64 k, .int .i64 cap, .int .i64 now, .int .i64 seq, .slice A 0 c] := row_call (by (repeat (first | assumption | (refine row_new ?_; (first | (simp; done) | omega)) | refine row_alloc ?_ _ | refine row_drew ?_ | refine row_call ?_ (by assumption)))) hb1; obtain ⟨c1_0a, c1_0b, c1_0c, c1_0d, c1_0e, c1_0f, f1_0a, f1_0b, f1_0c, f1_0d, f1_0e, f1_0f⟩ := row_six r1_0; have q1_1 : w.heap.size + 1 < w1.heap.size := (by omega); have r1_1 : Row w1 (w.heap.size + 1) 24 #[.int .i64 0, .int .i64 0, .int .i64 0, .int .i64 0, .int .i64 0, .slice none 0 0] := row_call (by (repeat (first | assumption | (refine row_new ?_; (first | (simp; done) | omega)) | refine row_alloc ?_ _ | refine row_drew ?_ | refine row_call ?_ (by assumption)))) hb1; obtain ⟨c1_1a, c1_1b, c1_1c, c1_1d, c1_1e, c1_1f, f1_1a, f1_1b, f1_1c, f1_1d, f1_1e, f1_1f⟩ := row_six r1_1) | (go_at_call 73; with_reducible refine (PV.out _).mono ?_; rintro e w9 ⟨rfl, h9⟩; obtain rfl := h9.symm))
  clear P PV
  clear hv
  have e2 : (seq == 1099511627776) = false := by simpa using hs
  refine wp_region_quiet_lit (by as_aux_lemma => kernel_rfl) (by as_aux_lemma => kernel_rfl) ?_
  repeat (go_big_quiet_step (fail))
  refine wpQuiet_nil ?_
  intro _ hw'
  obtain ⟨nq, hw''⟩ := hw'
  subst hw''
  replace r1_0 : Row (w1.drewN nq) (w.heap.size) 24 #[.int .i64 wd, .int .i64 k, .int .i64 cap, .int .i64 now, .int .i64 seq, .slice A 0 c] := r1_0
  replace r1_1 : Row (w1.drewN nq) (w.heap.size + 1) 24 #[.int .i64 0, .int .i64 0, .int .i64 0, .int .i64 0, .int .i64 0, .slice none 0 0] := r1_1
  replace o1 := o1.trans (⟨rfl, rfl, rfl, Nat.le_refl _, fun _ _ => rfl⟩ : Below _ w1 (w1.drewN nq))
  generalize w1.drewN nq = w2 at r1_0 r1_1 o1 ⊢
  clear c1_0a c1_0b c1_0c c1_0d c1_0e c1_0f f1_0a f1_0b f1_0c f1_0d f1_0e f1_0f c1_1a c1_1b c1_1c c1_1d c1_1e c1_1f f1_1a f1_1b f1_1c f1_1d f1_1e f1_1f
  clear e2
  have wsq : IntKind.i64.wrap (seq + 1) = seq + 1 := IntWalk.i64_in _ (by omega)
  obtain ⟨X0, X1, X2, X3, X4, X5, Xf0, Xf1, Xf2, Xf3, Xf4, Xf5⟩ := row_six r1_0
  have KR := Lib.hid r1_0
  clear r1_0
  go_upto_region 9 with (fail)
  have X : Row (w2.setCell ⟨w.heap.size, 4, none⟩ (.int .i64 (seq + 1))) (w.heap.size) 24 #[.int .i64 wd, .int .i64 k, .int .i64 cap, .int .i64 now, .int .i64 (seq + 1), .slice A 0 c] := row_set KR.out 4 _
  have R : Row (w2.setCell ⟨w.heap.size, 4, none⟩ (.int .i64 (seq + 1))) (w.heap.size + 1) 24 #[.int .i64 0, .int .i64 0, .int .i64 0, .int .i64 0, .int .i64 0, .slice none 0 0] := row_other (p := ⟨w.heap.size, 4, none⟩) r1_1 (by show w.heap.size + 1 ≠ w.heap.size; omega) _
  have o : Below w.heap.size w (w2.setCell ⟨w.heap.size, 4, none⟩ (.int .i64 (seq + 1))) := o1.setCell (p := ⟨w.heap.size, 4, none⟩) (Nat.le_refl _) _
  generalize w2.setCell ⟨w.heap.size, 4, none⟩ (.int .i64 (seq + 1)) = w3 at X R o ⊢
  clear X0 X1 X2 X3 X4 X5 Xf0 Xf1 Xf2 Xf3 Xf4 Xf5 KR o1 r1_1 wsq
  obtain ⟨X0, X1, X2, X3, X4, X5, Xf0, Xf1, Xf2, Xf3, Xf4, Xf5⟩ := row_six X
  go_wp2_with fail
  refine (rmadd A 0 c l (seq + 1) now v _ (HR.out.below o) (by omega) HSM.out hv0 hv1).mono ?_
  rintro e w4 ⟨va, rfl, ownA, hb4⟩
  obtain ⟨A4, c4, rfl, inA, fr4⟩ := MIn.of_row ownA (M64.all HMI.out)
  have z3 := row_lt R
  replace X := row_call X hb4
  replace R := row_call R hb4
  replace o := o.trans (hb4.mono o.size)
  have fr : ∀ a, A4 = some a → w.heap.size + 1 < a.block ∧ a.block < w4.heap.size := fun a e => by have := fr4 a e; omega
  clear hb4 fr4 ownA X0 X1 X2 X3 X4 X5 Xf0 Xf1 Xf2 Xf3 Xf4 Xf5
  have INA := Lib.hid inA
  have LI : RowKit.Hid ((incl l (seq + 1) now v).length = 0 + 1) := Lib.hid (by rw [incl_len, HL.out])
  clear inA
  obtain ⟨X0, X1, X2, X3, X4, X5, Xf0, Xf1, Xf2, Xf3, Xf4, Xf5⟩ := row_six X
  go_wp2
  go_loopw [7, 8] (fun u i wr => ∃ (L : List Mk) (kk : Nat) (A' : Option Addr) (m' c' : Nat), u = .slice A' m' c' ∧ i = .int .i64 (kk : Nat) ∧ MIn A' m' c' L wr ∧ kk ≤ m' ∧ m' ≤ 100001 ∧ RowKit.Hid (L.take kk ++ prune (closeB k) (L.drop kk) = prune (closeB k) (incl l (seq + 1) now v) ∧ (∀ x ∈ L, x ∈ incl l (seq + 1) now v) ∧ ∀ a, A' = some a → w.heap.size + 1 < a.block ∧ a.block < wr.heap.size) ∧ Row wr (w.heap.size) 24 #[.int .i64 wd, .int .i64 k, .int .i64 cap, .int .i64 now, .int .i64 (seq + 1), .slice A 0 c] ∧ Row wr (w.heap.size + 1) 24 #[.int .i64 0, .int .i64 0, .int .i64 0, .int .i64 0, .int .i64 0, .slice none 0 0] ∧ Below w.heap.size w wr) (fun u i _ => lenV u - (intOf i).toNat)
  case atStart => exact ⟨incl l (seq + 1) now v, 0, A4, 0 + 1, c4, rfl, rfl, INA.out, by omega, by omega, Lib.hid ⟨rfl, fun x h => h, fr⟩, X, R, o⟩
  case round =>
    clear X R o X0 X1 X2 X3 X4 X5 Xf0 Xf1 Xf2 Xf3 Xf4 Xf5 fr INA LI
    obtain ⟨L, kk, A', m', c', rfl, rfl, hinL, hkk, hm', HP, X, R, o⟩ := hrel
    have HLL := Lib.hid hinL.len
    by_cases hlt : kk < m'
    · have i1 : (kk : Int) < (m' : Int) := by omega
      have i2 : (0 : Int) ≤ (kk : Int) := by omega
      have wk : IntKind.i64.wrap ((kk : Int) + 1) = (kk : Int) + 1 := IntWalk.i64_in _ (by omega)
      go_upto_block 2 with (fail)
      go_cut [9] (fun jv wx => ∃ J : Nat, jv = .int .i64 (J : Nat) ∧ RowKit.Hid (JSpec (closeB k) L kk J m') ∧ MIn A' m' c' L wx ∧ Row wx (w.heap.size) 24 #[.int .i64 wd, .int .i64 k, .int .i64 cap, .int .i64 now, .int .i64 (seq + 1), .slice A 0 c] ∧ Row wx (w.heap.size + 1) 24 #[.int .i64 0, .int .i64 0, .int .i64 0, .int .i64 0, .int .i64 0, .slice none 0 0] ∧ Below w.heap.size w wx ∧ wr.heap.size ≤ wx.heap.size)
      case first =>
        go_wp2_with fail
        go_loopw [9, 10] (fun jv nv wy => ∃ J N : Nat, jv = .int .i64 (J : Nat) ∧ nv = .int .i64 (N : Nat) ∧ kk < N ∧ N ≤ m' ∧ RowKit.Hid (JSpec (closeB k) L kk J N) ∧ MIn A' m' c' L wy ∧ Row wy (w.heap.size) 24 #[.int .i64 wd, .int .i64 k, .int .i64 cap, .int .i64 now, .int .i64 (seq + 1), .slice A 0 c] ∧ Row wy (w.heap.size + 1) 24 #[.int .i64 0, .int .i64 0, .int .i64 0, .int .i64 0, .int .i64 0, .slice none 0 0] ∧ Below w.heap.size w wy ∧ wr.heap.size ≤ wy.heap.size) (fun _ nv _ => m' - (intOf nv).toNat)
        case atStart => exact ⟨kk, kk + 1, rfl, by go_num, by omega, by omega, Lib.hid (.inl ⟨rfl, fun e h1 h2 => absurd h1 (by omega)⟩), hinL, X, R, o, Nat.le_refl _⟩
        case round =>
          clear X R o hinL
          obtain ⟨J, N, rfl, rfl, hkN, hNm, HJ, hinL, X, R, o, hsz⟩ := hrel
          by_cases hN : N < m'
          · obtain ⟨ad1, rfl, hb1, htk⟩ := hinL.reads.mk hlt
            obtain ⟨ad2, ea2, hb2, htN⟩ := hinL.reads.mk hN
            obtain rfl : ad1 = ad2 := by injection ea2
            have mk1 : mkAt L kk ∈ incl l (seq + 1) now v := HP.out.2.1 _ (mkAt_mem (by rw [HLL.out]; exact hlt))
            have mk2 : mkAt L N ∈ incl l (seq + 1) now v := HP.out.2.1 _ (mkAt_mem (by rw [HLL.out]; exact hN))
            have PC := fun w => rcloseB k (mkAt L kk) (mkAt L N) w
            obtain ⟨nv, hnv⟩ : ∃ nv, closeB k (mkAt L kk) (mkAt L N) = nv := ⟨_, rfl⟩
            rw [hnv] at PC
            have HNR2 := Lib.hid hnv
            clear mk1 mk2 ea2 hnv
            generalize hmk : mkAt L kk = ma at htk PC
            generalize hmN : mkAt L N = mb at htN PC
            have HMK := Lib.hid hmk
            have HMN := Lib.hid hmN
            obtain ⟨sq, tk, n, s, q, lo, hi⟩ := ma
            obtain ⟨osq, otk, on, os, oq, olo, ohi⟩ := mb
            dsimp only at PC
            replace PC := Lib.hid PC
            have HTK := Lib.hid htk
            have HTN := Lib.hid htN
            have hbk : (ad1.add (kk * 7)).block < wr.heap.size := by rw [block_of_add]; exact hb1
            have hbN : (ad1.add (N * 7)).block < wr.heap.size := by rw [block_of_add]; exact hb1
            have HBK := Lib.hid hbk
            have HBN := Lib.hid hbN
            clear hmk hmN htk htN hbk hbN hb1 hb2
            have j1 : (N : Int) < (m' : Int) := by omega
            have j0 : (0 : Int) ≤ (N : Int) := by omega
            have wN : IntKind.i64.wrap ((N : Int) + 1) = (N : Int) + 1 := IntWalk.i64_in _ (by omega)
            go_upto_region 17 with (fail)
            cases nv
            rotate_left
            · skip
              refine wp_region_free0 [0, 1, 2, 4, 5, 6, 8, 3, 7, 9] [] [0, 1, 2, 3, 4, 5, 6, 7, 8, 9] 10 (fun w' => Below wr.heap.size wr w') (by kernel_rfl) (by kernel_rfl) (fun _ _ d _ _ h => by cases d <;> exact h) ?_ ?_
              · exact (Below.refl _ _).drew
              (refine plan_pure ?_ rfl rfl (fun w' => ?_) ?_; rotate_left; (go_simp; try with_reducible rfl); simp only [Act.put, List.setIfInBounds_toArray, List.set_cons_zero, List.set_cons_succ])
              (refine plan_pure ?_ rfl rfl (fun w' => ?_) ?_; rotate_left; (go_simp; try with_reducible rfl); simp only [Act.put, List.setIfInBounds_toArray, List.set_cons_zero, List.set_cons_succ])
              (refine plan_pure ?_ rfl rfl (fun w' => ?_) ?_; rotate_left; (go_simp; try with_reducible rfl); simp only [Act.put, List.setIfInBounds_toArray, List.set_cons_zero, List.set_cons_succ])
              (refine plan_pure ?_ rfl rfl (fun w' => ?_) ?_; rotate_left; (go_simp; try with_reducible rfl); simp only [Act.put, List.setIfInBounds_toArray, List.set_cons_zero, List.set_cons_succ])
              (refine plan_pure ?_ rfl rfl (fun w' => ?_) ?_; rotate_left; (go_simp; try with_reducible rfl); simp only [Act.put, List.setIfInBounds_toArray, List.set_cons_zero, List.set_cons_succ])
              (refine plan_pure ?_ rfl rfl (fun w' => ?_) ?_; rotate_left; (go_simp; try with_reducible rfl); simp only [Act.put, List.setIfInBounds_toArray, List.set_cons_zero, List.set_cons_succ])
              (refine plan_pure ?_ rfl rfl (fun w' => ?_) ?_; rotate_left; (go_simp; try with_reducible rfl); simp only [Act.put, List.setIfInBounds_toArray, List.set_cons_zero, List.set_cons_succ])
              (refine plan_val ?_ rfl rfl rfl (fun w' hS => ?_) ?_; rotate_left; (obtain ⟨X0, X1, X2, X3, X4, X5, Xf0, Xf1, Xf2, Xf3, Xf4, Xf5⟩ := row_six (row_call X hS); obtain ⟨p0, p1, p2, p3, p4, p5, p6⟩ := HTK.out.below hS HBK.out; dsimp only at p0 p1 p2 p3 p4 p5 p6; obtain ⟨q0, q1, q2, q3, q4, q5, q6⟩ := HTN.out.below hS HBN.out; dsimp only at q0 q1 q2 q3 q4 q5 q6; go_simp; try with_reducible rfl); simp only [Act.put, List.setIfInBounds_toArray, List.set_cons_zero, List.set_cons_succ])
              (refine plan_val ?_ rfl rfl rfl (fun w' hS => ?_) ?_; rotate_left; (obtain ⟨X0, X1, X2, X3, X4, X5, Xf0, Xf1, Xf2, Xf3, Xf4, Xf5⟩ := row_six (row_call X hS); obtain ⟨p0, p1, p2, p3, p4, p5, p6⟩ := HTK.out.below hS HBK.out; dsimp only at p0 p1 p2 p3 p4 p5 p6; obtain ⟨q0, q1, q2, q3, q4, q5, q6⟩ := HTN.out.below hS HBN.out; dsimp only at q0 q1 q2 q3 q4 q5 q6; go_simp; try with_reducible rfl); simp only [Act.put, List.setIfInBounds_toArray, List.set_cons_zero, List.set_cons_succ])
              (refine plan_val ?_ rfl rfl rfl (fun w' hS => ?_) ?_; rotate_left; (obtain ⟨X0, X1, X2, X3, X4, X5, Xf0, Xf1, Xf2, Xf3, Xf4, Xf5⟩ := row_six (row_call X hS); obtain ⟨p0, p1, p2, p3, p4, p5, p6⟩ := HTK.out.below hS HBK.out; dsimp only at p0 p1 p2 p3 p4 p5 p6; obtain ⟨q0, q1, q2, q3, q4, q5, q6⟩ := HTN.out.below hS HBN.out; dsimp only at q0 q1 q2 q3 q4 q5 q6; go_simp; try with_reducible rfl); simp only [Act.put, List.setIfInBounds_toArray, List.set_cons_zero, List.set_cons_succ])
              refine plan_nil ?_
              intro w5 L5
              simp only [List.drop_succ_cons, List.drop_zero]
              try simp only [Act.put, List.setIfInBounds_toArray, List.set_cons_zero, List.set_cons_succ]
              go_wp2_with fail
              refine (PC.out _).mono ?_
              rintro e w5b ⟨rfl, hb5b⟩
              replace L5 := L5.trans (hb5b.mono L5.size)
              clear hb5b
              replace X := row_call X L5
              replace R := row_call R L5
              replace o := o.trans (L5.mono o.size)
              replace hinL := hinL.below L5
              have hsz5 := Nat.le_trans hsz L5.size
              clear L5 hsz
              have HJ2 := Lib.hid (JSpec.yes (nr := closeB k) (L := L) hkN HNR2.out)
              go_wp2
              go_roundw
              case rel => exact ⟨N, N + 1, rfl, by go_num, by omega, by omega, HJ2, hinL, X, R, o, hsz5⟩
              case measure => simp [intOf]; omega
            · skip
              refine wp_region_free0 [0, 1, 2, 4, 5, 6, 8, 3, 7, 9] [] [0, 1, 2, 3, 4, 5, 6, 7, 8, 9] 10 (fun w' => Below wr.heap.size wr w') (by kernel_rfl) (by kernel_rfl) (fun _ _ d _ _ h => by cases d <;> exact h) ?_ ?_
              · exact (Below.refl _ _).drew
              (refine plan_pure ?_ rfl rfl (fun w' => ?_) ?_; rotate_left; (go_simp; try with_reducible rfl); simp only [Act.put, List.setIfInBounds_toArray, List.set_cons_zero, List.set_cons_succ])
              (refine plan_pure ?_ rfl rfl (fun w' => ?_) ?_; rotate_left; (go_simp; try with_reducible rfl); simp only [Act.put, List.setIfInBounds_toArray, List.set_cons_zero, List.set_cons_succ])
              (refine plan_pure ?_ rfl rfl (fun w' => ?_) ?_; rotate_left; (go_simp; try with_reducible rfl); simp only [Act.put, List.setIfInBounds_toArray, List.set_cons_zero, List.set_cons_succ])
              (refine plan_pure ?_ rfl rfl (fun w' => ?_) ?_; rotate_left; (go_simp; try with_reducible rfl); simp only [Act.put, List.setIfInBounds_toArray, List.set_cons_zero, List.set_cons_succ])
              (refine plan_pure ?_ rfl rfl (fun w' => ?_) ?_; rotate_left; (go_simp; try with_reducible rfl); simp only [Act.put, List.setIfInBounds_toArray, List.set_cons_zero, List.set_cons_succ])
              (refine plan_pure ?_ rfl rfl (fun w' => ?_) ?_; rotate_left; (go_simp; try with_reducible rfl); simp only [Act.put, List.setIfInBounds_toArray, List.set_cons_zero, List.set_cons_succ])
              (refine plan_pure ?_ rfl rfl (fun w' => ?_) ?_; rotate_left; (go_simp; try with_reducible rfl); simp only [Act.put, List.setIfInBounds_toArray, List.set_cons_zero, List.set_cons_succ])
              (refine plan_val ?_ rfl rfl rfl (fun w' hS => ?_) ?_; rotate_left; (obtain ⟨X0, X1, X2, X3, X4, X5, Xf0, Xf1, Xf2, Xf3, Xf4, Xf5⟩ := row_six (row_call X hS); obtain ⟨p0, p1, p2, p3, p4, p5, p6⟩ := HTK.out.below hS HBK.out; dsimp only at p0 p1 p2 p3 p4 p5 p6; obtain ⟨q0, q1, q2, q3, q4, q5, q6⟩ := HTN.out.below hS HBN.out; dsimp only at q0 q1 q2 q3 q4 q5 q6; go_simp; try with_reducible rfl); simp only [Act.put, List.setIfInBounds_toArray, List.set_cons_zero, List.set_cons_succ])
              (refine plan_val ?_ rfl rfl rfl (fun w' hS => ?_) ?_; rotate_left; (obtain ⟨X0, X1, X2, X3, X4, X5, Xf0, Xf1, Xf2, Xf3, Xf4, Xf5⟩ := row_six (row_call X hS); obtain ⟨p0, p1, p2, p3, p4, p5, p6⟩ := HTK.out.below hS HBK.out; dsimp only at p0 p1 p2 p3 p4 p5 p6; obtain ⟨q0, q1, q2, q3, q4, q5, q6⟩ := HTN.out.below hS HBN.out; dsimp only at q0 q1 q2 q3 q4 q5 q6; go_simp; try with_reducible rfl); simp only [Act.put, List.setIfInBounds_toArray, List.set_cons_zero, List.set_cons_succ])
              (refine plan_val ?_ rfl rfl rfl (fun w' hS => ?_) ?_; rotate_left; (obtain ⟨X0, X1, X2, X3, X4, X5, Xf0, Xf1, Xf2, Xf3, Xf4, Xf5⟩ := row_six (row_call X hS); obtain ⟨p0, p1, p2, p3, p4, p5, p6⟩ := HTK.out.below hS HBK.out; dsimp only at p0 p1 p2 p3 p4 p5 p6; obtain ⟨q0, q1, q2, q3, q4, q5, q6⟩ := HTN.out.below hS HBN.out; dsimp only at q0 q1 q2 q3 q4 q5 q6; go_simp; try with_reducible rfl); simp only [Act.put, List.setIfInBounds_toArray, List.set_cons_zero, List.set_cons_succ])
              refine plan_nil ?_
              intro w5 L5
              simp only [List.drop_succ_cons, List.drop_zero]
              try simp only [Act.put, List.setIfInBounds_toArray, List.set_cons_zero, List.set_cons_succ]
              go_wp2_with fail
              refine (PC.out _).mono ?_
              rintro e w5b ⟨rfl, hb5b⟩
              replace L5 := L5.trans (hb5b.mono L5.size)
              clear hb5b
              replace X := row_call X L5
              replace R := row_call R L5
              replace o := o.trans (L5.mono o.size)
              replace hinL := hinL.below L5
              have hsz5 := Nat.le_trans hsz L5.size
              clear L5 hsz
              have HJ2 := Lib.hid (HJ.out.no HNR2.out)
              go_wp2
              go_roundw
              case rel => exact ⟨J, N + 1, rfl, by go_num, by omega, by omega, HJ2, hinL, X, R, o, hsz5⟩
              case measure => simp [intOf]; omega
          · have j1 : ¬ (N : Int) < (m' : Int) := by omega
            obtain rfl : N = m' := by omega
            go_wp2
            go_meet
            exact ⟨J, rfl, HJ, hinL, X, R, o, hsz⟩
      case rest =>
        clear X R o hinL
        obtain ⟨J, rfl, HJ, hinL, X, R, o, hsz⟩ := hcut
        by_cases hJ : J = kk
        · subst hJ
          have HP2 := Lib.hid (show L.take (J + 1) ++ prune (closeB k) (L.drop (J + 1)) = prune (closeB k) (incl l (seq + 1) now v) from by
            rw [← prune_stepA (by rw [HLL.out]; exact hlt) (fun e h1 h2 => by
              rcases HJ.out with ⟨_, h3⟩ | ⟨h3, _⟩
              · exact h3 e h1 (by rw [HLL.out] at h2; exact h2)
              · omega)]
            exact HP.out.1)
          go_wp2
          go_roundw
          case rel => exact ⟨L, J + 1, A', m', c', rfl, by go_num, hinL, by omega, hm', Lib.hid ⟨HP2.out, HP.out.2.1, fun a e => ⟨(HP.out.2.2 a e).1, Nat.lt_of_lt_of_le (HP.out.2.2 a e).2 hsz⟩⟩, X, R, o⟩
          case measure => simp [lenV, intOf]; omega
        · have hkJ : kk < J := by
            rcases HJ.out with ⟨h3, _⟩ | ⟨h3, _⟩
            · exact absurd h3 hJ
            · exact h3
          have hJm : J < m' := by
            rcases HJ.out with ⟨h3, _⟩ | ⟨_, h3, _⟩
            · exact absurd h3 hJ
            · exact h3
          have HP2 := Lib.hid (show L.take (kk + 1) ++ prune (closeB k) (L.drop J) = prune (closeB k) (incl l (seq + 1) now v) from by
            rcases HJ.out with ⟨h3, _⟩ | ⟨h3, h4, h5, h6⟩
            · exact absurd h3 hJ
            · rw [← prune_stepB h3 (by rw [HLL.out]; exact h4) h5 (fun e g1 g2 => h6 e g1 (by rw [HLL.out] at g2; exact g2))]
              exact HP.out.1)
          obtain ⟨ad1, rfl, hb1, _⟩ := hinL.reads.mk hlt
          have hmc := hinL.mc
          have hcB := hinL.cB
          have RD1 := Lib.hid (hinL.pre (k := kk + 1) (by omega))
          have RD2 := Lib.hid (hinL.post (k := J) (by omega))
          have HMB := Lib.hid (show ∀ i, M64 (mkAt (L.take (kk + 1) ++ L.drop J) i) from M64.all fun x hx => HMI.out x (HP.out.2.1 x (by
            rcases List.mem_append.1 hx with h | h
            · exact (List.take_subset _ _) h
            · exact (List.drop_subset _ _) h)))
          have g1 : (kk : Int) < (J : Int) := by omega
          have s1 : (kk : Int) + 1 ≤ (c' : Int) := by omega
          have s2 : (0 : Int) ≤ (kk : Int) + 1 := by omega
          have s3 : ((kk : Int) + 1).toNat = kk + 1 := by omega
          have s4 : (J : Int) ≤ (m' : Int) := by omega
          have s5 : (m' : Int) ≤ (c' : Int) := by omega
          have s6 : ¬ c' = J := by omega
          have s7 : (0 : Int) ≤ (J : Int) := by omega
          obtain ⟨i0, hi0, iz0, iz1, iz2⟩ := info_parts info_mk
          go_upto_region 20 with (fail)
          refine wp_region_phase 10 (fun w' => Row w' (w.heap.size) 24 #[.int .i64 wd, .int .i64 k, .int .i64 cap, .int .i64 now, .int .i64 (seq + 1), .slice A 0 c] ∧ Row w' (w.heap.size + 1) 24 #[.int .i64 0, .int .i64 0, .int .i64 0, .int .i64 0, .int .i64 0, .slice none 0 0] ∧ Below w.heap.size w w') (by kernel_rfl) (by kernel_rfl) (by kernel_rfl) (by kernel_rfl) (by kernel_rfl) (fun HOK => ?_)
          have HS := (⟨X, R, o.drew⟩ : Row wc.drew (w.heap.size) 24 #[.int .i64 wd, .int .i64 k, .int .i64 cap, .int .i64 now, .int .i64 (seq + 1), .slice A 0 c] ∧ Row wc.drew (w.heap.size + 1) 24 #[.int .i64 0, .int .i64 0, .int .i64 0, .int .i64 0, .int .i64 0, .slice none 0 0] ∧ Below w.heap.size w wc.drew)
          (refine hw_take HOK (i := 1) ?_ rfl (by decide) (by kernel_rfl) (by kernel_rfl) (by exact fun _ _ _ h => h) (Or.inl ⟨by rfl, fun w' hS => ?_⟩) HS ?_; rotate_left; (go_simp; try with_reducible rfl); simp only [Act.put, List.setIfInBounds_toArray, List.set_cons_zero, List.set_cons_succ])
          (refine hw_take HOK (i := 2) ?_ rfl (by decide) (by kernel_rfl) (by kernel_rfl) (by exact fun _ _ _ h => h) (Or.inl ⟨by rfl, fun w' hS => ?_⟩) HS ?_; rotate_left; (go_simp; try with_reducible rfl); simp only [Act.put, List.setIfInBounds_toArray, List.set_cons_zero, List.set_cons_succ])
          (refine hw_take HOK (i := 3) ?_ rfl (by decide) (by kernel_rfl) (by kernel_rfl) (by exact fun _ _ _ h => h) (Or.inl ⟨by rfl, fun w' hS => ?_⟩) HS ?_; rotate_left; (go_simp; try with_reducible rfl); simp only [Act.put, List.setIfInBounds_toArray, List.set_cons_zero, List.set_cons_succ])
          (refine hw_take HOK (i := 4) ?_ rfl (by decide) (by kernel_rfl) (by kernel_rfl) (by exact fun _ _ _ h => h) (Or.inl ⟨by rfl, fun w' hS => ?_⟩) HS ?_; rotate_left; (go_simp; try with_reducible rfl); simp only [Act.put, List.setIfInBounds_toArray, List.set_cons_zero, List.set_cons_succ])
          (refine hw_take HOK (i := 6) ?_ rfl (by decide) (by kernel_rfl) (by kernel_rfl) (by exact fun _ _ _ h => h) (Or.inl ⟨by rfl, fun w' hS => ?_⟩) HS ?_; rotate_left; (go_simp; try with_reducible rfl); simp only [Act.put, List.setIfInBounds_toArray, List.set_cons_zero, List.set_cons_succ])
          (refine hw_take HOK (i := 7) ?_ rfl (by decide) (by kernel_rfl) (by kernel_rfl) (by exact fun _ _ _ h => h) (Or.inl ⟨by rfl, fun w' hS => ?_⟩) HS ?_; rotate_left; (go_simp; try with_reducible rfl); simp only [Act.put, List.setIfInBounds_toArray, List.set_cons_zero, List.set_cons_succ])
          (refine hw_take HOK (i := 8) ?_ rfl (by decide) (by kernel_rfl) (by kernel_rfl) (by exact fun _ _ _ h => h) (Or.inl ⟨by rfl, fun w' hS => ?_⟩) HS ?_; rotate_left; (go_simp; try with_reducible rfl); simp only [Act.put, List.setIfInBounds_toArray, List.set_cons_zero, List.set_cons_succ])
          refine hw_one (i := 0) rfl (by decide) (by kernel_rfl) (fun K hK => ?_)
          go_simp
          refine hK _ _ ⟨row_drew (row_alloc X _), row_drew (row_alloc R _), (o.alloc o.size _).drew⟩ ?_
          clear hK K HS
          refine hw_one (i := 5) rfl (by decide) (by kernel_rfl) (fun K hK => ?_)
          refine step_clone rfl _ _ 22 rfl 33 i0 (.agg #[.int .i64 0, .int .i64 0, .int .i64 0, .int .i64 0, .int .i64 0, .int .i64 0, .int .i64 0]) 7 56 Try.underlying22 hi0 iz0 iz1 iz2 rfl (by decide) rfl wc.heap.size (some ad1) (kk + 1) c' (mcells (L.take (kk + 1))) rfl RD1.out (Nat.le_refl _) (mcells_one _) (by unfold maxLen at *; omega) (by omega) ?_
          intro g c5 w5 own5 hg5 hb5 hz5
          have U0 := row_call X hb5
          have U1 := row_call R hb5
          have o5 := o.trans (hb5.mono o.size)
          have zR := row_lt R
          refine hK _ _ ⟨U0, U1, o5⟩ ?_
          clear hK K
          try simp only [Act.put, List.setIfInBounds_toArray, List.set_cons_zero, List.set_cons_succ]
          refine hw_one (i := 9) rfl (by decide) (by kernel_rfl) (fun K hK => ?_)
          refine step_append_any w5 rfl _ _ 22 rfl wc.heap.size 33 i0 (.agg #[.int .i64 0, .int .i64 0, .int .i64 0, .int .i64 0, .int .i64 0, .int .i64 0, .int .i64 0]) 7 56 Try.underlying22 hi0 iz0 iz1 iz2 rfl (by decide) (.slice (some ⟨g, 0, none⟩) (kk + 1) c5) (kk + 1) (mcells (L.take (kk + 1))) rfl (own5.row hg5) w5.heap.size (some (ad1.add (J * 7))) (m' - J) (c' - J) (mcells (L.drop J)) rfl ((RD2.out.below hb5).more hb5.size) (mcells_one _) (by unfold maxLen at *; omega) (by omega) hb5.size ?_
          intro v6 w6 own6 hg6 hat6
          have zg : w.heap.size + 1 < g := by omega
          have e0 : (Value.slice (some ⟨g, 0, none⟩) (kk + 1) c5).ownBlock = some g := rfl
          rw [e0] at hg6
          have V0 := row_grown U0 hg6 (by intro e; injection e; omega)
          have V1 := row_grown U1 hg6 (by intro e; injection e; omega)
          have o6 := below_grown o5 hg6 (fun b e => by injection e; omega) o5.size
          rw [← mcells_append] at own6
          obtain ⟨A6, c6, rfl, in6, fr6⟩ := MIn.of_row own6 HMB.out
          have fr7 : ∀ a, A6 = some a → w.heap.size + 1 < a.block ∧ a.block < w6.heap.size := fun a e => ⟨by have := (fr6 a e).1; omega, (fr6 a e).2⟩
          refine hK _ _ ⟨V0, V1, o6⟩ ?_
          clear hK K
          try simp only [Act.put, List.setIfInBounds_toArray, List.set_cons_zero, List.set_cons_succ]
          refine hw_done (by kernel_rfl) ?_
          simp only [List.drop_succ_cons, List.drop_zero]
          have hlt2 : (L.take (kk + 1)).length = kk + 1 := by rw [List.length_take, HLL.out]; omega
          have HP3 := Lib.hid (show (L.take (kk + 1) ++ L.drop J).take (kk + 1) ++ prune (closeB k) ((L.take (kk + 1) ++ L.drop J).drop (kk + 1)) = prune (closeB k) (incl l (seq + 1) now v) ∧ ∀ x ∈ L.take (kk + 1) ++ L.drop J, x ∈ incl l (seq + 1) now v from ⟨by
            rw [List.take_left' hlt2, List.drop_left' hlt2]
            exact HP2.out, fun x hx => HP.out.2.1 x (by
            rcases List.mem_append.1 hx with h | h
            · exact (List.take_subset _ _) h
            · exact (List.drop_subset _ _) h)⟩)
          have hmm2 : kk + 1 + (m' - J) ≤ m' := by omega
          clear HOK U0 U1 own5 hb5 own6 hg6 hat6 RD1 RD2 HMB hlt2 e0 o5 X R o
          go_wp2
          go_roundw
          case rel => exact ⟨L.take (kk + 1) ++ L.drop J, kk + 1, A6, kk + 1 + (m' - J), c6, rfl, by go_num, in6, by omega, by omega, Lib.hid ⟨HP3.out.1, HP3.out.2, fr7⟩, V0, V1, o6⟩
          case measure => simp [lenV, intOf]; omega
    · have i1 : ¬ (kk : Int) < (m' : Int) := by omega
      obtain rfl : kk = m' := by omega
      have HE : RowKit.Hid (L = prune (closeB k) (incl l (seq + 1) now v)) := Lib.hid (by
        have h := HP.out.1
        rw [List.take_of_length_le (by rw [HLL.out]; exact Nat.le_refl _), List.drop_of_length_le (by rw [HLL.out]; exact Nat.le_refl _), prune_nil, List.append_nil] at h
        exact h)
      have FR := Lib.hid HP.out.2.2
      have INP := Lib.hid hinL
      clear hinL
      obtain ⟨X0, X1, X2, X3, X4, X5, Xf0, Xf1, Xf2, Xf3, Xf4, Xf5⟩ := row_six X
      obtain ⟨R0, R1, R2, R3, R4, R5, Rf0, Rf1, Rf2, Rf3, Rf4, Rf5⟩ := row_six R
      have XR := Lib.hid X
      have RR := Lib.hid R
      clear X R
      go_upto_region 22 with (fail)
      have X : Row (wr.setCell ⟨w.heap.size, 5, none⟩ (.slice A' kk c')) (w.heap.size) 24 #[.int .i64 wd, .int .i64 k, .int .i64 cap, .int .i64 now, .int .i64 (seq + 1), .slice A' kk c'] := row_set XR.out 5 _
      have R : Row (wr.setCell ⟨w.heap.size, 5, none⟩ (.slice A' kk c')) (w.heap.size + 1) 24 #[.int .i64 0, .int .i64 0, .int .i64 0, .int .i64 0, .int .i64 0, .slice none 0 0] := row_other (p := ⟨w.heap.size, 5, none⟩) RR.out (by show w.heap.size + 1 ≠ w.heap.size; omega) _
      have o6 : Below w.heap.size w (wr.setCell ⟨w.heap.size, 5, none⟩ (.slice A' kk c')) := o.setCell (p := ⟨w.heap.size, 5, none⟩) (Nat.le_refl _) _
      have INP6 := Lib.hid (INP.out.keep (w' := wr.setCell ⟨w.heap.size, 5, none⟩ (.slice A' kk c')) (by rw [size_setCell]; exact Nat.le_refl _) (fun a e => Below.heap_setCell _ ⟨w.heap.size, 5, none⟩ _ a.block (by have := FR.out a e; show a.block ≠ w.heap.size; omega)))
      have hs6 : wr.heap.size ≤ (wr.setCell ⟨w.heap.size, 5, none⟩ (.slice A' kk c')).heap.size := by rw [size_setCell]; exact Nat.le_refl _
      generalize wr.setCell ⟨w.heap.size, 5, none⟩ (.slice A' kk c') = w6 at X R o6 INP6 hs6 ⊢
      clear X0 X1 X2 X3 X4 X5 Xf0 Xf1 Xf2 Xf3 Xf4 Xf5 R0 R1 R2 R3 R4 R5 Rf0 Rf1 Rf2 Rf3 Rf4 Rf5 XR RR INP o
      obtain ⟨X0, X1, X2, X3, X4, X5, Xf0, Xf1, Xf2, Xf3, Xf4, Xf5⟩ := row_six X
      obtain ⟨R0, R1, R2, R3, R4, R5, Rf0, Rf1, Rf2, Rf3, Rf4, Rf5⟩ := row_six R
      go_wp2
      have hbge : w.heap.size ≤ w.heap.size + 1 := by omega
      have hkp : ∀ b', b' ≠ w.heap.size + 1 → (((((((w6.setCell ⟨w.heap.size + 1, 0, none⟩ (.int .i64 wd)).setCell ⟨w.heap.size + 1, 1, none⟩ (.int .i64 k)).setCell ⟨w.heap.size + 1, 2, none⟩ (.int .i64 cap)).setCell ⟨w.heap.size + 1, 3, none⟩ (.int .i64 now)).setCell ⟨w.heap.size + 1, 4, none⟩ (.int .i64 (seq + 1))).setCell ⟨w.heap.size + 1, 5, none⟩ (.slice A' kk c'))).heap[b']? = w6.heap[b']? := fun b' h' => ((Below.heap_setCell _ ⟨w.heap.size + 1, 5, none⟩ (.slice A' kk c') b' h').trans ((Below.heap_setCell _ ⟨w.heap.size + 1, 4, none⟩ (.int .i64 (seq + 1)) b' h').trans ((Below.heap_setCell _ ⟨w.heap.size + 1, 3, none⟩ (.int .i64 now) b' h').trans ((Below.heap_setCell _ ⟨w.heap.size + 1, 2, none⟩ (.int .i64 cap) b' h').trans ((Below.heap_setCell _ ⟨w.heap.size + 1, 1, none⟩ (.int .i64 k) b' h').trans ((Below.heap_setCell _ ⟨w.heap.size + 1, 0, none⟩ (.int .i64 wd) b' h').trans rfl))))))
      have hksz : w6.heap.size ≤ (((((((w6.setCell ⟨w.heap.size + 1, 0, none⟩ (.int .i64 wd)).setCell ⟨w.heap.size + 1, 1, none⟩ (.int .i64 k)).setCell ⟨w.heap.size + 1, 2, none⟩ (.int .i64 cap)).setCell ⟨w.heap.size + 1, 3, none⟩ (.int .i64 now)).setCell ⟨w.heap.size + 1, 4, none⟩ (.int .i64 (seq + 1))).setCell ⟨w.heap.size + 1, 5, none⟩ (.slice A' kk c'))).heap.size := by simp only [size_setCell]; exact Nat.le_refl _
      have R9 : Row ((((((w6.setCell ⟨w.heap.size + 1, 0, none⟩ (.int .i64 wd)).setCell ⟨w.heap.size + 1, 1, none⟩ (.int .i64 k)).setCell ⟨w.heap.size + 1, 2, none⟩ (.int .i64 cap)).setCell ⟨w.heap.size + 1, 3, none⟩ (.int .i64 now)).setCell ⟨w.heap.size + 1, 4, none⟩ (.int .i64 (seq + 1))).setCell ⟨w.heap.size + 1, 5, none⟩ (.slice A' kk c')) (w.heap.size + 1) 24 #[.int .i64 wd, .int .i64 k, .int .i64 cap, .int .i64 now, .int .i64 (seq + 1), .slice A' kk c'] := (row_set (row_set (row_set (row_set (row_set (row_set R 0 (.int .i64 wd)) 1 (.int .i64 k)) 2 (.int .i64 cap)) 3 (.int .i64 now)) 4 (.int .i64 (seq + 1))) 5 (.slice A' kk c'))
      have o9 : Below w.heap.size w ((((((w6.setCell ⟨w.heap.size + 1, 0, none⟩ (.int .i64 wd)).setCell ⟨w.heap.size + 1, 1, none⟩ (.int .i64 k)).setCell ⟨w.heap.size + 1, 2, none⟩ (.int .i64 cap)).setCell ⟨w.heap.size + 1, 3, none⟩ (.int .i64 now)).setCell ⟨w.heap.size + 1, 4, none⟩ (.int .i64 (seq + 1))).setCell ⟨w.heap.size + 1, 5, none⟩ (.slice A' kk c')) := (Below.setCell (p := ⟨w.heap.size + 1, 5, none⟩) (Below.setCell (p := ⟨w.heap.size + 1, 4, none⟩) (Below.setCell (p := ⟨w.heap.size + 1, 3, none⟩) (Below.setCell (p := ⟨w.heap.size + 1, 2, none⟩) (Below.setCell (p := ⟨w.heap.size + 1, 1, none⟩) (Below.setCell (p := ⟨w.heap.size + 1, 0, none⟩) o6 hbge (.int .i64 wd)) hbge (.int .i64 k)) hbge (.int .i64 cap)) hbge (.int .i64 now)) hbge (.int .i64 (seq + 1))) hbge (.slice A' kk c'))
      generalize ((((((w6.setCell ⟨w.heap.size + 1, 0, none⟩ (.int .i64 wd)).setCell ⟨w.heap.size + 1, 1, none⟩ (.int .i64 k)).setCell ⟨w.heap.size + 1, 2, none⟩ (.int .i64 cap)).setCell ⟨w.heap.size + 1, 3, none⟩ (.int .i64 now)).setCell ⟨w.heap.size + 1, 4, none⟩ (.int .i64 (seq + 1))).setCell ⟨w.heap.size + 1, 5, none⟩ (.slice A' kk c')) = w9 at R9 o9 hkp hksz ⊢
      obtain ⟨N0, N1, N2, N3, N4, N5, Nf0, Nf1, Nf2, Nf3, Nf4, Nf5⟩ := row_six R9
      exact bodyPost_ret (v := .tuple #[.agg #[.int .i64 wd, .int .i64 k, .int .i64 cap, .int .i64 now, .int .i64 (seq + 1), .slice A' kk c'], .int .i64 0]) (by simp [results, Try.results32, go_sem, List.getElem?_toArray, N0, N1, N2, N3, N4, N5]) rfl (spret_ok (HE.out ▸ INP6.out.keep hksz (fun a e => hkp a.block (by have := FR.out a e; omega))) o9 (fun a e => .inl (by have := FR.out a e; omega)))
theorem rspadd (A : Option Addr) (m c : Nat) (l : List Mk) (wd k cap now seq : Int) (v : Int) (w : World) (hin : MIn A m c l w) (sB : I64 seq) (hmm : m ≤ 100000) : Calls Try.prog 32 #[.agg #[.int .i64 wd, .int .i64 k, .int .i64 cap, .int .i64 now, .int .i64 seq, .slice A m c], .int .i64 v] w fun e w' => SpRet A (spAdd wd k cap now seq l v) w e w' := by
  rcases spvalE_two (wd := wd) (k := k) (cap := cap) (now := now) (seq := seq) (l := l) with hv | hv
  · by_cases h0 : v < (-4096)
    · exact rspadd_b A m c l wd k cap now seq v w hin sB hv (.inl h0)
    · by_cases h1 : 4096 < v
      · exact rspadd_b A m c l wd k cap now seq v w hin sB hv (.inr h1)
      · have hl := hin.len
        by_cases hm0 : 0 < m
        · have hne : l ≠ [] := fun e => by rw [e] at hl; simp at hl; omega
          by_cases hn : (mkAt l 0).n = cap
          · exact rspadd_c1 A m c l wd k cap now seq v w hin sB hv h0 h1 hm0 hn (.inl ⟨hne, hn⟩)
          · by_cases hs : seq = 1099511627776
            · exact rspadd_c2 A m c l wd k cap now seq v w hin sB hv h0 h1 hm0 hn hs (.inr hs)
            · exact rspadd_d1 A m c l wd k cap now seq v w hin sB hv h0 h1 hmm hm0 hn hs (fun a => a.elim (fun a => hn a.2) hs)
        · obtain rfl : m = 0 := by omega
          have he : l = [] := by simpa using hl
          by_cases hs : seq = 1099511627776
          · exact rspadd_c3 A c l wd k cap now seq v w hin sB hv h0 h1 hs (.inr hs)
          · exact rspadd_d0 A c l wd k cap now seq v w hin sB hv h0 h1 hs (fun a => a.elim (fun a => a.1 he) hs)
  · exact rspadd_a A m c l wd k cap now seq v w hin sB hv
end Go.Proofs.Ytaiepjcnncajcaa
end
section
/- Intervals of integers, walked (out of AskB). -/
set_option linter.unusedVariables false
set_option linter.unusedSimpArgs false
set_option linter.unusedSectionVars false
set_option linter.unnecessarySimpa false
namespace Go.Proofs.Ytaiepjcnncajcaa
open Go.RowKit
theorem pratio (n : Int) (w : World) : Calls Try.prog 76 #[.int .i64 n] w fun e w' => e = .returned (.agg #[.int .i64 n, .int .i64 1]) ∧ Below w.heap.size w w' := by
  go_enter Try.func76, Try.ntmps76
  go_wp2
  exact bodyPost_ret (v := .agg #[.int .i64 n, .int .i64 1]) (by simp [results, Try.results76, go_sem]) rfl ⟨rfl, by (repeat (first | exact Below.refl _ _ | refine Below.setCell ?_ (by first | (simp; done) | (simp; omega) | omega) _ | refine Below.alloc ?_ (by first | (simp; done) | (simp; omega) | omega) _ | refine Below.drew ?_ | refine Below.trans ?_ (Below.mono (by assumption) (by first | (simp; done) | (simp; omega) | omega))))⟩
theorem rratio (n : Int) (w : World) : Calls Try.prog 104 #[.int .i64 n] w fun e w' => e = .returned (.agg #[.int .i64 n, .int .i64 1]) ∧ Below w.heap.size w w' := by
  go_enter Try.func104, Try.ntmps104
  go_wp2
  exact bodyPost_ret (v := .agg #[.int .i64 n, .int .i64 1]) (by simp [results, Try.results104, go_sem]) rfl ⟨rfl, by (repeat (first | exact Below.refl _ _ | refine Below.setCell ?_ (by first | (simp; done) | (simp; omega) | omega) _ | refine Below.alloc ?_ (by first | (simp; done) | (simp; omega) | omega) _ | refine Below.drew ?_ | refine Below.trans ?_ (Below.mono (by assumption) (by first | (simp; done) | (simp; omega) | omega))))⟩
theorem below_six {B b : Nat} {w0 w : World} (h : Below B w0 w) (hb : B ≤ b) (u0 u1 u2 u3 u4 u5 : Value) : Below B w0 ((((((w.setCell ⟨b, 0, none⟩ u0).setCell ⟨b, 1, none⟩ u1).setCell ⟨b, 2, none⟩ u2).setCell ⟨b, 3, none⟩ u3).setCell ⟨b, 4, none⟩ u4).setCell ⟨b, 5, none⟩ u5) :=
  (((((h.setCell (p := ⟨b, 0, none⟩) hb u0).setCell (p := ⟨b, 1, none⟩) hb u1).setCell (p := ⟨b, 2, none⟩) hb u2).setCell (p := ⟨b, 3, none⟩) hb u3).setCell (p := ⟨b, 4, none⟩) hb u4).setCell (p := ⟨b, 5, none⟩) hb u5
end Go.Proofs.Ytaiepjcnncajcaa
end
section
/- Bounds: ratios in lowest terms, walked. -/
set_option linter.unusedVariables false
set_option linter.unusedSimpArgs false
set_option linter.unusedSectionVars false
set_option linter.unnecessarySimpa false
namespace Go.Proofs.Ytaiepjcnncajcaa
open Go.RowKit
theorem rabsN (a : Nat) (h : a < 9223372036854775808) (w : World) : Calls Try.prog 89 #[.int .i64 (a : Nat)] w fun e w' => e = .returned (.int .u64 (a : Nat)) ∧ w' = w := by
  have t0 : ¬ (a : Int) < 0 := by omega
  have wa : IntKind.u64.wrap (a : Int) = (a : Int) := IntWalk.u64_in _ (by omega)
  clear h
  go_enter Try.func89, Try.ntmps89
  go_wp2
  go_ret
  exact ⟨rfl, rfl⟩
set_option maxHeartbeats 2000000 in
theorem pratval (a b : Nat) (w : World) (ha : a < 9223372036854775808) (hb0 : 1 ≤ b) (hb : b < 9223372036854775808) (hg : Nat.gcd a b = 1) : Calls Try.prog 60 #[.agg #[.int .i64 (a : Nat), .int .i64 (b : Nat)]] w fun e w' => e = .returned (.bool true) ∧ Below w.heap.size w w' := by
  have PZ := Lib.hid (fun w => psize a ha w)
  have PA := Lib.hid (fun w => pof a (by omega) w)
  have PB := Lib.hid (fun w => pof b (by omega) w)
  have PO := Lib.hid (fun w => pof 1 (by omega) w)
  have PG := fun w => pgcd a b (by unfold big; omega) (by unfold big; omega) w
  rw [hg] at PG
  replace PG := Lib.hid PG
  have i1 : (1 : Int) ≤ (b : Int) := by omega
  have d1 : decide ((1 : Int) ≤ (b : Int)) = true := decide_eq_true i1
  have wb : IntKind.u64.wrap (b : Int) = (b : Int) := IntWalk.u64_in _ (by omega)
  clear hg
  go_enter Try.func60, Try.ntmps60
  go_upto_region 1 with (fail)
  have X : Row (w.alloc (.cells #[.int .i64 (a : Nat), .int .i64 (b : Nat)] 35)) w.heap.size 35 #[.int .i64 (a : Nat), .int .i64 (b : Nat)] := row_new rfl
  have o : Below w.heap.size w (w.alloc (.cells #[.int .i64 (a : Nat), .int .i64 (b : Nat)] 35)) := by (repeat (first | exact Below.refl _ _ | refine Below.setCell ?_ (by first | (simp; done) | (simp; omega) | omega) _ | refine Below.alloc ?_ (by first | (simp; done) | (simp; omega) | omega) _ | refine Below.drew ?_ | refine Below.trans ?_ (Below.mono (by assumption) (by first | (simp; done) | (simp; omega) | omega))))
  generalize (w.alloc (.cells #[.int .i64 (a : Nat), .int .i64 (b : Nat)] 35)) = w1 at X o ⊢
  refine wp_region_free0 [0, 1, 2, 3, 4, 5, 6, 7, 8, 9, 10, 11, 12, 13, 14, 15] [] [0, 1, 2, 3, 4, 5, 6, 7, 8, 9, 10, 11, 12, 13, 14, 15] 16 (fun w' => Row w' (w.heap.size) 35 #[.int .i64 (a : Nat), .int .i64 (b : Nat)] ∧ Below w.heap.size w w') (by kernel_rfl) (by kernel_rfl) (fun _ _ d _ _ h => by cases d <;> exact h) ?_ ?_
  · exact ⟨X, o.drew⟩
  (refine plan_pure ?_ rfl rfl (fun w' => ?_) ?_; rotate_left; (go_simp; try with_reducible rfl); simp only [Act.put, List.setIfInBounds_toArray, List.set_cons_zero, List.set_cons_succ])
  (refine plan_val ?_ rfl rfl rfl (fun w' hS => ?_) ?_; rotate_left; (obtain ⟨X0, X1, Xf0, Xf1⟩ := row_two hS.1; go_simp; try with_reducible rfl); simp only [Act.put, List.setIfInBounds_toArray, List.set_cons_zero, List.set_cons_succ])
  (refine plan_pure ?_ rfl rfl (fun w' => ?_) ?_; rotate_left; (go_simp; try with_reducible rfl); simp only [Act.put, List.setIfInBounds_toArray, List.set_cons_zero, List.set_cons_succ])
  (refine plan_pure ?_ rfl rfl (fun w' => ?_) ?_; rotate_left; (go_simp; try with_reducible rfl); simp only [Act.put, List.setIfInBounds_toArray, List.set_cons_zero, List.set_cons_succ])
  (refine plan_pure ?_ rfl rfl (fun w' => ?_) ?_; rotate_left; (go_simp; try with_reducible rfl); simp only [Act.put, List.setIfInBounds_toArray, List.set_cons_zero, List.set_cons_succ])
  (refine plan_val ?_ rfl rfl rfl (fun w' hS => ?_) ?_; rotate_left; (obtain ⟨X0, X1, Xf0, Xf1⟩ := row_two hS.1; go_simp; try with_reducible rfl); simp only [Act.put, List.setIfInBounds_toArray, List.set_cons_zero, List.set_cons_succ])
  refine plan_call (.int .u64 (a : Nat)) 86 #[.int .i64 (a : Nat)] rfl rfl rfl (fun _ _ h hb => ⟨row_call h.1 hb, h.2.trans (hb.mono h.2.size)⟩) (fun w' hS => by obtain ⟨X0, X1, Xf0, Xf1⟩ := row_two hS.1; go_simp) (fun w' hS => (PZ.out w').mono fun _ _ h => ⟨h.1, by rw [h.2]; exact Below.refl _ _⟩) ?_
  simp only [Act.put, List.setIfInBounds_toArray, List.set_cons_zero, List.set_cons_succ]
  refine plan_call (W a) 51 #[.int .u64 (a : Nat)] rfl rfl rfl (fun _ _ h hb => ⟨row_call h.1 hb, h.2.trans (hb.mono h.2.size)⟩) (fun w' hS => by obtain ⟨X0, X1, Xf0, Xf1⟩ := row_two hS.1; go_simp) (fun w' hS => PA.out w') ?_
  simp only [Act.put, List.setIfInBounds_toArray, List.set_cons_zero, List.set_cons_succ]
  (refine plan_pure ?_ rfl rfl (fun w' => ?_) ?_; rotate_left; (go_simp; try with_reducible rfl); simp only [Act.put, List.setIfInBounds_toArray, List.set_cons_zero, List.set_cons_succ])
  (refine plan_val ?_ rfl rfl rfl (fun w' hS => ?_) ?_; rotate_left; (obtain ⟨X0, X1, Xf0, Xf1⟩ := row_two hS.1; go_simp; try with_reducible rfl); simp only [Act.put, List.setIfInBounds_toArray, List.set_cons_zero, List.set_cons_succ])
  (refine plan_pure ?_ rfl rfl (fun w' => ?_) ?_; rotate_left; (go_simp; try with_reducible rfl); simp only [Act.put, List.setIfInBounds_toArray, List.set_cons_zero, List.set_cons_succ])
  refine plan_call (W b) 51 #[.int .u64 (b : Nat)] rfl rfl rfl (fun _ _ h hb => ⟨row_call h.1 hb, h.2.trans (hb.mono h.2.size)⟩) (fun w' hS => by obtain ⟨X0, X1, Xf0, Xf1⟩ := row_two hS.1; go_simp) (fun w' hS => PB.out w') ?_
  simp only [Act.put, List.setIfInBounds_toArray, List.set_cons_zero, List.set_cons_succ]
  refine plan_call (W 1) 95 #[W a, W b] rfl rfl rfl (fun _ _ h hb => ⟨row_call h.1 hb, h.2.trans (hb.mono h.2.size)⟩) (fun w' hS => by obtain ⟨X0, X1, Xf0, Xf1⟩ := row_two hS.1; go_simp) (fun w' hS => PG.out w') ?_
  simp only [Act.put, List.setIfInBounds_toArray, List.set_cons_zero, List.set_cons_succ]
  refine plan_call (W 1) 51 #[.int .u64 1] rfl rfl rfl (fun _ _ h hb => ⟨row_call h.1 hb, h.2.trans (hb.mono h.2.size)⟩) (fun w' hS => by obtain ⟨X0, X1, Xf0, Xf1⟩ := row_two hS.1; go_simp) (fun w' hS => PO.out w') ?_
  simp only [Act.put, List.setIfInBounds_toArray, List.set_cons_zero, List.set_cons_succ]
  (refine plan_pure ?_ rfl rfl (fun w' => ?_) ?_; rotate_left; (go_simp; try with_reducible rfl); simp only [Act.put, List.setIfInBounds_toArray, List.set_cons_zero, List.set_cons_succ])
  (refine plan_pure ?_ rfl rfl (fun w' => ?_) ?_; rotate_left; (go_simp; try with_reducible rfl); simp only [Act.put, List.setIfInBounds_toArray, List.set_cons_zero, List.set_cons_succ])
  refine plan_nil ?_
  intro w3 L
  simp only [List.drop_succ_cons, List.drop_zero]
  try simp only [Act.put, List.setIfInBounds_toArray, List.set_cons_zero, List.set_cons_succ]
  have o2 := L.2
  clear L X o
  go_wp2
  go_ret
  exact ⟨rfl, o2⟩
set_option maxHeartbeats 2000000 in
theorem rratval (a b : Nat) (w : World) (ha : a < 9223372036854775808) (hb0 : 1 ≤ b) (hb : b < 9223372036854775808) (hg : Nat.gcd a b = 1) : Calls Try.prog 105 #[.agg #[.int .i64 (a : Nat), .int .i64 (b : Nat)]] w fun e w' => e = .returned (.bool true) ∧ Below w.heap.size w w' := by
  have PZ := Lib.hid (fun w => rabsN a ha w)
  have PA := Lib.hid (fun w => rof a (by omega) w)
  have PB := Lib.hid (fun w => rof b (by omega) w)
  have PO := Lib.hid (fun w => rof 1 (by omega) w)
  have PG := fun w => rgcd a b (by unfold big; omega) (by unfold big; omega) w
  rw [hg] at PG
  replace PG := Lib.hid PG
  have i1 : (1 : Int) ≤ (b : Int) := by omega
  have d1 : decide ((1 : Int) ≤ (b : Int)) = true := decide_eq_true i1
  have wb : IntKind.u64.wrap (b : Int) = (b : Int) := IntWalk.u64_in _ (by omega)
  clear hg
  go_enter Try.func105, Try.ntmps105
  go_upto_region 1 with (fail)
  have X : Row (w.alloc (.cells #[.int .i64 (a : Nat), .int .i64 (b : Nat)] 35)) w.heap.size 35 #[.int .i64 (a : Nat), .int .i64 (b : Nat)] := row_new rfl
  have o : Below w.heap.size w (w.alloc (.cells #[.int .i64 (a : Nat), .int .i64 (b : Nat)] 35)) := by (repeat (first | exact Below.refl _ _ | refine Below.setCell ?_ (by first | (simp; done) | (simp; omega) | omega) _ | refine Below.alloc ?_ (by first | (simp; done) | (simp; omega) | omega) _ | refine Below.drew ?_ | refine Below.trans ?_ (Below.mono (by assumption) (by first | (simp; done) | (simp; omega) | omega))))
  generalize (w.alloc (.cells #[.int .i64 (a : Nat), .int .i64 (b : Nat)] 35)) = w1 at X o ⊢
  refine wp_region_free0 [0, 1, 2, 3, 4, 5, 6, 7, 8, 9, 10, 11, 12, 13, 14, 15] [] [0, 1, 2, 3, 4, 5, 6, 7, 8, 9, 10, 11, 12, 13, 14, 15] 16 (fun w' => Row w' (w.heap.size) 35 #[.int .i64 (a : Nat), .int .i64 (b : Nat)] ∧ Below w.heap.size w w') (by kernel_rfl) (by kernel_rfl) (fun _ _ d _ _ h => by cases d <;> exact h) ?_ ?_
  · exact ⟨X, o.drew⟩
  (refine plan_pure ?_ rfl rfl (fun w' => ?_) ?_; rotate_left; (go_simp; try with_reducible rfl); simp only [Act.put, List.setIfInBounds_toArray, List.set_cons_zero, List.set_cons_succ])
  (refine plan_val ?_ rfl rfl rfl (fun w' hS => ?_) ?_; rotate_left; (obtain ⟨X0, X1, Xf0, Xf1⟩ := row_two hS.1; go_simp; try with_reducible rfl); simp only [Act.put, List.setIfInBounds_toArray, List.set_cons_zero, List.set_cons_succ])
  (refine plan_pure ?_ rfl rfl (fun w' => ?_) ?_; rotate_left; (go_simp; try with_reducible rfl); simp only [Act.put, List.setIfInBounds_toArray, List.set_cons_zero, List.set_cons_succ])
  (refine plan_pure ?_ rfl rfl (fun w' => ?_) ?_; rotate_left; (go_simp; try with_reducible rfl); simp only [Act.put, List.setIfInBounds_toArray, List.set_cons_zero, List.set_cons_succ])
  (refine plan_pure ?_ rfl rfl (fun w' => ?_) ?_; rotate_left; (go_simp; try with_reducible rfl); simp only [Act.put, List.setIfInBounds_toArray, List.set_cons_zero, List.set_cons_succ])
  (refine plan_val ?_ rfl rfl rfl (fun w' hS => ?_) ?_; rotate_left; (obtain ⟨X0, X1, Xf0, Xf1⟩ := row_two hS.1; go_simp; try with_reducible rfl); simp only [Act.put, List.setIfInBounds_toArray, List.set_cons_zero, List.set_cons_succ])
  refine plan_call (.int .u64 (a : Nat)) 89 #[.int .i64 (a : Nat)] rfl rfl rfl (fun _ _ h hb => ⟨row_call h.1 hb, h.2.trans (hb.mono h.2.size)⟩) (fun w' hS => by obtain ⟨X0, X1, Xf0, Xf1⟩ := row_two hS.1; go_simp) (fun w' hS => (PZ.out w').mono fun _ _ h => ⟨h.1, by rw [h.2]; exact Below.refl _ _⟩) ?_
  simp only [Act.put, List.setIfInBounds_toArray, List.set_cons_zero, List.set_cons_succ]
  refine plan_call (W a) 88 #[.int .u64 (a : Nat)] rfl rfl rfl (fun _ _ h hb => ⟨row_call h.1 hb, h.2.trans (hb.mono h.2.size)⟩) (fun w' hS => by obtain ⟨X0, X1, Xf0, Xf1⟩ := row_two hS.1; go_simp) (fun w' hS => PA.out w') ?_
  simp only [Act.put, List.setIfInBounds_toArray, List.set_cons_zero, List.set_cons_succ]
  (refine plan_pure ?_ rfl rfl (fun w' => ?_) ?_; rotate_left; (go_simp; try with_reducible rfl); simp only [Act.put, List.setIfInBounds_toArray, List.set_cons_zero, List.set_cons_succ])
  (refine plan_val ?_ rfl rfl rfl (fun w' hS => ?_) ?_; rotate_left; (obtain ⟨X0, X1, Xf0, Xf1⟩ := row_two hS.1; go_simp; try with_reducible rfl); simp only [Act.put, List.setIfInBounds_toArray, List.set_cons_zero, List.set_cons_succ])
  (refine plan_pure ?_ rfl rfl (fun w' => ?_) ?_; rotate_left; (go_simp; try with_reducible rfl); simp only [Act.put, List.setIfInBounds_toArray, List.set_cons_zero, List.set_cons_succ])
  refine plan_call (W b) 88 #[.int .u64 (b : Nat)] rfl rfl rfl (fun _ _ h hb => ⟨row_call h.1 hb, h.2.trans (hb.mono h.2.size)⟩) (fun w' hS => by obtain ⟨X0, X1, Xf0, Xf1⟩ := row_two hS.1; go_simp) (fun w' hS => PB.out w') ?_
  simp only [Act.put, List.setIfInBounds_toArray, List.set_cons_zero, List.set_cons_succ]
  refine plan_call (W 1) 108 #[W a, W b] rfl rfl rfl (fun _ _ h hb => ⟨row_call h.1 hb, h.2.trans (hb.mono h.2.size)⟩) (fun w' hS => by obtain ⟨X0, X1, Xf0, Xf1⟩ := row_two hS.1; go_simp) (fun w' hS => PG.out w') ?_
  simp only [Act.put, List.setIfInBounds_toArray, List.set_cons_zero, List.set_cons_succ]
  refine plan_call (W 1) 88 #[.int .u64 1] rfl rfl rfl (fun _ _ h hb => ⟨row_call h.1 hb, h.2.trans (hb.mono h.2.size)⟩) (fun w' hS => by obtain ⟨X0, X1, Xf0, Xf1⟩ := row_two hS.1; go_simp) (fun w' hS => PO.out w') ?_
  simp only [Act.put, List.setIfInBounds_toArray, List.set_cons_zero, List.set_cons_succ]
  (refine plan_pure ?_ rfl rfl (fun w' => ?_) ?_; rotate_left; (go_simp; try with_reducible rfl); simp only [Act.put, List.setIfInBounds_toArray, List.set_cons_zero, List.set_cons_succ])
  (refine plan_pure ?_ rfl rfl (fun w' => ?_) ?_; rotate_left; (go_simp; try with_reducible rfl); simp only [Act.put, List.setIfInBounds_toArray, List.set_cons_zero, List.set_cons_succ])
  refine plan_nil ?_
  intro w3 L
  simp only [List.drop_succ_cons, List.drop_zero]
  try simp only [Act.put, List.setIfInBounds_toArray, List.set_cons_zero, List.set_cons_succ]
  have o2 := L.2
  clear L X o
  go_wp2
  go_ret
  exact ⟨rfl, o2⟩
theorem pexactR (a b : Nat) (w : World) (ha : a < 9223372036854775808) (hb0 : 1 ≤ b) (hb : b < 9223372036854775808) (hg : Nat.gcd a b = 1) : Calls Try.prog 75 #[.agg #[.int .i64 (a : Nat), .int .i64 (b : Nat)]] w fun e w' => e = .returned (.agg #[.int .i64 (a : Nat), .int .i64 (b : Nat), .int .i64 (a : Nat), .int .i64 (b : Nat), .int .i64 (a : Nat), .int .i64 (b : Nat)]) ∧ Below w.heap.size w w' := by
  have PV := Lib.hid (fun w => pratval a b w ha hb0 hb hg)
  clear ha hb0 hb hg
  go_enter Try.func75, Try.ntmps75
  go_wp2_with fail
  have X : Row ((w.alloc (.cells #[.int .i64 (a : Nat), .int .i64 (b : Nat)] 35)).alloc (.cells #[.int .i64 0, .int .i64 0, .int .i64 0, .int .i64 0, .int .i64 0, .int .i64 0] 45)) w.heap.size 35 #[.int .i64 (a : Nat), .int .i64 (b : Nat)] := row_alloc (row_new rfl) _
  have R : Row ((w.alloc (.cells #[.int .i64 (a : Nat), .int .i64 (b : Nat)] 35)).alloc (.cells #[.int .i64 0, .int .i64 0, .int .i64 0, .int .i64 0, .int .i64 0, .int .i64 0] 45)) (w.heap.size + 1) 45 #[.int .i64 0, .int .i64 0, .int .i64 0, .int .i64 0, .int .i64 0, .int .i64 0] := row_new (by simp)
  have o : Below w.heap.size w ((w.alloc (.cells #[.int .i64 (a : Nat), .int .i64 (b : Nat)] 35)).alloc (.cells #[.int .i64 0, .int .i64 0, .int .i64 0, .int .i64 0, .int .i64 0, .int .i64 0] 45)) := by (repeat (first | exact Below.refl _ _ | refine Below.setCell ?_ (by first | (simp; done) | (simp; omega) | omega) _ | refine Below.alloc ?_ (by first | (simp; done) | (simp; omega) | omega) _ | refine Below.drew ?_ | refine Below.trans ?_ (Below.mono (by assumption) (by first | (simp; done) | (simp; omega) | omega))))
  generalize ((w.alloc (.cells #[.int .i64 (a : Nat), .int .i64 (b : Nat)] 35)).alloc (.cells #[.int .i64 0, .int .i64 0, .int .i64 0, .int .i64 0, .int .i64 0, .int .i64 0] 45)) = w1 at X R o ⊢
  refine (PV.out _).mono ?_
  rintro e w2 ⟨rfl, hb2⟩
  replace X := row_call X hb2
  replace R := row_call R hb2
  replace o := o.trans (hb2.mono o.size)
  clear hb2
  obtain ⟨X0, X1, Xf0, Xf1⟩ := row_two X
  obtain ⟨R0, R1, R2, R3, R4, R5, Rf0, Rf1, Rf2, Rf3, Rf4, Rf5⟩ := row_six R
  go_wp2
  exact bodyPost_ret (v := .agg #[.int .i64 (a : Nat), .int .i64 (b : Nat), .int .i64 (a : Nat), .int .i64 (b : Nat), .int .i64 (a : Nat), .int .i64 (b : Nat)]) (by simp [results, Try.results75, go_sem, R0, R1, R2, R3, R4, R5]) rfl ⟨rfl, below_six o (by omega) _ _ _ _ _ _⟩
theorem rexactR (a b : Nat) (w : World) (ha : a < 9223372036854775808) (hb0 : 1 ≤ b) (hb : b < 9223372036854775808) (hg : Nat.gcd a b = 1) : Calls Try.prog 80 #[.agg #[.int .i64 (a : Nat), .int .i64 (b : Nat)]] w fun e w' => e = .returned (.agg #[.int .i64 (a : Nat), .int .i64 (b : Nat), .int .i64 (a : Nat), .int .i64 (b : Nat), .int .i64 (a : Nat), .int .i64 (b : Nat)]) ∧ Below w.heap.size w w' := by
  have PV := Lib.hid (fun w => rratval a b w ha hb0 hb hg)
  clear ha hb0 hb hg
  go_enter Try.func80, Try.ntmps80
  go_wp2_with fail
  have X : Row ((w.alloc (.cells #[.int .i64 (a : Nat), .int .i64 (b : Nat)] 35)).alloc (.cells #[.int .i64 0, .int .i64 0, .int .i64 0, .int .i64 0, .int .i64 0, .int .i64 0] 45)) w.heap.size 35 #[.int .i64 (a : Nat), .int .i64 (b : Nat)] := row_alloc (row_new rfl) _
  have R : Row ((w.alloc (.cells #[.int .i64 (a : Nat), .int .i64 (b : Nat)] 35)).alloc (.cells #[.int .i64 0, .int .i64 0, .int .i64 0, .int .i64 0, .int .i64 0, .int .i64 0] 45)) (w.heap.size + 1) 45 #[.int .i64 0, .int .i64 0, .int .i64 0, .int .i64 0, .int .i64 0, .int .i64 0] := row_new (by simp)
  have o : Below w.heap.size w ((w.alloc (.cells #[.int .i64 (a : Nat), .int .i64 (b : Nat)] 35)).alloc (.cells #[.int .i64 0, .int .i64 0, .int .i64 0, .int .i64 0, .int .i64 0, .int .i64 0] 45)) := by (repeat (first | exact Below.refl _ _ | refine Below.setCell ?_ (by first | (simp; done) | (simp; omega) | omega) _ | refine Below.alloc ?_ (by first | (simp; done) | (simp; omega) | omega) _ | refine Below.drew ?_ | refine Below.trans ?_ (Below.mono (by assumption) (by first | (simp; done) | (simp; omega) | omega))))
  generalize ((w.alloc (.cells #[.int .i64 (a : Nat), .int .i64 (b : Nat)] 35)).alloc (.cells #[.int .i64 0, .int .i64 0, .int .i64 0, .int .i64 0, .int .i64 0, .int .i64 0] 45)) = w1 at X R o ⊢
  refine (PV.out _).mono ?_
  rintro e w2 ⟨rfl, hb2⟩
  replace X := row_call X hb2
  replace R := row_call R hb2
  replace o := o.trans (hb2.mono o.size)
  clear hb2
  obtain ⟨X0, X1, Xf0, Xf1⟩ := row_two X
  obtain ⟨R0, R1, R2, R3, R4, R5, Rf0, Rf1, Rf2, Rf3, Rf4, Rf5⟩ := row_six R
  go_wp2
  exact bodyPost_ret (v := .agg #[.int .i64 (a : Nat), .int .i64 (b : Nat), .int .i64 (a : Nat), .int .i64 (b : Nat), .int .i64 (a : Nat), .int .i64 (b : Nat)]) (by simp [results, Try.results80, go_sem, R0, R1, R2, R3, R4, R5]) rfl ⟨rfl, below_six o (by omega) _ _ _ _ _ _⟩
end Go.Proofs.Ytaiepjcnncajcaa
end
section
/- Plain facts on products of signed numbers: no program is in sight. -/
set_option linter.unusedVariables false
set_option linter.unusedSimpArgs false
set_option linter.unusedSectionVars false
set_option linter.unnecessarySimpa false
namespace Go.Proofs.Ytaiepjcnncajcaa
open Go.RowKit
/-- The order of two integers. -/
def icmp (p q : Int) : Int := if p < q then -1 else if p = q then 0 else 1
/-- The magnitude of a product. -/
def pabs (a b : Int) : Nat := a.natAbs * b.natAbs
/-- The product is below 0 as far as the signs say. -/
def sneg (a b : Int) : Bool := decide (a < 0) != decide (b < 0)
/-- The product is below 0. -/
def pneg (a b : Int) : Bool := sneg a b && !decide (pabs a b = 0)
/-- The sign. -/
def isign (a : Int) : Int := if a < 0 then -1 else if 0 < a then 1 else 0
/-- What the program answers. -/
def pcrossV (m n : Bool) (x y : Nat) : Int := if m then (if n then cmp y x else -1) else (if n then 1 else cmp x y)
/-- What the reference answers. -/
def rcrossV (p q : Int) (x y : Nat) : Int := if p < q then -1 else if q < p then 1 else p * cmp x y
end Go.Proofs.Ytaiepjcnncajcaa
end
section
/- The exact comparison of two products, walked: the program, the reference and the law. -/
set_option linter.unusedVariables false
set_option linter.unusedSimpArgs false
set_option linter.unusedSectionVars false
set_option linter.unnecessarySimpa false
namespace Go.Proofs.Ytaiepjcnncajcaa
open Go.RowKit Go.Shelf
end Go.Proofs.Ytaiepjcnncajcaa
end
section
/- Unsigned numbers of 256 bits times a word, walked. -/
set_option linter.unusedVariables false
set_option linter.unusedSimpArgs false
set_option linter.unusedSectionVars false
set_option linter.unnecessarySimpa false
namespace Go.Proofs.Ytaiepjcnncajcaa
open Go.RowKit Go.Shelf
/-- The word i of a number. -/
def qd (i N : Nat) : Nat := N / 18446744073709551616 ^ i % 18446744073709551616
/-- What the words below i carry over in the product with n. -/
def qc (N n i : Nat) : Nat := N % 18446744073709551616 ^ i * n / 18446744073709551616 ^ i
def QV (N : Nat) : Value := .agg #[.int .u64 (qd 0 N), .int .u64 (qd 1 N), .int .u64 (qd 2 N), .int .u64 (qd 3 N)]
end Go.Proofs.Ytaiepjcnncajcaa
end
section
/- Ratios are compared, intervals are valid and hold a number: for ratios that are not negative, walked. -/
set_option linter.unusedVariables false
set_option linter.unusedSimpArgs false
set_option linter.unusedSectionVars false
set_option linter.unnecessarySimpa false
namespace Go.Proofs.Ytaiepjcnncajcaa
open Go.RowKit Go.Shelf
/-- A ratio in lowest terms that is not negative and not large. -/
def RatOK (a b : Nat) : Prop := a < 4611686018427387904 ∧ (1 ≤ b ∧ b ≤ 4294967295) ∧ Nat.gcd a b = 1
/-- An interval of ratios with an estimate in it. -/
structure BndOK (l1 l2 m1 m2 h1 h2 : Nat) : Prop where
  lo : RatOK l1 l2
  md : RatOK m1 m2
  hi : RatOK h1 h2
  lm : l1 * m2 ≤ m1 * l2
  mh : m1 * h2 ≤ h1 * m2
end Go.Proofs.Ytaiepjcnncajcaa
end
section
/- Ratios of spreads in lowest terms: their order, what lies between, what is narrow; plain. -/
set_option linter.unusedVariables false
set_option linter.unusedSimpArgs false
set_option linter.unusedSectionVars false
set_option linter.unnecessarySimpa false
namespace Go.Proofs.Ytaiepjcnncajcaa
def rn (T n : Nat) : Nat := T / Nat.gcd T n
def rd (T n : Nat) : Nat := n / Nat.gcd T n
theorem rat_g {T n : Nat} (hn : 1 ≤ n) : ∃ g, 1 ≤ g ∧ T = rn T n * g ∧ n = rd T n * g ∧ g = Nat.gcd T n := by
  have hg : 0 < Nat.gcd T n := Nat.gcd_pos_of_pos_right _ (by omega)
  exact ⟨_, hg, (Nat.div_mul_cancel (Nat.gcd_dvd_left T n)).symm, (Nat.div_mul_cancel (Nat.gcd_dvd_right T n)).symm, rfl⟩
theorem rat_ok {T n : Nat} (hT : T < 4611686018427387904) (hn : 1 ≤ n) (hn2 : n ≤ 65536) : RatOK (rn T n) (rd T n) := by
  have hg : 0 < Nat.gcd T n := Nat.gcd_pos_of_pos_right _ (by omega)
  have h1 : rn T n ≤ T := Nat.div_le_self _ _
  have h2 : rd T n ≤ n := Nat.div_le_self _ _
  obtain ⟨g, g1, _, e2, _⟩ := rat_g (T := T) hn
  refine ⟨by omega, ⟨?_, by omega⟩, by unfold rn rd; rw [Nat.gcd_div (Nat.gcd_dvd_left T n) (Nat.gcd_dvd_right T n), Nat.div_self hg]⟩
  rcases Nat.eq_zero_or_pos (rd T n) with h | h
  · rw [h, Nat.zero_mul] at e2; omega
  · exact h
/-- A mark's spread as a ratio that is not in lowest terms. -/
def mT (m : Mk) : Nat := topN m.n m.s m.q
def mN (m : Mk) : Nat := m.n.toNat
theorem mT_lt {m : Mk} (h : rightP m.n m.s m.q) : mT m < 4611686018427387904 := by
  have := right_top h
  unfold mT topN
  omega
theorem mN_pos {m : Mk} (h : rightP m.n m.s m.q) : 1 ≤ mN m ∧ mN m ≤ 65536 := by
  have h1 := h.1
  have h2 := h.2.1
  unfold mN
  omega
theorem rat_mark {m : Mk} (h : rightP m.n m.s m.q) : RatOK (rn (mT m) (mN m)) (rd (mT m) (mN m)) := rat_ok (mT_lt h) (mN_pos h).1 (mN_pos h).2
/-- The bounds of an answer, as the marks that they are of. -/
def loT (now wd : Int) (l : List Mk) : Nat := if l = [] then 0 else if now - wd < (mkAt l 0).t then mT (mkAt l 0) else mT (mkAt l 1)
def loN (now wd : Int) (l : List Mk) : Nat := if l = [] then 1 else if now - wd < (mkAt l 0).t then mN (mkAt l 0) else mN (mkAt l 1)
def hiT (now wd : Int) (l : List Mk) : Nat := if l = [] then 0 else if now - wd < (mkAt l 0).t then mT (mkAt l 0) else if (mkAt l 1).seq = (mkAt l 0).seq + 1 then mT (mkAt l 1) else mT (mkAt l 0)
def hiN (now wd : Int) (l : List Mk) : Nat := if l = [] then 1 else if now - wd < (mkAt l 0).t then mN (mkAt l 0) else if (mkAt l 1).seq = (mkAt l 0).seq + 1 then mN (mkAt l 1) else mN (mkAt l 0)
/-- The spread of items times their number; the number. -/
def itT (l : List Itm) : Nat := (l.length * isq l - isum l * isum l : Int).toNat
def itN (l : List Itm) : Nat := max l.length 1
/-- What is said of the bounds and the exact spread of the live items. -/
structure SpTrue (k lT lN hT hN vT vN : Nat) : Prop where
  lo : RatOK (rn lT lN) (rd lT lN)
  hi : RatOK (rn hT hN) (rd hT hN)
  v : RatOK (rn vT vN) (rd vT vN)
  l1 : 1 ≤ lN
  h1 : 1 ≤ hN
  v1 : 1 ≤ vN
  lv : lT * vN ≤ vT * lN
  vh : vT * hN ≤ hT * vN
  lh : lT * hN ≤ hT * lN
  nar : k * (hT * lN - lT * hN) * vN ≤ vT * (lN * hN)
end Go.Proofs.Ytaiepjcnncajcaa
end
section
/- Windows, live items and extremes, walked. -/
set_option linter.unusedVariables false
set_option linter.unusedSimpArgs false
set_option linter.unusedSectionVars false
set_option linter.unnecessarySimpa false
namespace Go.Proofs.Ytaiepjcnncajcaa
open Go.RowKit
/-- The capacity that a number is turned into. -/
def mcap (c : Int) : Int := if c % 4 = 0 then 65536 else if c % 4 = 1 then 200 else 1 + c % 40
/-- What the loop of 'truth' adds up. -/
def tsum (agg : Int) (l : List Itm) : Int := if agg = 1 then l.length else if agg = 2 then isum l else if agg = 3 then isq l else 0
/-- What an item adds. -/
def tone (agg v : Int) : Int := if agg = 1 then 1 else if agg = 2 then v else if agg = 3 then v * v else 0
end Go.Proofs.Ytaiepjcnncajcaa
end
