/- What the law SpreadTruth needs, joined of its texts by a program (slim.py); part 3. -/
import Derived.Test.YtaiepjcnncajcaaZSpreadTruth2
section
/- Spread histograms: the clock moved on, walked. -/
set_option linter.unusedVariables false
set_option linter.unusedSimpArgs false
set_option linter.unusedSectionVars false
set_option linter.unnecessarySimpa false
namespace Go.Proofs.Ytaiepjcnncajcaa
open Go.RowKit
theorem MIn.blk {A : Option Addr} {m c : Nat} {l : List Mk} {w : World} (h : MIn A m c l w) (hm : 0 < m) (a : Addr) (e : A = some a) : a.block < w.heap.size := by
  obtain ⟨ad, e', hb, _⟩ := h.reads.2 hm
  rw [e'] at e
  cases e
  exact hb
theorem MIn.keep0 {A : Option Addr} {m c : Nat} {l : List Mk} {w w' : World} (h : MIn A m c l w) (hs : w.heap.size ≤ w'.heap.size) (hk : 0 < m → ∀ a, A = some a → w'.heap[a.block]? = w.heap[a.block]?) : MIn A m c l w' := by
  refine ⟨⟨h.reads.1, fun hn => ?_⟩, h.mB, h.mc, h.cB⟩
  obtain ⟨ad, e, hb, hc⟩ := h.reads.2 hn
  exact ⟨ad, e, Nat.lt_of_lt_of_le hb hs, fun j u hu => (World.cell?_of_block (by rw [block_of_add]; exact hk hn ad e)).trans (hc j u hu)⟩
theorem pclk_yes (now tt : Int) (w : World) (n0 : 0 ≤ now) (n1 : now ≤ 16777216) (h1 : now ≤ tt) (h2 : tt ≤ 16777216) : Calls Try.prog 64 #[.int .i64 now, .int .i64 tt] w fun e w' => e = .returned (.tuple #[.int .i64 tt, .int .i64 0]) ∧ w' = w := by
  have PT := Lib.hid (fun w => ptick_2 now w n0 n1)
  clear n0 n1
  go_enter Try.func64, Try.ntmps64
  go_wp2_with (go_at_call 99; with_reducible refine (PT.out _).mono ?_; rintro e w9 ⟨rfl, h9⟩; obtain rfl := h9.symm)
  go_ret2
  exact ⟨rfl, rfl⟩
theorem pclk_no1 (now tt : Int) (w : World) (n0 : 0 ≤ now) (n1 : now ≤ 16777216) (h1 : tt < now) : Calls Try.prog 64 #[.int .i64 now, .int .i64 tt] w fun e w' => e = .returned (.tuple #[.int .i64 0, .int .i64 3]) ∧ w' = w := by
  have PT := Lib.hid (fun w => ptick_2 now w n0 n1)
  clear n0 n1
  go_enter Try.func64, Try.ntmps64
  go_wp2_with (go_at_call 99; with_reducible refine (PT.out _).mono ?_; rintro e w9 ⟨rfl, h9⟩; obtain rfl := h9.symm)
  go_ret2
  exact ⟨rfl, rfl⟩
theorem pclk_no2 (now tt : Int) (w : World) (n0 : 0 ≤ now) (n1 : now ≤ 16777216) (h0 : now ≤ tt) (h1 : 16777216 < tt) : Calls Try.prog 64 #[.int .i64 now, .int .i64 tt] w fun e w' => e = .returned (.tuple #[.int .i64 0, .int .i64 3]) ∧ w' = w := by
  have PT := Lib.hid (fun w => ptick_2 now w n0 n1)
  clear n0 n1
  go_enter Try.func64, Try.ntmps64
  go_wp2_with (go_at_call 99; with_reducible refine (PT.out _).mono ?_; rintro e w9 ⟨rfl, h9⟩; obtain rfl := h9.symm)
  go_ret2
  exact ⟨rfl, rfl⟩
theorem pclk (now tt : Int) (w : World) (n0 : 0 ≤ now) (n1 : now ≤ 16777216) : Calls Try.prog 64 #[.int .i64 now, .int .i64 tt] w fun e w' => e = .returned (.tuple #[.int .i64 (if tt < now ∨ 16777216 < tt then 0 else tt), .int .i64 (if tt < now ∨ 16777216 < tt then 3 else 0)]) ∧ w' = w := by
  by_cases h1 : tt < now
  · rw [if_pos (.inl h1), if_pos (.inl h1)]
    exact pclk_no1 now tt w n0 n1 h1
  · by_cases h2 : 16777216 < tt
    · rw [if_pos (.inr h2), if_pos (.inr h2)]
      exact pclk_no2 now tt w n0 n1 (by omega) h2
    · rw [if_neg (by omega), if_neg (by omega)]
      exact pclk_yes now tt w n0 n1 (by omega) (by omega)
theorem spTick_a {wd k cap now seq tt : Int} {l : List Mk} (h : spvalE wd k cap now seq l = 2) : spTick wd k cap now seq l tt = spZero 2 := by
  unfold spTick
  rw [if_neg (by omega)]
theorem spTick_b {wd k cap now seq tt : Int} {l : List Mk} (h : spvalE wd k cap now seq l = 0) (h1 : tt < now ∨ 16777216 < tt) : spTick wd k cap now seq l tt = spZero 3 := by
  unfold spTick
  rw [if_pos h, if_pos h1]
theorem spTick_c {wd k cap now seq tt : Int} {l : List Mk} (h : spvalE wd k cap now seq l = 0) (h1 : ¬ (tt < now ∨ 16777216 < tt)) : spTick wd k cap now seq l tt = ⟨wd, k, cap, tt, seq, dropM tt wd l, 0⟩ := by
  unfold spTick
  rw [if_pos h, if_neg h1]
set_option maxRecDepth 100000 in
theorem psptick_a (A : Option Addr) (m c : Nat) (l : List Mk) (wd k cap now seq : Int) (tt : Int) (w : World) (hin : MIn A m c l w) (sB : I64 seq) (hv : spvalE wd k cap now seq l = 2) : Calls Try.prog 26 #[.agg #[.int .i64 wd, .int .i64 k, .int .i64 cap, .int .i64 now, .int .i64 seq, .slice A m c], .int .i64 tt] w fun e w' => SpRet A (spTick wd k cap now seq l tt) w e w' := by
  rw [spTick_a hv]
  have P := fun w' (hb : Below w.heap.size w w') => pvalP A m c l wd k cap now seq w' (hin.below hb) sB
  rw [hv] at P
  replace P := Lib.hid P
  clear hv hin sB
  go_enter Try.func26, Try.ntmps26
  go_wp2_with (first | (go_at_call 27; with_reducible refine (P.out _ (by (repeat (first | exact Below.refl _ _ | refine Below.setCell ?_ (by first | (simp; done) | (simp; omega) | omega) _ | refine Below.alloc ?_ (by first | (simp; done) | (simp; omega) | omega) _ | refine Below.drew ?_ | refine Below.trans ?_ (Below.mono (by assumption) (by first | (simp; done) | (simp; omega) | omega)))))).mono ?_; rintro e w1 ⟨rfl, hb1⟩; have hz1 := hb1.size; (try simp at hz1); have o1 : Below w.heap.size w w1 := (by (repeat (first | exact Below.refl _ _ | refine Below.setCell ?_ (by first | (simp; done) | (simp; omega) | omega) _ | refine Below.alloc ?_ (by first | (simp; done) | (simp; omega) | omega) _ | refine Below.drew ?_ | refine Below.trans ?_ (Below.mono (by assumption) (by first | (simp; done) | (simp; omega) | omega))))); have q1_0 : w.heap.size < w1.heap.size := (by omega); have r1_0 : Row w1 (w.heap.size) 24 #[.int .i64 wd, .int .i64 k, .int .i64 cap, .int .i64 now, .int .i64 seq, .slice A m c] := row_call (by (repeat (first | assumption | (refine row_new ?_; (first | (simp; done) | omega)) | refine row_alloc ?_ _ | refine row_drew ?_ | refine row_call ?_ (by assumption)))) hb1; obtain ⟨c1_0a, c1_0b, c1_0c, c1_0d, c1_0e, c1_0f, f1_0a, f1_0b, f1_0c, f1_0d, f1_0e, f1_0f⟩ := row_six r1_0; have q1_1 : w.heap.size + 1 < w1.heap.size := (by omega); have r1_1 : Row w1 (w.heap.size + 1) 24 #[.int .i64 0, .int .i64 0, .int .i64 0, .int .i64 0, .int .i64 0, .slice none 0 0] := row_call (by (repeat (first | assumption | (refine row_new ?_; (first | (simp; done) | omega)) | refine row_alloc ?_ _ | refine row_drew ?_ | refine row_call ?_ (by assumption)))) hb1; obtain ⟨c1_1a, c1_1b, c1_1c, c1_1d, c1_1e, c1_1f, f1_1a, f1_1b, f1_1c, f1_1d, f1_1e, f1_1f⟩ := row_six r1_1))
  have hbge : w.heap.size ≤ w.heap.size + 1 := by omega
  have R9 : Row ((((((w1.setCell ⟨w.heap.size + 1, 0, none⟩ (.int .i64 0)).setCell ⟨w.heap.size + 1, 1, none⟩ (.int .i64 0)).setCell ⟨w.heap.size + 1, 2, none⟩ (.int .i64 0)).setCell ⟨w.heap.size + 1, 3, none⟩ (.int .i64 0)).setCell ⟨w.heap.size + 1, 4, none⟩ (.int .i64 0)).setCell ⟨w.heap.size + 1, 5, none⟩ (.slice none 0 0)) (w.heap.size + 1) 24 #[.int .i64 0, .int .i64 0, .int .i64 0, .int .i64 0, .int .i64 0, .slice none 0 0] := (row_set (row_set (row_set (row_set (row_set (row_set r1_1 0 (.int .i64 0)) 1 (.int .i64 0)) 2 (.int .i64 0)) 3 (.int .i64 0)) 4 (.int .i64 0)) 5 (.slice none 0 0))
  have o9 : Below w.heap.size w ((((((w1.setCell ⟨w.heap.size + 1, 0, none⟩ (.int .i64 0)).setCell ⟨w.heap.size + 1, 1, none⟩ (.int .i64 0)).setCell ⟨w.heap.size + 1, 2, none⟩ (.int .i64 0)).setCell ⟨w.heap.size + 1, 3, none⟩ (.int .i64 0)).setCell ⟨w.heap.size + 1, 4, none⟩ (.int .i64 0)).setCell ⟨w.heap.size + 1, 5, none⟩ (.slice none 0 0)) := (Below.setCell (p := ⟨w.heap.size + 1, 5, none⟩) (Below.setCell (p := ⟨w.heap.size + 1, 4, none⟩) (Below.setCell (p := ⟨w.heap.size + 1, 3, none⟩) (Below.setCell (p := ⟨w.heap.size + 1, 2, none⟩) (Below.setCell (p := ⟨w.heap.size + 1, 1, none⟩) (Below.setCell (p := ⟨w.heap.size + 1, 0, none⟩) o1 hbge (.int .i64 0)) hbge (.int .i64 0)) hbge (.int .i64 0)) hbge (.int .i64 0)) hbge (.int .i64 0)) hbge (.slice none 0 0))
  generalize ((((((w1.setCell ⟨w.heap.size + 1, 0, none⟩ (.int .i64 0)).setCell ⟨w.heap.size + 1, 1, none⟩ (.int .i64 0)).setCell ⟨w.heap.size + 1, 2, none⟩ (.int .i64 0)).setCell ⟨w.heap.size + 1, 3, none⟩ (.int .i64 0)).setCell ⟨w.heap.size + 1, 4, none⟩ (.int .i64 0)).setCell ⟨w.heap.size + 1, 5, none⟩ (.slice none 0 0)) = w9 at R9 o9 ⊢
  obtain ⟨N0, N1, N2, N3, N4, N5, Nf0, Nf1, Nf2, Nf3, Nf4, Nf5⟩ := row_six R9
  exact bodyPost_ret (v := .tuple #[.agg #[.int .i64 0, .int .i64 0, .int .i64 0, .int .i64 0, .int .i64 0, .slice none 0 0], .int .i64 2]) (by simp [results, Try.results26, go_sem, List.getElem?_toArray, N0, N1, N2, N3, N4, N5]) rfl (spret_zero o9)
set_option maxRecDepth 100000 in
theorem psptick_b (A : Option Addr) (m c : Nat) (l : List Mk) (wd k cap now seq : Int) (tt : Int) (w : World) (hin : MIn A m c l w) (sB : I64 seq) (hv : spvalE wd k cap now seq l = 0) (hto : tt < now ∨ 16777216 < tt) : Calls Try.prog 26 #[.agg #[.int .i64 wd, .int .i64 k, .int .i64 cap, .int .i64 now, .int .i64 seq, .slice A m c], .int .i64 tt] w fun e w' => SpRet A (spTick wd k cap now seq l tt) w e w' := by
  rw [spTick_b hv hto]
  obtain ⟨⟨_, _, _, _, _, _, n0, n1⟩, _, _⟩ := of_spvalE hv
  have PC := fun w => pclk now tt w n0 n1
  simp only [if_pos hto] at PC
  replace PC := Lib.hid PC
  have P := fun w' (hb : Below w.heap.size w w') => pvalP A m c l wd k cap now seq w' (hin.below hb) sB
  rw [hv] at P
  replace P := Lib.hid P
  clear hv hin sB hto n0 n1
  go_enter Try.func26, Try.ntmps26
  go_wp2_with (first | (go_at_call 27; with_reducible refine (P.out _ (by (repeat (first | exact Below.refl _ _ | refine Below.setCell ?_ (by first | (simp; done) | (simp; omega) | omega) _ | refine Below.alloc ?_ (by first | (simp; done) | (simp; omega) | omega) _ | refine Below.drew ?_ | refine Below.trans ?_ (Below.mono (by assumption) (by first | (simp; done) | (simp; omega) | omega)))))).mono ?_; rintro e w1 ⟨rfl, hb1⟩; have hz1 := hb1.size; (try simp at hz1); have o1 : Below w.heap.size w w1 := (by (repeat (first | exact Below.refl _ _ | refine Below.setCell ?_ (by first | (simp; done) | (simp; omega) | omega) _ | refine Below.alloc ?_ (by first | (simp; done) | (simp; omega) | omega) _ | refine Below.drew ?_ | refine Below.trans ?_ (Below.mono (by assumption) (by first | (simp; done) | (simp; omega) | omega))))); have q1_0 : w.heap.size < w1.heap.size := (by omega); have r1_0 : Row w1 (w.heap.size) 24 #[.int .i64 wd, .int .i64 k, .int .i64 cap, .int .i64 now, .int .i64 seq, .slice A m c] := row_call (by (repeat (first | assumption | (refine row_new ?_; (first | (simp; done) | omega)) | refine row_alloc ?_ _ | refine row_drew ?_ | refine row_call ?_ (by assumption)))) hb1; obtain ⟨c1_0a, c1_0b, c1_0c, c1_0d, c1_0e, c1_0f, f1_0a, f1_0b, f1_0c, f1_0d, f1_0e, f1_0f⟩ := row_six r1_0; have q1_1 : w.heap.size + 1 < w1.heap.size := (by omega); have r1_1 : Row w1 (w.heap.size + 1) 24 #[.int .i64 0, .int .i64 0, .int .i64 0, .int .i64 0, .int .i64 0, .slice none 0 0] := row_call (by (repeat (first | assumption | (refine row_new ?_; (first | (simp; done) | omega)) | refine row_alloc ?_ _ | refine row_drew ?_ | refine row_call ?_ (by assumption)))) hb1; obtain ⟨c1_1a, c1_1b, c1_1c, c1_1d, c1_1e, c1_1f, f1_1a, f1_1b, f1_1c, f1_1d, f1_1e, f1_1f⟩ := row_six r1_1) | (go_at_call 64; with_reducible refine (PC.out _).mono ?_; rintro e w9 ⟨rfl, h9⟩; obtain rfl := h9.symm))
  have hbge : w.heap.size ≤ w.heap.size + 1 := by omega
  have R9 : Row ((((((w1.setCell ⟨w.heap.size + 1, 0, none⟩ (.int .i64 0)).setCell ⟨w.heap.size + 1, 1, none⟩ (.int .i64 0)).setCell ⟨w.heap.size + 1, 2, none⟩ (.int .i64 0)).setCell ⟨w.heap.size + 1, 3, none⟩ (.int .i64 0)).setCell ⟨w.heap.size + 1, 4, none⟩ (.int .i64 0)).setCell ⟨w.heap.size + 1, 5, none⟩ (.slice none 0 0)) (w.heap.size + 1) 24 #[.int .i64 0, .int .i64 0, .int .i64 0, .int .i64 0, .int .i64 0, .slice none 0 0] := (row_set (row_set (row_set (row_set (row_set (row_set r1_1 0 (.int .i64 0)) 1 (.int .i64 0)) 2 (.int .i64 0)) 3 (.int .i64 0)) 4 (.int .i64 0)) 5 (.slice none 0 0))
  have o9 : Below w.heap.size w ((((((w1.setCell ⟨w.heap.size + 1, 0, none⟩ (.int .i64 0)).setCell ⟨w.heap.size + 1, 1, none⟩ (.int .i64 0)).setCell ⟨w.heap.size + 1, 2, none⟩ (.int .i64 0)).setCell ⟨w.heap.size + 1, 3, none⟩ (.int .i64 0)).setCell ⟨w.heap.size + 1, 4, none⟩ (.int .i64 0)).setCell ⟨w.heap.size + 1, 5, none⟩ (.slice none 0 0)) := (Below.setCell (p := ⟨w.heap.size + 1, 5, none⟩) (Below.setCell (p := ⟨w.heap.size + 1, 4, none⟩) (Below.setCell (p := ⟨w.heap.size + 1, 3, none⟩) (Below.setCell (p := ⟨w.heap.size + 1, 2, none⟩) (Below.setCell (p := ⟨w.heap.size + 1, 1, none⟩) (Below.setCell (p := ⟨w.heap.size + 1, 0, none⟩) o1 hbge (.int .i64 0)) hbge (.int .i64 0)) hbge (.int .i64 0)) hbge (.int .i64 0)) hbge (.int .i64 0)) hbge (.slice none 0 0))
  generalize ((((((w1.setCell ⟨w.heap.size + 1, 0, none⟩ (.int .i64 0)).setCell ⟨w.heap.size + 1, 1, none⟩ (.int .i64 0)).setCell ⟨w.heap.size + 1, 2, none⟩ (.int .i64 0)).setCell ⟨w.heap.size + 1, 3, none⟩ (.int .i64 0)).setCell ⟨w.heap.size + 1, 4, none⟩ (.int .i64 0)).setCell ⟨w.heap.size + 1, 5, none⟩ (.slice none 0 0)) = w9 at R9 o9 ⊢
  obtain ⟨N0, N1, N2, N3, N4, N5, Nf0, Nf1, Nf2, Nf3, Nf4, Nf5⟩ := row_six R9
  exact bodyPost_ret (v := .tuple #[.agg #[.int .i64 0, .int .i64 0, .int .i64 0, .int .i64 0, .int .i64 0, .slice none 0 0], .int .i64 3]) (by simp [results, Try.results26, go_sem, List.getElem?_toArray, N0, N1, N2, N3, N4, N5]) rfl (spret_zero o9)
set_option maxRecDepth 100000 in
set_option maxHeartbeats 4000000 in
theorem psptick_c (A : Option Addr) (m c : Nat) (l : List Mk) (wd k cap now seq : Int) (tt : Int) (w : World) (hin : MIn A m c l w) (sB : I64 seq) (hmm : m ≤ 100000) (hv : spvalE wd k cap now seq l = 0) (hto : ¬ (tt < now ∨ 16777216 < tt)) : Calls Try.prog 26 #[.agg #[.int .i64 wd, .int .i64 k, .int .i64 cap, .int .i64 now, .int .i64 seq, .slice A m c], .int .i64 tt] w fun e w' => SpRet A (spTick wd k cap now seq l tt) w e w' := by
  rw [spTick_c hv hto]
  obtain ⟨⟨d0, d1, _, _, _, _, n0, n1⟩, hMV, _⟩ := of_spvalE hv
  have HT := Lib.hid (show ∀ x ∈ l, 0 ≤ x.t ∧ x.t ≤ tt from fun x hx => by
    have := (mvalid_iff.1 hMV).2.one x hx
    have h5 := this.2.2.2.2.1
    have h6 := this.2.2.2.2.2.1
    omega)
  have PC := fun w => pclk now tt w n0 n1
  simp only [if_neg hto] at PC
  replace PC := Lib.hid PC
  have HR := Lib.hid hin
  have HFB := Lib.hid (fun h a e => hin.blk h a e)
  have P := fun w' (hb : Below w.heap.size w w') => pvalP A m c l wd k cap now seq w' (hin.below hb) sB
  rw [hv] at P
  replace P := Lib.hid P
  have t0 : 0 ≤ tt := by omega
  have t1 : tt ≤ 16777216 := by omega
  clear hv hin sB hto hMV
  go_enter Try.func26, Try.ntmps26
  go_upto_region 7 with (first | (go_at_call 27; with_reducible refine (P.out _ (by (repeat (first | exact Below.refl _ _ | refine Below.setCell ?_ (by first | (simp; done) | (simp; omega) | omega) _ | refine Below.alloc ?_ (by first | (simp; done) | (simp; omega) | omega) _ | refine Below.drew ?_ | refine Below.trans ?_ (Below.mono (by assumption) (by first | (simp; done) | (simp; omega) | omega)))))).mono ?_; rintro e w1 ⟨rfl, hb1⟩; have hz1 := hb1.size; (try simp at hz1); have o1 : Below w.heap.size w w1 := (by (repeat (first | exact Below.refl _ _ | refine Below.setCell ?_ (by first | (simp; done) | (simp; omega) | omega) _ | refine Below.alloc ?_ (by first | (simp; done) | (simp; omega) | omega) _ | refine Below.drew ?_ | refine Below.trans ?_ (Below.mono (by assumption) (by first | (simp; done) | (simp; omega) | omega))))); have q1_0 : w.heap.size < w1.heap.size := (by omega); have r1_0 : Row w1 (w.heap.size) 24 #[.int .i64 wd, .int .i64 k, .int .i64 cap, .int .i64 now, .int .i64 seq, .slice A m c] := row_call (by (repeat (first | assumption | (refine row_new ?_; (first | (simp; done) | omega)) | refine row_alloc ?_ _ | refine row_drew ?_ | refine row_call ?_ (by assumption)))) hb1; obtain ⟨c1_0a, c1_0b, c1_0c, c1_0d, c1_0e, c1_0f, f1_0a, f1_0b, f1_0c, f1_0d, f1_0e, f1_0f⟩ := row_six r1_0; have q1_1 : w.heap.size + 1 < w1.heap.size := (by omega); have r1_1 : Row w1 (w.heap.size + 1) 24 #[.int .i64 0, .int .i64 0, .int .i64 0, .int .i64 0, .int .i64 0, .slice none 0 0] := row_call (by (repeat (first | assumption | (refine row_new ?_; (first | (simp; done) | omega)) | refine row_alloc ?_ _ | refine row_drew ?_ | refine row_call ?_ (by assumption)))) hb1; obtain ⟨c1_1a, c1_1b, c1_1c, c1_1d, c1_1e, c1_1f, f1_1a, f1_1b, f1_1c, f1_1d, f1_1e, f1_1f⟩ := row_six r1_1) | (go_at_call 64; with_reducible refine (PC.out _).mono ?_; rintro e w9 ⟨rfl, h9⟩; obtain rfl := h9.symm))
  clear P PC c1_0a c1_0b c1_0c c1_0d c1_0e c1_0f f1_0a f1_0b f1_0c f1_0d f1_0e f1_0f c1_1a c1_1b c1_1c c1_1d c1_1e c1_1f f1_1a f1_1b f1_1c f1_1d f1_1e f1_1f 
  obtain ⟨X0, X1, X2, X3, X4, X5, Xf0, Xf1, Xf2, Xf3, Xf4, Xf5⟩ := row_six r1_0
  have KR := Lib.hid r1_0
  clear r1_0
  go_upto_region 8 with (fail)
  have X : Row (w1.setCell ⟨w.heap.size, 3, none⟩ (.int .i64 tt)) (w.heap.size) 24 #[.int .i64 wd, .int .i64 k, .int .i64 cap, .int .i64 tt, .int .i64 seq, .slice A m c] := row_set KR.out 3 _
  have R : Row (w1.setCell ⟨w.heap.size, 3, none⟩ (.int .i64 tt)) (w.heap.size + 1) 24 #[.int .i64 0, .int .i64 0, .int .i64 0, .int .i64 0, .int .i64 0, .slice none 0 0] := row_other (p := ⟨w.heap.size, 3, none⟩) r1_1 (by show w.heap.size + 1 ≠ w.heap.size; omega) _
  have o : Below w.heap.size w (w1.setCell ⟨w.heap.size, 3, none⟩ (.int .i64 tt)) := o1.setCell (p := ⟨w.heap.size, 3, none⟩) (Nat.le_refl _) _
  generalize w1.setCell ⟨w.heap.size, 3, none⟩ (.int .i64 tt) = w3 at X R o ⊢
  clear X0 X1 X2 X3 X4 X5 Xf0 Xf1 Xf2 Xf3 Xf4 Xf5 KR o1 r1_1
  obtain ⟨X0, X1, X2, X3, X4, X5, Xf0, Xf1, Xf2, Xf3, Xf4, Xf5⟩ := row_six X
  go_wp2_with fail
  refine (pmdrop A m c l tt wd w3 (HR.out.below o) (by omega) t0 t1 d0 d1 HT.out).mono ?_
  rintro e w4 ⟨A5, m5, c5, rfl, inA, hb4, fr4⟩
  have z3 := row_lt R
  clear X0 X1 X2 X3 X4 X5 Xf0 Xf1 Xf2 Xf3 Xf4 Xf5
  replace X := row_call X hb4
  replace R := row_call R hb4
  have z4 := hb4.size
  have o3 := o.size
  replace o := o.trans (hb4.mono o.size)
  have IN := Lib.hid inA
  have XB0 := Lib.hid (show 0 < m5 → ∀ a, A5 = some a → a.block ≠ w.heap.size ∧ a.block ≠ w.heap.size + 1 from fun h a e => by
    rcases fr4 a e with g | ⟨b, eb, g⟩
    · omega
    · have hl := inA.len
      have hm0 : 0 < m := by
        rcases Nat.eq_zero_or_pos m with h0 | h0
        · exfalso
          have h1 := HR.out.len
          have h2 : l = [] := List.eq_nil_of_length_eq_zero (by omega)
          rw [h2, dropM_nil] at hl
          simp at hl
          omega
        · exact h0
      have := HFB.out hm0 b eb
      omega)
  have FR := Lib.hid (show ∀ a, A5 = some a → (w.heap.size ≤ a.block ∧ a.block < w4.heap.size) ∨ ∃ b, A = some b ∧ a.block = b.block from fun a e => by
    rcases fr4 a e with g | g
    · exact .inl (by omega)
    · exact .inr g)
  clear hb4 inA fr4
  obtain ⟨X0, X1, X2, X3, X4, X5, Xf0, Xf1, Xf2, Xf3, Xf4, Xf5⟩ := row_six X
  obtain ⟨R0, R1, R2, R3, R4, R5, Rf0, Rf1, Rf2, Rf3, Rf4, Rf5⟩ := row_six R
  have XR := Lib.hid X
  have RR := Lib.hid R
  clear X R
  go_upto_region 9 with (fail)
  have X : Row (w4.setCell ⟨w.heap.size, 5, none⟩ (.slice A5 m5 c5)) (w.heap.size) 24 #[.int .i64 wd, .int .i64 k, .int .i64 cap, .int .i64 tt, .int .i64 seq, .slice A5 m5 c5] := (row_set XR.out 5 (.slice A5 m5 c5))
  have R : Row (w4.setCell ⟨w.heap.size, 5, none⟩ (.slice A5 m5 c5)) (w.heap.size + 1) 24 #[.int .i64 0, .int .i64 0, .int .i64 0, .int .i64 0, .int .i64 0, .slice none 0 0] := (row_other (p := ⟨w.heap.size, 5, none⟩) RR.out (by show w.heap.size + 1 ≠ w.heap.size; omega) (.slice A5 m5 c5))
  have o6 : Below w.heap.size w (w4.setCell ⟨w.heap.size, 5, none⟩ (.slice A5 m5 c5)) := (Below.setCell (p := ⟨w.heap.size, 5, none⟩) o (Nat.le_refl _) (.slice A5 m5 c5))
  have hkp6 : ∀ b', b' ≠ w.heap.size → ((w4.setCell ⟨w.heap.size, 5, none⟩ (.slice A5 m5 c5))).heap[b']? = w4.heap[b']? := fun b' h' => ((Below.heap_setCell _ ⟨w.heap.size, 5, none⟩ (.slice A5 m5 c5) b' h').trans rfl)
  have hs6 : w4.heap.size ≤ ((w4.setCell ⟨w.heap.size, 5, none⟩ (.slice A5 m5 c5))).heap.size := by simp only [size_setCell]; exact Nat.le_refl _
  have IN6 := Lib.hid (IN.out.keep0 hs6 (fun h a e => hkp6 a.block (XB0.out h a e).1))
  clear hkp6
  generalize (w4.setCell ⟨w.heap.size, 5, none⟩ (.slice A5 m5 c5)) = w6 at X R o6 hs6 IN6 ⊢
  clear X0 X1 X2 X3 X4 X5 Xf0 Xf1 Xf2 Xf3 Xf4 Xf5 R0 R1 R2 R3 R4 R5 Rf0 Rf1 Rf2 Rf3 Rf4 Rf5 XR RR IN o
  obtain ⟨X0, X1, X2, X3, X4, X5, Xf0, Xf1, Xf2, Xf3, Xf4, Xf5⟩ := row_six X
  obtain ⟨R0, R1, R2, R3, R4, R5, Rf0, Rf1, Rf2, Rf3, Rf4, Rf5⟩ := row_six R
  go_wp2
  have hbge : w.heap.size ≤ w.heap.size + 1 := by omega
  have hkp : ∀ b', b' ≠ w.heap.size + 1 → (((((((w6.setCell ⟨w.heap.size + 1, 0, none⟩ (.int .i64 wd)).setCell ⟨w.heap.size + 1, 1, none⟩ (.int .i64 k)).setCell ⟨w.heap.size + 1, 2, none⟩ (.int .i64 cap)).setCell ⟨w.heap.size + 1, 3, none⟩ (.int .i64 tt)).setCell ⟨w.heap.size + 1, 4, none⟩ (.int .i64 seq)).setCell ⟨w.heap.size + 1, 5, none⟩ (.slice A5 m5 c5))).heap[b']? = w6.heap[b']? := fun b' h' => ((Below.heap_setCell _ ⟨w.heap.size + 1, 5, none⟩ (.slice A5 m5 c5) b' h').trans ((Below.heap_setCell _ ⟨w.heap.size + 1, 4, none⟩ (.int .i64 seq) b' h').trans ((Below.heap_setCell _ ⟨w.heap.size + 1, 3, none⟩ (.int .i64 tt) b' h').trans ((Below.heap_setCell _ ⟨w.heap.size + 1, 2, none⟩ (.int .i64 cap) b' h').trans ((Below.heap_setCell _ ⟨w.heap.size + 1, 1, none⟩ (.int .i64 k) b' h').trans ((Below.heap_setCell _ ⟨w.heap.size + 1, 0, none⟩ (.int .i64 wd) b' h').trans rfl))))))
  have hksz : w6.heap.size ≤ (((((((w6.setCell ⟨w.heap.size + 1, 0, none⟩ (.int .i64 wd)).setCell ⟨w.heap.size + 1, 1, none⟩ (.int .i64 k)).setCell ⟨w.heap.size + 1, 2, none⟩ (.int .i64 cap)).setCell ⟨w.heap.size + 1, 3, none⟩ (.int .i64 tt)).setCell ⟨w.heap.size + 1, 4, none⟩ (.int .i64 seq)).setCell ⟨w.heap.size + 1, 5, none⟩ (.slice A5 m5 c5))).heap.size := by simp only [size_setCell]; exact Nat.le_refl _
  have R9 : Row ((((((w6.setCell ⟨w.heap.size + 1, 0, none⟩ (.int .i64 wd)).setCell ⟨w.heap.size + 1, 1, none⟩ (.int .i64 k)).setCell ⟨w.heap.size + 1, 2, none⟩ (.int .i64 cap)).setCell ⟨w.heap.size + 1, 3, none⟩ (.int .i64 tt)).setCell ⟨w.heap.size + 1, 4, none⟩ (.int .i64 seq)).setCell ⟨w.heap.size + 1, 5, none⟩ (.slice A5 m5 c5)) (w.heap.size + 1) 24 #[.int .i64 wd, .int .i64 k, .int .i64 cap, .int .i64 tt, .int .i64 seq, .slice A5 m5 c5] := (row_set (row_set (row_set (row_set (row_set (row_set R 0 (.int .i64 wd)) 1 (.int .i64 k)) 2 (.int .i64 cap)) 3 (.int .i64 tt)) 4 (.int .i64 seq)) 5 (.slice A5 m5 c5))
  have o9 : Below w.heap.size w ((((((w6.setCell ⟨w.heap.size + 1, 0, none⟩ (.int .i64 wd)).setCell ⟨w.heap.size + 1, 1, none⟩ (.int .i64 k)).setCell ⟨w.heap.size + 1, 2, none⟩ (.int .i64 cap)).setCell ⟨w.heap.size + 1, 3, none⟩ (.int .i64 tt)).setCell ⟨w.heap.size + 1, 4, none⟩ (.int .i64 seq)).setCell ⟨w.heap.size + 1, 5, none⟩ (.slice A5 m5 c5)) := (Below.setCell (p := ⟨w.heap.size + 1, 5, none⟩) (Below.setCell (p := ⟨w.heap.size + 1, 4, none⟩) (Below.setCell (p := ⟨w.heap.size + 1, 3, none⟩) (Below.setCell (p := ⟨w.heap.size + 1, 2, none⟩) (Below.setCell (p := ⟨w.heap.size + 1, 1, none⟩) (Below.setCell (p := ⟨w.heap.size + 1, 0, none⟩) o6 hbge (.int .i64 wd)) hbge (.int .i64 k)) hbge (.int .i64 cap)) hbge (.int .i64 tt)) hbge (.int .i64 seq)) hbge (.slice A5 m5 c5))
  generalize ((((((w6.setCell ⟨w.heap.size + 1, 0, none⟩ (.int .i64 wd)).setCell ⟨w.heap.size + 1, 1, none⟩ (.int .i64 k)).setCell ⟨w.heap.size + 1, 2, none⟩ (.int .i64 cap)).setCell ⟨w.heap.size + 1, 3, none⟩ (.int .i64 tt)).setCell ⟨w.heap.size + 1, 4, none⟩ (.int .i64 seq)).setCell ⟨w.heap.size + 1, 5, none⟩ (.slice A5 m5 c5)) = w9 at R9 o9 hkp hksz ⊢
  obtain ⟨N0, N1, N2, N3, N4, N5, Nf0, Nf1, Nf2, Nf3, Nf4, Nf5⟩ := row_six R9
  exact bodyPost_ret (v := .tuple #[.agg #[.int .i64 wd, .int .i64 k, .int .i64 cap, .int .i64 tt, .int .i64 seq, .slice A5 m5 c5], .int .i64 0]) (by simp [results, Try.results26, go_sem, List.getElem?_toArray, N0, N1, N2, N3, N4, N5]) rfl (spret_ok (IN6.out.keep0 hksz (fun h a e => hkp a.block (XB0.out h a e).2)) o9 (fun a e => (FR.out a e).imp (fun g => ⟨g.1, by omega⟩) (fun g => g)))
theorem psptick (A : Option Addr) (m c : Nat) (l : List Mk) (wd k cap now seq : Int) (tt : Int) (w : World) (hin : MIn A m c l w) (sB : I64 seq) (hmm : m ≤ 100000) : Calls Try.prog 26 #[.agg #[.int .i64 wd, .int .i64 k, .int .i64 cap, .int .i64 now, .int .i64 seq, .slice A m c], .int .i64 tt] w fun e w' => SpRet A (spTick wd k cap now seq l tt) w e w' := by
  rcases spvalE_two (wd := wd) (k := k) (cap := cap) (now := now) (seq := seq) (l := l) with hv | hv
  · by_cases hto : tt < now ∨ 16777216 < tt
    · exact psptick_b A m c l wd k cap now seq tt w hin sB hv hto
    · exact psptick_c A m c l wd k cap now seq tt w hin sB hmm hv hto
  · exact psptick_a A m c l wd k cap now seq tt w hin sB hv
end Go.Proofs.Ytaiepjcnncajcaa
end
section
/- Spread histograms: a value more, walked. -/
set_option linter.unusedVariables false
set_option linter.unusedSimpArgs false
set_option linter.unusedSectionVars false
set_option linter.unnecessarySimpa false
namespace Go.Proofs.Ytaiepjcnncajcaa
open Go.RowKit
theorem pcloseB (k : Int) (a b : Mk) (w : World) : Calls Try.prog 17 #[.agg #[.int .i64 a.seq, .int .i64 a.t, .int .i64 a.n, .int .i64 a.s, .int .i64 a.q, .int .i64 a.lo, .int .i64 a.hi], .agg #[.int .i64 b.seq, .int .i64 b.t, .int .i64 b.n, .int .i64 b.s, .int .i64 b.q, .int .i64 b.lo, .int .i64 b.hi], .int .i64 k] w fun e w' => e = .returned (.bool (closeB k a b)) ∧ Below w.heap.size w w' := by
  have h := pclose a.seq a.t a.n a.s a.q a.lo a.hi b.seq b.t b.n b.s b.q b.lo b.hi k w
  rw [show decide (closeP a.n a.s a.q b.n b.s b.q k) = closeB k a b from decide_eq_decide.2 Iff.rfl] at h
  exact h
theorem fc_run (args : Array Value) (w : World) : Sem.run Try.prog (callFunc 70 args) w = .ok (.enter 70 args) w := by
  unfold callFunc
  simp [go_sem, Try.func70]
  rfl
set_option maxHeartbeats 2000000 in
theorem pclos_flat (wd k cap now sq1 : Int) (A : Option Addr) (m c xb : Nat) (sq tk n s q lo hi bsq btk bn bs bq blo bhi : Int) (nv : Bool) (w : World) (X : Row w xb 24 #[.int .i64 wd, .int .i64 k, .int .i64 cap, .int .i64 now, .int .i64 sq1, .slice A m c])
    (PN : ∀ w, Calls Try.prog 17 #[.agg #[.int .i64 sq, .int .i64 tk, .int .i64 n, .int .i64 s, .int .i64 q, .int .i64 lo, .int .i64 hi], .agg #[.int .i64 bsq, .int .i64 btk, .int .i64 bn, .int .i64 bs, .int .i64 bq, .int .i64 blo, .int .i64 bhi], .int .i64 k] w fun e w' => e = .returned (.bool nv) ∧ Below w.heap.size w w') :
    Calls Try.prog 70 #[.agg #[.int .i64 sq, .int .i64 tk, .int .i64 n, .int .i64 s, .int .i64 q, .int .i64 lo, .int .i64 hi], .agg #[.int .i64 bsq, .int .i64 btk, .int .i64 bn, .int .i64 bs, .int .i64 bq, .int .i64 blo, .int .i64 bhi], .pointer (some ⟨xb, 0, none⟩)] w fun e w' => e = .returned (.bool nv) ∧ Below w.heap.size w w' := by
  have PN := Lib.hid PN
  go_enter Try.func70, Try.ntmps70
  go_upto_region 1 with (fail)
  have K : Row ((w.alloc (.cells #[.int .i64 sq, .int .i64 tk, .int .i64 n, .int .i64 s, .int .i64 q, .int .i64 lo, .int .i64 hi] 33)).alloc (.cells #[.int .i64 bsq, .int .i64 btk, .int .i64 bn, .int .i64 bs, .int .i64 bq, .int .i64 blo, .int .i64 bhi] 33)) w.heap.size 33 #[.int .i64 sq, .int .i64 tk, .int .i64 n, .int .i64 s, .int .i64 q, .int .i64 lo, .int .i64 hi] := row_alloc (row_new rfl) _
  have L : Row ((w.alloc (.cells #[.int .i64 sq, .int .i64 tk, .int .i64 n, .int .i64 s, .int .i64 q, .int .i64 lo, .int .i64 hi] 33)).alloc (.cells #[.int .i64 bsq, .int .i64 btk, .int .i64 bn, .int .i64 bs, .int .i64 bq, .int .i64 blo, .int .i64 bhi] 33)) (w.heap.size + 1) 33 #[.int .i64 bsq, .int .i64 btk, .int .i64 bn, .int .i64 bs, .int .i64 bq, .int .i64 blo, .int .i64 bhi] := row_new (by simp)
  have o : Below w.heap.size w ((w.alloc (.cells #[.int .i64 sq, .int .i64 tk, .int .i64 n, .int .i64 s, .int .i64 q, .int .i64 lo, .int .i64 hi] 33)).alloc (.cells #[.int .i64 bsq, .int .i64 btk, .int .i64 bn, .int .i64 bs, .int .i64 bq, .int .i64 blo, .int .i64 bhi] 33)) := by (repeat (first | exact Below.refl _ _ | refine Below.setCell ?_ (by first | (simp; done) | (simp; omega) | omega) _ | refine Below.alloc ?_ (by first | (simp; done) | (simp; omega) | omega) _ | refine Below.drew ?_ | refine Below.trans ?_ (Below.mono (by assumption) (by first | (simp; done) | (simp; omega) | omega))))
  replace X := row_alloc (row_alloc X (.cells #[.int .i64 sq, .int .i64 tk, .int .i64 n, .int .i64 s, .int .i64 q, .int .i64 lo, .int .i64 hi] 33)) (.cells #[.int .i64 bsq, .int .i64 btk, .int .i64 bn, .int .i64 bs, .int .i64 bq, .int .i64 blo, .int .i64 bhi] 33)
  generalize ((w.alloc (.cells #[.int .i64 sq, .int .i64 tk, .int .i64 n, .int .i64 s, .int .i64 q, .int .i64 lo, .int .i64 hi] 33)).alloc (.cells #[.int .i64 bsq, .int .i64 btk, .int .i64 bn, .int .i64 bs, .int .i64 bq, .int .i64 blo, .int .i64 bhi] 33)) = w3 at K L X o ⊢
  obtain ⟨X0, X1, X2, X3, X4, X5, Xf0, Xf1, Xf2, Xf3, Xf4, Xf5⟩ := row_six X
  obtain ⟨K0, K1, K2, K3, K4, K5, K6, Kf0, Kf1, Kf2, Kf3, Kf4, Kf5, Kf6⟩ := row_seven K
  obtain ⟨L0, L1, L2, L3, L4, L5, L6, Lf0, Lf1, Lf2, Lf3, Lf4, Lf5, Lf6⟩ := row_seven L
  clear K L X
  go_wp2_with fail
  refine (PN.out _).mono ?_
  rintro e w4 ⟨rfl, hb4⟩
  replace o := o.trans (hb4.mono o.size)
  go_wp2
  go_ret
  exact ⟨rfl, o⟩
theorem spAdd_a {wd k cap now seq v : Int} {l : List Mk} (h : spvalE wd k cap now seq l = 2) : spAdd wd k cap now seq l v = spZero 2 := by
  unfold spAdd
  rw [if_neg (by omega)]
theorem spAdd_b {wd k cap now seq v : Int} {l : List Mk} (h : spvalE wd k cap now seq l = 0) (h1 : v < (-4096) ∨ 4096 < v) : spAdd wd k cap now seq l v = spZero 4 := by
  unfold spAdd
  rw [if_pos h, if_pos h1]
theorem spAdd_c {wd k cap now seq v : Int} {l : List Mk} (h : spvalE wd k cap now seq l = 0) (h1 : ¬ (v < (-4096) ∨ 4096 < v)) (h2 : smFull cap seq l) : spAdd wd k cap now seq l v = spZero 5 := by
  unfold spAdd
  rw [if_pos h, if_neg h1, if_pos h2]
theorem spAdd_d {wd k cap now seq v : Int} {l : List Mk} (h : spvalE wd k cap now seq l = 0) (h1 : ¬ (v < (-4096) ∨ 4096 < v)) (h2 : ¬ smFull cap seq l) : spAdd wd k cap now seq l v = ⟨wd, k, cap, now, seq + 1, prune (closeB k) (incl l (seq + 1) now v), 0⟩ := by
  unfold spAdd
  rw [if_pos h, if_neg h1, if_neg h2]
set_option maxRecDepth 100000 in
theorem pspadd_a (A : Option Addr) (m c : Nat) (l : List Mk) (wd k cap now seq : Int) (v : Int) (w : World) (hin : MIn A m c l w) (sB : I64 seq) (hv : spvalE wd k cap now seq l = 2) : Calls Try.prog 29 #[.agg #[.int .i64 wd, .int .i64 k, .int .i64 cap, .int .i64 now, .int .i64 seq, .slice A m c], .int .i64 v] w fun e w' => SpRet A (spAdd wd k cap now seq l v) w e w' := by
  rw [spAdd_a hv]
  have P := fun w' (hb : Below w.heap.size w w') => pvalP A m c l wd k cap now seq w' (hin.below hb) sB
  rw [hv] at P
  replace P := Lib.hid P
  clear hv hin sB
  go_enter Try.func29, Try.ntmps29
  go_wp2_with (first | (go_at_call 27; with_reducible refine (P.out _ (by (repeat (first | exact Below.refl _ _ | refine Below.setCell ?_ (by first | (simp; done) | (simp; omega) | omega) _ | refine Below.alloc ?_ (by first | (simp; done) | (simp; omega) | omega) _ | refine Below.drew ?_ | refine Below.trans ?_ (Below.mono (by assumption) (by first | (simp; done) | (simp; omega) | omega)))))).mono ?_; rintro e w1 ⟨rfl, hb1⟩; have hz1 := hb1.size; (try simp at hz1); have o1 : Below w.heap.size w w1 := (by (repeat (first | exact Below.refl _ _ | refine Below.setCell ?_ (by first | (simp; done) | (simp; omega) | omega) _ | refine Below.alloc ?_ (by first | (simp; done) | (simp; omega) | omega) _ | refine Below.drew ?_ | refine Below.trans ?_ (Below.mono (by assumption) (by first | (simp; done) | (simp; omega) | omega))))); have q1_0 : w.heap.size < w1.heap.size := (by omega); have r1_0 : Row w1 (w.heap.size) 24 #[.int .i64 wd, .int .i64 k, .int .i64 cap, .int .i64 now, .int .i64 seq, .slice A m c] := row_call (by (repeat (first | assumption | (refine row_new ?_; (first | (simp; done) | omega)) | refine row_alloc ?_ _ | refine row_drew ?_ | refine row_call ?_ (by assumption)))) hb1; obtain ⟨c1_0a, c1_0b, c1_0c, c1_0d, c1_0e, c1_0f, f1_0a, f1_0b, f1_0c, f1_0d, f1_0e, f1_0f⟩ := row_six r1_0; have q1_1 : w.heap.size + 1 < w1.heap.size := (by omega); have r1_1 : Row w1 (w.heap.size + 1) 24 #[.int .i64 0, .int .i64 0, .int .i64 0, .int .i64 0, .int .i64 0, .slice none 0 0] := row_call (by (repeat (first | assumption | (refine row_new ?_; (first | (simp; done) | omega)) | refine row_alloc ?_ _ | refine row_drew ?_ | refine row_call ?_ (by assumption)))) hb1; obtain ⟨c1_1a, c1_1b, c1_1c, c1_1d, c1_1e, c1_1f, f1_1a, f1_1b, f1_1c, f1_1d, f1_1e, f1_1f⟩ := row_six r1_1))
  have hbge : w.heap.size ≤ w.heap.size + 1 := by omega
  have R9 : Row ((((((w1.setCell ⟨w.heap.size + 1, 0, none⟩ (.int .i64 0)).setCell ⟨w.heap.size + 1, 1, none⟩ (.int .i64 0)).setCell ⟨w.heap.size + 1, 2, none⟩ (.int .i64 0)).setCell ⟨w.heap.size + 1, 3, none⟩ (.int .i64 0)).setCell ⟨w.heap.size + 1, 4, none⟩ (.int .i64 0)).setCell ⟨w.heap.size + 1, 5, none⟩ (.slice none 0 0)) (w.heap.size + 1) 24 #[.int .i64 0, .int .i64 0, .int .i64 0, .int .i64 0, .int .i64 0, .slice none 0 0] := (row_set (row_set (row_set (row_set (row_set (row_set r1_1 0 (.int .i64 0)) 1 (.int .i64 0)) 2 (.int .i64 0)) 3 (.int .i64 0)) 4 (.int .i64 0)) 5 (.slice none 0 0))
  have o9 : Below w.heap.size w ((((((w1.setCell ⟨w.heap.size + 1, 0, none⟩ (.int .i64 0)).setCell ⟨w.heap.size + 1, 1, none⟩ (.int .i64 0)).setCell ⟨w.heap.size + 1, 2, none⟩ (.int .i64 0)).setCell ⟨w.heap.size + 1, 3, none⟩ (.int .i64 0)).setCell ⟨w.heap.size + 1, 4, none⟩ (.int .i64 0)).setCell ⟨w.heap.size + 1, 5, none⟩ (.slice none 0 0)) := (Below.setCell (p := ⟨w.heap.size + 1, 5, none⟩) (Below.setCell (p := ⟨w.heap.size + 1, 4, none⟩) (Below.setCell (p := ⟨w.heap.size + 1, 3, none⟩) (Below.setCell (p := ⟨w.heap.size + 1, 2, none⟩) (Below.setCell (p := ⟨w.heap.size + 1, 1, none⟩) (Below.setCell (p := ⟨w.heap.size + 1, 0, none⟩) o1 hbge (.int .i64 0)) hbge (.int .i64 0)) hbge (.int .i64 0)) hbge (.int .i64 0)) hbge (.int .i64 0)) hbge (.slice none 0 0))
  generalize ((((((w1.setCell ⟨w.heap.size + 1, 0, none⟩ (.int .i64 0)).setCell ⟨w.heap.size + 1, 1, none⟩ (.int .i64 0)).setCell ⟨w.heap.size + 1, 2, none⟩ (.int .i64 0)).setCell ⟨w.heap.size + 1, 3, none⟩ (.int .i64 0)).setCell ⟨w.heap.size + 1, 4, none⟩ (.int .i64 0)).setCell ⟨w.heap.size + 1, 5, none⟩ (.slice none 0 0)) = w9 at R9 o9 ⊢
  obtain ⟨N0, N1, N2, N3, N4, N5, Nf0, Nf1, Nf2, Nf3, Nf4, Nf5⟩ := row_six R9
  exact bodyPost_ret (v := .tuple #[.agg #[.int .i64 0, .int .i64 0, .int .i64 0, .int .i64 0, .int .i64 0, .slice none 0 0], .int .i64 2]) (by simp [results, Try.results29, go_sem, List.getElem?_toArray, N0, N1, N2, N3, N4, N5]) rfl (spret_zero o9)
set_option maxRecDepth 100000 in
theorem pspadd_b1 (A : Option Addr) (m c : Nat) (l : List Mk) (wd k cap now seq : Int) (v : Int) (w : World) (hin : MIn A m c l w) (sB : I64 seq) (hv : spvalE wd k cap now seq l = 0) (h1 : v < (-4096)) : Calls Try.prog 29 #[.agg #[.int .i64 wd, .int .i64 k, .int .i64 cap, .int .i64 now, .int .i64 seq, .slice A m c], .int .i64 v] w fun e w' => SpRet A (spAdd wd k cap now seq l v) w e w' := by
  rw [spAdd_b hv (by omega)]
  have P := fun w' (hb : Below w.heap.size w w') => pvalP A m c l wd k cap now seq w' (hin.below hb) sB
  rw [hv] at P
  replace P := Lib.hid P
  have d1 : decide (v < -4096) = true := decide_eq_true h1
  clear hv hin sB h1
  go_enter Try.func29, Try.ntmps29
  go_wp2_with (first | (go_at_call 27; with_reducible refine (P.out _ (by (repeat (first | exact Below.refl _ _ | refine Below.setCell ?_ (by first | (simp; done) | (simp; omega) | omega) _ | refine Below.alloc ?_ (by first | (simp; done) | (simp; omega) | omega) _ | refine Below.drew ?_ | refine Below.trans ?_ (Below.mono (by assumption) (by first | (simp; done) | (simp; omega) | omega)))))).mono ?_; rintro e w1 ⟨rfl, hb1⟩; have hz1 := hb1.size; (try simp at hz1); have o1 : Below w.heap.size w w1 := (by (repeat (first | exact Below.refl _ _ | refine Below.setCell ?_ (by first | (simp; done) | (simp; omega) | omega) _ | refine Below.alloc ?_ (by first | (simp; done) | (simp; omega) | omega) _ | refine Below.drew ?_ | refine Below.trans ?_ (Below.mono (by assumption) (by first | (simp; done) | (simp; omega) | omega))))); have q1_0 : w.heap.size < w1.heap.size := (by omega); have r1_0 : Row w1 (w.heap.size) 24 #[.int .i64 wd, .int .i64 k, .int .i64 cap, .int .i64 now, .int .i64 seq, .slice A m c] := row_call (by (repeat (first | assumption | (refine row_new ?_; (first | (simp; done) | omega)) | refine row_alloc ?_ _ | refine row_drew ?_ | refine row_call ?_ (by assumption)))) hb1; obtain ⟨c1_0a, c1_0b, c1_0c, c1_0d, c1_0e, c1_0f, f1_0a, f1_0b, f1_0c, f1_0d, f1_0e, f1_0f⟩ := row_six r1_0; have q1_1 : w.heap.size + 1 < w1.heap.size := (by omega); have r1_1 : Row w1 (w.heap.size + 1) 24 #[.int .i64 0, .int .i64 0, .int .i64 0, .int .i64 0, .int .i64 0, .slice none 0 0] := row_call (by (repeat (first | assumption | (refine row_new ?_; (first | (simp; done) | omega)) | refine row_alloc ?_ _ | refine row_drew ?_ | refine row_call ?_ (by assumption)))) hb1; obtain ⟨c1_1a, c1_1b, c1_1c, c1_1d, c1_1e, c1_1f, f1_1a, f1_1b, f1_1c, f1_1d, f1_1e, f1_1f⟩ := row_six r1_1))
  have hbge : w.heap.size ≤ w.heap.size + 1 := by omega
  have R9 : Row ((((((w1.setCell ⟨w.heap.size + 1, 0, none⟩ (.int .i64 0)).setCell ⟨w.heap.size + 1, 1, none⟩ (.int .i64 0)).setCell ⟨w.heap.size + 1, 2, none⟩ (.int .i64 0)).setCell ⟨w.heap.size + 1, 3, none⟩ (.int .i64 0)).setCell ⟨w.heap.size + 1, 4, none⟩ (.int .i64 0)).setCell ⟨w.heap.size + 1, 5, none⟩ (.slice none 0 0)) (w.heap.size + 1) 24 #[.int .i64 0, .int .i64 0, .int .i64 0, .int .i64 0, .int .i64 0, .slice none 0 0] := (row_set (row_set (row_set (row_set (row_set (row_set r1_1 0 (.int .i64 0)) 1 (.int .i64 0)) 2 (.int .i64 0)) 3 (.int .i64 0)) 4 (.int .i64 0)) 5 (.slice none 0 0))
  have o9 : Below w.heap.size w ((((((w1.setCell ⟨w.heap.size + 1, 0, none⟩ (.int .i64 0)).setCell ⟨w.heap.size + 1, 1, none⟩ (.int .i64 0)).setCell ⟨w.heap.size + 1, 2, none⟩ (.int .i64 0)).setCell ⟨w.heap.size + 1, 3, none⟩ (.int .i64 0)).setCell ⟨w.heap.size + 1, 4, none⟩ (.int .i64 0)).setCell ⟨w.heap.size + 1, 5, none⟩ (.slice none 0 0)) := (Below.setCell (p := ⟨w.heap.size + 1, 5, none⟩) (Below.setCell (p := ⟨w.heap.size + 1, 4, none⟩) (Below.setCell (p := ⟨w.heap.size + 1, 3, none⟩) (Below.setCell (p := ⟨w.heap.size + 1, 2, none⟩) (Below.setCell (p := ⟨w.heap.size + 1, 1, none⟩) (Below.setCell (p := ⟨w.heap.size + 1, 0, none⟩) o1 hbge (.int .i64 0)) hbge (.int .i64 0)) hbge (.int .i64 0)) hbge (.int .i64 0)) hbge (.int .i64 0)) hbge (.slice none 0 0))
  generalize ((((((w1.setCell ⟨w.heap.size + 1, 0, none⟩ (.int .i64 0)).setCell ⟨w.heap.size + 1, 1, none⟩ (.int .i64 0)).setCell ⟨w.heap.size + 1, 2, none⟩ (.int .i64 0)).setCell ⟨w.heap.size + 1, 3, none⟩ (.int .i64 0)).setCell ⟨w.heap.size + 1, 4, none⟩ (.int .i64 0)).setCell ⟨w.heap.size + 1, 5, none⟩ (.slice none 0 0)) = w9 at R9 o9 ⊢
  obtain ⟨N0, N1, N2, N3, N4, N5, Nf0, Nf1, Nf2, Nf3, Nf4, Nf5⟩ := row_six R9
  exact bodyPost_ret (v := .tuple #[.agg #[.int .i64 0, .int .i64 0, .int .i64 0, .int .i64 0, .int .i64 0, .slice none 0 0], .int .i64 4]) (by simp [results, Try.results29, go_sem, List.getElem?_toArray, N0, N1, N2, N3, N4, N5]) rfl (spret_zero o9)
set_option maxRecDepth 100000 in
theorem pspadd_b2 (A : Option Addr) (m c : Nat) (l : List Mk) (wd k cap now seq : Int) (v : Int) (w : World) (hin : MIn A m c l w) (sB : I64 seq) (hv : spvalE wd k cap now seq l = 0) (h0 : ¬ v < (-4096)) (h1 : 4096 < v) : Calls Try.prog 29 #[.agg #[.int .i64 wd, .int .i64 k, .int .i64 cap, .int .i64 now, .int .i64 seq, .slice A m c], .int .i64 v] w fun e w' => SpRet A (spAdd wd k cap now seq l v) w e w' := by
  rw [spAdd_b hv (by omega)]
  have P := fun w' (hb : Below w.heap.size w w') => pvalP A m c l wd k cap now seq w' (hin.below hb) sB
  rw [hv] at P
  replace P := Lib.hid P
  have d0 : decide (v < -4096) = false := decide_eq_false h0
  have d1 : decide (4096 < v) = true := decide_eq_true h1
  clear hv hin sB h1 h0
  go_enter Try.func29, Try.ntmps29
  go_wp2_with (first | (go_at_call 27; with_reducible refine (P.out _ (by (repeat (first | exact Below.refl _ _ | refine Below.setCell ?_ (by first | (simp; done) | (simp; omega) | omega) _ | refine Below.alloc ?_ (by first | (simp; done) | (simp; omega) | omega) _ | refine Below.drew ?_ | refine Below.trans ?_ (Below.mono (by assumption) (by first | (simp; done) | (simp; omega) | omega)))))).mono ?_; rintro e w1 ⟨rfl, hb1⟩; have hz1 := hb1.size; (try simp at hz1); have o1 : Below w.heap.size w w1 := (by (repeat (first | exact Below.refl _ _ | refine Below.setCell ?_ (by first | (simp; done) | (simp; omega) | omega) _ | refine Below.alloc ?_ (by first | (simp; done) | (simp; omega) | omega) _ | refine Below.drew ?_ | refine Below.trans ?_ (Below.mono (by assumption) (by first | (simp; done) | (simp; omega) | omega))))); have q1_0 : w.heap.size < w1.heap.size := (by omega); have r1_0 : Row w1 (w.heap.size) 24 #[.int .i64 wd, .int .i64 k, .int .i64 cap, .int .i64 now, .int .i64 seq, .slice A m c] := row_call (by (repeat (first | assumption | (refine row_new ?_; (first | (simp; done) | omega)) | refine row_alloc ?_ _ | refine row_drew ?_ | refine row_call ?_ (by assumption)))) hb1; obtain ⟨c1_0a, c1_0b, c1_0c, c1_0d, c1_0e, c1_0f, f1_0a, f1_0b, f1_0c, f1_0d, f1_0e, f1_0f⟩ := row_six r1_0; have q1_1 : w.heap.size + 1 < w1.heap.size := (by omega); have r1_1 : Row w1 (w.heap.size + 1) 24 #[.int .i64 0, .int .i64 0, .int .i64 0, .int .i64 0, .int .i64 0, .slice none 0 0] := row_call (by (repeat (first | assumption | (refine row_new ?_; (first | (simp; done) | omega)) | refine row_alloc ?_ _ | refine row_drew ?_ | refine row_call ?_ (by assumption)))) hb1; obtain ⟨c1_1a, c1_1b, c1_1c, c1_1d, c1_1e, c1_1f, f1_1a, f1_1b, f1_1c, f1_1d, f1_1e, f1_1f⟩ := row_six r1_1))
  have hbge : w.heap.size ≤ w.heap.size + 1 := by omega
  have R9 : Row ((((((w1.setCell ⟨w.heap.size + 1, 0, none⟩ (.int .i64 0)).setCell ⟨w.heap.size + 1, 1, none⟩ (.int .i64 0)).setCell ⟨w.heap.size + 1, 2, none⟩ (.int .i64 0)).setCell ⟨w.heap.size + 1, 3, none⟩ (.int .i64 0)).setCell ⟨w.heap.size + 1, 4, none⟩ (.int .i64 0)).setCell ⟨w.heap.size + 1, 5, none⟩ (.slice none 0 0)) (w.heap.size + 1) 24 #[.int .i64 0, .int .i64 0, .int .i64 0, .int .i64 0, .int .i64 0, .slice none 0 0] := (row_set (row_set (row_set (row_set (row_set (row_set r1_1 0 (.int .i64 0)) 1 (.int .i64 0)) 2 (.int .i64 0)) 3 (.int .i64 0)) 4 (.int .i64 0)) 5 (.slice none 0 0))
  have o9 : Below w.heap.size w ((((((w1.setCell ⟨w.heap.size + 1, 0, none⟩ (.int .i64 0)).setCell ⟨w.heap.size + 1, 1, none⟩ (.int .i64 0)).setCell ⟨w.heap.size + 1, 2, none⟩ (.int .i64 0)).setCell ⟨w.heap.size + 1, 3, none⟩ (.int .i64 0)).setCell ⟨w.heap.size + 1, 4, none⟩ (.int .i64 0)).setCell ⟨w.heap.size + 1, 5, none⟩ (.slice none 0 0)) := (Below.setCell (p := ⟨w.heap.size + 1, 5, none⟩) (Below.setCell (p := ⟨w.heap.size + 1, 4, none⟩) (Below.setCell (p := ⟨w.heap.size + 1, 3, none⟩) (Below.setCell (p := ⟨w.heap.size + 1, 2, none⟩) (Below.setCell (p := ⟨w.heap.size + 1, 1, none⟩) (Below.setCell (p := ⟨w.heap.size + 1, 0, none⟩) o1 hbge (.int .i64 0)) hbge (.int .i64 0)) hbge (.int .i64 0)) hbge (.int .i64 0)) hbge (.int .i64 0)) hbge (.slice none 0 0))
  generalize ((((((w1.setCell ⟨w.heap.size + 1, 0, none⟩ (.int .i64 0)).setCell ⟨w.heap.size + 1, 1, none⟩ (.int .i64 0)).setCell ⟨w.heap.size + 1, 2, none⟩ (.int .i64 0)).setCell ⟨w.heap.size + 1, 3, none⟩ (.int .i64 0)).setCell ⟨w.heap.size + 1, 4, none⟩ (.int .i64 0)).setCell ⟨w.heap.size + 1, 5, none⟩ (.slice none 0 0)) = w9 at R9 o9 ⊢
  obtain ⟨N0, N1, N2, N3, N4, N5, Nf0, Nf1, Nf2, Nf3, Nf4, Nf5⟩ := row_six R9
  exact bodyPost_ret (v := .tuple #[.agg #[.int .i64 0, .int .i64 0, .int .i64 0, .int .i64 0, .int .i64 0, .slice none 0 0], .int .i64 4]) (by simp [results, Try.results29, go_sem, List.getElem?_toArray, N0, N1, N2, N3, N4, N5]) rfl (spret_zero o9)
set_option maxRecDepth 100000 in
set_option maxHeartbeats 2000000 in
theorem pspadd_c1 (A : Option Addr) (m c : Nat) (l : List Mk) (wd k cap now seq : Int) (v : Int) (w : World) (hin : MIn A m c l w) (sB : I64 seq) (hv : spvalE wd k cap now seq l = 0) (h0 : ¬ v < (-4096)) (h1 : ¬ 4096 < v) (hm0 : 0 < m) (hn : (mkAt l 0).n = cap) (hf : smFull cap seq l) : Calls Try.prog 29 #[.agg #[.int .i64 wd, .int .i64 k, .int .i64 cap, .int .i64 now, .int .i64 seq, .slice A m c], .int .i64 v] w fun e w' => SpRet A (spAdd wd k cap now seq l v) w e w' := by
  rw [spAdd_c hv (by omega) hf]
  clear hf
  have P := fun w' (hb : Below w.heap.size w w') => pvalP A m c l wd k cap now seq w' (hin.below hb) sB
  rw [hv] at P
  replace P := Lib.hid P
  have d0 : decide (v < -4096) = false := decide_eq_false h0
  have d1 : decide (4096 < v) = false := decide_eq_false h1
  have HR := Lib.hid hin
  have HL := Lib.hid hin.len
  clear hin sB h0 h1
  go_enter Try.func29, Try.ntmps29
  go_upto_region 6 with (first | (go_at_call 27; with_reducible refine (P.out _ (by (repeat (first | exact Below.refl _ _ | refine Below.setCell ?_ (by first | (simp; done) | (simp; omega) | omega) _ | refine Below.alloc ?_ (by first | (simp; done) | (simp; omega) | omega) _ | refine Below.drew ?_ | refine Below.trans ?_ (Below.mono (by assumption) (by first | (simp; done) | (simp; omega) | omega)))))).mono ?_; rintro e w1 ⟨rfl, hb1⟩; have hz1 := hb1.size; (try simp at hz1); have o1 : Below w.heap.size w w1 := (by (repeat (first | exact Below.refl _ _ | refine Below.setCell ?_ (by first | (simp; done) | (simp; omega) | omega) _ | refine Below.alloc ?_ (by first | (simp; done) | (simp; omega) | omega) _ | refine Below.drew ?_ | refine Below.trans ?_ (Below.mono (by assumption) (by first | (simp; done) | (simp; omega) | omega))))); have q1_0 : w.heap.size < w1.heap.size := (by omega); have r1_0 : Row w1 (w.heap.size) 24 #[.int .i64 wd, .int .i64 k, .int .i64 cap, .int .i64 now, .int .i64 seq, .slice A m c] := row_call (by (repeat (first | assumption | (refine row_new ?_; (first | (simp; done) | omega)) | refine row_alloc ?_ _ | refine row_drew ?_ | refine row_call ?_ (by assumption)))) hb1; obtain ⟨c1_0a, c1_0b, c1_0c, c1_0d, c1_0e, c1_0f, f1_0a, f1_0b, f1_0c, f1_0d, f1_0e, f1_0f⟩ := row_six r1_0; have q1_1 : w.heap.size + 1 < w1.heap.size := (by omega); have r1_1 : Row w1 (w.heap.size + 1) 24 #[.int .i64 0, .int .i64 0, .int .i64 0, .int .i64 0, .int .i64 0, .slice none 0 0] := row_call (by (repeat (first | assumption | (refine row_new ?_; (first | (simp; done) | omega)) | refine row_alloc ?_ _ | refine row_drew ?_ | refine row_call ?_ (by assumption)))) hb1; obtain ⟨c1_1a, c1_1b, c1_1c, c1_1d, c1_1e, c1_1f, f1_1a, f1_1b, f1_1c, f1_1d, f1_1e, f1_1f⟩ := row_six r1_1))
  clear d0 d1 P
  clear hv
  obtain ⟨ad, rfl, hadb, ht0⟩ := HR.out.reads.mk (i := 0) hm0
  have ht0 : MkCells w ad (mkAt l 0) := ht0
  generalize mkAt l 0 = m0 at ht0 hn
  obtain ⟨sq, tk, n, s, q, lo, hi⟩ := m0
  obtain ⟨q0, q1, q2, q3, q4, q5, q6⟩ := ht0.below o1 hadb
  dsimp only at q0 q1 q2 q3 q4 q5 q6 hn
  clear ht0
  have e0 : decide (0 < m) = true := decide_eq_true hm0
  have g0 : (0 : Int) < (m : Int) := by omega
  have e1 : (n == cap) = true := by simpa using hn
  refine wp_region_quiet_lit (by as_aux_lemma => kernel_rfl) (by as_aux_lemma => kernel_rfl) ?_
  repeat (go_big_quiet_step (fail))
  refine wpQuiet_nil ?_
  intro _ hw'
  obtain ⟨nq, hw''⟩ := hw'
  subst hw''
  replace r1_0 : Row (w1.drewN nq) (w.heap.size) 24 #[.int .i64 wd, .int .i64 k, .int .i64 cap, .int .i64 now, .int .i64 seq, .slice (some ad) m c] := r1_0
  replace r1_1 : Row (w1.drewN nq) (w.heap.size + 1) 24 #[.int .i64 0, .int .i64 0, .int .i64 0, .int .i64 0, .int .i64 0, .slice none 0 0] := r1_1
  replace o1 := o1.trans (⟨rfl, rfl, rfl, Nat.le_refl _, fun _ _ => rfl⟩ : Below _ w1 (w1.drewN nq))
  generalize w1.drewN nq = w2 at r1_0 r1_1 o1 ⊢
  clear c1_0a c1_0b c1_0c c1_0d c1_0e c1_0f f1_0a f1_0b f1_0c f1_0d f1_0e f1_0f c1_1a c1_1b c1_1c c1_1d c1_1e c1_1f f1_1a f1_1b f1_1c f1_1d f1_1e f1_1f
  obtain ⟨Z0, Z1, Z2, Z3, Z4, Z5, Zf0, Zf1, Zf2, Zf3, Zf4, Zf5⟩ := row_six r1_1
  clear r1_0
  clear q0 q1 q2 q3 q4 q5 q6
  go_wp2
  have hbge : w.heap.size ≤ w.heap.size + 1 := by omega
  have R9 : Row ((((((w2.setCell ⟨w.heap.size + 1, 0, none⟩ (.int .i64 0)).setCell ⟨w.heap.size + 1, 1, none⟩ (.int .i64 0)).setCell ⟨w.heap.size + 1, 2, none⟩ (.int .i64 0)).setCell ⟨w.heap.size + 1, 3, none⟩ (.int .i64 0)).setCell ⟨w.heap.size + 1, 4, none⟩ (.int .i64 0)).setCell ⟨w.heap.size + 1, 5, none⟩ (.slice none 0 0)) (w.heap.size + 1) 24 #[.int .i64 0, .int .i64 0, .int .i64 0, .int .i64 0, .int .i64 0, .slice none 0 0] := (row_set (row_set (row_set (row_set (row_set (row_set r1_1 0 (.int .i64 0)) 1 (.int .i64 0)) 2 (.int .i64 0)) 3 (.int .i64 0)) 4 (.int .i64 0)) 5 (.slice none 0 0))
  have o9 : Below w.heap.size w ((((((w2.setCell ⟨w.heap.size + 1, 0, none⟩ (.int .i64 0)).setCell ⟨w.heap.size + 1, 1, none⟩ (.int .i64 0)).setCell ⟨w.heap.size + 1, 2, none⟩ (.int .i64 0)).setCell ⟨w.heap.size + 1, 3, none⟩ (.int .i64 0)).setCell ⟨w.heap.size + 1, 4, none⟩ (.int .i64 0)).setCell ⟨w.heap.size + 1, 5, none⟩ (.slice none 0 0)) := (Below.setCell (p := ⟨w.heap.size + 1, 5, none⟩) (Below.setCell (p := ⟨w.heap.size + 1, 4, none⟩) (Below.setCell (p := ⟨w.heap.size + 1, 3, none⟩) (Below.setCell (p := ⟨w.heap.size + 1, 2, none⟩) (Below.setCell (p := ⟨w.heap.size + 1, 1, none⟩) (Below.setCell (p := ⟨w.heap.size + 1, 0, none⟩) o1 hbge (.int .i64 0)) hbge (.int .i64 0)) hbge (.int .i64 0)) hbge (.int .i64 0)) hbge (.int .i64 0)) hbge (.slice none 0 0))
  generalize ((((((w2.setCell ⟨w.heap.size + 1, 0, none⟩ (.int .i64 0)).setCell ⟨w.heap.size + 1, 1, none⟩ (.int .i64 0)).setCell ⟨w.heap.size + 1, 2, none⟩ (.int .i64 0)).setCell ⟨w.heap.size + 1, 3, none⟩ (.int .i64 0)).setCell ⟨w.heap.size + 1, 4, none⟩ (.int .i64 0)).setCell ⟨w.heap.size + 1, 5, none⟩ (.slice none 0 0)) = w9 at R9 o9 ⊢
  obtain ⟨N0, N1, N2, N3, N4, N5, Nf0, Nf1, Nf2, Nf3, Nf4, Nf5⟩ := row_six R9
  exact bodyPost_ret (v := .tuple #[.agg #[.int .i64 0, .int .i64 0, .int .i64 0, .int .i64 0, .int .i64 0, .slice none 0 0], .int .i64 5]) (by simp [results, Try.results29, go_sem, List.getElem?_toArray, N0, N1, N2, N3, N4, N5]) rfl (spret_zero o9)
set_option maxRecDepth 100000 in
set_option maxHeartbeats 2000000 in
theorem pspadd_c2 (A : Option Addr) (m c : Nat) (l : List Mk) (wd k cap now seq : Int) (v : Int) (w : World) (hin : MIn A m c l w) (sB : I64 seq) (hv : spvalE wd k cap now seq l = 0) (h0 : ¬ v < (-4096)) (h1 : ¬ 4096 < v) (hm0 : 0 < m) (hn : (mkAt l 0).n ≠ cap) (hs : seq = 1099511627776) (hf : smFull cap seq l) : Calls Try.prog 29 #[.agg #[.int .i64 wd, .int .i64 k, .int .i64 cap, .int .i64 now, .int .i64 seq, .slice A m c], .int .i64 v] w fun e w' => SpRet A (spAdd wd k cap now seq l v) w e w' := by
  rw [spAdd_c hv (by omega) hf]
  clear hf
  have HSQ := Lib.hid hs
  clear hs
  have P := fun w' (hb : Below w.heap.size w w') => pvalP A m c l wd k cap now seq w' (hin.below hb) sB
  rw [hv] at P
  replace P := Lib.hid P
  have d0 : decide (v < -4096) = false := decide_eq_false h0
  have d1 : decide (4096 < v) = false := decide_eq_false h1
  have HR := Lib.hid hin
  have HL := Lib.hid hin.len
  clear hin sB h0 h1
  go_enter Try.func29, Try.ntmps29
  go_upto_region 6 with (first | (go_at_call 27; with_reducible refine (P.out _ (by (repeat (first | exact Below.refl _ _ | refine Below.setCell ?_ (by first | (simp; done) | (simp; omega) | omega) _ | refine Below.alloc ?_ (by first | (simp; done) | (simp; omega) | omega) _ | refine Below.drew ?_ | refine Below.trans ?_ (Below.mono (by assumption) (by first | (simp; done) | (simp; omega) | omega)))))).mono ?_; rintro e w1 ⟨rfl, hb1⟩; have hz1 := hb1.size; (try simp at hz1); have o1 : Below w.heap.size w w1 := (by (repeat (first | exact Below.refl _ _ | refine Below.setCell ?_ (by first | (simp; done) | (simp; omega) | omega) _ | refine Below.alloc ?_ (by first | (simp; done) | (simp; omega) | omega) _ | refine Below.drew ?_ | refine Below.trans ?_ (Below.mono (by assumption) (by first | (simp; done) | (simp; omega) | omega))))); have q1_0 : w.heap.size < w1.heap.size := (by omega); have r1_0 : Row w1 (w.heap.size) 24 #[.int .i64 wd, .int .i64 k, .int .i64 cap, .int .i64 now, .int .i64 seq, .slice A m c] := row_call (by (repeat (first | assumption | (refine row_new ?_; (first | (simp; done) | omega)) | refine row_alloc ?_ _ | refine row_drew ?_ | refine row_call ?_ (by assumption)))) hb1; obtain ⟨c1_0a, c1_0b, c1_0c, c1_0d, c1_0e, c1_0f, f1_0a, f1_0b, f1_0c, f1_0d, f1_0e, f1_0f⟩ := row_six r1_0; have q1_1 : w.heap.size + 1 < w1.heap.size := (by omega); have r1_1 : Row w1 (w.heap.size + 1) 24 #[.int .i64 0, .int .i64 0, .int .i64 0, .int .i64 0, .int .i64 0, .slice none 0 0] := row_call (by (repeat (first | assumption | (refine row_new ?_; (first | (simp; done) | omega)) | refine row_alloc ?_ _ | refine row_drew ?_ | refine row_call ?_ (by assumption)))) hb1; obtain ⟨c1_1a, c1_1b, c1_1c, c1_1d, c1_1e, c1_1f, f1_1a, f1_1b, f1_1c, f1_1d, f1_1e, f1_1f⟩ := row_six r1_1))
  clear d0 d1 P
  clear hv
  have e2 : (seq == 1099511627776) = true := by simpa using HSQ.out
  obtain ⟨ad, rfl, hadb, ht0⟩ := HR.out.reads.mk (i := 0) hm0
  have ht0 : MkCells w ad (mkAt l 0) := ht0
  generalize mkAt l 0 = m0 at ht0 hn
  obtain ⟨sq, tk, n, s, q, lo, hi⟩ := m0
  obtain ⟨q0, q1, q2, q3, q4, q5, q6⟩ := ht0.below o1 hadb
  dsimp only at q0 q1 q2 q3 q4 q5 q6 hn
  clear ht0
  have e0 : decide (0 < m) = true := decide_eq_true hm0
  have g0 : (0 : Int) < (m : Int) := by omega
  have e1 : (n == cap) = false := by simpa using hn
  refine wp_region_quiet_lit (by as_aux_lemma => kernel_rfl) (by as_aux_lemma => kernel_rfl) ?_
  repeat (go_big_quiet_step (fail))
  refine wpQuiet_nil ?_
  intro _ hw'
  obtain ⟨nq, hw''⟩ := hw'
  subst hw''
  replace r1_0 : Row (w1.drewN nq) (w.heap.size) 24 #[.int .i64 wd, .int .i64 k, .int .i64 cap, .int .i64 now, .int .i64 seq, .slice (some ad) m c] := r1_0
  replace r1_1 : Row (w1.drewN nq) (w.heap.size + 1) 24 #[.int .i64 0, .int .i64 0, .int .i64 0, .int .i64 0, .int .i64 0, .slice none 0 0] := r1_1
  replace o1 := o1.trans (⟨rfl, rfl, rfl, Nat.le_refl _, fun _ _ => rfl⟩ : Below _ w1 (w1.drewN nq))
  generalize w1.drewN nq = w2 at r1_0 r1_1 o1 ⊢
  clear c1_0a c1_0b c1_0c c1_0d c1_0e c1_0f f1_0a f1_0b f1_0c f1_0d f1_0e f1_0f c1_1a c1_1b c1_1c c1_1d c1_1e c1_1f f1_1a f1_1b f1_1c f1_1d f1_1e f1_1f
  obtain ⟨Z0, Z1, Z2, Z3, Z4, Z5, Zf0, Zf1, Zf2, Zf3, Zf4, Zf5⟩ := row_six r1_1
  clear r1_0
  clear q0 q1 q2 q3 q4 q5 q6
  go_wp2
  have hbge : w.heap.size ≤ w.heap.size + 1 := by omega
  have R9 : Row ((((((w2.setCell ⟨w.heap.size + 1, 0, none⟩ (.int .i64 0)).setCell ⟨w.heap.size + 1, 1, none⟩ (.int .i64 0)).setCell ⟨w.heap.size + 1, 2, none⟩ (.int .i64 0)).setCell ⟨w.heap.size + 1, 3, none⟩ (.int .i64 0)).setCell ⟨w.heap.size + 1, 4, none⟩ (.int .i64 0)).setCell ⟨w.heap.size + 1, 5, none⟩ (.slice none 0 0)) (w.heap.size + 1) 24 #[.int .i64 0, .int .i64 0, .int .i64 0, .int .i64 0, .int .i64 0, .slice none 0 0] := (row_set (row_set (row_set (row_set (row_set (row_set r1_1 0 (.int .i64 0)) 1 (.int .i64 0)) 2 (.int .i64 0)) 3 (.int .i64 0)) 4 (.int .i64 0)) 5 (.slice none 0 0))
  have o9 : Below w.heap.size w ((((((w2.setCell ⟨w.heap.size + 1, 0, none⟩ (.int .i64 0)).setCell ⟨w.heap.size + 1, 1, none⟩ (.int .i64 0)).setCell ⟨w.heap.size + 1, 2, none⟩ (.int .i64 0)).setCell ⟨w.heap.size + 1, 3, none⟩ (.int .i64 0)).setCell ⟨w.heap.size + 1, 4, none⟩ (.int .i64 0)).setCell ⟨w.heap.size + 1, 5, none⟩ (.slice none 0 0)) := (Below.setCell (p := ⟨w.heap.size + 1, 5, none⟩) (Below.setCell (p := ⟨w.heap.size + 1, 4, none⟩) (Below.setCell (p := ⟨w.heap.size + 1, 3, none⟩) (Below.setCell (p := ⟨w.heap.size + 1, 2, none⟩) (Below.setCell (p := ⟨w.heap.size + 1, 1, none⟩) (Below.setCell (p := ⟨w.heap.size + 1, 0, none⟩) o1 hbge (.int .i64 0)) hbge (.int .i64 0)) hbge (.int .i64 0)) hbge (.int .i64 0)) hbge (.int .i64 0)) hbge (.slice none 0 0))
  generalize ((((((w2.setCell ⟨w.heap.size + 1, 0, none⟩ (.int .i64 0)).setCell ⟨w.heap.size + 1, 1, none⟩ (.int .i64 0)).setCell ⟨w.heap.size + 1, 2, none⟩ (.int .i64 0)).setCell ⟨w.heap.size + 1, 3, none⟩ (.int .i64 0)).setCell ⟨w.heap.size + 1, 4, none⟩ (.int .i64 0)).setCell ⟨w.heap.size + 1, 5, none⟩ (.slice none 0 0)) = w9 at R9 o9 ⊢
  obtain ⟨N0, N1, N2, N3, N4, N5, Nf0, Nf1, Nf2, Nf3, Nf4, Nf5⟩ := row_six R9
  exact bodyPost_ret (v := .tuple #[.agg #[.int .i64 0, .int .i64 0, .int .i64 0, .int .i64 0, .int .i64 0, .slice none 0 0], .int .i64 5]) (by simp [results, Try.results29, go_sem, List.getElem?_toArray, N0, N1, N2, N3, N4, N5]) rfl (spret_zero o9)
set_option maxRecDepth 100000 in
set_option maxHeartbeats 2000000 in
theorem pspadd_c3 (A : Option Addr) (c : Nat) (l : List Mk) (wd k cap now seq : Int) (v : Int) (w : World) (hin : MIn A 0 c l w) (sB : I64 seq) (hv : spvalE wd k cap now seq l = 0) (h0 : ¬ v < (-4096)) (h1 : ¬ 4096 < v) (hs : seq = 1099511627776) (hf : smFull cap seq l) : Calls Try.prog 29 #[.agg #[.int .i64 wd, .int .i64 k, .int .i64 cap, .int .i64 now, .int .i64 seq, .slice A 0 c], .int .i64 v] w fun e w' => SpRet A (spAdd wd k cap now seq l v) w e w' := by
  rw [spAdd_c hv (by omega) hf]
  clear hf
  have HSQ := Lib.hid hs
  clear hs
  have P := fun w' (hb : Below w.heap.size w w') => pvalP A 0 c l wd k cap now seq w' (hin.below hb) sB
  rw [hv] at P
  replace P := Lib.hid P
  have d0 : decide (v < -4096) = false := decide_eq_false h0
  have d1 : decide (4096 < v) = false := decide_eq_false h1
  have HR := Lib.hid hin
  have HL := Lib.hid hin.len
  clear hin sB h0 h1
  go_enter Try.func29, Try.ntmps29
  go_upto_region 6 with (first | (go_at_call 27; with_reducible refine (P.out _ (by (repeat (first | exact Below.refl _ _ | refine Below.setCell ?_ (by first | (simp; done) | (simp; omega) | omega) _ | refine Below.alloc ?_ (by first | (simp; done) | (simp; omega) | omega) _ | refine Below.drew ?_ | refine Below.trans ?_ (Below.mono (by assumption) (by first | (simp; done) | (simp; omega) | omega)))))).mono ?_; rintro e w1 ⟨rfl, hb1⟩; have hz1 := hb1.size; (try simp at hz1); have o1 : Below w.heap.size w w1 := (by (repeat (first | exact Below.refl _ _ | refine Below.setCell ?_ (by first | (simp; done) | (simp; omega) | omega) _ | refine Below.alloc ?_ (by first | (simp; done) | (simp; omega) | omega) _ | refine Below.drew ?_ | refine Below.trans ?_ (Below.mono (by assumption) (by first | (simp; done) | (simp; omega) | omega))))); have q1_0 : w.heap.size < w1.heap.size := (by omega); have r1_0 : Row w1 (w.heap.size) 24 #[.int .i64 wd, .int .i64 k, .int .i64 cap, .int .i64 now, .int .i64 seq, .slice A 0 c] := row_call (by (repeat (first | assumption | (refine row_new ?_; (first | (simp; done) | omega)) | refine row_alloc ?_ _ | refine row_drew ?_ | refine row_call ?_ (by assumption)))) hb1; obtain ⟨c1_0a, c1_0b, c1_0c, c1_0d, c1_0e, c1_0f, f1_0a, f1_0b, f1_0c, f1_0d, f1_0e, f1_0f⟩ := row_six r1_0; have q1_1 : w.heap.size + 1 < w1.heap.size := (by omega); have r1_1 : Row w1 (w.heap.size + 1) 24 #[.int .i64 0, .int .i64 0, .int .i64 0, .int .i64 0, .int .i64 0, .slice none 0 0] := row_call (by (repeat (first | assumption | (refine row_new ?_; (first | (simp; done) | omega)) | refine row_alloc ?_ _ | refine row_drew ?_ | refine row_call ?_ (by assumption)))) hb1; obtain ⟨c1_1a, c1_1b, c1_1c, c1_1d, c1_1e, c1_1f, f1_1a, f1_1b, f1_1c, f1_1d, f1_1e, f1_1f⟩ := row_six r1_1))
  clear d0 d1 P
  clear hv
  have e2 : (seq == 1099511627776) = true := by simpa using HSQ.out
  refine wp_region_quiet_lit (by as_aux_lemma => kernel_rfl) (by as_aux_lemma => kernel_rfl) ?_
  repeat (go_big_quiet_step (fail))
  refine wpQuiet_nil ?_
  intro _ hw'
  obtain ⟨nq, hw''⟩ := hw'
  subst hw''
  replace r1_0 : Row (w1.drewN nq) (w.heap.size) 24 #[.int .i64 wd, .int .i64 k, .int .i64 cap, .int .i64 now, .int .i64 seq, .slice A 0 c] := r1_0
  replace r1_1 : Row (w1.drewN nq) (w.heap.size + 1) 24 #[.int .i64 0, .int .i64 0, .int .i64 0, .int .i64 0, .int .i64 0, .slice none 0 0] := r1_1
  replace o1 := o1.trans (⟨rfl, rfl, rfl, Nat.le_refl _, fun _ _ => rfl⟩ : Below _ w1 (w1.drewN nq))
  generalize w1.drewN nq = w2 at r1_0 r1_1 o1 ⊢
  clear c1_0a c1_0b c1_0c c1_0d c1_0e c1_0f f1_0a f1_0b f1_0c f1_0d f1_0e f1_0f c1_1a c1_1b c1_1c c1_1d c1_1e c1_1f f1_1a f1_1b f1_1c f1_1d f1_1e f1_1f
  obtain ⟨Z0, Z1, Z2, Z3, Z4, Z5, Zf0, Zf1, Zf2, Zf3, Zf4, Zf5⟩ := row_six r1_1
  clear r1_0
  skip
  go_wp2
  have hbge : w.heap.size ≤ w.heap.size + 1 := by omega
  have R9 : Row ((((((w2.setCell ⟨w.heap.size + 1, 0, none⟩ (.int .i64 0)).setCell ⟨w.heap.size + 1, 1, none⟩ (.int .i64 0)).setCell ⟨w.heap.size + 1, 2, none⟩ (.int .i64 0)).setCell ⟨w.heap.size + 1, 3, none⟩ (.int .i64 0)).setCell ⟨w.heap.size + 1, 4, none⟩ (.int .i64 0)).setCell ⟨w.heap.size + 1, 5, none⟩ (.slice none 0 0)) (w.heap.size + 1) 24 #[.int .i64 0, .int .i64 0, .int .i64 0, .int .i64 0, .int .i64 0, .slice none 0 0] := (row_set (row_set (row_set (row_set (row_set (row_set r1_1 0 (.int .i64 0)) 1 (.int .i64 0)) 2 (.int .i64 0)) 3 (.int .i64 0)) 4 (.int .i64 0)) 5 (.slice none 0 0))
  have o9 : Below w.heap.size w ((((((w2.setCell ⟨w.heap.size + 1, 0, none⟩ (.int .i64 0)).setCell ⟨w.heap.size + 1, 1, none⟩ (.int .i64 0)).setCell ⟨w.heap.size + 1, 2, none⟩ (.int .i64 0)).setCell ⟨w.heap.size + 1, 3, none⟩ (.int .i64 0)).setCell ⟨w.heap.size + 1, 4, none⟩ (.int .i64 0)).setCell ⟨w.heap.size + 1, 5, none⟩ (.slice none 0 0)) := (Below.setCell (p := ⟨w.heap.size + 1, 5, none⟩) (Below.setCell (p := ⟨w.heap.size + 1, 4, none⟩) (Below.setCell (p := ⟨w.heap.size + 1, 3, none⟩) (Below.setCell (p := ⟨w.heap.size + 1, 2, none⟩) (Below.setCell (p := ⟨w.heap.size + 1, 1, none⟩) (Below.setCell (p := ⟨w.heap.size + 1, 0, none⟩) o1 hbge (.int .i64 0)) hbge (.int .i64 0)) hbge (.int .i64 0)) hbge (.int .i64 0)) hbge (.int .i64 0)) hbge (.slice none 0 0))
  generalize ((((((w2.setCell ⟨w.heap.size + 1, 0, none⟩ (.int .i64 0)).setCell ⟨w.heap.size + 1, 1, none⟩ (.int .i64 0)).setCell ⟨w.heap.size + 1, 2, none⟩ (.int .i64 0)).setCell ⟨w.heap.size + 1, 3, none⟩ (.int .i64 0)).setCell ⟨w.heap.size + 1, 4, none⟩ (.int .i64 0)).setCell ⟨w.heap.size + 1, 5, none⟩ (.slice none 0 0)) = w9 at R9 o9 ⊢
  obtain ⟨N0, N1, N2, N3, N4, N5, Nf0, Nf1, Nf2, Nf3, Nf4, Nf5⟩ := row_six R9
  exact bodyPost_ret (v := .tuple #[.agg #[.int .i64 0, .int .i64 0, .int .i64 0, .int .i64 0, .int .i64 0, .slice none 0 0], .int .i64 5]) (by simp [results, Try.results29, go_sem, List.getElem?_toArray, N0, N1, N2, N3, N4, N5]) rfl (spret_zero o9)
set_option maxRecDepth 100000 in
set_option maxHeartbeats 4000000 in
theorem pspadd_d1 (A : Option Addr) (m c : Nat) (l : List Mk) (wd k cap now seq : Int) (v : Int) (w : World) (hin : MIn A m c l w) (sB : I64 seq) (hv : spvalE wd k cap now seq l = 0) (h0 : ¬ v < (-4096)) (h1 : ¬ 4096 < v) (hmm : m ≤ 100000) (hm0 : 0 < m) (hn : (mkAt l 0).n ≠ cap) (hs : seq ≠ 1099511627776) (hf : ¬ smFull cap seq l) : Calls Try.prog 29 #[.agg #[.int .i64 wd, .int .i64 k, .int .i64 cap, .int .i64 now, .int .i64 seq, .slice A m c], .int .i64 v] w fun e w' => SpRet A (spAdd wd k cap now seq l v) w e w' := by
  rw [spAdd_d hv (by omega) hf]
  have hV := of_spvalE hv
  obtain ⟨hG, hMV, _⟩ := hV
  obtain ⟨d0, d1, k0, k1, c0, c1, n0, n1⟩ := hG
  obtain ⟨⟨s0, s1⟩, hVL⟩ := mvalid_iff.1 hMV
  have HVI := Lib.hid (hVL.incl s0 (hVL.n_lt (fun a => hf (.inl a))) c0 n0 d0 (Int.not_lt.1 h0) (by omega) (Int.not_lt.1 h1))
  have HSM := Lib.hid (fun i (hi : i < m) => SmallM.of_one (hVL.one _ (mkAt_mem (l := l) (i := i) (by rw [hin.len]; exact hi))) c1 ((Int.le_refl (-4096))))
  have hv0 : -4096 ≤ v := by omega
  have hv1 : v ≤ 4096 := by omega
  have HLE := Lib.hid ((Int.le_refl (-4096)))
  have HMI := Lib.hid (show ∀ i, M64 (mkAt (incl l (seq + 1) now v) i) from M64.all fun x hx => M64.of_one (HVI.out.one x hx) (by omega) c1 n1 HLE.out)
  have HMP := Lib.hid (show ∀ i, M64 (mkAt (prune (closeB k) (incl l (seq + 1) now v)) i) from M64.all fun x hx => M64.of_one (HVI.out.one x ((prune_sub _ _ _ (Nat.le_refl _)).subset hx)) (by omega) c1 n1 HLE.out)
  clear hf hMV hVL
  have P := fun w' (hb : Below w.heap.size w w') => pvalP A m c l wd k cap now seq w' (hin.below hb) sB
  rw [hv] at P
  replace P := Lib.hid P
  have d0 : decide (v < -4096) = false := decide_eq_false h0
  have d1 : decide (4096 < v) = false := decide_eq_false h1
  have HR := Lib.hid hin
  have HL := Lib.hid hin.len
  clear hin sB h0 h1
  go_enter Try.func29, Try.ntmps29
  go_upto_region 6 with (first | (go_at_call 27; with_reducible refine (P.out _ (by (repeat (first | exact Below.refl _ _ | refine Below.setCell ?_ (by first | (simp; done) | (simp; omega) | omega) _ | refine Below.alloc ?_ (by first | (simp; done) | (simp; omega) | omega) _ | refine Below.drew ?_ | refine Below.trans ?_ (Below.mono (by assumption) (by first | (simp; done) | (simp; omega) | omega)))))).mono ?_; rintro e w1 ⟨rfl, hb1⟩; have hz1 := hb1.size; (try simp at hz1); have o1 : Below w.heap.size w w1 := (by (repeat (first | exact Below.refl _ _ | refine Below.setCell ?_ (by first | (simp; done) | (simp; omega) | omega) _ | refine Below.alloc ?_ (by first | (simp; done) | (simp; omega) | omega) _ | refine Below.drew ?_ | refine Below.trans ?_ (Below.mono (by assumption) (by first | (simp; done) | (simp; omega) | omega))))); have q1_0 : w.heap.size < w1.heap.size := (by omega); have r1_0 : Row w1 (w.heap.size) 24 #[.int .i64 wd, .int .i64 k, .int .i64 cap, .int .i64 now, .int .i64 seq, .slice A m c] := row_call (by (repeat (first | assumption | (refine row_new ?_; (first | (simp; done) | omega)) | refine row_alloc ?_ _ | refine row_drew ?_ | refine row_call ?_ (by assumption)))) hb1; obtain ⟨c1_0a, c1_0b, c1_0c, c1_0d, c1_0e, c1_0f, f1_0a, f1_0b, f1_0c, f1_0d, f1_0e, f1_0f⟩ := row_six r1_0; have q1_1 : w.heap.size + 1 < w1.heap.size := (by omega); have r1_1 : Row w1 (w.heap.size + 1) 24 #[.int .i64 0, .int .i64 0, .int .i64 0, .int .i64 0, .int .i64 0, .slice none 0 0] := row_call (by (repeat (first | assumption | (refine row_new ?_; (first | (simp; done) | omega)) | refine row_alloc ?_ _ | refine row_drew ?_ | refine row_call ?_ (by assumption)))) hb1; obtain ⟨c1_1a, c1_1b, c1_1c, c1_1d, c1_1e, c1_1f, f1_1a, f1_1b, f1_1c, f1_1d, f1_1e, f1_1f⟩ := row_six r1_1))
  clear d0 d1 P
  clear hv
  obtain ⟨ad, rfl, hadb, ht0⟩ := HR.out.reads.mk (i := 0) hm0
  have ht0 : MkCells w ad (mkAt l 0) := ht0
  generalize mkAt l 0 = m0 at ht0 hn
  obtain ⟨sq, tk, n, s, q, lo, hi⟩ := m0
  obtain ⟨q0, q1, q2, q3, q4, q5, q6⟩ := ht0.below o1 hadb
  dsimp only at q0 q1 q2 q3 q4 q5 q6 hn
  clear ht0
  have e0 : decide (0 < m) = true := decide_eq_true hm0
  have g0 : (0 : Int) < (m : Int) := by omega
  have e1 : (n == cap) = false := by simpa using hn
  have e2 : (seq == 1099511627776) = false := by simpa using hs
  refine wp_region_quiet_lit (by as_aux_lemma => kernel_rfl) (by as_aux_lemma => kernel_rfl) ?_
  repeat (go_big_quiet_step (fail))
  refine wpQuiet_nil ?_
  intro _ hw'
  obtain ⟨nq, hw''⟩ := hw'
  subst hw''
  replace r1_0 : Row (w1.drewN nq) (w.heap.size) 24 #[.int .i64 wd, .int .i64 k, .int .i64 cap, .int .i64 now, .int .i64 seq, .slice (some ad) m c] := r1_0
  replace r1_1 : Row (w1.drewN nq) (w.heap.size + 1) 24 #[.int .i64 0, .int .i64 0, .int .i64 0, .int .i64 0, .int .i64 0, .slice none 0 0] := r1_1
  replace o1 := o1.trans (⟨rfl, rfl, rfl, Nat.le_refl _, fun _ _ => rfl⟩ : Below _ w1 (w1.drewN nq))
  generalize w1.drewN nq = w2 at r1_0 r1_1 o1 ⊢
  clear c1_0a c1_0b c1_0c c1_0d c1_0e c1_0f f1_0a f1_0b f1_0c f1_0d f1_0e f1_0f c1_1a c1_1b c1_1c c1_1d c1_1e c1_1f f1_1a f1_1b f1_1c f1_1d f1_1e f1_1f
  clear e2 q0 q1 q2 q3 q4 q5 q6 e0 g0 e1 hn
  have wsq : IntKind.i64.wrap (seq + 1) = seq + 1 := IntWalk.i64_in _ (by omega)
  obtain ⟨X0, X1, X2, X3, X4, X5, Xf0, Xf1, Xf2, Xf3, Xf4, Xf5⟩ := row_six r1_0
  have KR := Lib.hid r1_0
  clear r1_0
  go_upto_region 9 with (fail)
  have X : Row (w2.setCell ⟨w.heap.size, 4, none⟩ (.int .i64 (seq + 1))) (w.heap.size) 24 #[.int .i64 wd, .int .i64 k, .int .i64 cap, .int .i64 now, .int .i64 (seq + 1), .slice (some ad) m c] := row_set KR.out 4 _
  have R : Row (w2.setCell ⟨w.heap.size, 4, none⟩ (.int .i64 (seq + 1))) (w.heap.size + 1) 24 #[.int .i64 0, .int .i64 0, .int .i64 0, .int .i64 0, .int .i64 0, .slice none 0 0] := row_other (p := ⟨w.heap.size, 4, none⟩) r1_1 (by show w.heap.size + 1 ≠ w.heap.size; omega) _
  have o : Below w.heap.size w (w2.setCell ⟨w.heap.size, 4, none⟩ (.int .i64 (seq + 1))) := o1.setCell (p := ⟨w.heap.size, 4, none⟩) (Nat.le_refl _) _
  generalize w2.setCell ⟨w.heap.size, 4, none⟩ (.int .i64 (seq + 1)) = w3 at X R o ⊢
  clear X0 X1 X2 X3 X4 X5 Xf0 Xf1 Xf2 Xf3 Xf4 Xf5 KR o1 r1_1 wsq
  obtain ⟨X0, X1, X2, X3, X4, X5, Xf0, Xf1, Xf2, Xf3, Xf4, Xf5⟩ := row_six X
  go_wp2_with fail
  refine (pmadd (some ad) m c l (seq + 1) now v w3 (HR.out.below o) (by omega) HSM.out hv0 hv1).mono ?_
  rintro e w4 ⟨va, rfl, ownA, hb4⟩
  obtain ⟨A4, c4, rfl, inA, fr4⟩ := MIn.of_row ownA HMI.out
  have z4 := row_lt X
  clear X0 X1 X2 X3 X4 X5 Xf0 Xf1 Xf2 Xf3 Xf4 Xf5 ownA fr4
  replace X := row_call X hb4
  replace R := row_call R hb4
  replace o := o.trans (hb4.mono o.size)
  have z8 := row_lt R
  clear hb4
  have INA := Lib.hid inA
  clear inA
  have LI : RowKit.Hid ((incl l (seq + 1) now v).length = m + 1) := Lib.hid (by rw [incl_len, HL.out])
  have PP := Lib.hid (pprune (closeB k) 70 (w.heap.size) A4 (m + 1) c4 (incl l (seq + 1) now v) w4 INA.out (by omega) fc_run (fun i j w' hij hj hb => by
    have hi1 := HVI.out.one _ (mkAt_mem (l := incl l (seq + 1) now v) (i := i) (by rw [LI.out]; omega))
    have hj1 := HVI.out.one _ (mkAt_mem (l := incl l (seq + 1) now v) (i := j) (by rw [LI.out]; omega))
    exact pclos_flat wd k cap now (seq + 1) (some ad) m c (w.heap.size) (mkAt (incl l (seq + 1) now v) i).seq (mkAt (incl l (seq + 1) now v) i).t (mkAt (incl l (seq + 1) now v) i).n (mkAt (incl l (seq + 1) now v) i).s (mkAt (incl l (seq + 1) now v) i).q (mkAt (incl l (seq + 1) now v) i).lo (mkAt (incl l (seq + 1) now v) i).hi (mkAt (incl l (seq + 1) now v) j).seq (mkAt (incl l (seq + 1) now v) j).t (mkAt (incl l (seq + 1) now v) j).n (mkAt (incl l (seq + 1) now v) j).s (mkAt (incl l (seq + 1) now v) j).q (mkAt (incl l (seq + 1) now v) j).lo (mkAt (incl l (seq + 1) now v) j).hi _ w' (row_call X hb) (fun w => pcloseB k (mkAt (incl l (seq + 1) now v) i) (mkAt (incl l (seq + 1) now v) j) w)))
  obtain ⟨X0, X1, X2, X3, X4, X5, Xf0, Xf1, Xf2, Xf3, Xf4, Xf5⟩ := row_six X
  go_wp2_with fail
  refine PP.out.mono ?_
  rintro e w5 ⟨vp, rfl, ownP, hb5⟩
  obtain ⟨A5, c5, rfl, inP, fr5⟩ := MIn.of_row ownP HMP.out
  have z5 := inP.reads
  clear X0 X1 X2 X3 X4 X5 Xf0 Xf1 Xf2 Xf3 Xf4 Xf5 ownP PP
  replace X := row_call X hb5
  replace R := row_call R hb5
  have z6 := row_lt R
  have o4 := o.size
  replace o := o.trans (hb5.mono o.size)
  have z7 := hb5.size
  have INP := Lib.hid inP
  have FR := Lib.hid fr5
  clear hb5 inP fr5 z5
  generalize hpl : (prune (closeB k) (incl l (seq + 1) now v)).length = pl at INP
  clear hpl
  obtain ⟨X0, X1, X2, X3, X4, X5, Xf0, Xf1, Xf2, Xf3, Xf4, Xf5⟩ := row_six X
  obtain ⟨R0, R1, R2, R3, R4, R5, Rf0, Rf1, Rf2, Rf3, Rf4, Rf5⟩ := row_six R
  have XR := Lib.hid X
  have RR := Lib.hid R
  clear X R
  go_upto_region 10 with (fail)
  have X : Row (w5.setCell ⟨w.heap.size, 5, none⟩ (.slice A5 pl c5)) (w.heap.size) 24 #[.int .i64 wd, .int .i64 k, .int .i64 cap, .int .i64 now, .int .i64 (seq + 1), .slice A5 pl c5] := row_set XR.out 5 _
  have R : Row (w5.setCell ⟨w.heap.size, 5, none⟩ (.slice A5 pl c5)) (w.heap.size + 1) 24 #[.int .i64 0, .int .i64 0, .int .i64 0, .int .i64 0, .int .i64 0, .slice none 0 0] := row_other (p := ⟨w.heap.size, 5, none⟩) RR.out (by show w.heap.size + 1 ≠ w.heap.size; omega) _
  have o6 : Below w.heap.size w (w5.setCell ⟨w.heap.size, 5, none⟩ (.slice A5 pl c5)) := o.setCell (p := ⟨w.heap.size, 5, none⟩) (Nat.le_refl _) _
  have INP6 := Lib.hid (INP.out.keep (w' := w5.setCell ⟨w.heap.size, 5, none⟩ (.slice A5 pl c5)) (by rw [size_setCell]; exact Nat.le_refl _) (fun a e => Below.heap_setCell _ ⟨w.heap.size, 5, none⟩ _ a.block (by have := FR.out a e; show a.block ≠ w.heap.size; omega)))
  have hs6 : w5.heap.size ≤ (w5.setCell ⟨w.heap.size, 5, none⟩ (.slice A5 pl c5)).heap.size := by rw [size_setCell]; exact Nat.le_refl _
  generalize w5.setCell ⟨w.heap.size, 5, none⟩ (.slice A5 pl c5) = w6 at X R o6 INP6 hs6 ⊢
  clear X0 X1 X2 X3 X4 X5 Xf0 Xf1 Xf2 Xf3 Xf4 Xf5 R0 R1 R2 R3 R4 R5 Rf0 Rf1 Rf2 Rf3 Rf4 Rf5 XR RR INP o
  obtain ⟨X0, X1, X2, X3, X4, X5, Xf0, Xf1, Xf2, Xf3, Xf4, Xf5⟩ := row_six X
  obtain ⟨R0, R1, R2, R3, R4, R5, Rf0, Rf1, Rf2, Rf3, Rf4, Rf5⟩ := row_six R
  go_wp2
  have hbge : w.heap.size ≤ w.heap.size + 1 := by omega
  have hkp : ∀ b', b' ≠ w.heap.size + 1 → (((((((w6.setCell ⟨w.heap.size + 1, 0, none⟩ (.int .i64 wd)).setCell ⟨w.heap.size + 1, 1, none⟩ (.int .i64 k)).setCell ⟨w.heap.size + 1, 2, none⟩ (.int .i64 cap)).setCell ⟨w.heap.size + 1, 3, none⟩ (.int .i64 now)).setCell ⟨w.heap.size + 1, 4, none⟩ (.int .i64 (seq + 1))).setCell ⟨w.heap.size + 1, 5, none⟩ (.slice A5 pl c5))).heap[b']? = w6.heap[b']? := fun b' h' => ((Below.heap_setCell _ ⟨w.heap.size + 1, 5, none⟩ (.slice A5 pl c5) b' h').trans ((Below.heap_setCell _ ⟨w.heap.size + 1, 4, none⟩ (.int .i64 (seq + 1)) b' h').trans ((Below.heap_setCell _ ⟨w.heap.size + 1, 3, none⟩ (.int .i64 now) b' h').trans ((Below.heap_setCell _ ⟨w.heap.size + 1, 2, none⟩ (.int .i64 cap) b' h').trans ((Below.heap_setCell _ ⟨w.heap.size + 1, 1, none⟩ (.int .i64 k) b' h').trans ((Below.heap_setCell _ ⟨w.heap.size + 1, 0, none⟩ (.int .i64 wd) b' h').trans rfl))))))
  have hksz : w6.heap.size ≤ (((((((w6.setCell ⟨w.heap.size + 1, 0, none⟩ (.int .i64 wd)).setCell ⟨w.heap.size + 1, 1, none⟩ (.int .i64 k)).setCell ⟨w.heap.size + 1, 2, none⟩ (.int .i64 cap)).setCell ⟨w.heap.size + 1, 3, none⟩ (.int .i64 now)).setCell ⟨w.heap.size + 1, 4, none⟩ (.int .i64 (seq + 1))).setCell ⟨w.heap.size + 1, 5, none⟩ (.slice A5 pl c5))).heap.size := by simp only [size_setCell]; exact Nat.le_refl _
  have R9 : Row ((((((w6.setCell ⟨w.heap.size + 1, 0, none⟩ (.int .i64 wd)).setCell ⟨w.heap.size + 1, 1, none⟩ (.int .i64 k)).setCell ⟨w.heap.size + 1, 2, none⟩ (.int .i64 cap)).setCell ⟨w.heap.size + 1, 3, none⟩ (.int .i64 now)).setCell ⟨w.heap.size + 1, 4, none⟩ (.int .i64 (seq + 1))).setCell ⟨w.heap.size + 1, 5, none⟩ (.slice A5 pl c5)) (w.heap.size + 1) 24 #[.int .i64 wd, .int .i64 k, .int .i64 cap, .int .i64 now, .int .i64 (seq + 1), .slice A5 pl c5] := (row_set (row_set (row_set (row_set (row_set (row_set R 0 (.int .i64 wd)) 1 (.int .i64 k)) 2 (.int .i64 cap)) 3 (.int .i64 now)) 4 (.int .i64 (seq + 1))) 5 (.slice A5 pl c5))
  have o9 : Below w.heap.size w ((((((w6.setCell ⟨w.heap.size + 1, 0, none⟩ (.int .i64 wd)).setCell ⟨w.heap.size + 1, 1, none⟩ (.int .i64 k)).setCell ⟨w.heap.size + 1, 2, none⟩ (.int .i64 cap)).setCell ⟨w.heap.size + 1, 3, none⟩ (.int .i64 now)).setCell ⟨w.heap.size + 1, 4, none⟩ (.int .i64 (seq + 1))).setCell ⟨w.heap.size + 1, 5, none⟩ (.slice A5 pl c5)) := (Below.setCell (p := ⟨w.heap.size + 1, 5, none⟩) (Below.setCell (p := ⟨w.heap.size + 1, 4, none⟩) (Below.setCell (p := ⟨w.heap.size + 1, 3, none⟩) (Below.setCell (p := ⟨w.heap.size + 1, 2, none⟩) (Below.setCell (p := ⟨w.heap.size + 1, 1, none⟩) (Below.setCell (p := ⟨w.heap.size + 1, 0, none⟩) o6 hbge (.int .i64 wd)) hbge (.int .i64 k)) hbge (.int .i64 cap)) hbge (.int .i64 now)) hbge (.int .i64 (seq + 1))) hbge (.slice A5 pl c5))
  generalize ((((((w6.setCell ⟨w.heap.size + 1, 0, none⟩ (.int .i64 wd)).setCell ⟨w.heap.size + 1, 1, none⟩ (.int .i64 k)).setCell ⟨w.heap.size + 1, 2, none⟩ (.int .i64 cap)).setCell ⟨w.heap.size + 1, 3, none⟩ (.int .i64 now)).setCell ⟨w.heap.size + 1, 4, none⟩ (.int .i64 (seq + 1))).setCell ⟨w.heap.size + 1, 5, none⟩ (.slice A5 pl c5)) = w9 at R9 o9 hkp hksz ⊢
  obtain ⟨N0, N1, N2, N3, N4, N5, Nf0, Nf1, Nf2, Nf3, Nf4, Nf5⟩ := row_six R9
  exact bodyPost_ret (v := .tuple #[.agg #[.int .i64 wd, .int .i64 k, .int .i64 cap, .int .i64 now, .int .i64 (seq + 1), .slice A5 pl c5], .int .i64 0]) (by simp [results, Try.results29, go_sem, List.getElem?_toArray, N0, N1, N2, N3, N4, N5]) rfl (spret_ok (INP6.out.keep hksz (fun a e => hkp a.block (by have := FR.out a e; omega))) o9 (fun a e => .inl (by have := FR.out a e; omega)))
set_option maxRecDepth 100000 in
set_option maxHeartbeats 4000000 in
theorem pspadd_d0 (A : Option Addr) (c : Nat) (l : List Mk) (wd k cap now seq : Int) (v : Int) (w : World) (hin : MIn A 0 c l w) (sB : I64 seq) (hv : spvalE wd k cap now seq l = 0) (h0 : ¬ v < (-4096)) (h1 : ¬ 4096 < v)  (hs : seq ≠ 1099511627776) (hf : ¬ smFull cap seq l) : Calls Try.prog 29 #[.agg #[.int .i64 wd, .int .i64 k, .int .i64 cap, .int .i64 now, .int .i64 seq, .slice A 0 c], .int .i64 v] w fun e w' => SpRet A (spAdd wd k cap now seq l v) w e w' := by
  rw [spAdd_d hv (by omega) hf]
  have hV := of_spvalE hv
  obtain ⟨hG, hMV, _⟩ := hV
  obtain ⟨d0, d1, k0, k1, c0, c1, n0, n1⟩ := hG
  obtain ⟨⟨s0, s1⟩, hVL⟩ := mvalid_iff.1 hMV
  have HVI := Lib.hid (hVL.incl s0 (hVL.n_lt (fun a => hf (.inl a))) c0 n0 d0 (Int.not_lt.1 h0) (by omega) (Int.not_lt.1 h1))
  have HSM := Lib.hid (fun i (hi : i < 0) => SmallM.of_one (hVL.one _ (mkAt_mem (l := l) (i := i) (by rw [hin.len]; exact hi))) c1 ((Int.le_refl (-4096))))
  have hv0 : -4096 ≤ v := by omega
  have hv1 : v ≤ 4096 := by omega
  have HLE := Lib.hid ((Int.le_refl (-4096)))
  have HMI := Lib.hid (show ∀ i, M64 (mkAt (incl l (seq + 1) now v) i) from M64.all fun x hx => M64.of_one (HVI.out.one x hx) (by omega) c1 n1 HLE.out)
  have HMP := Lib.hid (show ∀ i, M64 (mkAt (prune (closeB k) (incl l (seq + 1) now v)) i) from M64.all fun x hx => M64.of_one (HVI.out.one x ((prune_sub _ _ _ (Nat.le_refl _)).subset hx)) (by omega) c1 n1 HLE.out)
  clear hf hMV hVL
  have P := fun w' (hb : Below w.heap.size w w') => pvalP A 0 c l wd k cap now seq w' (hin.below hb) sB
  rw [hv] at P
  replace P := Lib.hid P
  have d0 : decide (v < -4096) = false := decide_eq_false h0
  have d1 : decide (4096 < v) = false := decide_eq_false h1
  have HR := Lib.hid hin
  have HL := Lib.hid hin.len
  clear hin sB h0 h1
  go_enter Try.func29, Try.ntmps29
  go_upto_region 6 with (first | (go_at_call 27; with_reducible refine (P.out _ (by (repeat (first | exact Below.refl _ _ | refine Below.setCell ?_ (by first | (simp; done) | (simp; omega) | omega) _ | refine Below.alloc ?_ (by first | (simp; done) | (simp; omega) | omega) _ | refine Below.drew ?_ | refine Below.trans ?_ (Below.mono (by assumption) (by first | (simp; done) | (simp; omega) | omega)))))).mono ?_; rintro e w1 ⟨rfl, hb1⟩; have hz1 := hb1.size; (try simp at hz1); have o1 : Below w.heap.size w w1 := (by (repeat (first | exact Below.refl _ _ | refine Below.setCell ?_ (by first | (simp; done) | (simp; omega) | omega) _ | refine Below.alloc ?_ (by first | (simp; done) | (simp; omega) | omega) _ | refine Below.drew ?_ | refine Below.trans ?_ (Below.mono (by assumption) (by first | (simp; done) | (simp; omega) | omega))))); have q1_0 : w.heap.size < w1.heap.size := (by omega); have r1_0 : Row w1 (w.heap.size) 24 #[.int .i64 wd, .int .i64 k, .int .i64 cap, .int .i64 now, .int .i64 seq, .slice A 0 c] := row_call (by (repeat (first | assumption | (refine row_new ?_; (first | (simp; done) | omega)) | refine row_alloc ?_ _ | refine row_drew ?_ | refine row_call ?_ (by assumption)))) hb1; obtain ⟨c1_0a, c1_0b, c1_0c, c1_0d, c1_0e, c1_0f, f1_0a, f1_0b, f1_0c, f1_0d, f1_0e, f1_0f⟩ := row_six r1_0; have q1_1 : w.heap.size + 1 < w1.heap.size := (by omega); have r1_1 : Row w1 (w.heap.size + 1) 24 #[.int .i64 0, .int .i64 0, .int .i64 0, .int .i64 0, .int .i64 0, .slice none 0 0] := row_call (by (repeat (first | assumption | (refine row_new ?_; (first | (simp; done) | omega)) | refine row_alloc ?_ _ | refine row_drew ?_ | refine row_call ?_ (by assumption)))) hb1; obtain ⟨c1_1a, c1_1b, c1_1c, c1_1d, c1_1e, c1_1f, f1_1a, f1_1b, f1_1c, f1_1d, f1_1e, f1_1f⟩ := row_six r1_1))
  clear d0 d1 P
  clear hv
  have e2 : (seq == 1099511627776) = false := by simpa using hs
  refine wp_region_quiet_lit (by as_aux_lemma => kernel_rfl) (by as_aux_lemma => kernel_rfl) ?_
  repeat (go_big_quiet_step (fail))
  refine wpQuiet_nil ?_
  intro _ hw'
  obtain ⟨nq, hw''⟩ := hw'
  subst hw''
  replace r1_0 : Row (w1.drewN nq) (w.heap.size) 24 #[.int .i64 wd, .int .i64 k, .int .i64 cap, .int .i64 now, .int .i64 seq, .slice A 0 c] := r1_0
  replace r1_1 : Row (w1.drewN nq) (w.heap.size + 1) 24 #[.int .i64 0, .int .i64 0, .int .i64 0, .int .i64 0, .int .i64 0, .slice none 0 0] := r1_1
  replace o1 := o1.trans (⟨rfl, rfl, rfl, Nat.le_refl _, fun _ _ => rfl⟩ : Below _ w1 (w1.drewN nq))
  generalize w1.drewN nq = w2 at r1_0 r1_1 o1 ⊢
  clear c1_0a c1_0b c1_0c c1_0d c1_0e c1_0f f1_0a f1_0b f1_0c f1_0d f1_0e f1_0f c1_1a c1_1b c1_1c c1_1d c1_1e c1_1f f1_1a f1_1b f1_1c f1_1d f1_1e f1_1f
  clear e2
  have wsq : IntKind.i64.wrap (seq + 1) = seq + 1 := IntWalk.i64_in _ (by omega)
  obtain ⟨X0, X1, X2, X3, X4, X5, Xf0, Xf1, Xf2, Xf3, Xf4, Xf5⟩ := row_six r1_0
  have KR := Lib.hid r1_0
  clear r1_0
  go_upto_region 9 with (fail)
  have X : Row (w2.setCell ⟨w.heap.size, 4, none⟩ (.int .i64 (seq + 1))) (w.heap.size) 24 #[.int .i64 wd, .int .i64 k, .int .i64 cap, .int .i64 now, .int .i64 (seq + 1), .slice A 0 c] := row_set KR.out 4 _
  have R : Row (w2.setCell ⟨w.heap.size, 4, none⟩ (.int .i64 (seq + 1))) (w.heap.size + 1) 24 #[.int .i64 0, .int .i64 0, .int .i64 0, .int .i64 0, .int .i64 0, .slice none 0 0] := row_other (p := ⟨w.heap.size, 4, none⟩) r1_1 (by show w.heap.size + 1 ≠ w.heap.size; omega) _
  have o : Below w.heap.size w (w2.setCell ⟨w.heap.size, 4, none⟩ (.int .i64 (seq + 1))) := o1.setCell (p := ⟨w.heap.size, 4, none⟩) (Nat.le_refl _) _
  generalize w2.setCell ⟨w.heap.size, 4, none⟩ (.int .i64 (seq + 1)) = w3 at X R o ⊢
  clear X0 X1 X2 X3 X4 X5 Xf0 Xf1 Xf2 Xf3 Xf4 Xf5 KR o1 r1_1 wsq
  obtain ⟨X0, X1, X2, X3, X4, X5, Xf0, Xf1, Xf2, Xf3, Xf4, Xf5⟩ := row_six X
  go_wp2_with fail
  refine (pmadd A 0 c l (seq + 1) now v w3 (HR.out.below o) (by omega) HSM.out hv0 hv1).mono ?_
  rintro e w4 ⟨va, rfl, ownA, hb4⟩
  obtain ⟨A4, c4, rfl, inA, fr4⟩ := MIn.of_row ownA HMI.out
  have z4 := row_lt X
  clear X0 X1 X2 X3 X4 X5 Xf0 Xf1 Xf2 Xf3 Xf4 Xf5 ownA fr4
  replace X := row_call X hb4
  replace R := row_call R hb4
  replace o := o.trans (hb4.mono o.size)
  have z8 := row_lt R
  clear hb4
  have INA := Lib.hid inA
  clear inA
  have LI : RowKit.Hid ((incl l (seq + 1) now v).length = 0 + 1) := Lib.hid (by rw [incl_len, HL.out])
  have PP := Lib.hid (pprune (closeB k) 70 (w.heap.size) A4 (0 + 1) c4 (incl l (seq + 1) now v) w4 INA.out (by omega) fc_run (fun i j w' hij hj hb => by
    have hi1 := HVI.out.one _ (mkAt_mem (l := incl l (seq + 1) now v) (i := i) (by rw [LI.out]; omega))
    have hj1 := HVI.out.one _ (mkAt_mem (l := incl l (seq + 1) now v) (i := j) (by rw [LI.out]; omega))
    exact pclos_flat wd k cap now (seq + 1) A 0 c (w.heap.size) (mkAt (incl l (seq + 1) now v) i).seq (mkAt (incl l (seq + 1) now v) i).t (mkAt (incl l (seq + 1) now v) i).n (mkAt (incl l (seq + 1) now v) i).s (mkAt (incl l (seq + 1) now v) i).q (mkAt (incl l (seq + 1) now v) i).lo (mkAt (incl l (seq + 1) now v) i).hi (mkAt (incl l (seq + 1) now v) j).seq (mkAt (incl l (seq + 1) now v) j).t (mkAt (incl l (seq + 1) now v) j).n (mkAt (incl l (seq + 1) now v) j).s (mkAt (incl l (seq + 1) now v) j).q (mkAt (incl l (seq + 1) now v) j).lo (mkAt (incl l (seq + 1) now v) j).hi _ w' (row_call X hb) (fun w => pcloseB k (mkAt (incl l (seq + 1) now v) i) (mkAt (incl l (seq + 1) now v) j) w)))
  obtain ⟨X0, X1, X2, X3, X4, X5, Xf0, Xf1, Xf2, Xf3, Xf4, Xf5⟩ := row_six X
  go_wp2_with fail
  refine PP.out.mono ?_
  rintro e w5 ⟨vp, rfl, ownP, hb5⟩
  obtain ⟨A5, c5, rfl, inP, fr5⟩ := MIn.of_row ownP HMP.out
  have z5 := inP.reads
  clear X0 X1 X2 X3 X4 X5 Xf0 Xf1 Xf2 Xf3 Xf4 Xf5 ownP PP
  replace X := row_call X hb5
  replace R := row_call R hb5
  have z6 := row_lt R
  have o4 := o.size
  replace o := o.trans (hb5.mono o.size)
  have z7 := hb5.size
  have INP := Lib.hid inP
  have FR := Lib.hid fr5
  clear hb5 inP fr5 z5
  generalize hpl : (prune (closeB k) (incl l (seq + 1) now v)).length = pl at INP
  clear hpl
  obtain ⟨X0, X1, X2, X3, X4, X5, Xf0, Xf1, Xf2, Xf3, Xf4, Xf5⟩ := row_six X
  obtain ⟨R0, R1, R2, R3, R4, R5, Rf0, Rf1, Rf2, Rf3, Rf4, Rf5⟩ := row_six R
  have XR := Lib.hid X
  have RR := Lib.hid R
  clear X R
  go_upto_region 10 with (fail)
  have X : Row (w5.setCell ⟨w.heap.size, 5, none⟩ (.slice A5 pl c5)) (w.heap.size) 24 #[.int .i64 wd, .int .i64 k, .int .i64 cap, .int .i64 now, .int .i64 (seq + 1), .slice A5 pl c5] := row_set XR.out 5 _
  have R : Row (w5.setCell ⟨w.heap.size, 5, none⟩ (.slice A5 pl c5)) (w.heap.size + 1) 24 #[.int .i64 0, .int .i64 0, .int .i64 0, .int .i64 0, .int .i64 0, .slice none 0 0] := row_other (p := ⟨w.heap.size, 5, none⟩) RR.out (by show w.heap.size + 1 ≠ w.heap.size; omega) _
  have o6 : Below w.heap.size w (w5.setCell ⟨w.heap.size, 5, none⟩ (.slice A5 pl c5)) := o.setCell (p := ⟨w.heap.size, 5, none⟩) (Nat.le_refl _) _
  have INP6 := Lib.hid (INP.out.keep (w' := w5.setCell ⟨w.heap.size, 5, none⟩ (.slice A5 pl c5)) (by rw [size_setCell]; exact Nat.le_refl _) (fun a e => Below.heap_setCell _ ⟨w.heap.size, 5, none⟩ _ a.block (by have := FR.out a e; show a.block ≠ w.heap.size; omega)))
  have hs6 : w5.heap.size ≤ (w5.setCell ⟨w.heap.size, 5, none⟩ (.slice A5 pl c5)).heap.size := by rw [size_setCell]; exact Nat.le_refl _
  generalize w5.setCell ⟨w.heap.size, 5, none⟩ (.slice A5 pl c5) = w6 at X R o6 INP6 hs6 ⊢
  clear X0 X1 X2 X3 X4 X5 Xf0 Xf1 Xf2 Xf3 Xf4 Xf5 R0 R1 R2 R3 R4 R5 Rf0 Rf1 Rf2 Rf3 Rf4 Rf5 XR RR INP o
  obtain ⟨X0, X1, X2, X3, X4, X5, Xf0, Xf1, Xf2, Xf3, Xf4, Xf5⟩ := row_six X
  obtain ⟨R0, R1, R2, R3, R4, R5, Rf0, Rf1, Rf2, Rf3, Rf4, Rf5⟩ := row_six R
  go_wp2
  have hbge : w.heap.size ≤ w.heap.size + 1 := by omega
  have hkp : ∀ b', b' ≠ w.heap.size + 1 → (((((((w6.setCell ⟨w.heap.size + 1, 0, none⟩ (.int .i64 wd)).setCell ⟨w.heap.size + 1, 1, none⟩ (.int .i64 k)).setCell ⟨w.heap.size + 1, 2, none⟩ (.int .i64 cap)).setCell ⟨w.heap.size + 1, 3, none⟩ (.int .i64 now)).setCell ⟨w.heap.size + 1, 4, none⟩ (.int .i64 (seq + 1))).setCell ⟨w.heap.size + 1, 5, none⟩ (.slice A5 pl c5))).heap[b']? = w6.heap[b']? := fun b' h' => ((Below.heap_setCell _ ⟨w.heap.size + 1, 5, none⟩ (.slice A5 pl c5) b' h').trans ((Below.heap_setCell _ ⟨w.heap.size + 1, 4, none⟩ (.int .i64 (seq + 1)) b' h').trans ((Below.heap_setCell _ ⟨w.heap.size + 1, 3, none⟩ (.int .i64 now) b' h').trans ((Below.heap_setCell _ ⟨w.heap.size + 1, 2, none⟩ (.int .i64 cap) b' h').trans ((Below.heap_setCell _ ⟨w.heap.size + 1, 1, none⟩ (.int .i64 k) b' h').trans ((Below.heap_setCell _ ⟨w.heap.size + 1, 0, none⟩ (.int .i64 wd) b' h').trans rfl))))))
  have hksz : w6.heap.size ≤ (((((((w6.setCell ⟨w.heap.size + 1, 0, none⟩ (.int .i64 wd)).setCell ⟨w.heap.size + 1, 1, none⟩ (.int .i64 k)).setCell ⟨w.heap.size + 1, 2, none⟩ (.int .i64 cap)).setCell ⟨w.heap.size + 1, 3, none⟩ (.int .i64 now)).setCell ⟨w.heap.size + 1, 4, none⟩ (.int .i64 (seq + 1))).setCell ⟨w.heap.size + 1, 5, none⟩ (.slice A5 pl c5))).heap.size := by simp only [size_setCell]; exact Nat.le_refl _
  have R9 : Row ((((((w6.setCell ⟨w.heap.size + 1, 0, none⟩ (.int .i64 wd)).setCell ⟨w.heap.size + 1, 1, none⟩ (.int .i64 k)).setCell ⟨w.heap.size + 1, 2, none⟩ (.int .i64 cap)).setCell ⟨w.heap.size + 1, 3, none⟩ (.int .i64 now)).setCell ⟨w.heap.size + 1, 4, none⟩ (.int .i64 (seq + 1))).setCell ⟨w.heap.size + 1, 5, none⟩ (.slice A5 pl c5)) (w.heap.size + 1) 24 #[.int .i64 wd, .int .i64 k, .int .i64 cap, .int .i64 now, .int .i64 (seq + 1), .slice A5 pl c5] := (row_set (row_set (row_set (row_set (row_set (row_set R 0 (.int .i64 wd)) 1 (.int .i64 k)) 2 (.int .i64 cap)) 3 (.int .i64 now)) 4 (.int .i64 (seq + 1))) 5 (.slice A5 pl c5))
  have o9 : Below w.heap.size w ((((((w6.setCell ⟨w.heap.size + 1, 0, none⟩ (.int .i64 wd)).setCell ⟨w.heap.size + 1, 1, none⟩ (.int .i64 k)).setCell ⟨w.heap.size + 1, 2, none⟩ (.int .i64 cap)).setCell ⟨w.heap.size + 1, 3, none⟩ (.int .i64 now)).setCell ⟨w.heap.size + 1, 4, none⟩ (.int .i64 (seq + 1))).setCell ⟨w.heap.size + 1, 5, none⟩ (.slice A5 pl c5)) := (Below.setCell (p := ⟨w.heap.size + 1, 5, none⟩) (Below.setCell (p := ⟨w.heap.size + 1, 4, none⟩) (Below.setCell (p := ⟨w.heap.size + 1, 3, none⟩) (Below.setCell (p := ⟨w.heap.size + 1, 2, none⟩) (Below.setCell (p := ⟨w.heap.size + 1, 1, none⟩) (Below.setCell (p := ⟨w.heap.size + 1, 0, none⟩) o6 hbge (.int .i64 wd)) hbge (.int .i64 k)) hbge (.int .i64 cap)) hbge (.int .i64 now)) hbge (.int .i64 (seq + 1))) hbge (.slice A5 pl c5))
  generalize ((((((w6.setCell ⟨w.heap.size + 1, 0, none⟩ (.int .i64 wd)).setCell ⟨w.heap.size + 1, 1, none⟩ (.int .i64 k)).setCell ⟨w.heap.size + 1, 2, none⟩ (.int .i64 cap)).setCell ⟨w.heap.size + 1, 3, none⟩ (.int .i64 now)).setCell ⟨w.heap.size + 1, 4, none⟩ (.int .i64 (seq + 1))).setCell ⟨w.heap.size + 1, 5, none⟩ (.slice A5 pl c5)) = w9 at R9 o9 hkp hksz ⊢
  obtain ⟨N0, N1, N2, N3, N4, N5, Nf0, Nf1, Nf2, Nf3, Nf4, Nf5⟩ := row_six R9
  exact bodyPost_ret (v := .tuple #[.agg #[.int .i64 wd, .int .i64 k, .int .i64 cap, .int .i64 now, .int .i64 (seq + 1), .slice A5 pl c5], .int .i64 0]) (by simp [results, Try.results29, go_sem, List.getElem?_toArray, N0, N1, N2, N3, N4, N5]) rfl (spret_ok (INP6.out.keep hksz (fun a e => hkp a.block (by have := FR.out a e; omega))) o9 (fun a e => .inl (by have := FR.out a e; omega)))
theorem pspadd (A : Option Addr) (m c : Nat) (l : List Mk) (wd k cap now seq : Int) (v : Int) (w : World) (hin : MIn A m c l w) (sB : I64 seq) (hmm : m ≤ 100000) : Calls Try.prog 29 #[.agg #[.int .i64 wd, .int .i64 k, .int .i64 cap, .int .i64 now, .int .i64 seq, .slice A m c], .int .i64 v] w fun e w' => SpRet A (spAdd wd k cap now seq l v) w e w' := by
  rcases spvalE_two (wd := wd) (k := k) (cap := cap) (now := now) (seq := seq) (l := l) with hv | hv
  · by_cases h0 : v < (-4096)
    · exact pspadd_b1 A m c l wd k cap now seq v w hin sB hv h0
    · by_cases h1 : 4096 < v
      · exact pspadd_b2 A m c l wd k cap now seq v w hin sB hv h0 h1
      · have hl := hin.len
        by_cases hm0 : 0 < m
        · have hne : l ≠ [] := fun e => by rw [e] at hl; simp at hl; omega
          by_cases hn : (mkAt l 0).n = cap
          · exact pspadd_c1 A m c l wd k cap now seq v w hin sB hv h0 h1 hm0 hn (.inl ⟨hne, hn⟩)
          · by_cases hs : seq = 1099511627776
            · exact pspadd_c2 A m c l wd k cap now seq v w hin sB hv h0 h1 hm0 hn hs (.inr hs)
            · exact pspadd_d1 A m c l wd k cap now seq v w hin sB hv h0 h1 hmm hm0 hn hs (fun a => a.elim (fun a => hn a.2) hs)
        · obtain rfl : m = 0 := by omega
          have he : l = [] := by simpa using hl
          by_cases hs : seq = 1099511627776
          · exact pspadd_c3 A c l wd k cap now seq v w hin sB hv h0 h1 hs (.inr hs)
          · exact pspadd_d0 A c l wd k cap now seq v w hin sB hv h0 h1 hs (fun a => a.elim (fun a => a.1 he) hs)
  · exact pspadd_a A m c l wd k cap now seq v w hin sB hv
end Go.Proofs.Ytaiepjcnncajcaa
end
section
/- Windows, live items and extremes, walked. -/
set_option linter.unusedVariables false
set_option linter.unusedSimpArgs false
set_option linter.unusedSectionVars false
set_option linter.unnecessarySimpa false
namespace Go.Proofs.Ytaiepjcnncajcaa
open Go.RowKit
/-- The capacity that a number is turned into. -/
def mcap (c : Int) : Int := if c % 4 = 0 then 65536 else if c % 4 = 1 then 200 else 1 + c % 40
theorem mcap_bd (c : Int) : 1 ≤ mcap c ∧ mcap c ≤ 65536 := by unfold mcap; split <;> (try split) <;> omega
theorem pwindow_0 (a b c : Int) (w : World) (h : c % 4 = 0) : Calls Try.prog 24 #[.int .i64 a, .int .i64 b, .int .i64 c] w fun e w' => e = .returned (.tuple #[.int .i64 (1 + a % 25), .int .i64 (1 + b % 4), .int .i64 (mcap c)]) ∧ w' = w := by
  rw [show mcap c = 65536 by unfold mcap; rw [if_pos h]]
  have P40 := Lib.hid (fun w => pmod c 40 (by omega) (by omega) w)
  have P25 := Lib.hid (fun w => pmod a 25 (by omega) (by omega) w)
  have PK := Lib.hid (fun w => pint b 4 (by omega) (by omega) w)
  have P4 := fun w => pmod c 4 (by omega) (by omega) w
  have h1 : (c % 4 == 0) = true := by simp; omega
  have h2 : (c % 4 == 1) = false := by simp; omega
  have b40 : IntKind.i64.wrap (1 + c % 40) = 1 + c % 40 := IntWalk.i64_in _ (by omega)
  have b25 : IntKind.i64.wrap (1 + a % 25) = 1 + a % 25 := IntWalk.i64_in _ (by omega)
  have b4 : IntKind.i64.wrap (1 + b % 4) = 1 + b % 4 := IntWalk.i64_in _ (by omega)
  clear h
  generalize c % 40 = r40 at P40 b40 ⊢
  generalize a % 25 = r25 at P25 b25 ⊢
  generalize b % 4 = rk at PK b4 ⊢
  generalize c % 4 = r4 at P4 h1 h2
  replace P4 := Lib.hid P4
  go_enter Try.func24, Try.ntmps24
  go_wp2_with (first | (go_at_call 35; with_reducible refine (P40.out _).mono ?_; rintro e w9 ⟨rfl, h9⟩; obtain rfl := h9.symm) | (go_at_call 35; with_reducible refine (P4.out _).mono ?_; rintro e w9 ⟨rfl, h9⟩; obtain rfl := h9.symm) | (go_at_call 35; with_reducible refine (P25.out _).mono ?_; rintro e w9 ⟨rfl, h9⟩; obtain rfl := h9.symm) | (go_at_call 19; with_reducible refine (PK.out _).mono ?_; rintro e w9 ⟨rfl, h9⟩; obtain rfl := h9.symm))
  exact bodyPost_ret (v := .tuple #[.int .i64 (1 + r25), .int .i64 (1 + rk), .int .i64 65536]) (by simp [results, Try.results24, go_sem]) rfl ⟨rfl, rfl⟩
theorem pwindow_1 (a b c : Int) (w : World) (h : c % 4 = 1) : Calls Try.prog 24 #[.int .i64 a, .int .i64 b, .int .i64 c] w fun e w' => e = .returned (.tuple #[.int .i64 (1 + a % 25), .int .i64 (1 + b % 4), .int .i64 (mcap c)]) ∧ w' = w := by
  rw [show mcap c = 200 by unfold mcap; rw [if_neg (by omega), if_pos h]]
  have P40 := Lib.hid (fun w => pmod c 40 (by omega) (by omega) w)
  have P25 := Lib.hid (fun w => pmod a 25 (by omega) (by omega) w)
  have PK := Lib.hid (fun w => pint b 4 (by omega) (by omega) w)
  have P4 := fun w => pmod c 4 (by omega) (by omega) w
  have h1 : (c % 4 == 0) = false := by simp; omega
  have h2 : (c % 4 == 1) = true := by simp; omega
  have b40 : IntKind.i64.wrap (1 + c % 40) = 1 + c % 40 := IntWalk.i64_in _ (by omega)
  have b25 : IntKind.i64.wrap (1 + a % 25) = 1 + a % 25 := IntWalk.i64_in _ (by omega)
  have b4 : IntKind.i64.wrap (1 + b % 4) = 1 + b % 4 := IntWalk.i64_in _ (by omega)
  clear h
  generalize c % 40 = r40 at P40 b40 ⊢
  generalize a % 25 = r25 at P25 b25 ⊢
  generalize b % 4 = rk at PK b4 ⊢
  generalize c % 4 = r4 at P4 h1 h2
  replace P4 := Lib.hid P4
  go_enter Try.func24, Try.ntmps24
  go_wp2_with (first | (go_at_call 35; with_reducible refine (P40.out _).mono ?_; rintro e w9 ⟨rfl, h9⟩; obtain rfl := h9.symm) | (go_at_call 35; with_reducible refine (P4.out _).mono ?_; rintro e w9 ⟨rfl, h9⟩; obtain rfl := h9.symm) | (go_at_call 35; with_reducible refine (P25.out _).mono ?_; rintro e w9 ⟨rfl, h9⟩; obtain rfl := h9.symm) | (go_at_call 19; with_reducible refine (PK.out _).mono ?_; rintro e w9 ⟨rfl, h9⟩; obtain rfl := h9.symm))
  exact bodyPost_ret (v := .tuple #[.int .i64 (1 + r25), .int .i64 (1 + rk), .int .i64 200]) (by simp [results, Try.results24, go_sem]) rfl ⟨rfl, rfl⟩
theorem pwindow_2 (a b c : Int) (w : World) (h : ¬ (c % 4 = 0 ∨ c % 4 = 1)) : Calls Try.prog 24 #[.int .i64 a, .int .i64 b, .int .i64 c] w fun e w' => e = .returned (.tuple #[.int .i64 (1 + a % 25), .int .i64 (1 + b % 4), .int .i64 (mcap c)]) ∧ w' = w := by
  rw [show mcap c = 1 + c % 40 by unfold mcap; rw [if_neg (by omega), if_neg (by omega)]]
  have P40 := Lib.hid (fun w => pmod c 40 (by omega) (by omega) w)
  have P25 := Lib.hid (fun w => pmod a 25 (by omega) (by omega) w)
  have PK := Lib.hid (fun w => pint b 4 (by omega) (by omega) w)
  have P4 := fun w => pmod c 4 (by omega) (by omega) w
  have h1 : (c % 4 == 0) = false := by simp; omega
  have h2 : (c % 4 == 1) = false := by simp; omega
  have b40 : IntKind.i64.wrap (1 + c % 40) = 1 + c % 40 := IntWalk.i64_in _ (by omega)
  have b25 : IntKind.i64.wrap (1 + a % 25) = 1 + a % 25 := IntWalk.i64_in _ (by omega)
  have b4 : IntKind.i64.wrap (1 + b % 4) = 1 + b % 4 := IntWalk.i64_in _ (by omega)
  clear h
  generalize c % 40 = r40 at P40 b40 ⊢
  generalize a % 25 = r25 at P25 b25 ⊢
  generalize b % 4 = rk at PK b4 ⊢
  generalize c % 4 = r4 at P4 h1 h2
  replace P4 := Lib.hid P4
  go_enter Try.func24, Try.ntmps24
  go_wp2_with (first | (go_at_call 35; with_reducible refine (P40.out _).mono ?_; rintro e w9 ⟨rfl, h9⟩; obtain rfl := h9.symm) | (go_at_call 35; with_reducible refine (P4.out _).mono ?_; rintro e w9 ⟨rfl, h9⟩; obtain rfl := h9.symm) | (go_at_call 35; with_reducible refine (P25.out _).mono ?_; rintro e w9 ⟨rfl, h9⟩; obtain rfl := h9.symm) | (go_at_call 19; with_reducible refine (PK.out _).mono ?_; rintro e w9 ⟨rfl, h9⟩; obtain rfl := h9.symm))
  exact bodyPost_ret (v := .tuple #[.int .i64 (1 + r25), .int .i64 (1 + rk), .int .i64 (1 + r40)]) (by simp [results, Try.results24, go_sem]) rfl ⟨rfl, rfl⟩
theorem pwindow (a b c : Int) (w : World) : Calls Try.prog 24 #[.int .i64 a, .int .i64 b, .int .i64 c] w fun e w' => e = .returned (.tuple #[.int .i64 (1 + a % 25), .int .i64 (1 + b % 4), .int .i64 (mcap c)]) ∧ w' = w := by
  by_cases h0 : c % 4 = 0
  · exact pwindow_0 a b c w h0
  · by_cases h1 : c % 4 = 1
    · exact pwindow_1 a b c w h1
    · exact pwindow_2 a b c w (by omega)
theorem liveI_take {now wd : Int} {l : List Itm} {k : Nat} (h : k < l.length) : liveI now wd (l.take (k + 1)) = liveI now wd (l.take k) ++ (if now - wd < (itmAt l k).t ∧ (itmAt l k).t ≤ now then [itmAt l k] else []) := by
  rw [List.take_succ_eq_append_getElem h, itm_eq h]
  unfold liveI
  rw [List.filter_append]
  congr 1
  by_cases c : now - wd < (itmAt l k).t ∧ (itmAt l k).t ≤ now
  · rw [if_pos c, List.filter_cons_of_pos (by simp; omega)]; rfl
  · rw [if_neg c, List.filter_cons_of_neg (by simp; omega)]; rfl
theorem liveI_le {now wd : Int} (l : List Itm) : (liveI now wd l).length ≤ l.length := List.length_filter_le _ _
set_option maxHeartbeats 2000000 in
theorem pliveI (A : Option Addr) (m c : Nat) (l : List Itm) (now wd : Int) (w : World) (hin : Reads w w.heap.size 2 A m (icells l)) (hm : m ≤ 100000) (n0 : 0 ≤ now) (n1 : now ≤ 1099511627776) (d0 : 0 ≤ wd) (d1 : wd ≤ 1099511627776) :
    Calls Try.prog 36 #[.slice A m c, .int .i64 now, .int .i64 wd] w fun e w' => ∃ v, e = .returned v ∧ w'.ownsRow w.heap.size 51 2 v (liveI now wd l).length (icells (liveI now wd l)) ∧ Below w.heap.size w w' := by
  have HR := Lib.hid hin
  have hl := hin.itm_len
  obtain ⟨i1, hi1, iz0, iz1, iz2⟩ := info_parts info_itm
  have wnd : IntKind.i64.wrap (now - wd) = now - wd := IntWalk.i64_in _ (by omega)
  have HL := Lib.hid hl
  clear hin hl n0 n1 d0 d1
  go_enter Try.func36, Try.ntmps36
  go_wp2
  go_loopw [7, 12] (fun v i wr => ∃ k : Nat, k ≤ m ∧ i = .int .i64 (k : Nat) ∧ wr.ownsRow w.heap.size 51 2 v (liveI now wd (l.take k)).length (icells (liveI now wd (l.take k))) ∧ Below w.heap.size w wr) (fun _ i _ => m - (intOf i).toNat)
  case atStart => exact ⟨0, by omega, rfl, by rw [List.take_zero]; exact World.ownsRow_nil _ _ _ _, Below.refl _ _⟩
  case round =>
    obtain ⟨k, hk, rfl, own, hb⟩ := hrel
    by_cases hlt : k < m
    · obtain ⟨ad, rfl, hadb, hi0⟩ := HR.out.itm hlt
      obtain ⟨c0, c1⟩ := hi0.below hb (by rw [block_of_add]; exact hadb)
      have TK := liveI_take (now := now) (wd := wd) (show k < l.length by rw [HL.out]; exact hlt)
      have hq := liveI_le (now := now) (wd := wd) (l.take k)
      rw [List.length_take] at hq
      obtain ⟨q, hqq⟩ : ∃ q, (liveI now wd (l.take k)).length = q := ⟨_, rfl⟩
      rw [hqq] at own hq
      have QQ := Lib.hid hqq
      obtain ⟨tk, htk⟩ : ∃ x, (itmAt l k).t = x := ⟨_, rfl⟩
      obtain ⟨vk, hvk⟩ : ∃ x, (itmAt l k).v = x := ⟨_, rfl⟩
      rw [show itmAt l k = ⟨tk, vk⟩ by rw [← htk, ← hvk]] at TK
      rw [htk] at c0
      rw [hvk] at c1
      dsimp only at TK
      have i2 : (k : Int) < (m : Int) := by omega
      have i4 : (0 : Int) ≤ (k : Int) := by omega
      have zb := hb.size
      clear htk hvk hqq hi0
      have NX : ∀ lv : List Itm, liveI now wd (l.take (k + 1)) = lv → ∀ (x : Value) (wz : World), wz.ownsRow w.heap.size 51 2 x lv.length (icells lv) → wz.ownsRow w.heap.size 51 2 x (liveI now wd (l.take (k + 1))).length (icells (liveI now wd (l.take (k + 1)))) := fun lv e x wz h => by rw [e]; exact h
      by_cases ct : now - wd < tk
      · by_cases cn : tk ≤ now
        · rw [if_pos ⟨ct, cn⟩] at TK
          have TKh := Lib.hid TK
          clear TK
          go_upto_region 6 with (fail)
          have OWN0 := own.alloc (.cells #[.int .i64 tk, .int .i64 vk] 51)
          have T0 : Row (wr.alloc (.cells #[.int .i64 tk, .int .i64 vk] 51)) wr.heap.size 51 #[.int .i64 tk, .int .i64 vk] := row_new rfl
          replace hb := hb.alloc zb (.cells #[.int .i64 tk, .int .i64 vk] 51)
          have hlt0 := own.lt
          generalize wr.alloc (.cells #[.int .i64 tk, .int .i64 vk] 51) = w5 at OWN0 T0 hb ⊢
          generalize wr.heap.size = tb at T0 zb hlt0 ⊢
          obtain ⟨T1, T2, T3, T4⟩ := row_two T0
          have hbl := OWN0.lt
          have OWN := Lib.hid OWN0
          have zb5 := hb.size
          clear own OWN0 T0 c0 c1
          go_wp2_with (at_builtin; refine wpList_push rfl _ _ 39 rfl 51 i1 (.agg #[.int .i64 0, .int .i64 0]) 2 16 Try.underlying39 hi1 iz0 iz1 iz2 rfl (by decide) w.heap.size u7 q (icells (liveI now wd (l.take k))) rfl OWN.out #[.int .i64 tk, .int .i64 vk] rfl rfl (by intro u hu; simp at hu; rcases hu with rfl | rfl <;> rfl) (by unfold maxLen; omega) (by omega) (by omega) ?_; intro g' c4 w8 own8 hg8 hat8 hgr8)
          have L8 : w8.ownsRow w.heap.size 51 2 (.slice (some ⟨g', 0, none⟩) (q + 1) c4) (liveI now wd (l.take k) ++ [(⟨tk, vk⟩ : Itm)]).length (icells (liveI now wd (l.take k) ++ [(⟨tk, vk⟩ : Itm)])) := by
            rw [icells_append, List.length_append, QQ.out]
            exact own8.row hg8
          have L9 : Below w.heap.size w w8 := below_grown (hb.alloc zb5 _) hgr8 (fun b e => (hbl b e).1) (by simp; omega)
          clear own8 hgr8 hat8
          go_roundw
          case rel => exact ⟨k + 1, by omega, by go_num, NX _ TKh.out _ _ L8, L9⟩
          case measure => simp [intOf]; omega
        · rw [if_neg (fun h => cn h.2), List.append_nil] at TK
          have TKh := Lib.hid TK
          clear TK
          have QO := QQ.out
          go_wp2
          go_roundw
          case rel => exact ⟨k + 1, by omega, by go_num, NX _ TKh.out _ _ (by rw [QO]; exact own.alloc _), hb.alloc zb _⟩
          case measure => simp [intOf]; omega
      · rw [if_neg (fun h => ct h.1), List.append_nil] at TK
        have TKh := Lib.hid TK
        clear TK
        have QO := QQ.out
        go_wp2
        go_roundw
        case rel => exact ⟨k + 1, by omega, by go_num, NX _ TKh.out _ _ (by rw [QO]; exact own.alloc _), hb.alloc zb _⟩
        case measure => simp [intOf]; omega
    · have i2 : ¬ (k : Int) < (m : Int) := by omega
      obtain rfl : k = m := by omega
      rw [List.take_of_length_le (by rw [HL.out]; exact Nat.le_refl _)] at own
      go_wp2
      go_ret
      exact ⟨_, rfl, own, hb⟩
theorem isum_bd : ∀ l : List Itm, (∀ x ∈ l, -4096 ≤ x.v ∧ x.v ≤ 4096) → -4096 * (l.length : Int) ≤ isum l ∧ isum l ≤ 4096 * (l.length : Int)
  | [], _ => by simp [isum]
  | x :: l, h => by
    have h1 := isum_bd l (fun y hy => h y (by simp [hy]))
    have h2 := h x (by simp)
    rw [isum, List.length_cons]
    omega
theorem isq_bd : ∀ l : List Itm, (∀ x ∈ l, -4096 ≤ x.v ∧ x.v ≤ 4096) → 0 ≤ isq l ∧ isq l ≤ 16777216 * (l.length : Int)
  | [], _ => by simp [isq]
  | x :: l, h => by
    have h1 := isq_bd l (fun y hy => h y (by simp [hy]))
    have h2 := h x (by simp)
    have h3 := vv_small h2.1 h2.2
    rw [isq, List.length_cons]
    omega
theorem isum_take {l : List Itm} {k : Nat} (h : k < l.length) : isum (l.take (k + 1)) = isum (l.take k) + (itmAt l k).v := by
  rw [List.take_succ_eq_append_getElem h, itm_eq h, isum_append]
  simp [isum]
theorem isq_take {l : List Itm} {k : Nat} (h : k < l.length) : isq (l.take (k + 1)) = isq (l.take k) + (itmAt l k).v * (itmAt l k).v := by
  rw [List.take_succ_eq_append_getElem h, itm_eq h, isq_append]
  simp [isq]
/-- What the loop of 'truth' adds up. -/
def tsum (agg : Int) (l : List Itm) : Int := if agg = 1 then l.length else if agg = 2 then isum l else if agg = 3 then isq l else 0
/-- What an item adds. -/
def tone (agg v : Int) : Int := if agg = 1 then 1 else if agg = 2 then v else if agg = 3 then v * v else 0
end Go.Proofs.Ytaiepjcnncajcaa
end
section
/- Spread histograms: words for the laws that play a stream. -/
set_option linter.unusedVariables false
set_option linter.unusedSimpArgs false
set_option linter.unusedSectionVars false
set_option linter.unnecessarySimpa false
namespace Go.Proofs.Ytaiepjcnncajcaa
open Go.RowKit
theorem row_sx_set {w : World} {b : Nat} {t : TypeId} {x0 x1 x2 x3 x4 x5 : Value} (h : Row w b t #[x0, x1, x2, x3, x4, x5]) (u0 u1 u2 u3 u4 u5 : Value) : Row ((((((w.setCell ⟨b, 0, none⟩ u0).setCell ⟨b, 1, none⟩ u1).setCell ⟨b, 2, none⟩ u2).setCell ⟨b, 3, none⟩ u3).setCell ⟨b, 4, none⟩ u4).setCell ⟨b, 5, none⟩ u5) b t #[u0, u1, u2, u3, u4, u5] := by
  have h0 : Row (w.setCell ⟨b, 0, none⟩ u0) b t #[u0, x1, x2, x3, x4, x5] := row_set h 0 u0
  have h1 : Row ((w.setCell ⟨b, 0, none⟩ u0).setCell ⟨b, 1, none⟩ u1) b t #[u0, u1, x2, x3, x4, x5] := row_set h0 1 u1
  have h2 : Row (((w.setCell ⟨b, 0, none⟩ u0).setCell ⟨b, 1, none⟩ u1).setCell ⟨b, 2, none⟩ u2) b t #[u0, u1, u2, x3, x4, x5] := row_set h1 2 u2
  have h3 : Row ((((w.setCell ⟨b, 0, none⟩ u0).setCell ⟨b, 1, none⟩ u1).setCell ⟨b, 2, none⟩ u2).setCell ⟨b, 3, none⟩ u3) b t #[u0, u1, u2, u3, x4, x5] := row_set h2 3 u3
  have h4 : Row (((((w.setCell ⟨b, 0, none⟩ u0).setCell ⟨b, 1, none⟩ u1).setCell ⟨b, 2, none⟩ u2).setCell ⟨b, 3, none⟩ u3).setCell ⟨b, 4, none⟩ u4) b t #[u0, u1, u2, u3, u4, x5] := row_set h3 4 u4
  have h5 : Row ((((((w.setCell ⟨b, 0, none⟩ u0).setCell ⟨b, 1, none⟩ u1).setCell ⟨b, 2, none⟩ u2).setCell ⟨b, 3, none⟩ u3).setCell ⟨b, 4, none⟩ u4).setCell ⟨b, 5, none⟩ u5) b t #[u0, u1, u2, u3, u4, u5] := row_set h4 5 u5
  exact h5
theorem row_sx_other {w : World} {b b' : Nat} {t : TypeId} {cs : Array Value} (h : Row w b' t cs) (hne : b' ≠ b) (u0 u1 u2 u3 u4 u5 : Value) : Row ((((((w.setCell ⟨b, 0, none⟩ u0).setCell ⟨b, 1, none⟩ u1).setCell ⟨b, 2, none⟩ u2).setCell ⟨b, 3, none⟩ u3).setCell ⟨b, 4, none⟩ u4).setCell ⟨b, 5, none⟩ u5) b' t cs := row_other (row_other (row_other (row_other (row_other (row_other (h) hne u0) hne u1) hne u2) hne u3) hne u4) hne u5
theorem below_sx {B b : Nat} {w0 w : World} (h : Below B w0 w) (hb : B ≤ b) (u0 u1 u2 u3 u4 u5 : Value) : Below B w0 ((((((w.setCell ⟨b, 0, none⟩ u0).setCell ⟨b, 1, none⟩ u1).setCell ⟨b, 2, none⟩ u2).setCell ⟨b, 3, none⟩ u3).setCell ⟨b, 4, none⟩ u4).setCell ⟨b, 5, none⟩ u5) := ((((((h.setCell (p := ⟨b, 0, none⟩) hb u0).setCell (p := ⟨b, 1, none⟩) hb u1).setCell (p := ⟨b, 2, none⟩) hb u2).setCell (p := ⟨b, 3, none⟩) hb u3).setCell (p := ⟨b, 4, none⟩) hb u4).setCell (p := ⟨b, 5, none⟩) hb u5)
theorem size_sx {b : Nat} {w : World} (u0 u1 u2 u3 u4 u5 : Value) : ((((((w.setCell ⟨b, 0, none⟩ u0).setCell ⟨b, 1, none⟩ u1).setCell ⟨b, 2, none⟩ u2).setCell ⟨b, 3, none⟩ u3).setCell ⟨b, 4, none⟩ u4).setCell ⟨b, 5, none⟩ u5).heap.size = w.heap.size := by simp only [size_setCell]
theorem MIn.other {A : Option Addr} {m c : Nat} {l : List Mk} {w : World} (h : MIn A m c l w) {p : Addr} (hp : ∀ a, A = some a → a.block ≠ p.block) (v : Value) : MIn A m c l (w.setCell p v) :=
  h.keep (by rw [size_setCell]; exact Nat.le_refl _) (fun a e => Below.heap_setCell w p v a.block (hp a e))
theorem MIn.sx {A : Option Addr} {m c b : Nat} {l : List Mk} {w : World} (h : MIn A m c l w) (hp : ∀ a, A = some a → a.block ≠ b) (u0 u1 u2 u3 u4 u5 : Value) : MIn A m c l ((((((w.setCell ⟨b, 0, none⟩ u0).setCell ⟨b, 1, none⟩ u1).setCell ⟨b, 2, none⟩ u2).setCell ⟨b, 3, none⟩ u3).setCell ⟨b, 4, none⟩ u4).setCell ⟨b, 5, none⟩ u5) := ((((((h.other (p := ⟨b, 0, none⟩) hp u0).other (p := ⟨b, 1, none⟩) hp u1).other (p := ⟨b, 2, none⟩) hp u2).other (p := ⟨b, 3, none⟩) hp u3).other (p := ⟨b, 4, none⟩) hp u4).other (p := ⟨b, 5, none⟩) hp u5)
/-- Items of the law's own. -/
def LIn (A : Option Addr) (n : Nat) (l : List Itm) (w : World) : Prop := Reads w w.heap.size 2 A n (icells l)
theorem LIn.below {A : Option Addr} {n : Nat} {l : List Itm} {w w' : World} (h : LIn A n l w) (hb : Below w.heap.size w w') : LIn A n l w' := (Reads.below h hb).more hb.size
theorem LIn.other {A : Option Addr} {n : Nat} {l : List Itm} {w : World} (h : LIn A n l w) {p : Addr} (hp : ∀ a, A = some a → a.block ≠ p.block) (v : Value) : LIn A n l (w.setCell p v) := by
  refine ⟨h.1, fun hn => ?_⟩
  obtain ⟨ad, e, hb, hc⟩ := h.2 hn
  exact ⟨ad, e, by rw [size_setCell]; exact hb, fun j u hu => (World.cell?_of_block (by rw [block_of_add]; exact Below.heap_setCell w p v ad.block (hp ad e))).trans (hc j u hu)⟩
theorem LIn.sx {A : Option Addr} {n b : Nat} {l : List Itm} {w : World} (h : LIn A n l w) (hp : ∀ a, A = some a → a.block ≠ b) (u0 u1 u2 u3 u4 u5 : Value) : LIn A n l ((((((w.setCell ⟨b, 0, none⟩ u0).setCell ⟨b, 1, none⟩ u1).setCell ⟨b, 2, none⟩ u2).setCell ⟨b, 3, none⟩ u3).setCell ⟨b, 4, none⟩ u4).setCell ⟨b, 5, none⟩ u5) := ((((((h.other (p := ⟨b, 0, none⟩) hp u0).other (p := ⟨b, 1, none⟩) hp u1).other (p := ⟨b, 2, none⟩) hp u2).other (p := ⟨b, 3, none⟩) hp u3).other (p := ⟨b, 4, none⟩) hp u4).other (p := ⟨b, 5, none⟩) hp u5)
theorem LIn.item {A : Option Addr} {n i : Nat} {l : List Itm} {w : World} (h : LIn A n l w) (hi : i < n) : ∃ ad, A = some ad ∧ ad.block < w.heap.size ∧ ItmCells w (ad.add (i * 2)) (itmAt l i) := Reads.itm h hi
theorem dropM_len (now w : Int) (l : List Mk) : (dropM now w l).length ≤ l.length := by
  obtain ⟨k, _, e⟩ := dropM_suffix now w l
  rw [e, List.length_drop]
  omega
/-- What becomes of a valid state by a value. -/
theorem spAdd_cases {wd k cap now seq v : Int} {l : List Mk} (h : spValid wd k cap now seq l) (h0 : (-4096) ≤ v ∧ v ≤ 4096) :
    (¬ smFull cap seq l ∧ spAdd wd k cap now seq l v = ⟨wd, k, cap, now, seq + 1, prune (closeB k) (incl l (seq + 1) now v), 0⟩ ∧ spValid wd k cap now (seq + 1) (prune (closeB k) (incl l (seq + 1) now v)) ∧ (prune (closeB k) (incl l (seq + 1) now v)).length ≤ l.length + 1) ∨ spAdd wd k cap now seq l v = spZero 5 := by
  by_cases hf : smFull cap seq l
  · exact .inr (spAdd_c (spvalE_yes h) (by omega) hf)
  · refine .inl ⟨hf, spAdd_d (spvalE_yes h) (by omega) hf, spAdd_valid h (by omega) hf, ?_⟩
    have := prune_len (closeB k) _ (incl l (seq + 1) now v) (Nat.le_refl _)
    rw [incl_len] at this
    exact this
end Go.Proofs.Ytaiepjcnncajcaa
end
section
/- Intervals of integers, walked (out of AskB). -/
set_option linter.unusedVariables false
set_option linter.unusedSimpArgs false
set_option linter.unusedSectionVars false
set_option linter.unnecessarySimpa false
namespace Go.Proofs.Ytaiepjcnncajcaa
open Go.RowKit
theorem pratio (n : Int) (w : World) : Calls Try.prog 76 #[.int .i64 n] w fun e w' => e = .returned (.agg #[.int .i64 n, .int .i64 1]) ∧ Below w.heap.size w w' := by
  go_enter Try.func76, Try.ntmps76
  go_wp2
  exact bodyPost_ret (v := .agg #[.int .i64 n, .int .i64 1]) (by simp [results, Try.results76, go_sem]) rfl ⟨rfl, by (repeat (first | exact Below.refl _ _ | refine Below.setCell ?_ (by first | (simp; done) | (simp; omega) | omega) _ | refine Below.alloc ?_ (by first | (simp; done) | (simp; omega) | omega) _ | refine Below.drew ?_ | refine Below.trans ?_ (Below.mono (by assumption) (by first | (simp; done) | (simp; omega) | omega))))⟩
theorem rratio (n : Int) (w : World) : Calls Try.prog 104 #[.int .i64 n] w fun e w' => e = .returned (.agg #[.int .i64 n, .int .i64 1]) ∧ Below w.heap.size w w' := by
  go_enter Try.func104, Try.ntmps104
  go_wp2
  exact bodyPost_ret (v := .agg #[.int .i64 n, .int .i64 1]) (by simp [results, Try.results104, go_sem]) rfl ⟨rfl, by (repeat (first | exact Below.refl _ _ | refine Below.setCell ?_ (by first | (simp; done) | (simp; omega) | omega) _ | refine Below.alloc ?_ (by first | (simp; done) | (simp; omega) | omega) _ | refine Below.drew ?_ | refine Below.trans ?_ (Below.mono (by assumption) (by first | (simp; done) | (simp; omega) | omega))))⟩
theorem below_six {B b : Nat} {w0 w : World} (h : Below B w0 w) (hb : B ≤ b) (u0 u1 u2 u3 u4 u5 : Value) : Below B w0 ((((((w.setCell ⟨b, 0, none⟩ u0).setCell ⟨b, 1, none⟩ u1).setCell ⟨b, 2, none⟩ u2).setCell ⟨b, 3, none⟩ u3).setCell ⟨b, 4, none⟩ u4).setCell ⟨b, 5, none⟩ u5) :=
  (((((h.setCell (p := ⟨b, 0, none⟩) hb u0).setCell (p := ⟨b, 1, none⟩) hb u1).setCell (p := ⟨b, 2, none⟩) hb u2).setCell (p := ⟨b, 3, none⟩) hb u3).setCell (p := ⟨b, 4, none⟩) hb u4).setCell (p := ⟨b, 5, none⟩) hb u5
end Go.Proofs.Ytaiepjcnncajcaa
end
section
/- Bounds: ratios in lowest terms, walked. -/
set_option linter.unusedVariables false
set_option linter.unusedSimpArgs false
set_option linter.unusedSectionVars false
set_option linter.unnecessarySimpa false
namespace Go.Proofs.Ytaiepjcnncajcaa
open Go.RowKit
theorem rabsN (a : Nat) (h : a < 9223372036854775808) (w : World) : Calls Try.prog 89 #[.int .i64 (a : Nat)] w fun e w' => e = .returned (.int .u64 (a : Nat)) ∧ w' = w := by
  have t0 : ¬ (a : Int) < 0 := by omega
  have wa : IntKind.u64.wrap (a : Int) = (a : Int) := IntWalk.u64_in _ (by omega)
  clear h
  go_enter Try.func89, Try.ntmps89
  go_wp2
  go_ret
  exact ⟨rfl, rfl⟩
set_option maxHeartbeats 2000000 in
theorem pratval (a b : Nat) (w : World) (ha : a < 9223372036854775808) (hb0 : 1 ≤ b) (hb : b < 9223372036854775808) (hg : Nat.gcd a b = 1) : Calls Try.prog 60 #[.agg #[.int .i64 (a : Nat), .int .i64 (b : Nat)]] w fun e w' => e = .returned (.bool true) ∧ Below w.heap.size w w' := by
  have PZ := Lib.hid (fun w => psize a ha w)
  have PA := Lib.hid (fun w => pof a (by omega) w)
  have PB := Lib.hid (fun w => pof b (by omega) w)
  have PO := Lib.hid (fun w => pof 1 (by omega) w)
  have PG := fun w => pgcd a b (by unfold big; omega) (by unfold big; omega) w
  rw [hg] at PG
  replace PG := Lib.hid PG
  have i1 : (1 : Int) ≤ (b : Int) := by omega
  have d1 : decide ((1 : Int) ≤ (b : Int)) = true := decide_eq_true i1
  have wb : IntKind.u64.wrap (b : Int) = (b : Int) := IntWalk.u64_in _ (by omega)
  clear hg
  go_enter Try.func60, Try.ntmps60
  go_upto_region 1 with (fail)
  have X : Row (w.alloc (.cells #[.int .i64 (a : Nat), .int .i64 (b : Nat)] 35)) w.heap.size 35 #[.int .i64 (a : Nat), .int .i64 (b : Nat)] := row_new rfl
  have o : Below w.heap.size w (w.alloc (.cells #[.int .i64 (a : Nat), .int .i64 (b : Nat)] 35)) := by (repeat (first | exact Below.refl _ _ | refine Below.setCell ?_ (by first | (simp; done) | (simp; omega) | omega) _ | refine Below.alloc ?_ (by first | (simp; done) | (simp; omega) | omega) _ | refine Below.drew ?_ | refine Below.trans ?_ (Below.mono (by assumption) (by first | (simp; done) | (simp; omega) | omega))))
  generalize (w.alloc (.cells #[.int .i64 (a : Nat), .int .i64 (b : Nat)] 35)) = w1 at X o ⊢
  refine wp_region_free0 [0, 1, 2, 3, 4, 5, 6, 7, 8, 9, 10, 11, 12, 13, 14, 15] [] [0, 1, 2, 3, 4, 5, 6, 7, 8, 9, 10, 11, 12, 13, 14, 15] 16 (fun w' => Row w' (w.heap.size) 35 #[.int .i64 (a : Nat), .int .i64 (b : Nat)] ∧ Below w.heap.size w w') (by kernel_rfl) (by kernel_rfl) (fun _ _ d _ _ h => by cases d <;> exact h) ?_ ?_
  · exact ⟨X, o.drew⟩
  (refine plan_pure ?_ rfl rfl (fun w' => ?_) ?_; rotate_left; (go_simp; try with_reducible rfl); simp only [Act.put, List.setIfInBounds_toArray, List.set_cons_zero, List.set_cons_succ])
  (refine plan_val ?_ rfl rfl rfl (fun w' hS => ?_) ?_; rotate_left; (obtain ⟨X0, X1, Xf0, Xf1⟩ := row_two hS.1; go_simp; try with_reducible rfl); simp only [Act.put, List.setIfInBounds_toArray, List.set_cons_zero, List.set_cons_succ])
  (refine plan_pure ?_ rfl rfl (fun w' => ?_) ?_; rotate_left; (go_simp; try with_reducible rfl); simp only [Act.put, List.setIfInBounds_toArray, List.set_cons_zero, List.set_cons_succ])
  (refine plan_pure ?_ rfl rfl (fun w' => ?_) ?_; rotate_left; (go_simp; try with_reducible rfl); simp only [Act.put, List.setIfInBounds_toArray, List.set_cons_zero, List.set_cons_succ])
  (refine plan_pure ?_ rfl rfl (fun w' => ?_) ?_; rotate_left; (go_simp; try with_reducible rfl); simp only [Act.put, List.setIfInBounds_toArray, List.set_cons_zero, List.set_cons_succ])
  (refine plan_val ?_ rfl rfl rfl (fun w' hS => ?_) ?_; rotate_left; (obtain ⟨X0, X1, Xf0, Xf1⟩ := row_two hS.1; go_simp; try with_reducible rfl); simp only [Act.put, List.setIfInBounds_toArray, List.set_cons_zero, List.set_cons_succ])
  refine plan_call (.int .u64 (a : Nat)) 86 #[.int .i64 (a : Nat)] rfl rfl rfl (fun _ _ h hb => ⟨row_call h.1 hb, h.2.trans (hb.mono h.2.size)⟩) (fun w' hS => by obtain ⟨X0, X1, Xf0, Xf1⟩ := row_two hS.1; go_simp) (fun w' hS => (PZ.out w').mono fun _ _ h => ⟨h.1, by rw [h.2]; exact Below.refl _ _⟩) ?_
  simp only [Act.put, List.setIfInBounds_toArray, List.set_cons_zero, List.set_cons_succ]
  refine plan_call (W a) 51 #[.int .u64 (a : Nat)] rfl rfl rfl (fun _ _ h hb => ⟨row_call h.1 hb, h.2.trans (hb.mono h.2.size)⟩) (fun w' hS => by obtain ⟨X0, X1, Xf0, Xf1⟩ := row_two hS.1; go_simp) (fun w' hS => PA.out w') ?_
  simp only [Act.put, List.setIfInBounds_toArray, List.set_cons_zero, List.set_cons_succ]
  (refine plan_pure ?_ rfl rfl (fun w' => ?_) ?_; rotate_left; (go_simp; try with_reducible rfl); simp only [Act.put, List.setIfInBounds_toArray, List.set_cons_zero, List.set_cons_succ])
  (refine plan_val ?_ rfl rfl rfl (fun w' hS => ?_) ?_; rotate_left; (obtain ⟨X0, X1, Xf0, Xf1⟩ := row_two hS.1; go_simp; try with_reducible rfl); simp only [Act.put, List.setIfInBounds_toArray, List.set_cons_zero, List.set_cons_succ])
  (refine plan_pure ?_ rfl rfl (fun w' => ?_) ?_; rotate_left; (go_simp; try with_reducible rfl); simp only [Act.put, List.setIfInBounds_toArray, List.set_cons_zero, List.set_cons_succ])
  refine plan_call (W b) 51 #[.int .u64 (b : Nat)] rfl rfl rfl (fun _ _ h hb => ⟨row_call h.1 hb, h.2.trans (hb.mono h.2.size)⟩) (fun w' hS => by obtain ⟨X0, X1, Xf0, Xf1⟩ := row_two hS.1; go_simp) (fun w' hS => PB.out w') ?_
  simp only [Act.put, List.setIfInBounds_toArray, List.set_cons_zero, List.set_cons_succ]
  refine plan_call (W 1) 95 #[W a, W b] rfl rfl rfl (fun _ _ h hb => ⟨row_call h.1 hb, h.2.trans (hb.mono h.2.size)⟩) (fun w' hS => by obtain ⟨X0, X1, Xf0, Xf1⟩ := row_two hS.1; go_simp) (fun w' hS => PG.out w') ?_
  simp only [Act.put, List.setIfInBounds_toArray, List.set_cons_zero, List.set_cons_succ]
  refine plan_call (W 1) 51 #[.int .u64 1] rfl rfl rfl (fun _ _ h hb => ⟨row_call h.1 hb, h.2.trans (hb.mono h.2.size)⟩) (fun w' hS => by obtain ⟨X0, X1, Xf0, Xf1⟩ := row_two hS.1; go_simp) (fun w' hS => PO.out w') ?_
  simp only [Act.put, List.setIfInBounds_toArray, List.set_cons_zero, List.set_cons_succ]
  (refine plan_pure ?_ rfl rfl (fun w' => ?_) ?_; rotate_left; (go_simp; try with_reducible rfl); simp only [Act.put, List.setIfInBounds_toArray, List.set_cons_zero, List.set_cons_succ])
  (refine plan_pure ?_ rfl rfl (fun w' => ?_) ?_; rotate_left; (go_simp; try with_reducible rfl); simp only [Act.put, List.setIfInBounds_toArray, List.set_cons_zero, List.set_cons_succ])
  refine plan_nil ?_
  intro w3 L
  simp only [List.drop_succ_cons, List.drop_zero]
  try simp only [Act.put, List.setIfInBounds_toArray, List.set_cons_zero, List.set_cons_succ]
  have o2 := L.2
  clear L X o
  go_wp2
  go_ret
  exact ⟨rfl, o2⟩
set_option maxHeartbeats 2000000 in
theorem rratval (a b : Nat) (w : World) (ha : a < 9223372036854775808) (hb0 : 1 ≤ b) (hb : b < 9223372036854775808) (hg : Nat.gcd a b = 1) : Calls Try.prog 105 #[.agg #[.int .i64 (a : Nat), .int .i64 (b : Nat)]] w fun e w' => e = .returned (.bool true) ∧ Below w.heap.size w w' := by
  have PZ := Lib.hid (fun w => rabsN a ha w)
  have PA := Lib.hid (fun w => rof a (by omega) w)
  have PB := Lib.hid (fun w => rof b (by omega) w)
  have PO := Lib.hid (fun w => rof 1 (by omega) w)
  have PG := fun w => rgcd a b (by unfold big; omega) (by unfold big; omega) w
  rw [hg] at PG
  replace PG := Lib.hid PG
  have i1 : (1 : Int) ≤ (b : Int) := by omega
  have d1 : decide ((1 : Int) ≤ (b : Int)) = true := decide_eq_true i1
  have wb : IntKind.u64.wrap (b : Int) = (b : Int) := IntWalk.u64_in _ (by omega)
  clear hg
  go_enter Try.func105, Try.ntmps105
  go_upto_region 1 with (fail)
  have X : Row (w.alloc (.cells #[.int .i64 (a : Nat), .int .i64 (b : Nat)] 35)) w.heap.size 35 #[.int .i64 (a : Nat), .int .i64 (b : Nat)] := row_new rfl
  have o : Below w.heap.size w (w.alloc (.cells #[.int .i64 (a : Nat), .int .i64 (b : Nat)] 35)) := by (repeat (first | exact Below.refl _ _ | refine Below.setCell ?_ (by first | (simp; done) | (simp; omega) | omega) _ | refine Below.alloc ?_ (by first | (simp; done) | (simp; omega) | omega) _ | refine Below.drew ?_ | refine Below.trans ?_ (Below.mono (by assumption) (by first | (simp; done) | (simp; omega) | omega))))
  generalize (w.alloc (.cells #[.int .i64 (a : Nat), .int .i64 (b : Nat)] 35)) = w1 at X o ⊢
  refine wp_region_free0 [0, 1, 2, 3, 4, 5, 6, 7, 8, 9, 10, 11, 12, 13, 14, 15] [] [0, 1, 2, 3, 4, 5, 6, 7, 8, 9, 10, 11, 12, 13, 14, 15] 16 (fun w' => Row w' (w.heap.size) 35 #[.int .i64 (a : Nat), .int .i64 (b : Nat)] ∧ Below w.heap.size w w') (by kernel_rfl) (by kernel_rfl) (fun _ _ d _ _ h => by cases d <;> exact h) ?_ ?_
  · exact ⟨X, o.drew⟩
  (refine plan_pure ?_ rfl rfl (fun w' => ?_) ?_; rotate_left; (go_simp; try with_reducible rfl); simp only [Act.put, List.setIfInBounds_toArray, List.set_cons_zero, List.set_cons_succ])
  (refine plan_val ?_ rfl rfl rfl (fun w' hS => ?_) ?_; rotate_left; (obtain ⟨X0, X1, Xf0, Xf1⟩ := row_two hS.1; go_simp; try with_reducible rfl); simp only [Act.put, List.setIfInBounds_toArray, List.set_cons_zero, List.set_cons_succ])
  (refine plan_pure ?_ rfl rfl (fun w' => ?_) ?_; rotate_left; (go_simp; try with_reducible rfl); simp only [Act.put, List.setIfInBounds_toArray, List.set_cons_zero, List.set_cons_succ])
  (refine plan_pure ?_ rfl rfl (fun w' => ?_) ?_; rotate_left; (go_simp; try with_reducible rfl); simp only [Act.put, List.setIfInBounds_toArray, List.set_cons_zero, List.set_cons_succ])
  (refine plan_pure ?_ rfl rfl (fun w' => ?_) ?_; rotate_left; (go_simp; try with_reducible rfl); simp only [Act.put, List.setIfInBounds_toArray, List.set_cons_zero, List.set_cons_succ])
  (refine plan_val ?_ rfl rfl rfl (fun w' hS => ?_) ?_; rotate_left; (obtain ⟨X0, X1, Xf0, Xf1⟩ := row_two hS.1; go_simp; try with_reducible rfl); simp only [Act.put, List.setIfInBounds_toArray, List.set_cons_zero, List.set_cons_succ])
  refine plan_call (.int .u64 (a : Nat)) 89 #[.int .i64 (a : Nat)] rfl rfl rfl (fun _ _ h hb => ⟨row_call h.1 hb, h.2.trans (hb.mono h.2.size)⟩) (fun w' hS => by obtain ⟨X0, X1, Xf0, Xf1⟩ := row_two hS.1; go_simp) (fun w' hS => (PZ.out w').mono fun _ _ h => ⟨h.1, by rw [h.2]; exact Below.refl _ _⟩) ?_
  simp only [Act.put, List.setIfInBounds_toArray, List.set_cons_zero, List.set_cons_succ]
  refine plan_call (W a) 88 #[.int .u64 (a : Nat)] rfl rfl rfl (fun _ _ h hb => ⟨row_call h.1 hb, h.2.trans (hb.mono h.2.size)⟩) (fun w' hS => by obtain ⟨X0, X1, Xf0, Xf1⟩ := row_two hS.1; go_simp) (fun w' hS => PA.out w') ?_
  simp only [Act.put, List.setIfInBounds_toArray, List.set_cons_zero, List.set_cons_succ]
  (refine plan_pure ?_ rfl rfl (fun w' => ?_) ?_; rotate_left; (go_simp; try with_reducible rfl); simp only [Act.put, List.setIfInBounds_toArray, List.set_cons_zero, List.set_cons_succ])
  (refine plan_val ?_ rfl rfl rfl (fun w' hS => ?_) ?_; rotate_left; (obtain ⟨X0, X1, Xf0, Xf1⟩ := row_two hS.1; go_simp; try with_reducible rfl); simp only [Act.put, List.setIfInBounds_toArray, List.set_cons_zero, List.set_cons_succ])
  (refine plan_pure ?_ rfl rfl (fun w' => ?_) ?_; rotate_left; (go_simp; try with_reducible rfl); simp only [Act.put, List.setIfInBounds_toArray, List.set_cons_zero, List.set_cons_succ])
  refine plan_call (W b) 88 #[.int .u64 (b : Nat)] rfl rfl rfl (fun _ _ h hb => ⟨row_call h.1 hb, h.2.trans (hb.mono h.2.size)⟩) (fun w' hS => by obtain ⟨X0, X1, Xf0, Xf1⟩ := row_two hS.1; go_simp) (fun w' hS => PB.out w') ?_
  simp only [Act.put, List.setIfInBounds_toArray, List.set_cons_zero, List.set_cons_succ]
  refine plan_call (W 1) 108 #[W a, W b] rfl rfl rfl (fun _ _ h hb => ⟨row_call h.1 hb, h.2.trans (hb.mono h.2.size)⟩) (fun w' hS => by obtain ⟨X0, X1, Xf0, Xf1⟩ := row_two hS.1; go_simp) (fun w' hS => PG.out w') ?_
  simp only [Act.put, List.setIfInBounds_toArray, List.set_cons_zero, List.set_cons_succ]
  refine plan_call (W 1) 88 #[.int .u64 1] rfl rfl rfl (fun _ _ h hb => ⟨row_call h.1 hb, h.2.trans (hb.mono h.2.size)⟩) (fun w' hS => by obtain ⟨X0, X1, Xf0, Xf1⟩ := row_two hS.1; go_simp) (fun w' hS => PO.out w') ?_
  simp only [Act.put, List.setIfInBounds_toArray, List.set_cons_zero, List.set_cons_succ]
  (refine plan_pure ?_ rfl rfl (fun w' => ?_) ?_; rotate_left; (go_simp; try with_reducible rfl); simp only [Act.put, List.setIfInBounds_toArray, List.set_cons_zero, List.set_cons_succ])
  (refine plan_pure ?_ rfl rfl (fun w' => ?_) ?_; rotate_left; (go_simp; try with_reducible rfl); simp only [Act.put, List.setIfInBounds_toArray, List.set_cons_zero, List.set_cons_succ])
  refine plan_nil ?_
  intro w3 L
  simp only [List.drop_succ_cons, List.drop_zero]
  try simp only [Act.put, List.setIfInBounds_toArray, List.set_cons_zero, List.set_cons_succ]
  have o2 := L.2
  clear L X o
  go_wp2
  go_ret
  exact ⟨rfl, o2⟩
theorem pexactR (a b : Nat) (w : World) (ha : a < 9223372036854775808) (hb0 : 1 ≤ b) (hb : b < 9223372036854775808) (hg : Nat.gcd a b = 1) : Calls Try.prog 75 #[.agg #[.int .i64 (a : Nat), .int .i64 (b : Nat)]] w fun e w' => e = .returned (.agg #[.int .i64 (a : Nat), .int .i64 (b : Nat), .int .i64 (a : Nat), .int .i64 (b : Nat), .int .i64 (a : Nat), .int .i64 (b : Nat)]) ∧ Below w.heap.size w w' := by
  have PV := Lib.hid (fun w => pratval a b w ha hb0 hb hg)
  clear ha hb0 hb hg
  go_enter Try.func75, Try.ntmps75
  go_wp2_with fail
  have X : Row ((w.alloc (.cells #[.int .i64 (a : Nat), .int .i64 (b : Nat)] 35)).alloc (.cells #[.int .i64 0, .int .i64 0, .int .i64 0, .int .i64 0, .int .i64 0, .int .i64 0] 45)) w.heap.size 35 #[.int .i64 (a : Nat), .int .i64 (b : Nat)] := row_alloc (row_new rfl) _
  have R : Row ((w.alloc (.cells #[.int .i64 (a : Nat), .int .i64 (b : Nat)] 35)).alloc (.cells #[.int .i64 0, .int .i64 0, .int .i64 0, .int .i64 0, .int .i64 0, .int .i64 0] 45)) (w.heap.size + 1) 45 #[.int .i64 0, .int .i64 0, .int .i64 0, .int .i64 0, .int .i64 0, .int .i64 0] := row_new (by simp)
  have o : Below w.heap.size w ((w.alloc (.cells #[.int .i64 (a : Nat), .int .i64 (b : Nat)] 35)).alloc (.cells #[.int .i64 0, .int .i64 0, .int .i64 0, .int .i64 0, .int .i64 0, .int .i64 0] 45)) := by (repeat (first | exact Below.refl _ _ | refine Below.setCell ?_ (by first | (simp; done) | (simp; omega) | omega) _ | refine Below.alloc ?_ (by first | (simp; done) | (simp; omega) | omega) _ | refine Below.drew ?_ | refine Below.trans ?_ (Below.mono (by assumption) (by first | (simp; done) | (simp; omega) | omega))))
  generalize ((w.alloc (.cells #[.int .i64 (a : Nat), .int .i64 (b : Nat)] 35)).alloc (.cells #[.int .i64 0, .int .i64 0, .int .i64 0, .int .i64 0, .int .i64 0, .int .i64 0] 45)) = w1 at X R o ⊢
  refine (PV.out _).mono ?_
  rintro e w2 ⟨rfl, hb2⟩
  replace X := row_call X hb2
  replace R := row_call R hb2
  replace o := o.trans (hb2.mono o.size)
  clear hb2
  obtain ⟨X0, X1, Xf0, Xf1⟩ := row_two X
  obtain ⟨R0, R1, R2, R3, R4, R5, Rf0, Rf1, Rf2, Rf3, Rf4, Rf5⟩ := row_six R
  go_wp2
  exact bodyPost_ret (v := .agg #[.int .i64 (a : Nat), .int .i64 (b : Nat), .int .i64 (a : Nat), .int .i64 (b : Nat), .int .i64 (a : Nat), .int .i64 (b : Nat)]) (by simp [results, Try.results75, go_sem, R0, R1, R2, R3, R4, R5]) rfl ⟨rfl, below_six o (by omega) _ _ _ _ _ _⟩
theorem rexactR (a b : Nat) (w : World) (ha : a < 9223372036854775808) (hb0 : 1 ≤ b) (hb : b < 9223372036854775808) (hg : Nat.gcd a b = 1) : Calls Try.prog 80 #[.agg #[.int .i64 (a : Nat), .int .i64 (b : Nat)]] w fun e w' => e = .returned (.agg #[.int .i64 (a : Nat), .int .i64 (b : Nat), .int .i64 (a : Nat), .int .i64 (b : Nat), .int .i64 (a : Nat), .int .i64 (b : Nat)]) ∧ Below w.heap.size w w' := by
  have PV := Lib.hid (fun w => rratval a b w ha hb0 hb hg)
  clear ha hb0 hb hg
  go_enter Try.func80, Try.ntmps80
  go_wp2_with fail
  have X : Row ((w.alloc (.cells #[.int .i64 (a : Nat), .int .i64 (b : Nat)] 35)).alloc (.cells #[.int .i64 0, .int .i64 0, .int .i64 0, .int .i64 0, .int .i64 0, .int .i64 0] 45)) w.heap.size 35 #[.int .i64 (a : Nat), .int .i64 (b : Nat)] := row_alloc (row_new rfl) _
  have R : Row ((w.alloc (.cells #[.int .i64 (a : Nat), .int .i64 (b : Nat)] 35)).alloc (.cells #[.int .i64 0, .int .i64 0, .int .i64 0, .int .i64 0, .int .i64 0, .int .i64 0] 45)) (w.heap.size + 1) 45 #[.int .i64 0, .int .i64 0, .int .i64 0, .int .i64 0, .int .i64 0, .int .i64 0] := row_new (by simp)
  have o : Below w.heap.size w ((w.alloc (.cells #[.int .i64 (a : Nat), .int .i64 (b : Nat)] 35)).alloc (.cells #[.int .i64 0, .int .i64 0, .int .i64 0, .int .i64 0, .int .i64 0, .int .i64 0] 45)) := by (repeat (first | exact Below.refl _ _ | refine Below.setCell ?_ (by first | (simp; done) | (simp; omega) | omega) _ | refine Below.alloc ?_ (by first | (simp; done) | (simp; omega) | omega) _ | refine Below.drew ?_ | refine Below.trans ?_ (Below.mono (by assumption) (by first | (simp; done) | (simp; omega) | omega))))
  generalize ((w.alloc (.cells #[.int .i64 (a : Nat), .int .i64 (b : Nat)] 35)).alloc (.cells #[.int .i64 0, .int .i64 0, .int .i64 0, .int .i64 0, .int .i64 0, .int .i64 0] 45)) = w1 at X R o ⊢
  refine (PV.out _).mono ?_
  rintro e w2 ⟨rfl, hb2⟩
  replace X := row_call X hb2
  replace R := row_call R hb2
  replace o := o.trans (hb2.mono o.size)
  clear hb2
  obtain ⟨X0, X1, Xf0, Xf1⟩ := row_two X
  obtain ⟨R0, R1, R2, R3, R4, R5, Rf0, Rf1, Rf2, Rf3, Rf4, Rf5⟩ := row_six R
  go_wp2
  exact bodyPost_ret (v := .agg #[.int .i64 (a : Nat), .int .i64 (b : Nat), .int .i64 (a : Nat), .int .i64 (b : Nat), .int .i64 (a : Nat), .int .i64 (b : Nat)]) (by simp [results, Try.results80, go_sem, R0, R1, R2, R3, R4, R5]) rfl ⟨rfl, below_six o (by omega) _ _ _ _ _ _⟩
end Go.Proofs.Ytaiepjcnncajcaa
end
section
/- Plain facts on products of signed numbers: no program is in sight. -/
set_option linter.unusedVariables false
set_option linter.unusedSimpArgs false
set_option linter.unusedSectionVars false
set_option linter.unnecessarySimpa false
namespace Go.Proofs.Ytaiepjcnncajcaa
open Go.RowKit
/-- The order of two integers. -/
def icmp (p q : Int) : Int := if p < q then -1 else if p = q then 0 else 1
/-- The magnitude of a product. -/
def pabs (a b : Int) : Nat := a.natAbs * b.natAbs
/-- The product is below 0 as far as the signs say. -/
def sneg (a b : Int) : Bool := decide (a < 0) != decide (b < 0)
/-- The product is below 0. -/
def pneg (a b : Int) : Bool := sneg a b && !decide (pabs a b = 0)
/-- The sign. -/
def isign (a : Int) : Int := if a < 0 then -1 else if 0 < a then 1 else 0
theorem i64_abs {a : Int} (h : -9223372036854775808 ≤ a ∧ a ≤ 9223372036854775807) : a.natAbs < 18446744073709551616 := by omega
theorem pabs_eq (a b : Int) : pabs a b = (a * b).natAbs := (Int.natAbs_mul a b).symm
theorem pneg_eq (a b : Int) : pneg a b = decide (a * b < 0) := by
  have hz : pabs a b = 0 ↔ a = 0 ∨ b = 0 := by
    unfold pabs
    rw [Nat.mul_eq_zero]
    omega
  unfold pneg sneg
  rcases Int.lt_trichotomy a 0 with h | h | h <;> rcases Int.lt_trichotomy b 0 with k | k | k
  · have := Int.mul_pos_of_neg_of_neg h k
    simp [h, k]; omega
  · subst k; simp [h, hz]
  · have := Int.mul_neg_of_neg_of_pos h k
    have n0 : ¬ b < 0 := by omega
    have : ¬ (pabs a b = 0) := by rw [hz]; omega
    simp [h, n0, this]; omega
  · subst h; simp [k, hz]
  · subst h; subst k; simp
  · subst h; simp [hz] <;> omega
  · have := Int.mul_neg_of_pos_of_neg h k
    have n0 : ¬ a < 0 := by omega
    have : ¬ (pabs a b = 0) := by rw [hz]; omega
    simp [k, n0, this]; omega
  · subst k; simp [hz] <;> omega
  · have := Int.mul_pos h k
    have n0 : ¬ a < 0 := by omega
    have n1 : ¬ b < 0 := by omega
    simp [n0, n1]; omega
/-- What the program answers. -/
def pcrossV (m n : Bool) (x y : Nat) : Int := if m then (if n then cmp y x else -1) else (if n then 1 else cmp x y)
theorem cross_is (a b c d : Int) : pcrossV (pneg a b) (pneg c d) (pabs a b) (pabs c d) = icmp (a * b) (c * d) := by
  rw [pneg_eq, pneg_eq, pabs_eq, pabs_eq]
  generalize a * b = p
  generalize c * d = q
  unfold pcrossV icmp cmp
  by_cases h : p < 0 <;> by_cases k : q < 0 <;> simp only [h, k, decide_true, decide_false, if_true, if_false, Bool.false_eq_true] <;> repeat (first | omega | split)
/-- What the reference answers. -/
def rcrossV (p q : Int) (x y : Nat) : Int := if p < q then -1 else if q < p then 1 else p * cmp x y
end Go.Proofs.Ytaiepjcnncajcaa
end
section
/- The exact comparison of two products, walked: the program, the reference and the law. -/
set_option linter.unusedVariables false
set_option linter.unusedSimpArgs false
set_option linter.unusedSectionVars false
set_option linter.unnecessarySimpa false
namespace Go.Proofs.Ytaiepjcnncajcaa
open Go.RowKit Go.Shelf
theorem ret_eqX {k : IntKind} {a b : Int} (h : a = b) : Ending.returned (.int k a) = .returned (.int k b) := by rw [h]
theorem neg_wrap (a : Int) (h : -9223372036854775808 ≤ a) (k : a < 0) : IntKind.u64.wrap (-IntKind.u64.wrap a) = (a.natAbs : Int) := by
  rw [IntKind.wrap_u64, IntKind.wrap_u64]
  omega
theorem wpsize (a : Int) (h : -9223372036854775808 ≤ a ∧ a ≤ 9223372036854775807) (w : World) :
    Calls Try.prog 119 #[.int .i64 a] w fun e w' => e = .returned (.int .u64 (a.natAbs : Int)) ∧ w' = w := by
  obtain ⟨h1, h2⟩ := h
  by_cases hn : a < 0
  all_goals
    go_enter Try.func119, Try.ntmps119
    go_wp2
    go_ret
    exact ⟨ret_eqX (by first | omega | exact neg_wrap a h1 hn), rfl⟩
theorem pprodn (x y : Nat) (hx : x < 18446744073709551616) (hy : y < 18446744073709551616) (w : World) :
    Calls Try.prog 50 #[.int .u64 x, .int .u64 y] w fun e w' => e = .returned (W (x * y)) ∧ Below w.heap.size w w' := pproduct x y ⟨by omega, by omega⟩ ⟨by omega, by omega⟩ w
theorem psigned (a b : Int) (ha : -9223372036854775808 ≤ a ∧ a ≤ 9223372036854775807) (hb : -9223372036854775808 ≤ b ∧ b ≤ 9223372036854775807) (w : World) :
    Calls Try.prog 114 #[.int .i64 a, .int .i64 b] w fun e w' => e = .returned (.tuple #[.bool (sneg a b), W (pabs a b)]) ∧ Below w.heap.size w w' := by
  have HA := Lib.hid (fun w => wpsize a ha w)
  have HB := Lib.hid (fun w => wpsize b hb w)
  have HP := Lib.hid (fun w => pprodn a.natAbs b.natAbs (i64_abs ha) (i64_abs hb) w)
  clear ha hb
  unfold sneg pabs
  generalize a.natAbs * b.natAbs = z at HP ⊢
  generalize a.natAbs = x at HA HP
  generalize b.natAbs = y at HB HP
  go_enter Try.func114, Try.ntmps114
  go_wp2_with (first | (go_at_call 119; (first | with_reducible refine (HA.out _).mono ?_ | with_reducible refine (HB.out _).mono ?_); rintro e w9 ⟨rfl, rfl⟩) | (go_at_call 50; refine (HP.out _).mono ?_; rintro e w1 ⟨rfl, hb1⟩; have hz1 := hb1.size; (try simp at hz1); have q1_0 : w.heap.size < w1.heap.size := (by omega); have r1_0 : Row w1 (w.heap.size) 72 #[.int .u64 0, .int .u64 0] := row_call (by (repeat (first | assumption | (refine row_new ?_; (first | (simp; done) | omega)) | refine row_alloc ?_ _ | refine row_drew ?_ | refine row_call ?_ (by assumption)))) hb1; obtain ⟨c1_0a, c1_0b, f1_0a, f1_0b⟩ := row_two r1_0))
  have r2 := row_two_set (u := .int .u64 (hi z)) (v := .int .u64 (lo z)) r1_0
  have o2 : Below w.heap.size w ((w1.setCell ⟨w.heap.size, 0, none⟩ (.int .u64 (hi z))).setCell ⟨w.heap.size, 1, none⟩ (.int .u64 (lo z))) := by
    (repeat (first | exact Below.refl _ _ | refine Below.setCell ?_ (by first | (simp; done) | (simp; omega) | omega) _ | refine Below.alloc ?_ (by first | (simp; done) | (simp; omega) | omega) _ | refine Below.drew ?_ | refine Below.trans ?_ (Below.mono (by assumption) (by first | (simp; done) | (simp; omega) | omega))))
  generalize ((w1.setCell ⟨w.heap.size, 0, none⟩ (.int .u64 (hi z))).setCell ⟨w.heap.size, 1, none⟩ (.int .u64 (lo z))) = w2 at r2 o2 ⊢
  obtain ⟨d1, d2, _, _⟩ := row_two r2
  exact bodyPost_ret (v := .tuple #[.bool (decide (a < 0) != decide (b < 0)), W z]) (by simp [results, Try.results114, go_sem, bne, W, d1, d2]) rfl ⟨rfl, o2⟩
theorem pcross_in (a b c d : Int) (s1 s2 z1 z2 : Bool) (x y : Nat)
    (H1 : RowKit.Hid (∀ w, Calls Try.prog 114 #[.int .i64 a, .int .i64 b] w fun e w' => e = .returned (.tuple #[.bool s1, W x]) ∧ Below w.heap.size w w'))
    (H2 : RowKit.Hid (∀ w, Calls Try.prog 114 #[.int .i64 c, .int .i64 d] w fun e w' => e = .returned (.tuple #[.bool s2, W y]) ∧ Below w.heap.size w w'))
    (Z1 : RowKit.Hid (∀ w, Calls Try.prog 112 #[W x] w fun e w' => e = .returned (.bool z1) ∧ Below w.heap.size w w'))
    (Z2 : RowKit.Hid (∀ w, Calls Try.prog 112 #[W y] w fun e w' => e = .returned (.bool z2) ∧ Below w.heap.size w w')) (w : World) :
    Calls Try.prog 106 #[.int .i64 a, .int .i64 b, .int .i64 c, .int .i64 d] w fun e w' => e = .returned (.int .i64 (pcrossV (s1 && !z1) (s2 && !z2) x y)) ∧ Below w.heap.size w w' := by
  cases s1 <;> cases s2 <;> cases z1 <;> cases z2
  all_goals
    go_enter Try.func106, Try.ntmps106
    go_wp2_with (first | (go_at_call 114; with_reducible refine (H1.out _).mono ?_; rintro e w1 ⟨rfl, hb1⟩; have hz1 := hb1.size; (try simp at hz1)) | (go_at_call 114; with_reducible refine (H2.out _).mono ?_; rintro e w2 ⟨rfl, hb2⟩; have hz2 := hb2.size; (try simp at hz2); have q2_0 : w1.heap.size < w2.heap.size := (by omega); have r2_0 : Row w2 (w1.heap.size) 72 (Wc x) := row_call (by (repeat (first | assumption | (refine row_new ?_; (first | (simp; done) | omega)) | refine row_alloc ?_ _ | refine row_drew ?_ | refine row_call ?_ (by assumption)))) hb2; obtain ⟨c2_0a, c2_0b, f2_0a, f2_0b⟩ := row_two r2_0) | (go_at_call 112; with_reducible refine (Z1.out _).mono ?_; rintro e w3 ⟨rfl, hb3⟩; have hz3 := hb3.size; (try simp at hz3); have q3_0 : w1.heap.size < w3.heap.size := (by omega); have r3_0 : Row w3 (w1.heap.size) 72 (Wc x) := row_call (by (repeat (first | assumption | (refine row_new ?_; (first | (simp; done) | omega)) | refine row_alloc ?_ _ | refine row_drew ?_ | refine row_call ?_ (by assumption)))) hb3; obtain ⟨c3_0a, c3_0b, f3_0a, f3_0b⟩ := row_two r3_0; have q3_1 : w2.heap.size < w3.heap.size := (by omega); have r3_1 : Row w3 (w2.heap.size) 72 (Wc y) := row_call (by (repeat (first | assumption | (refine row_new ?_; (first | (simp; done) | omega)) | refine row_alloc ?_ _ | refine row_drew ?_ | refine row_call ?_ (by assumption)))) hb3; obtain ⟨c3_1a, c3_1b, f3_1a, f3_1b⟩ := row_two r3_1) | (go_at_call 112; with_reducible refine (Z2.out _).mono ?_; rintro e w4 ⟨rfl, hb4⟩; have hz4 := hb4.size; (try simp at hz4); have q4_0 : w1.heap.size < w4.heap.size := (by omega); have r4_0 : Row w4 (w1.heap.size) 72 (Wc x) := row_call (by (repeat (first | assumption | (refine row_new ?_; (first | (simp; done) | omega)) | refine row_alloc ?_ _ | refine row_drew ?_ | refine row_call ?_ (by assumption)))) hb4; obtain ⟨c4_0a, c4_0b, f4_0a, f4_0b⟩ := row_two r4_0; have q4_1 : w2.heap.size < w4.heap.size := (by omega); have r4_1 : Row w4 (w2.heap.size) 72 (Wc y) := row_call (by (repeat (first | assumption | (refine row_new ?_; (first | (simp; done) | omega)) | refine row_alloc ?_ _ | refine row_drew ?_ | refine row_call ?_ (by assumption)))) hb4; obtain ⟨c4_1a, c4_1b, f4_1a, f4_1b⟩ := row_two r4_1) | (go_at_call 52; refine (pcmp_any _ _ _).mono ?_; rintro e w5 ⟨rfl, hb5⟩; have hz5 := hb5.size; (try simp at hz5)))
    all_goals
      go_ret
      refine ⟨rfl, ?_⟩
      (repeat (first | exact Below.refl _ _ | refine Below.setCell ?_ (by first | (simp; done) | (simp; omega) | omega) _ | refine Below.alloc ?_ (by first | (simp; done) | (simp; omega) | omega) _ | refine Below.drew ?_ | refine Below.trans ?_ (Below.mono (by assumption) (by first | (simp; done) | (simp; omega) | omega))))
theorem pcross (a b c d : Int) (ha : -9223372036854775808 ≤ a ∧ a ≤ 9223372036854775807) (hb : -9223372036854775808 ≤ b ∧ b ≤ 9223372036854775807) (hc : -9223372036854775808 ≤ c ∧ c ≤ 9223372036854775807) (hd : -9223372036854775808 ≤ d ∧ d ≤ 9223372036854775807) (w : World) :
    Calls Try.prog 106 #[.int .i64 a, .int .i64 b, .int .i64 c, .int .i64 d] w fun e w' => e = .returned (.int .i64 (icmp (a * b) (c * d))) ∧ Below w.heap.size w w' := by
  have h := pcross_in a b c d _ _ _ _ _ _ (Lib.hid fun w => psigned a b ha hb w) (Lib.hid fun w => psigned c d hc hd w) (Lib.hid fun w => pzero (pabs a b) w) (Lib.hid fun w => pzero (pabs c d) w) w
  rw [show (sneg a b && !decide (pabs a b = 0)) = pneg a b from rfl, show (sneg c d && !decide (pabs c d = 0)) = pneg c d from rfl, cross_is] at h
  exact h
end Go.Proofs.Ytaiepjcnncajcaa
end
section
/- Unsigned numbers of 256 bits times a word, walked. -/
set_option linter.unusedVariables false
set_option linter.unusedSimpArgs false
set_option linter.unusedSectionVars false
set_option linter.unnecessarySimpa false
namespace Go.Proofs.Ytaiepjcnncajcaa
open Go.RowKit Go.Shelf
/-- The word i of a number. -/
def qd (i N : Nat) : Nat := N / 18446744073709551616 ^ i % 18446744073709551616
/-- What the words below i carry over in the product with n. -/
def qc (N n i : Nat) : Nat := N % 18446744073709551616 ^ i * n / 18446744073709551616 ^ i
def QV (N : Nat) : Value := .agg #[.int .u64 (qd 0 N), .int .u64 (qd 1 N), .int .u64 (qd 2 N), .int .u64 (qd 3 N)]
theorem qd_lt (i N : Nat) : qd i N < 18446744073709551616 := Nat.mod_lt _ (by decide)
theorem pow_pos64 (i : Nat) : 0 < 18446744073709551616 ^ i := Nat.pow_pos (by decide)
theorem qc_split (N n i : Nat) : N * n / 18446744073709551616 ^ i = N / 18446744073709551616 ^ i * n + qc N n i := by
  have h := pow_pos64 i
  unfold qc
  generalize 18446744073709551616 ^ i = b at *
  have e : N * n = N % b * n + b * (N / b * n) := by
    have := Nat.mod_add_div N b
    calc N * n = (N % b + b * (N / b)) * n := by rw [this]
      _ = N % b * n + b * (N / b * n) := by rw [Nat.add_mul, Nat.mul_assoc]
  rw [e, Nat.add_mul_div_left _ _ h, Nat.add_comm]
theorem qc_lt {N n i : Nat} (hn : n < 18446744073709551616) : qc N n i < 18446744073709551616 := by
  have h := pow_pos64 i
  unfold qc
  generalize 18446744073709551616 ^ i = b at *
  have h1 : N % b * n ≤ b * n := Nat.mul_le_mul_right _ (Nat.le_of_lt (Nat.mod_lt _ h))
  have h2 : N % b * n / b ≤ b * n / b := Nat.div_le_div_right h1
  rw [Nat.mul_div_cancel_left _ h] at h2
  omega
theorem qd_step (N i : Nat) : N / 18446744073709551616 ^ i = qd i N + 18446744073709551616 * (N / 18446744073709551616 ^ (i + 1)) := by
  unfold qd
  rw [Nat.pow_succ, ← Nat.div_div_eq_div_mul]
  exact (Nat.mod_add_div _ _).symm
theorem q_mod (N n i : Nat) : (qd i N * n + qc N n i) % 18446744073709551616 = qd i (N * n) := by
  have h := qc_split N n i
  have e : qd i (N * n) = (N / 18446744073709551616 ^ i * n + qc N n i) % 18446744073709551616 := by rw [← h]; rfl
  rw [e, qd_step N i, Nat.add_mul, Nat.mul_assoc, Nat.add_right_comm, Nat.add_mul_mod_self_left]
theorem q_div (N n i : Nat) : (qd i N * n + qc N n i) / 18446744073709551616 = qc N n (i + 1) := by
  have h := qc_split N n i
  have h2 := qc_split N n (i + 1)
  have h3 : N * n / 18446744073709551616 ^ (i + 1) = N * n / 18446744073709551616 ^ i / 18446744073709551616 := by rw [Nat.pow_succ, Nat.div_div_eq_div_mul]
  have h4 : (N / 18446744073709551616 ^ i * n + qc N n i) / 18446744073709551616 = (qd i N * n + qc N n i) / 18446744073709551616 + N / 18446744073709551616 ^ (i + 1) * n := by
    rw [qd_step N i, Nat.add_mul, Nat.mul_assoc, Nat.add_right_comm, Nat.add_mul_div_left _ _ (by decide)]
  rw [h3, h, h4] at h2
  generalize N / 18446744073709551616 ^ (i + 1) * n = y at h2
  generalize (qd i N * n + qc N n i) / 18446744073709551616 = z at h2 ⊢
  omega
theorem qc_zero (N n : Nat) : qc N n 0 = 0 := by unfold qc; simp [Nat.mod_one]
theorem lo_hi_add {P c : Nat} (hP : P < big) (hc : c < 18446744073709551616) : (lo P + (c : Int)) % 18446744073709551616 = (((P + c) % 18446744073709551616 : Nat) : Int) ∧ hi P + (lo P + (c : Int)) / 18446744073709551616 = (((P + c) / 18446744073709551616 : Nat) : Int) := by
  unfold lo hi
  omega
theorem q_words {N n i : Nat} (hn : n < 18446744073709551616) : (lo (qd i N * n) + (qc N n i : Int)) % 18446744073709551616 = (qd i (N * n) : Nat) ∧ IntKind.u64.wrap (hi (qd i N * n) + (lo (qd i N * n) + (qc N n i : Int)) / 18446744073709551616) = (qc N n (i + 1) : Nat) := by
  obtain ⟨h1, h2⟩ := lo_hi_add (P := qd i N * n) (c := qc N n i) (mul_big (qd_lt i N) hn) (qc_lt hn)
  rw [h1, h2, q_mod, q_div]
  exact ⟨rfl, wrap_word ⟨by omega, by have := @qc_lt N n (i + 1) hn; omega⟩⟩
theorem qmul64 (x n : Nat) (hx : x < 18446744073709551616) (hn : n < 18446744073709551616) (w : World) : Calls Try.prog 91 #[.int .u64 (x : Nat), .int .u64 (n : Nat)] w fun e w' => e = .returned (.tuple #[.int .u64 (hi (x * n)), .int .u64 (lo (x * n))]) ∧ w' = w := by
  have h := mul64 (x : Int) (n : Int) ⟨by omega, by omega⟩ ⟨by omega, by omega⟩ w
  rw [Int.toNat_natCast, Int.toNat_natCast] at h
  exact h
set_option maxHeartbeats 4000000 in
theorem ptimes_flat (x0 x1 x2 x3 r0 r1 r2 r3 k1 k2 k3 k4 : Int) (N n : Nat) (w : World) (hn : n < 18446744073709551616)
    (hx0 : x0 = (qd 0 N : Nat)) (hx1 : x1 = (qd 1 N : Nat)) (hx2 : x2 = (qd 2 N : Nat)) (hx3 : x3 = (qd 3 N : Nat))
    (hr0 : r0 = (qd 0 (N * n) : Nat)) (hr1 : r1 = (qd 1 (N * n) : Nat)) (hr2 : r2 = (qd 2 (N * n) : Nat)) (hr3 : r3 = (qd 3 (N * n) : Nat))
    (hk1 : k1 = (qc N n 1 : Nat)) (hk2 : k2 = (qc N n 2 : Nat)) (hk3 : k3 = (qc N n 3 : Nat)) (hk4 : k4 = (qc N n 4 : Nat)) :
    Calls Try.prog 62 #[.agg #[.int .u64 x0, .int .u64 x1, .int .u64 x2, .int .u64 x3], .int .u64 (n : Nat)] w fun e w' => e = .returned (.agg #[.int .u64 r0, .int .u64 r1, .int .u64 r2, .int .u64 r3]) ∧ Below w.heap.size w w' := by
  obtain ⟨p0, s0⟩ := q_words (N := N) (n := n) (i := 0) hn
  have M0 := fun w => qmul64 (qd 0 N) n (qd_lt 0 N) hn w
  have l0 := (lo_word (qd 0 N * n)).1
  rw [qc_zero] at p0 s0
  rw [← hx0] at M0
  rw [← hr0] at p0
  rw [show 0 + 1 = 1 from rfl, ← hk1] at s0
  generalize lo (qd 0 N * n) = lo0 at M0 p0 s0 l0
  generalize hi (qd 0 N * n) = hi0 at M0 s0
  replace M0 := Lib.hid M0
  obtain ⟨p1, s1⟩ := q_words (N := N) (n := n) (i := 1) hn
  have M1 := fun w => qmul64 (qd 1 N) n (qd_lt 1 N) hn w
  have l1 := (lo_word (qd 1 N * n)).1
  rw [← hx1] at M1
  rw [← hr1] at p1
  rw [show 1 + 1 = 2 from rfl, ← hk2] at s1
  rw [← hk1] at p1 s1
  have b1 : 0 ≤ k1 := by omega
  generalize lo (qd 1 N * n) = lo1 at M1 p1 s1 l1
  generalize hi (qd 1 N * n) = hi1 at M1 s1
  replace M1 := Lib.hid M1
  obtain ⟨p2, s2⟩ := q_words (N := N) (n := n) (i := 2) hn
  have M2 := fun w => qmul64 (qd 2 N) n (qd_lt 2 N) hn w
  have l2 := (lo_word (qd 2 N * n)).1
  rw [← hx2] at M2
  rw [← hr2] at p2
  rw [show 2 + 1 = 3 from rfl, ← hk3] at s2
  rw [← hk2] at p2 s2
  have b2 : 0 ≤ k2 := by omega
  generalize lo (qd 2 N * n) = lo2 at M2 p2 s2 l2
  generalize hi (qd 2 N * n) = hi2 at M2 s2
  replace M2 := Lib.hid M2
  obtain ⟨p3, s3⟩ := q_words (N := N) (n := n) (i := 3) hn
  have M3 := fun w => qmul64 (qd 3 N) n (qd_lt 3 N) hn w
  have l3 := (lo_word (qd 3 N * n)).1
  rw [← hx3] at M3
  rw [← hr3] at p3
  rw [show 3 + 1 = 4 from rfl, ← hk4] at s3
  rw [← hk3] at p3 s3
  have b3 : 0 ≤ k3 := by omega
  generalize lo (qd 3 N * n) = lo3 at M3 p3 s3 l3
  generalize hi (qd 3 N * n) = hi3 at M3 s3
  replace M3 := Lib.hid M3
  rw [show (((0 : Nat) : Int)) = 0 from rfl, Int.add_zero] at p0 s0
  clear hx0 hx1 hx2 hx3 hr0 hr1 hr2 hr3 hk1 hk2 hk3 hk4
  go_enter Try.func62, Try.ntmps62
  go_upto_region 3 with (fail)
  have W0 : Row (((w.alloc (.cells #[.int .u64 x0, .int .u64 x1, .int .u64 x2, .int .u64 x3] 86)).alloc (.cells #[.int .u64 0, .int .u64 0, .int .u64 0, .int .u64 0] 86)).alloc (.cells #[.int .u64 0, .int .u64 0, .int .u64 0, .int .u64 0] 86)) (w.heap.size) 86 #[.int .u64 x0, .int .u64 x1, .int .u64 x2, .int .u64 x3] := row_alloc (row_alloc (row_new rfl) _) _
  have W1 : Row (((w.alloc (.cells #[.int .u64 x0, .int .u64 x1, .int .u64 x2, .int .u64 x3] 86)).alloc (.cells #[.int .u64 0, .int .u64 0, .int .u64 0, .int .u64 0] 86)).alloc (.cells #[.int .u64 0, .int .u64 0, .int .u64 0, .int .u64 0] 86)) (w.heap.size + 1) 86 #[.int .u64 0, .int .u64 0, .int .u64 0, .int .u64 0] := row_alloc (row_new (by simp)) _
  have W2 : Row (((w.alloc (.cells #[.int .u64 x0, .int .u64 x1, .int .u64 x2, .int .u64 x3] 86)).alloc (.cells #[.int .u64 0, .int .u64 0, .int .u64 0, .int .u64 0] 86)).alloc (.cells #[.int .u64 0, .int .u64 0, .int .u64 0, .int .u64 0] 86)) (w.heap.size + 2) 86 #[.int .u64 0, .int .u64 0, .int .u64 0, .int .u64 0] := row_new (by simp)
  have o : Below w.heap.size w (((w.alloc (.cells #[.int .u64 x0, .int .u64 x1, .int .u64 x2, .int .u64 x3] 86)).alloc (.cells #[.int .u64 0, .int .u64 0, .int .u64 0, .int .u64 0] 86)).alloc (.cells #[.int .u64 0, .int .u64 0, .int .u64 0, .int .u64 0] 86)) := by (repeat (first | exact Below.refl _ _ | refine Below.setCell ?_ (by first | (simp; done) | (simp; omega) | omega) _ | refine Below.alloc ?_ (by first | (simp; done) | (simp; omega) | omega) _ | refine Below.drew ?_ | refine Below.trans ?_ (Below.mono (by assumption) (by first | (simp; done) | (simp; omega) | omega))))
  generalize (((w.alloc (.cells #[.int .u64 x0, .int .u64 x1, .int .u64 x2, .int .u64 x3] 86)).alloc (.cells #[.int .u64 0, .int .u64 0, .int .u64 0, .int .u64 0] 86)).alloc (.cells #[.int .u64 0, .int .u64 0, .int .u64 0, .int .u64 0] 86)) = w3 at W0 W1 W2 o ⊢
  go_upto_region 4 with (fail)
  go_loopw [6, 12] (fun cv i wr => (i = .int .i64 0 ∧ cv = .int .u64 0 ∧ Row wr (w.heap.size) 86 #[.int .u64 x0, .int .u64 x1, .int .u64 x2, .int .u64 x3] ∧ Row wr (w.heap.size + 1) 86 #[.int .u64 0, .int .u64 0, .int .u64 0, .int .u64 0] ∧ Row wr (w.heap.size + 2) 86 #[.int .u64 0, .int .u64 0, .int .u64 0, .int .u64 0] ∧ Below w.heap.size w wr) ∨ (i = .int .i64 1 ∧ cv = .int .u64 k1 ∧ Row wr (w.heap.size) 86 #[.int .u64 x0, .int .u64 x1, .int .u64 x2, .int .u64 x3] ∧ Row wr (w.heap.size + 1) 86 #[.int .u64 0, .int .u64 0, .int .u64 0, .int .u64 0] ∧ Row wr (w.heap.size + 2) 86 #[.int .u64 r0, .int .u64 0, .int .u64 0, .int .u64 0] ∧ Below w.heap.size w wr) ∨ (i = .int .i64 2 ∧ cv = .int .u64 k2 ∧ Row wr (w.heap.size) 86 #[.int .u64 x0, .int .u64 x1, .int .u64 x2, .int .u64 x3] ∧ Row wr (w.heap.size + 1) 86 #[.int .u64 0, .int .u64 0, .int .u64 0, .int .u64 0] ∧ Row wr (w.heap.size + 2) 86 #[.int .u64 r0, .int .u64 r1, .int .u64 0, .int .u64 0] ∧ Below w.heap.size w wr) ∨ (i = .int .i64 3 ∧ cv = .int .u64 k3 ∧ Row wr (w.heap.size) 86 #[.int .u64 x0, .int .u64 x1, .int .u64 x2, .int .u64 x3] ∧ Row wr (w.heap.size + 1) 86 #[.int .u64 0, .int .u64 0, .int .u64 0, .int .u64 0] ∧ Row wr (w.heap.size + 2) 86 #[.int .u64 r0, .int .u64 r1, .int .u64 r2, .int .u64 0] ∧ Below w.heap.size w wr) ∨ (i = .int .i64 4 ∧ cv = .int .u64 k4 ∧ Row wr (w.heap.size) 86 #[.int .u64 x0, .int .u64 x1, .int .u64 x2, .int .u64 x3] ∧ Row wr (w.heap.size + 1) 86 #[.int .u64 0, .int .u64 0, .int .u64 0, .int .u64 0] ∧ Row wr (w.heap.size + 2) 86 #[.int .u64 r0, .int .u64 r1, .int .u64 r2, .int .u64 r3] ∧ Below w.heap.size w wr)) (fun _ i _ => 4 - (intOf i).toNat)
  case atStart => exact .inl ⟨rfl, rfl, W0, W1, W2, o⟩
  case round =>
    clear W0 W1 W2 o
    rcases hrel with ⟨rfl, rfl, W0, W1, W2, o⟩ | ⟨rfl, rfl, W0, W1, W2, o⟩ | ⟨rfl, rfl, W0, W1, W2, o⟩ | ⟨rfl, rfl, W0, W1, W2, o⟩ | ⟨rfl, rfl, W0, W1, W2, o⟩
    · obtain ⟨X0, X1, X2, X3, Xf0, Xf1, Xf2, Xf3⟩ := row_four W0
      obtain ⟨O0, O1, O2, O3, Of0, Of1, Of2, Of3⟩ := row_four W2
      go_wp2_with (first | (go_at_call 91; refine (M0.out _).mono ?_; rintro e w' ⟨rfl, h9⟩; obtain rfl := h9.symm) | simp only [add64_0 lo0 0 l0 (Int.le_refl 0)])
      go_roundw
      case rel => exact .inr (.inl ⟨rfl, rfl, row_other W0 (by show w.heap.size ≠ w.heap.size + 2; omega) _, row_other W1 (by show w.heap.size + 1 ≠ w.heap.size + 2; omega) _, row_set W2 0 _, o.setCell (by show w.heap.size ≤ w.heap.size + 2; omega) _⟩)
      case measure => simp [intOf]
    · obtain ⟨X0, X1, X2, X3, Xf0, Xf1, Xf2, Xf3⟩ := row_four W0
      obtain ⟨O0, O1, O2, O3, Of0, Of1, Of2, Of3⟩ := row_four W2
      go_wp2_with (first | (go_at_call 91; refine (M1.out _).mono ?_; rintro e w' ⟨rfl, h9⟩; obtain rfl := h9.symm) | simp only [add64_0 lo1 k1 l1 b1])
      go_roundw
      case rel => exact .inr (.inr (.inl ⟨rfl, rfl, row_other W0 (by show w.heap.size ≠ w.heap.size + 2; omega) _, row_other W1 (by show w.heap.size + 1 ≠ w.heap.size + 2; omega) _, row_set W2 1 _, o.setCell (by show w.heap.size ≤ w.heap.size + 2; omega) _⟩))
      case measure => simp [intOf]
    · obtain ⟨X0, X1, X2, X3, Xf0, Xf1, Xf2, Xf3⟩ := row_four W0
      obtain ⟨O0, O1, O2, O3, Of0, Of1, Of2, Of3⟩ := row_four W2
      go_wp2_with (first | (go_at_call 91; refine (M2.out _).mono ?_; rintro e w' ⟨rfl, h9⟩; obtain rfl := h9.symm) | simp only [add64_0 lo2 k2 l2 b2])
      go_roundw
      case rel => exact .inr (.inr (.inr (.inl ⟨rfl, rfl, row_other W0 (by show w.heap.size ≠ w.heap.size + 2; omega) _, row_other W1 (by show w.heap.size + 1 ≠ w.heap.size + 2; omega) _, row_set W2 2 _, o.setCell (by show w.heap.size ≤ w.heap.size + 2; omega) _⟩)))
      case measure => simp [intOf]
    · obtain ⟨X0, X1, X2, X3, Xf0, Xf1, Xf2, Xf3⟩ := row_four W0
      obtain ⟨O0, O1, O2, O3, Of0, Of1, Of2, Of3⟩ := row_four W2
      go_wp2_with (first | (go_at_call 91; refine (M3.out _).mono ?_; rintro e w' ⟨rfl, h9⟩; obtain rfl := h9.symm) | simp only [add64_0 lo3 k3 l3 b3])
      go_roundw
      case rel => exact .inr (.inr (.inr (.inr (⟨rfl, rfl, row_other W0 (by show w.heap.size ≠ w.heap.size + 2; omega) _, row_other W1 (by show w.heap.size + 1 ≠ w.heap.size + 2; omega) _, row_set W2 3 _, o.setCell (by show w.heap.size ≤ w.heap.size + 2; omega) _⟩))))
      case measure => simp [intOf]
    · obtain ⟨O0, O1, O2, O3, Of0, Of1, Of2, Of3⟩ := row_four W2
      obtain ⟨R0, R1, R2, R3, Rf0, Rf1, Rf2, Rf3⟩ := row_four W1
      have hbge : w.heap.size ≤ w.heap.size + 1 := by omega
      go_wp2
      have R9 : Row ((((wr.setCell ⟨w.heap.size + 1, 0, none⟩ (.int .u64 r0)).setCell ⟨w.heap.size + 1, 1, none⟩ (.int .u64 r1)).setCell ⟨w.heap.size + 1, 2, none⟩ (.int .u64 r2)).setCell ⟨w.heap.size + 1, 3, none⟩ (.int .u64 r3)) (w.heap.size + 1) 86 #[.int .u64 r0, .int .u64 r1, .int .u64 r2, .int .u64 r3] := (row_set (row_set (row_set (row_set W1 0 (.int .u64 r0)) 1 (.int .u64 r1)) 2 (.int .u64 r2)) 3 (.int .u64 r3))
      have o9 : Below w.heap.size w ((((wr.setCell ⟨w.heap.size + 1, 0, none⟩ (.int .u64 r0)).setCell ⟨w.heap.size + 1, 1, none⟩ (.int .u64 r1)).setCell ⟨w.heap.size + 1, 2, none⟩ (.int .u64 r2)).setCell ⟨w.heap.size + 1, 3, none⟩ (.int .u64 r3)) := (Below.setCell (p := ⟨w.heap.size + 1, 3, none⟩) (Below.setCell (p := ⟨w.heap.size + 1, 2, none⟩) (Below.setCell (p := ⟨w.heap.size + 1, 1, none⟩) (Below.setCell (p := ⟨w.heap.size + 1, 0, none⟩) o hbge (.int .u64 r0)) hbge (.int .u64 r1)) hbge (.int .u64 r2)) hbge (.int .u64 r3))
      generalize ((((wr.setCell ⟨w.heap.size + 1, 0, none⟩ (.int .u64 r0)).setCell ⟨w.heap.size + 1, 1, none⟩ (.int .u64 r1)).setCell ⟨w.heap.size + 1, 2, none⟩ (.int .u64 r2)).setCell ⟨w.heap.size + 1, 3, none⟩ (.int .u64 r3)) = w9 at R9 o9 ⊢
      obtain ⟨N0, N1, N2, N3, Nf0, Nf1, Nf2, Nf3⟩ := row_four R9
      exact bodyPost_ret (v := .agg #[.int .u64 r0, .int .u64 r1, .int .u64 r2, .int .u64 r3]) (by simp [results, Try.results62, go_sem, List.getElem?_toArray, N0, N1, N2, N3]) rfl ⟨rfl, o9⟩
theorem ptimes (N n : Nat) (w : World) (hn : n < 18446744073709551616) : Calls Try.prog 62 #[QV N, .int .u64 (n : Nat)] w fun e w' => e = .returned (QV (N * n)) ∧ Below w.heap.size w w' :=
  ptimes_flat _ _ _ _ _ _ _ _ _ _ _ _ N n w hn rfl rfl rfl rfl rfl rfl rfl rfl rfl rfl rfl rfl
end Go.Proofs.Ytaiepjcnncajcaa
end
section
/- Ratios are compared, intervals are valid and hold a number: for ratios that are not negative, walked. -/
set_option linter.unusedVariables false
set_option linter.unusedSimpArgs false
set_option linter.unusedSectionVars false
set_option linter.unnecessarySimpa false
namespace Go.Proofs.Ytaiepjcnncajcaa
open Go.RowKit Go.Shelf
/-- A ratio in lowest terms that is not negative and not large. -/
def RatOK (a b : Nat) : Prop := a < 4611686018427387904 ∧ (1 ≤ b ∧ b ≤ 4294967295) ∧ Nat.gcd a b = 1
theorem pvR {a b : Nat} (h : RatOK a b) (w : World) : Calls Try.prog 60 #[.agg #[.int .i64 (a : Nat), .int .i64 (b : Nat)]] w fun e w' => e = .returned (.bool true) ∧ Below w.heap.size w w' := pratval a b w (by have := h.1; omega) h.2.1.1 (by have := h.2.1.2; omega) h.2.2
theorem pcmpR {a b c d : Nat} (h1 : RatOK a b) (h2 : RatOK c d) (w : World) : Calls Try.prog 81 #[.agg #[.int .i64 (a : Nat), .int .i64 (b : Nat)], .agg #[.int .i64 (c : Nat), .int .i64 (d : Nat)]] w fun e w' => e = .returned (.int .i64 (icmp ((a : Int) * (d : Int)) ((c : Int) * (b : Int)))) ∧ Below w.heap.size w w' := by
  have P1 := Lib.hid (fun w => pvR h1 w)
  have P2 := Lib.hid (fun w => pvR h2 w)
  have P3 := fun w => pcross (a : Int) (d : Int) (c : Int) (b : Int) (by have := h1.1; omega) (by have := h2.2.1.2; omega) (by have := h2.1; omega) (by have := h1.2.1.2; omega) w
  generalize icmp ((a : Int) * (d : Int)) ((c : Int) * (b : Int)) = r at P3 ⊢
  replace P3 := Lib.hid P3
  clear h1 h2
  go_enter Try.func81, Try.ntmps81
  go_wp2_with (first | (go_at_call 60; with_reducible refine (P1.out _).mono ?_; rintro e w1 ⟨rfl, hb1⟩; have hz1 := hb1.size; (try simp at hz1); have o1 : Below w.heap.size w w1 := (by (repeat (first | exact Below.refl _ _ | refine Below.setCell ?_ (by first | (simp; done) | (simp; omega) | omega) _ | refine Below.alloc ?_ (by first | (simp; done) | (simp; omega) | omega) _ | refine Below.drew ?_ | refine Below.trans ?_ (Below.mono (by assumption) (by first | (simp; done) | (simp; omega) | omega))))); have q1_0 : w.heap.size < w1.heap.size := (by omega); have r1_0 : Row w1 (w.heap.size) 35 #[.int .i64 (a : Nat), .int .i64 (b : Nat)] := row_call (by (repeat (first | assumption | (refine row_new ?_; (first | (simp; done) | omega)) | refine row_alloc ?_ _ | refine row_drew ?_ | refine row_call ?_ (by assumption)))) hb1; obtain ⟨c1_0a, c1_0b, f1_0a, f1_0b⟩ := row_two r1_0; have q1_1 : w.heap.size + 1 < w1.heap.size := (by omega); have r1_1 : Row w1 (w.heap.size + 1) 35 #[.int .i64 (c : Nat), .int .i64 (d : Nat)] := row_call (by (repeat (first | assumption | (refine row_new ?_; (first | (simp; done) | omega)) | refine row_alloc ?_ _ | refine row_drew ?_ | refine row_call ?_ (by assumption)))) hb1; obtain ⟨c1_1a, c1_1b, f1_1a, f1_1b⟩ := row_two r1_1) | (go_at_call 60; with_reducible refine (P2.out _).mono ?_; rintro e w2 ⟨rfl, hb2⟩; have hz2 := hb2.size; (try simp at hz2); have o2 : Below w.heap.size w w2 := (by (repeat (first | exact Below.refl _ _ | refine Below.setCell ?_ (by first | (simp; done) | (simp; omega) | omega) _ | refine Below.alloc ?_ (by first | (simp; done) | (simp; omega) | omega) _ | refine Below.drew ?_ | refine Below.trans ?_ (Below.mono (by assumption) (by first | (simp; done) | (simp; omega) | omega))))); have q2_0 : w.heap.size < w2.heap.size := (by omega); have r2_0 : Row w2 (w.heap.size) 35 #[.int .i64 (a : Nat), .int .i64 (b : Nat)] := row_call (by (repeat (first | assumption | (refine row_new ?_; (first | (simp; done) | omega)) | refine row_alloc ?_ _ | refine row_drew ?_ | refine row_call ?_ (by assumption)))) hb2; obtain ⟨c2_0a, c2_0b, f2_0a, f2_0b⟩ := row_two r2_0; have q2_1 : w.heap.size + 1 < w2.heap.size := (by omega); have r2_1 : Row w2 (w.heap.size + 1) 35 #[.int .i64 (c : Nat), .int .i64 (d : Nat)] := row_call (by (repeat (first | assumption | (refine row_new ?_; (first | (simp; done) | omega)) | refine row_alloc ?_ _ | refine row_drew ?_ | refine row_call ?_ (by assumption)))) hb2; obtain ⟨c2_1a, c2_1b, f2_1a, f2_1b⟩ := row_two r2_1) | (go_at_call 106; with_reducible refine (P3.out _).mono ?_; rintro e w3 ⟨rfl, hb3⟩; have hz3 := hb3.size; (try simp at hz3); have o3 : Below w.heap.size w w3 := (by (repeat (first | exact Below.refl _ _ | refine Below.setCell ?_ (by first | (simp; done) | (simp; omega) | omega) _ | refine Below.alloc ?_ (by first | (simp; done) | (simp; omega) | omega) _ | refine Below.drew ?_ | refine Below.trans ?_ (Below.mono (by assumption) (by first | (simp; done) | (simp; omega) | omega)))))))
  go_ret
  exact ⟨rfl, o3⟩
theorem icmp_le {p q : Int} (h : p ≤ q) : icmp p q ≤ 0 := by unfold icmp; split <;> (try split) <;> omega
theorem pleR {a b c d : Nat} (h1 : RatOK a b) (h2 : RatOK c d) (h : a * d ≤ c * b) : ∃ r : Int, r ≤ 0 ∧ ∀ w, Calls Try.prog 81 #[.agg #[.int .i64 (a : Nat), .int .i64 (b : Nat)], .agg #[.int .i64 (c : Nat), .int .i64 (d : Nat)]] w fun e w' => e = .returned (.int .i64 r) ∧ Below w.heap.size w w' :=
  ⟨_, icmp_le (by rw [← Int.natCast_mul, ← Int.natCast_mul]; exact Int.ofNat_le.2 h), fun w => pcmpR h1 h2 w⟩
/-- An interval of ratios with an estimate in it. -/
structure BndOK (l1 l2 m1 m2 h1 h2 : Nat) : Prop where
  lo : RatOK l1 l2
  md : RatOK m1 m2
  hi : RatOK h1 h2
  lm : l1 * m2 ≤ m1 * l2
  mh : m1 * h2 ≤ h1 * m2
set_option maxHeartbeats 1000000 in
theorem pbvalid {l1 l2 m1 m2 h1 h2 : Nat} (h : BndOK l1 l2 m1 m2 h1 h2) (w : World) : Calls Try.prog 59 #[.agg #[.int .i64 (l1 : Nat), .int .i64 (l2 : Nat), .int .i64 (m1 : Nat), .int .i64 (m2 : Nat), .int .i64 (h1 : Nat), .int .i64 (h2 : Nat)]] w fun e w' => e = .returned (.bool true) ∧ Below w.heap.size w w' := by
  have P1 := Lib.hid (fun w => pvR h.lo w)
  have P2 := Lib.hid (fun w => pvR h.md w)
  have P3 := Lib.hid (fun w => pvR h.hi w)
  obtain ⟨r4, i4, P4⟩ := pleR h.lo h.md h.lm
  obtain ⟨r5, i5, P5⟩ := pleR h.md h.hi h.mh
  replace P4 := Lib.hid P4
  replace P5 := Lib.hid P5
  clear h
  go_enter Try.func59, Try.ntmps59
  go_upto_region 1 with (fail)
  have X : Row (w.alloc (.cells #[.int .i64 (l1 : Nat), .int .i64 (l2 : Nat), .int .i64 (m1 : Nat), .int .i64 (m2 : Nat), .int .i64 (h1 : Nat), .int .i64 (h2 : Nat)] 45)) w.heap.size 45 #[.int .i64 (l1 : Nat), .int .i64 (l2 : Nat), .int .i64 (m1 : Nat), .int .i64 (m2 : Nat), .int .i64 (h1 : Nat), .int .i64 (h2 : Nat)] := row_new rfl
  have o : Below w.heap.size w (w.alloc (.cells #[.int .i64 (l1 : Nat), .int .i64 (l2 : Nat), .int .i64 (m1 : Nat), .int .i64 (m2 : Nat), .int .i64 (h1 : Nat), .int .i64 (h2 : Nat)] 45)) := by (repeat (first | exact Below.refl _ _ | refine Below.setCell ?_ (by first | (simp; done) | (simp; omega) | omega) _ | refine Below.alloc ?_ (by first | (simp; done) | (simp; omega) | omega) _ | refine Below.drew ?_ | refine Below.trans ?_ (Below.mono (by assumption) (by first | (simp; done) | (simp; omega) | omega))))
  generalize (w.alloc (.cells #[.int .i64 (l1 : Nat), .int .i64 (l2 : Nat), .int .i64 (m1 : Nat), .int .i64 (m2 : Nat), .int .i64 (h1 : Nat), .int .i64 (h2 : Nat)] 45)) = w0 at X o ⊢
  obtain ⟨X0, X1, X2, X3, X4, X5, Xf0, Xf1, Xf2, Xf3, Xf4, Xf5⟩ := row_six X
  go_wp2_with fail
  refine (P1.out _).mono ?_
  rintro e w1 ⟨rfl, hb⟩
  replace X := row_call X hb
  replace o := o.trans (hb.mono o.size)
  clear hb X0 Xf0 X1 Xf1 X2 Xf2 X3 Xf3 X4 Xf4 X5 Xf5
  obtain ⟨X0, X1, X2, X3, X4, X5, Xf0, Xf1, Xf2, Xf3, Xf4, Xf5⟩ := row_six X
  go_wp2_with fail
  refine (P2.out _).mono ?_
  rintro e w2 ⟨rfl, hb⟩
  replace X := row_call X hb
  replace o := o.trans (hb.mono o.size)
  clear hb X0 Xf0 X1 Xf1 X2 Xf2 X3 Xf3 X4 Xf4 X5 Xf5
  obtain ⟨X0, X1, X2, X3, X4, X5, Xf0, Xf1, Xf2, Xf3, Xf4, Xf5⟩ := row_six X
  go_wp2_with fail
  refine (P3.out _).mono ?_
  rintro e w3 ⟨rfl, hb⟩
  replace X := row_call X hb
  replace o := o.trans (hb.mono o.size)
  clear hb X0 Xf0 X1 Xf1 X2 Xf2 X3 Xf3 X4 Xf4 X5 Xf5
  obtain ⟨X0, X1, X2, X3, X4, X5, Xf0, Xf1, Xf2, Xf3, Xf4, Xf5⟩ := row_six X
  go_wp2_with fail
  refine (P4.out _).mono ?_
  rintro e w4 ⟨rfl, hb⟩
  replace X := row_call X hb
  replace o := o.trans (hb.mono o.size)
  clear hb X0 Xf0 X1 Xf1 X2 Xf2 X3 Xf3 X4 Xf4 X5 Xf5
  obtain ⟨X0, X1, X2, X3, X4, X5, Xf0, Xf1, Xf2, Xf3, Xf4, Xf5⟩ := row_six X
  go_wp2_with fail
  refine (P5.out _).mono ?_
  rintro e w5 ⟨rfl, hb⟩
  replace X := row_call X hb
  replace o := o.trans (hb.mono o.size)
  clear hb X0 Xf0 X1 Xf1 X2 Xf2 X3 Xf3 X4 Xf4 X5 Xf5
  go_wp2
  go_ret
  exact ⟨by first | rfl | (simp; omega), o⟩
set_option maxHeartbeats 1000000 in
theorem pholds {l1 l2 m1 m2 h1 h2 v1 v2 : Nat} (h : BndOK l1 l2 m1 m2 h1 h2) (hv : RatOK v1 v2) (hl : l1 * v2 ≤ v1 * l2) (hh : v1 * h2 ≤ h1 * v2) (w : World) : Calls Try.prog 37 #[.agg #[.int .i64 (l1 : Nat), .int .i64 (l2 : Nat), .int .i64 (m1 : Nat), .int .i64 (m2 : Nat), .int .i64 (h1 : Nat), .int .i64 (h2 : Nat)], .agg #[.int .i64 (v1 : Nat), .int .i64 (v2 : Nat)]] w fun e w' => e = .returned (.bool true) ∧ Below w.heap.size w w' := by
  have P1 := Lib.hid (fun w => pbvalid h w)
  have P2 := Lib.hid (fun w => pvR hv w)
  obtain ⟨r4, i4, P3⟩ := pleR h.lo hv hl
  obtain ⟨r5, i5, P4⟩ := pleR hv h.hi hh
  replace P3 := Lib.hid P3
  replace P4 := Lib.hid P4
  clear h hv hl hh
  go_enter Try.func37, Try.ntmps37
  go_upto_region 1 with (fail)
  have X : Row ((w.alloc (.cells #[.int .i64 (l1 : Nat), .int .i64 (l2 : Nat), .int .i64 (m1 : Nat), .int .i64 (m2 : Nat), .int .i64 (h1 : Nat), .int .i64 (h2 : Nat)] 45)).alloc (.cells #[.int .i64 (v1 : Nat), .int .i64 (v2 : Nat)] 35)) w.heap.size 45 #[.int .i64 (l1 : Nat), .int .i64 (l2 : Nat), .int .i64 (m1 : Nat), .int .i64 (m2 : Nat), .int .i64 (h1 : Nat), .int .i64 (h2 : Nat)] := row_alloc (row_new rfl) _
  have Y : Row ((w.alloc (.cells #[.int .i64 (l1 : Nat), .int .i64 (l2 : Nat), .int .i64 (m1 : Nat), .int .i64 (m2 : Nat), .int .i64 (h1 : Nat), .int .i64 (h2 : Nat)] 45)).alloc (.cells #[.int .i64 (v1 : Nat), .int .i64 (v2 : Nat)] 35)) (w.heap.size + 1) 35 #[.int .i64 (v1 : Nat), .int .i64 (v2 : Nat)] := row_new (by simp)
  have o : Below w.heap.size w ((w.alloc (.cells #[.int .i64 (l1 : Nat), .int .i64 (l2 : Nat), .int .i64 (m1 : Nat), .int .i64 (m2 : Nat), .int .i64 (h1 : Nat), .int .i64 (h2 : Nat)] 45)).alloc (.cells #[.int .i64 (v1 : Nat), .int .i64 (v2 : Nat)] 35)) := by (repeat (first | exact Below.refl _ _ | refine Below.setCell ?_ (by first | (simp; done) | (simp; omega) | omega) _ | refine Below.alloc ?_ (by first | (simp; done) | (simp; omega) | omega) _ | refine Below.drew ?_ | refine Below.trans ?_ (Below.mono (by assumption) (by first | (simp; done) | (simp; omega) | omega))))
  generalize ((w.alloc (.cells #[.int .i64 (l1 : Nat), .int .i64 (l2 : Nat), .int .i64 (m1 : Nat), .int .i64 (m2 : Nat), .int .i64 (h1 : Nat), .int .i64 (h2 : Nat)] 45)).alloc (.cells #[.int .i64 (v1 : Nat), .int .i64 (v2 : Nat)] 35)) = w0 at X Y o ⊢
  obtain ⟨X0, X1, X2, X3, X4, X5, Xf0, Xf1, Xf2, Xf3, Xf4, Xf5⟩ := row_six X
  obtain ⟨Y0, Y1, Yf0, Yf1⟩ := row_two Y
  go_wp2_with fail
  refine (P1.out _).mono ?_
  rintro e w1 ⟨rfl, hb⟩
  replace X := row_call X hb
  replace Y := row_call Y hb
  replace o := o.trans (hb.mono o.size)
  clear hb X0 Xf0 X1 Xf1 X2 Xf2 X3 Xf3 X4 Xf4 X5 Xf5 Y0 Yf0 Y1 Yf1
  obtain ⟨X0, X1, X2, X3, X4, X5, Xf0, Xf1, Xf2, Xf3, Xf4, Xf5⟩ := row_six X
  obtain ⟨Y0, Y1, Yf0, Yf1⟩ := row_two Y
  go_wp2_with fail
  refine (P2.out _).mono ?_
  rintro e w2 ⟨rfl, hb⟩
  replace X := row_call X hb
  replace Y := row_call Y hb
  replace o := o.trans (hb.mono o.size)
  clear hb X0 Xf0 X1 Xf1 X2 Xf2 X3 Xf3 X4 Xf4 X5 Xf5 Y0 Yf0 Y1 Yf1
  obtain ⟨X0, X1, X2, X3, X4, X5, Xf0, Xf1, Xf2, Xf3, Xf4, Xf5⟩ := row_six X
  obtain ⟨Y0, Y1, Yf0, Yf1⟩ := row_two Y
  go_wp2_with fail
  refine (P3.out _).mono ?_
  rintro e w3 ⟨rfl, hb⟩
  replace X := row_call X hb
  replace Y := row_call Y hb
  replace o := o.trans (hb.mono o.size)
  clear hb X0 Xf0 X1 Xf1 X2 Xf2 X3 Xf3 X4 Xf4 X5 Xf5 Y0 Yf0 Y1 Yf1
  obtain ⟨X0, X1, X2, X3, X4, X5, Xf0, Xf1, Xf2, Xf3, Xf4, Xf5⟩ := row_six X
  obtain ⟨Y0, Y1, Yf0, Yf1⟩ := row_two Y
  go_wp2_with fail
  refine (P4.out _).mono ?_
  rintro e w4 ⟨rfl, hb⟩
  replace X := row_call X hb
  replace Y := row_call Y hb
  replace o := o.trans (hb.mono o.size)
  clear hb X0 Xf0 X1 Xf1 X2 Xf2 X3 Xf3 X4 Xf4 X5 Xf5 Y0 Yf0 Y1 Yf1
  go_wp2
  go_ret
  exact ⟨by first | rfl | (simp; omega), o⟩
theorem pbsize (a : Nat) (h : a < 9223372036854775808) (w : World) : Calls Try.prog 96 #[.int .i64 (a : Nat)] w fun e w' => e = .returned (.int .u64 (a : Nat)) ∧ w' = w := by
  have h0 : ¬ (a : Int) < 0 := by omega
  have hw : IntKind.u64.wrap (a : Int) = a := IntWalk.u64_in _ (by omega)
  go_enter Try.func96, Try.ntmps96
  go_wp2
  go_ret
  exact ⟨rfl, rfl⟩
set_option maxHeartbeats 2000000 in
theorem pwidth {l1 l2 m1 m2 h1 h2 : Nat} (hb : BndOK l1 l2 m1 m2 h1 h2) (hle : l1 * h2 ≤ h1 * l2) (w : World) : Calls Try.prog 61 #[.agg #[.int .i64 (l1 : Nat), .int .i64 (l2 : Nat), .int .i64 (m1 : Nat), .int .i64 (m2 : Nat), .int .i64 (h1 : Nat), .int .i64 (h2 : Nat)]] w fun e w' => e = .returned (W (h1 * l2 - l1 * h2)) ∧ Below w.heap.size w w' := by
  have z1 := hb.hi.1
  have z2 := hb.lo.1
  have z3 := hb.hi.2.1.2
  have z4 := hb.lo.2.1.2
  have PS1 := Lib.hid (fun w => pbsize h1 (by omega) w)
  have PS2 := Lib.hid (fun w => pbsize l1 (by omega) w)
  have PX := fun w => pprodn h1 l2 (by omega) (by omega) w
  have PY := fun w => pprodn l1 h2 (by omega) (by omega) w
  have x1 : h1 * l2 < big := mul_big (by omega) (by omega)
  have y1 : l1 * h2 < big := mul_big (by omega) (by omega)
  have hw1 : IntKind.u64.wrap (l2 : Int) = l2 := IntWalk.u64_in _ (by omega)
  have hw2 : IntKind.u64.wrap (h2 : Int) = h2 := IntWalk.u64_in _ (by omega)
  have n1 : ¬ (h1 : Int) < 0 := by omega
  have n2 : ¬ (l1 : Int) < 0 := by omega
  generalize h1 * l2 = x at PX x1 hle ⊢
  generalize l1 * h2 = y at PY y1 hle ⊢
  have PD := Lib.hid (fun w => psub_yes x y x1 y1 hle w)
  replace PX := Lib.hid PX
  replace PY := Lib.hid PY
  generalize x - y = d at PD ⊢
  clear hb x1 y1 hle z1 z2 z3 z4
  go_enter Try.func61, Try.ntmps61
  go_upto_region 1 with (fail)
  have X : Row ((w.alloc (.cells #[.int .i64 (l1 : Nat), .int .i64 (l2 : Nat), .int .i64 (m1 : Nat), .int .i64 (m2 : Nat), .int .i64 (h1 : Nat), .int .i64 (h2 : Nat)] 45)).alloc (.cells #[.int .u64 0, .int .u64 0] 72)) w.heap.size 45 #[.int .i64 (l1 : Nat), .int .i64 (l2 : Nat), .int .i64 (m1 : Nat), .int .i64 (m2 : Nat), .int .i64 (h1 : Nat), .int .i64 (h2 : Nat)] := row_alloc (row_new rfl) _
  have R : Row ((w.alloc (.cells #[.int .i64 (l1 : Nat), .int .i64 (l2 : Nat), .int .i64 (m1 : Nat), .int .i64 (m2 : Nat), .int .i64 (h1 : Nat), .int .i64 (h2 : Nat)] 45)).alloc (.cells #[.int .u64 0, .int .u64 0] 72)) (w.heap.size + 1) 72 #[.int .u64 0, .int .u64 0] := row_new (by simp)
  have o : Below w.heap.size w ((w.alloc (.cells #[.int .i64 (l1 : Nat), .int .i64 (l2 : Nat), .int .i64 (m1 : Nat), .int .i64 (m2 : Nat), .int .i64 (h1 : Nat), .int .i64 (h2 : Nat)] 45)).alloc (.cells #[.int .u64 0, .int .u64 0] 72)) := by (repeat (first | exact Below.refl _ _ | refine Below.setCell ?_ (by first | (simp; done) | (simp; omega) | omega) _ | refine Below.alloc ?_ (by first | (simp; done) | (simp; omega) | omega) _ | refine Below.drew ?_ | refine Below.trans ?_ (Below.mono (by assumption) (by first | (simp; done) | (simp; omega) | omega))))
  generalize hW : ((w.alloc (.cells #[.int .i64 (l1 : Nat), .int .i64 (l2 : Nat), .int .i64 (m1 : Nat), .int .i64 (m2 : Nat), .int .i64 (h1 : Nat), .int .i64 (h2 : Nat)] 45)).alloc (.cells #[.int .u64 0, .int .u64 0] 72)) = w0 at X R o ⊢
  have rlt := row_lt R
  clear hW
  refine wp_region_free2 [0, 1, 2, 3, 4, 5, 6, 7, 8, 9, 10, 11, 12, 13, 14, 15, 16, 17] [] [0, 1, 2, 3, 4, 5, 6, 7, 8, 9, 10, 11, 12, 13, 14, 15, 16, 17, 18, 19] (18, 72, #[.int .u64 0, .int .u64 0]) (19, 72, #[.int .u64 0, .int .u64 0]) 3 4 20 (fun w' => Row w' (w.heap.size) 45 #[.int .i64 (l1 : Nat), .int .i64 (l2 : Nat), .int .i64 (m1 : Nat), .int .i64 (m2 : Nat), .int .i64 (h1 : Nat), .int .i64 (h2 : Nat)] ∧ Row w' (w.heap.size + 1) 72 #[.int .u64 0, .int .u64 0] ∧ Below w.heap.size w w') (by kernel_rfl) (by kernel_rfl) ⟨_, _, rfl, rfl, rfl, fun ρ w' => by go_simp⟩ ⟨_, _, rfl, rfl, rfl, fun ρ w' => by go_simp⟩ rfl rfl (by simp) (by simp) (fun _ h => ⟨row_alloc h.1 _, row_alloc h.2.1 _, h.2.2.alloc h.2.2.size _⟩) (fun _ h => ⟨row_alloc h.1 _, row_alloc h.2.1 _, h.2.2.alloc h.2.2.size _⟩) (fun _ _ d _ _ h => by cases d <;> exact h) ?_ ?_
  · exact ⟨X, R, o.drew⟩
  (refine plan_pure ?_ rfl rfl (fun w' => ?_) ?_; rotate_left; (go_simp; try with_reducible rfl); simp only [Act.put, List.setIfInBounds_toArray, List.set_cons_zero, List.set_cons_succ])
  (refine plan_pure ?_ rfl rfl (fun w' => ?_) ?_; rotate_left; (go_simp; try with_reducible rfl); simp only [Act.put, List.setIfInBounds_toArray, List.set_cons_zero, List.set_cons_succ])
  (refine plan_val ?_ rfl rfl rfl (fun w' hS => ?_) ?_; rotate_left; (obtain ⟨X0, X1, X2, X3, X4, X5, Xf0, Xf1, Xf2, Xf3, Xf4, Xf5⟩ := row_six hS.1; go_simp; try with_reducible rfl); simp only [Act.put, List.setIfInBounds_toArray, List.set_cons_zero, List.set_cons_succ])
  refine plan_call (.int .u64 (h1 : Nat)) 96 #[.int .i64 (h1 : Nat)] rfl rfl rfl (fun _ _ h hb => ⟨row_call h.1 hb, row_call h.2.1 hb, h.2.2.trans (hb.mono h.2.2.size)⟩) (fun w' hS => by obtain ⟨X0, X1, X2, X3, X4, X5, Xf0, Xf1, Xf2, Xf3, Xf4, Xf5⟩ := row_six hS.1; go_simp) (fun w' hS => (PS1.out w').mono (fun e w'' h => ⟨h.1, by rw [h.2]; exact Below.refl _ _⟩)) ?_
  simp only [Act.put, List.setIfInBounds_toArray, List.set_cons_zero, List.set_cons_succ]
  (refine plan_pure ?_ rfl rfl (fun w' => ?_) ?_; rotate_left; (go_simp; try with_reducible rfl); simp only [Act.put, List.setIfInBounds_toArray, List.set_cons_zero, List.set_cons_succ])
  (refine plan_pure ?_ rfl rfl (fun w' => ?_) ?_; rotate_left; (go_simp; try with_reducible rfl); simp only [Act.put, List.setIfInBounds_toArray, List.set_cons_zero, List.set_cons_succ])
  (refine plan_val ?_ rfl rfl rfl (fun w' hS => ?_) ?_; rotate_left; (obtain ⟨X0, X1, X2, X3, X4, X5, Xf0, Xf1, Xf2, Xf3, Xf4, Xf5⟩ := row_six hS.1; go_simp; try with_reducible rfl); simp only [Act.put, List.setIfInBounds_toArray, List.set_cons_zero, List.set_cons_succ])
  (refine plan_pure ?_ rfl rfl (fun w' => ?_) ?_; rotate_left; (go_simp; try with_reducible rfl); simp only [Act.put, List.setIfInBounds_toArray, List.set_cons_zero, List.set_cons_succ])
  refine plan_call (W x) 50 #[.int .u64 (h1 : Nat), .int .u64 (l2 : Nat)] rfl rfl rfl (fun _ _ h hb => ⟨row_call h.1 hb, row_call h.2.1 hb, h.2.2.trans (hb.mono h.2.2.size)⟩) (fun w' hS => by obtain ⟨X0, X1, X2, X3, X4, X5, Xf0, Xf1, Xf2, Xf3, Xf4, Xf5⟩ := row_six hS.1; go_simp) (fun w' hS => PX.out w') ?_
  simp only [Act.put, List.setIfInBounds_toArray, List.set_cons_zero, List.set_cons_succ]
  (refine plan_pure ?_ rfl rfl (fun w' => ?_) ?_; rotate_left; (go_simp; try with_reducible rfl); simp only [Act.put, List.setIfInBounds_toArray, List.set_cons_zero, List.set_cons_succ])
  (refine plan_pure ?_ rfl rfl (fun w' => ?_) ?_; rotate_left; (go_simp; try with_reducible rfl); simp only [Act.put, List.setIfInBounds_toArray, List.set_cons_zero, List.set_cons_succ])
  (refine plan_val ?_ rfl rfl rfl (fun w' hS => ?_) ?_; rotate_left; (obtain ⟨X0, X1, X2, X3, X4, X5, Xf0, Xf1, Xf2, Xf3, Xf4, Xf5⟩ := row_six hS.1; go_simp; try with_reducible rfl); simp only [Act.put, List.setIfInBounds_toArray, List.set_cons_zero, List.set_cons_succ])
  refine plan_call (.int .u64 (l1 : Nat)) 96 #[.int .i64 (l1 : Nat)] rfl rfl rfl (fun _ _ h hb => ⟨row_call h.1 hb, row_call h.2.1 hb, h.2.2.trans (hb.mono h.2.2.size)⟩) (fun w' hS => by obtain ⟨X0, X1, X2, X3, X4, X5, Xf0, Xf1, Xf2, Xf3, Xf4, Xf5⟩ := row_six hS.1; go_simp) (fun w' hS => (PS2.out w').mono (fun e w'' h => ⟨h.1, by rw [h.2]; exact Below.refl _ _⟩)) ?_
  simp only [Act.put, List.setIfInBounds_toArray, List.set_cons_zero, List.set_cons_succ]
  (refine plan_pure ?_ rfl rfl (fun w' => ?_) ?_; rotate_left; (go_simp; try with_reducible rfl); simp only [Act.put, List.setIfInBounds_toArray, List.set_cons_zero, List.set_cons_succ])
  (refine plan_pure ?_ rfl rfl (fun w' => ?_) ?_; rotate_left; (go_simp; try with_reducible rfl); simp only [Act.put, List.setIfInBounds_toArray, List.set_cons_zero, List.set_cons_succ])
  (refine plan_val ?_ rfl rfl rfl (fun w' hS => ?_) ?_; rotate_left; (obtain ⟨X0, X1, X2, X3, X4, X5, Xf0, Xf1, Xf2, Xf3, Xf4, Xf5⟩ := row_six hS.1; go_simp; try with_reducible rfl); simp only [Act.put, List.setIfInBounds_toArray, List.set_cons_zero, List.set_cons_succ])
  (refine plan_pure ?_ rfl rfl (fun w' => ?_) ?_; rotate_left; (go_simp; try with_reducible rfl); simp only [Act.put, List.setIfInBounds_toArray, List.set_cons_zero, List.set_cons_succ])
  refine plan_call (W y) 50 #[.int .u64 (l1 : Nat), .int .u64 (h2 : Nat)] rfl rfl rfl (fun _ _ h hb => ⟨row_call h.1 hb, row_call h.2.1 hb, h.2.2.trans (hb.mono h.2.2.size)⟩) (fun w' hS => by obtain ⟨X0, X1, X2, X3, X4, X5, Xf0, Xf1, Xf2, Xf3, Xf4, Xf5⟩ := row_six hS.1; go_simp) (fun w' hS => PY.out w') ?_
  simp only [Act.put, List.setIfInBounds_toArray, List.set_cons_zero, List.set_cons_succ]
  refine plan_nil ?_
  intro g1 g2 w3 L hr1 hr2 hne hg1 hg2
  simp only [List.drop_succ_cons, List.drop_zero]
  try simp only [Act.put, List.setIfInBounds_toArray, List.set_cons_zero, List.set_cons_succ]
  obtain ⟨X', R', o'⟩ := L
  clear X R o
  unfold W
  have q1 : w.heap.size + 1 ≠ g1 := by omega
  have q2 : w.heap.size + 1 ≠ g2 := by omega
  have q3 : w.heap.size ≠ g1 := by omega
  have q4 : w.heap.size ≠ g2 := by omega
  have q5 : w.heap.size ≤ g1 := by omega
  have q6 : w.heap.size ≤ g2 := by omega
  obtain ⟨A0, A1, Af0, Af1⟩ := row_two hr1
  obtain ⟨C0, C1, Cf0, Cf1⟩ := row_two hr2
  go_upto_region 2 with (fail)
  have Rg := row_two_other (c := g2) (u := .int .u64 (hi y)) (v := .int .u64 (lo y)) (row_two_set (u := .int .u64 (hi x)) (v := .int .u64 (lo x)) hr1) hne
  have Rk := row_two_set (u := .int .u64 (hi y)) (v := .int .u64 (lo y)) (row_two_other (c := g1) (u := .int .u64 (hi x)) (v := .int .u64 (lo x)) hr2 (Ne.symm hne))
  have X := row_two_other (c := g2) (u := .int .u64 (hi y)) (v := .int .u64 (lo y)) (row_two_other (c := g1) (u := .int .u64 (hi x)) (v := .int .u64 (lo x)) X' q3) q4
  have R := row_two_other (c := g2) (u := .int .u64 (hi y)) (v := .int .u64 (lo y)) (row_two_other (c := g1) (u := .int .u64 (hi x)) (v := .int .u64 (lo x)) R' q1) q2
  have o := (((o'.setCell (p := ⟨g1, 0, none⟩) q5 (.int .u64 (hi x))).setCell (p := ⟨g1, 1, none⟩) q5 (.int .u64 (lo x))).setCell (p := ⟨g2, 0, none⟩) q6 (.int .u64 (hi y))).setCell (p := ⟨g2, 1, none⟩) q6 (.int .u64 (lo y))
  generalize (((w3.setCell ⟨g1, 0, none⟩ (.int .u64 (hi x))).setCell ⟨g1, 1, none⟩ (.int .u64 (lo x))).setCell ⟨g2, 0, none⟩ (.int .u64 (hi y))).setCell ⟨g2, 1, none⟩ (.int .u64 (lo y)) = w5 at Rg Rk X R o ⊢
  clear hr1 hr2 X' R' o' A0 A1 Af0 Af1 C0 C1 Cf0 Cf1
  have gl1 := row_lt Rg
  have gl2 := row_lt Rk
  have rl5 := row_lt R
  go_upto_region 4 with (fail)
  have D := row_new (w := w5) (t := 72) (cs := #[.int .u64 0, .int .u64 0]) rfl
  replace Rg := row_alloc Rg (.cells #[.int .u64 0, .int .u64 0] 72)
  replace Rk := row_alloc Rk (.cells #[.int .u64 0, .int .u64 0] 72)
  replace X := row_alloc X (.cells #[.int .u64 0, .int .u64 0] 72)
  replace R := row_alloc R (.cells #[.int .u64 0, .int .u64 0] 72)
  replace o := o.alloc o.size (.cells #[.int .u64 0, .int .u64 0] 72)
  generalize w5.alloc (.cells #[.int .u64 0, .int .u64 0] 72) = w6 at Rg Rk X R D o ⊢
  have d1 : w.heap.size ≤ w5.heap.size := by omega
  have d2 : w.heap.size + 1 ≠ w5.heap.size := by omega
  generalize w5.heap.size = db at D d1 d2 gl1 gl2 rl5 ⊢
  obtain ⟨X0, X1, X2, X3, X4, X5, Xf0, Xf1, Xf2, Xf3, Xf4, Xf5⟩ := row_six X
  obtain ⟨A0, A1, Af0, Af1⟩ := row_two Rg
  obtain ⟨C0, C1, Cf0, Cf1⟩ := row_two Rk
  have PD2 := PD.out
  unfold W at PD2
  replace PD2 := Lib.hid PD2
  go_wp2_with fail
  refine (PD2.out _).mono ?_
  rintro e w7 ⟨rfl, hb⟩
  replace D := row_call D hb
  replace R := row_call R hb
  replace o := o.trans (hb.mono o.size)
  clear hb X X0 X1 X2 X3 X4 X5 Xf0 Xf1 Xf2 Xf3 Xf4 Xf5 Rg Rk A0 A1 Af0 Af1 C0 C1 Cf0 Cf1
  obtain ⟨D0, D1, Df0, Df1⟩ := row_two D
  go_upto_region 8 with (fail)
  have D' := row_two_set (u := .int .u64 (hi d)) (v := .int .u64 (lo d)) D
  replace R := row_two_other (c := db) (u := .int .u64 (hi d)) (v := .int .u64 (lo d)) R d2
  replace o := (o.setCell (p := ⟨db, 0, none⟩) d1 (.int .u64 (hi d))).setCell (p := ⟨db, 1, none⟩) d1 (.int .u64 (lo d))
  generalize (w7.setCell ⟨db, 0, none⟩ (.int .u64 (hi d))).setCell ⟨db, 1, none⟩ (.int .u64 (lo d)) = w8 at D' R o ⊢
  clear D D0 D1 Df0 Df1
  obtain ⟨D0, D1, Df0, Df1⟩ := row_two D'
  obtain ⟨R0, R1, Rf0, Rf1⟩ := row_two R
  go_wp2
  have r9 := row_two_set (u := .int .u64 (hi d)) (v := .int .u64 (lo d)) R
  have hbr : w.heap.size ≤ w.heap.size + 1 := by omega
  have o9 : Below w.heap.size w ((w8.setCell ⟨w.heap.size + 1, 0, none⟩ (.int .u64 (hi d))).setCell ⟨w.heap.size + 1, 1, none⟩ (.int .u64 (lo d))) := (o.setCell (p := ⟨w.heap.size + 1, 0, none⟩) hbr (.int .u64 (hi d))).setCell (p := ⟨w.heap.size + 1, 1, none⟩) hbr (.int .u64 (lo d))
  generalize (w8.setCell ⟨w.heap.size + 1, 0, none⟩ (.int .u64 (hi d))).setCell ⟨w.heap.size + 1, 1, none⟩ (.int .u64 (lo d)) = w9 at r9 o9 ⊢
  obtain ⟨e1, e2, _, _⟩ := row_two r9
  exact bodyPost_ret (v := W d) (by simp [results, Try.results61, go_sem, W, e1, e2]) rfl ⟨rfl, o9⟩
end Go.Proofs.Ytaiepjcnncajcaa
end
section
/- An interval is narrow against a number: for ratios that are not negative, walked. -/
set_option linter.unusedVariables false
set_option linter.unusedSimpArgs false
set_option linter.unusedSectionVars false
set_option linter.unnecessarySimpa false
namespace Go.Proofs.Ytaiepjcnncajcaa
open Go.RowKit Go.Shelf
theorem QV_W {d : Nat} (h : d < big) : QV d = .agg #[.int .u64 (lo d), .int .u64 (hi d), .int .u64 0, .int .u64 0] := by
  have e0 : ((qd 0 d : Nat) : Int) = lo d := by unfold qd lo; rw [Nat.pow_zero, Nat.div_one]
  have e1 : ((qd 1 d : Nat) : Int) = hi d := by
    unfold qd hi big at *
    rw [Nat.pow_one, Nat.mod_eq_of_lt (by omega)]
  have e2 : qd 2 d = 0 := by
    unfold qd big at *
    rw [Nat.div_eq_of_lt (by omega)]
  have e3 : qd 3 d = 0 := by
    unfold qd big at *
    rw [Nat.div_eq_of_lt (by omega)]
  unfold QV
  rw [e0, e1, e2, e3]
  rfl
/-- The words of numbers of 256 bits in order. -/
theorem q_le {L R : Nat} (hL : L < 115792089237316195423570985008687907853269984665640564039457584007913129639936) (hR : R < 115792089237316195423570985008687907853269984665640564039457584007913129639936) (h : L ≤ R) :
    (qd 3 L = qd 3 R ∧ qd 2 L = qd 2 R ∧ qd 1 L = qd 1 R ∧ qd 0 L = qd 0 R) ∨ qd 3 L < qd 3 R ∨ (qd 3 L = qd 3 R ∧ qd 2 L < qd 2 R) ∨ (qd 3 L = qd 3 R ∧ qd 2 L = qd 2 R ∧ qd 1 L < qd 1 R) ∨ (qd 3 L = qd 3 R ∧ qd 2 L = qd 2 R ∧ qd 1 L = qd 1 R ∧ qd 0 L < qd 0 R) := by
  have a0 := qd_step L 0
  have a1 := qd_step L 1
  have a2 := qd_step L 2
  have a3 := qd_step L 3
  have c0 := qd_step R 0
  have c1 := qd_step R 1
  have c2 := qd_step R 2
  have c3 := qd_step R 3
  have l0 := qd_lt 0 L
  have l1 := qd_lt 1 L
  have l2 := qd_lt 2 L
  have l3 := qd_lt 3 L
  have r0 := qd_lt 0 R
  have r1 := qd_lt 1 R
  have r2 := qd_lt 2 R
  have r3 := qd_lt 3 R
  have eL : L / 18446744073709551616 ^ (3 + 1) = 0 := Nat.div_eq_of_lt (by omega)
  have eR : R / 18446744073709551616 ^ (3 + 1) = 0 := Nat.div_eq_of_lt (by omega)
  rw [eL] at a3
  rw [eR] at c3
  rw [Nat.pow_zero, Nat.div_one] at a0 c0
  simp only [Nat.reduceAdd] at *
  generalize L / 18446744073709551616 ^ 1 = L1 at *
  generalize L / 18446744073709551616 ^ 2 = L2 at *
  generalize L / 18446744073709551616 ^ 3 = L3 at *
  generalize R / 18446744073709551616 ^ 1 = R1 at *
  generalize R / 18446744073709551616 ^ 2 = R2 at *
  generalize R / 18446744073709551616 ^ 3 = R3 at *
  omega
theorem info_u64 : (Try.prog.info? 70).isSome = true := by kernel_rfl
theorem cells_u64 : Try.prog.cellsOf 70 = 1 := by kernel_rfl
theorem plain_u64 : Try.prog.plainKey 70 = true := by kernel_rfl
theorem quad_item {xs ys : Array Value} {i : Nat} {is : List Nat} {a b : Int} (w' : World) (hx : xs[i]? = some (.int .u64 a)) (hy : ys[i]? = some (.int .u64 b)) :
    (Op.eqItems 9999 70 1 xs ys (i :: is)).run Try.prog w' = if a = b then (Op.eqItems 9999 70 1 xs ys is).run Try.prog w' else .ok false w' := by
  have px := run_part_plain (w := w') (P := Try.prog) plain_u64 hx
  have py := run_part_plain (w := w') (P := Try.prog) plain_u64 hy
  have e : (Op.equalIn 9999 70 (.int .u64 a) (.int .u64 b)).run Try.prog w' = .ok (a == b) w' := run_equalIn_int w' 9998 70 .u64 .u64 a b Try.underlying70
  rw [Op.eqItems]
  simp only [Sem.run_bind, Nat.mul_one, px, py, e, Result.andThen_ok]
  by_cases h : a = b
  · rw [if_pos h, if_neg (by simp [h])]
  · rw [if_neg h, if_pos (by simp [h])]
    rfl
theorem run_quad_ne {b0 b1 b2 b3 c0 c1 c2 c3 : Int} (h : ¬ (b0 = c0 ∧ b1 = c1 ∧ b2 = c2 ∧ b3 = c3)) (w' : World) : (binOp .eql 86 (.agg #[.int .u64 b0, .int .u64 b1, .int .u64 b2, .int .u64 b3]) (.agg #[.int .u64 c0, .int .u64 c1, .int .u64 c2, .int .u64 c3])).run Try.prog w' = .ok (.bool false) w' := by
  obtain ⟨i, hi⟩ := Option.isSome_iff_exists.1 info_u64
  rw [run_eql_struct, show (10000 : Nat) = 9999 + 1 from rfl, run_equalIn_array w' 9999 _ _ Try.underlying86 hi, cells_u64, show List.range 4 = [0, 1, 2, 3] from rfl,
    quad_item (i := 0) (a := b0) (b := c0) w' rfl rfl, quad_item (i := 1) (a := b1) (b := c1) w' rfl rfl, quad_item (i := 2) (a := b2) (b := c2) w' rfl rfl, quad_item (i := 3) (a := b3) (b := c3) w' rfl rfl]
  split
  · split
    · split
      · split
        · exact absurd ⟨by assumption, by assumption, by assumption, by assumption⟩ h
        · rfl
      · rfl
    · rfl
  · rfl
theorem run_quad_eq {b0 b1 b2 b3 : Int} (w' : World) : (binOp .eql 86 (.agg #[.int .u64 b0, .int .u64 b1, .int .u64 b2, .int .u64 b3]) (.agg #[.int .u64 b0, .int .u64 b1, .int .u64 b2, .int .u64 b3])).run Try.prog w' = .ok (.bool true) w' := by
  obtain ⟨i, hi⟩ := Option.isSome_iff_exists.1 info_u64
  rw [run_eql_struct, show (10000 : Nat) = 9999 + 1 from rfl, run_equalIn_array w' 9999 _ _ Try.underlying86 hi, cells_u64, show List.range 4 = [0, 1, 2, 3] from rfl,
    quad_item (i := 0) (a := b0) (b := b0) w' rfl rfl, quad_item (i := 1) (a := b1) (b := b1) w' rfl rfl, quad_item (i := 2) (a := b2) (b := b2) w' rfl rfl, quad_item (i := 3) (a := b3) (b := b3) w' rfl rfl,
    if_pos rfl, if_pos rfl, if_pos rfl, if_pos rfl]
  rfl
set_option maxHeartbeats 4000000 in
theorem pwithin_flat {l1 l2 m1 m2 h1 h2 v1 v2 k d e : Nat} {a0 a1 a2 a3 b0 b1 b2 b3 c0 c1 c2 c3 : Int} (hb : BndOK l1 l2 m1 m2 h1 h2) (hv : RatOK v1 v2) (hk : 1 ≤ k ∧ k ≤ 64) (hle : l1 * h2 ≤ h1 * l2) (hd : h1 * l2 - l1 * h2 = d) (he : l2 * h2 = e)
    (T1 : RowKit.Hid (∀ w, Calls Try.prog 62 #[.agg #[.int .u64 (lo d), .int .u64 (hi d), .int .u64 0, .int .u64 0], .int .u64 (k : Nat)] w fun e w' => e = .returned (.agg #[.int .u64 a0, .int .u64 a1, .int .u64 a2, .int .u64 a3]) ∧ Below w.heap.size w w'))
    (T2 : RowKit.Hid (∀ w, Calls Try.prog 62 #[.agg #[.int .u64 a0, .int .u64 a1, .int .u64 a2, .int .u64 a3], .int .u64 (v2 : Nat)] w fun e w' => e = .returned (.agg #[.int .u64 b0, .int .u64 b1, .int .u64 b2, .int .u64 b3]) ∧ Below w.heap.size w w'))
    (T3 : RowKit.Hid (∀ w, Calls Try.prog 62 #[.agg #[.int .u64 (lo e), .int .u64 (hi e), .int .u64 0, .int .u64 0], .int .u64 (v1 : Nat)] w fun e w' => e = .returned (.agg #[.int .u64 c0, .int .u64 c1, .int .u64 c2, .int .u64 c3]) ∧ Below w.heap.size w w'))
    (hq : (b3 = c3 ∧ b2 = c2 ∧ b1 = c1 ∧ b0 = c0) ∨ b3 < c3 ∨ (b3 = c3 ∧ b2 < c2) ∨ (b3 = c3 ∧ b2 = c2 ∧ b1 < c1) ∨ (b3 = c3 ∧ b2 = c2 ∧ b1 = c1 ∧ b0 < c0)) (w : World) :
    Calls Try.prog 23 #[.agg #[.int .i64 (l1 : Nat), .int .i64 (l2 : Nat), .int .i64 (m1 : Nat), .int .i64 (m2 : Nat), .int .i64 (h1 : Nat), .int .i64 (h2 : Nat)], .int .i64 (k : Nat), .agg #[.int .i64 (v1 : Nat), .int .i64 (v2 : Nat)]] w fun e w' => e = .returned (.bool true) ∧ Below w.heap.size w w' := by
  have P1 := Lib.hid (fun w => pbvalid hb w)
  have P2 := Lib.hid (fun w => pvR hv w)
  have P3 := fun w => pwidth hb hle w
  have z1 := hb.lo.2.1.2
  have z2 := hb.hi.2.1.2
  have z3 := hv.2.1.2
  have z4 := hv.1
  have P4 := fun w => pprodn l2 h2 (by omega) (by omega) w
  rw [hd] at P3
  rw [he] at P4
  unfold W at P3 P4
  replace P3 := Lib.hid P3
  replace P4 := Lib.hid P4
  have i1 : ¬ (k : Int) < 1 := by omega
  have i2 : ¬ (v1 : Int) < 0 := by omega
  have wk : IntKind.u64.wrap (k : Int) = k := IntWalk.u64_in _ (by omega)
  have wv1 : IntKind.u64.wrap (v1 : Int) = v1 := IntWalk.u64_in _ (by omega)
  have wv2 : IntKind.u64.wrap (v2 : Int) = v2 := IntWalk.u64_in _ (by omega)
  have wl2 : IntKind.u64.wrap (l2 : Int) = l2 := IntWalk.u64_in _ (by omega)
  have wh2 : IntKind.u64.wrap (h2 : Int) = h2 := IntWalk.u64_in _ (by omega)
  have HQ := Lib.hid hq
  clear hb hv hk hle hd he hq z1 z2 z3 z4
  go_enter Try.func23, Try.ntmps23
  go_upto_region 1 with (fail)
  have X : Row ((w.alloc (.cells #[.int .i64 (l1 : Nat), .int .i64 (l2 : Nat), .int .i64 (m1 : Nat), .int .i64 (m2 : Nat), .int .i64 (h1 : Nat), .int .i64 (h2 : Nat)] 45)).alloc (.cells #[.int .i64 (v1 : Nat), .int .i64 (v2 : Nat)] 35)) w.heap.size 45 #[.int .i64 (l1 : Nat), .int .i64 (l2 : Nat), .int .i64 (m1 : Nat), .int .i64 (m2 : Nat), .int .i64 (h1 : Nat), .int .i64 (h2 : Nat)] := row_alloc (row_new rfl) _
  have V : Row ((w.alloc (.cells #[.int .i64 (l1 : Nat), .int .i64 (l2 : Nat), .int .i64 (m1 : Nat), .int .i64 (m2 : Nat), .int .i64 (h1 : Nat), .int .i64 (h2 : Nat)] 45)).alloc (.cells #[.int .i64 (v1 : Nat), .int .i64 (v2 : Nat)] 35)) (w.heap.size + 1) 35 #[.int .i64 (v1 : Nat), .int .i64 (v2 : Nat)] := row_new (by simp)
  have o : Below w.heap.size w ((w.alloc (.cells #[.int .i64 (l1 : Nat), .int .i64 (l2 : Nat), .int .i64 (m1 : Nat), .int .i64 (m2 : Nat), .int .i64 (h1 : Nat), .int .i64 (h2 : Nat)] 45)).alloc (.cells #[.int .i64 (v1 : Nat), .int .i64 (v2 : Nat)] 35)) := by (repeat (first | exact Below.refl _ _ | refine Below.setCell ?_ (by first | (simp; done) | (simp; omega) | omega) _ | refine Below.alloc ?_ (by first | (simp; done) | (simp; omega) | omega) _ | refine Below.drew ?_ | refine Below.trans ?_ (Below.mono (by assumption) (by first | (simp; done) | (simp; omega) | omega))))
  generalize ((w.alloc (.cells #[.int .i64 (l1 : Nat), .int .i64 (l2 : Nat), .int .i64 (m1 : Nat), .int .i64 (m2 : Nat), .int .i64 (h1 : Nat), .int .i64 (h2 : Nat)] 45)).alloc (.cells #[.int .i64 (v1 : Nat), .int .i64 (v2 : Nat)] 35)) = w0 at X V o ⊢
  obtain ⟨X0, X1, X2, X3, X4, X5, Xf0, Xf1, Xf2, Xf3, Xf4, Xf5⟩ := row_six X
  obtain ⟨V0, V1, Vf0, Vf1⟩ := row_two V
  go_wp2_with fail
  refine (P1.out _).mono ?_
  rintro e w1 ⟨rfl, hb⟩
  replace X := row_call X hb
  replace V := row_call V hb
  replace o := o.trans (hb.mono o.size)
  clear hb X0 Xf0 X1 Xf1 X2 Xf2 X3 Xf3 X4 Xf4 X5 Xf5 V0 Vf0 V1 Vf1
  obtain ⟨X0, X1, X2, X3, X4, X5, Xf0, Xf1, Xf2, Xf3, Xf4, Xf5⟩ := row_six X
  obtain ⟨V0, V1, Vf0, Vf1⟩ := row_two V
  go_wp2_with fail
  refine (P2.out _).mono ?_
  rintro e w2 ⟨rfl, hb⟩
  replace X := row_call X hb
  replace V := row_call V hb
  replace o := o.trans (hb.mono o.size)
  clear hb X0 Xf0 X1 Xf1 X2 Xf2 X3 Xf3 X4 Xf4 X5 Xf5 V0 Vf0 V1 Vf1
  obtain ⟨X0, X1, X2, X3, X4, X5, Xf0, Xf1, Xf2, Xf3, Xf4, Xf5⟩ := row_six X
  obtain ⟨V0, V1, Vf0, Vf1⟩ := row_two V
  go_wp2_with fail
  refine (P3.out _).mono ?_
  rintro e w3 ⟨rfl, hb⟩
  replace X := row_call X hb
  replace V := row_call V hb
  replace o := o.trans (hb.mono o.size)
  clear hb X0 Xf0 X1 Xf1 X2 Xf2 X3 Xf3 X4 Xf4 X5 Xf5 V0 Vf0 V1 Vf1
  go_upto_region 4 with (fail)
  have D : Row (w3.alloc (.cells #[.int .u64 (hi d), .int .u64 (lo d)] 72)) w3.heap.size 72 #[.int .u64 (hi d), .int .u64 (lo d)] := row_new rfl
  replace X := row_alloc X (.cells #[.int .u64 (hi d), .int .u64 (lo d)] 72)
  replace V := row_alloc V (.cells #[.int .u64 (hi d), .int .u64 (lo d)] 72)
  replace o := o.alloc o.size (.cells #[.int .u64 (hi d), .int .u64 (lo d)] 72)
  generalize w3.alloc (.cells #[.int .u64 (hi d), .int .u64 (lo d)] 72) = w4 at X V D o ⊢
  generalize w3.heap.size = wb at D ⊢
  have xl := row_lt X
  have vl := row_lt V
  refine wp_region_free1 [0, 1, 2, 3, 4, 5, 6, 7, 8, 9, 10, 11] [] [0, 1, 2, 3, 4, 5, 6, 7, 8, 9, 10, 11, 12] (12, 86, #[.int .u64 0, .int .u64 0, .int .u64 0, .int .u64 0]) 8 13 (fun w' => Row w' (w.heap.size) 45 #[.int .i64 (l1 : Nat), .int .i64 (l2 : Nat), .int .i64 (m1 : Nat), .int .i64 (m2 : Nat), .int .i64 (h1 : Nat), .int .i64 (h2 : Nat)] ∧ Row w' (w.heap.size + 1) 35 #[.int .i64 (v1 : Nat), .int .i64 (v2 : Nat)] ∧ Row w' (wb) 72 #[.int .u64 (hi d), .int .u64 (lo d)] ∧ Below w.heap.size w w') (by kernel_rfl) (by kernel_rfl) ⟨_, _, rfl, rfl, rfl, fun ρ w' => by go_simp⟩ rfl (by simp) (fun _ h => ⟨row_alloc h.1 _, row_alloc h.2.1 _, row_alloc h.2.2.1 _, h.2.2.2.alloc h.2.2.2.size _⟩) (fun _ _ d _ _ h => by cases d <;> exact h) ?_ ?_
  · exact ⟨X, V, D, o.drew⟩
  (refine plan_pure ?_ rfl rfl (fun w' => ?_) ?_; rotate_left; (go_simp; try with_reducible rfl); simp only [Act.put, List.setIfInBounds_toArray, List.set_cons_zero, List.set_cons_succ])
  (refine plan_val ?_ rfl rfl rfl (fun w' hS => ?_) ?_; rotate_left; (obtain ⟨X0, X1, X2, X3, X4, X5, Xf0, Xf1, Xf2, Xf3, Xf4, Xf5⟩ := row_six hS.1; obtain ⟨V0, V1, Vf0, Vf1⟩ := row_two hS.2.1; obtain ⟨D0, D1, Df0, Df1⟩ := row_two hS.2.2.1; go_simp; try with_reducible rfl); simp only [Act.put, List.setIfInBounds_toArray, List.set_cons_zero, List.set_cons_succ])
  (refine plan_pure ?_ rfl rfl (fun w' => ?_) ?_; rotate_left; (go_simp; try with_reducible rfl); simp only [Act.put, List.setIfInBounds_toArray, List.set_cons_zero, List.set_cons_succ])
  (refine plan_val ?_ rfl rfl rfl (fun w' hS => ?_) ?_; rotate_left; (obtain ⟨X0, X1, X2, X3, X4, X5, Xf0, Xf1, Xf2, Xf3, Xf4, Xf5⟩ := row_six hS.1; obtain ⟨V0, V1, Vf0, Vf1⟩ := row_two hS.2.1; obtain ⟨D0, D1, Df0, Df1⟩ := row_two hS.2.2.1; go_simp; try with_reducible rfl); simp only [Act.put, List.setIfInBounds_toArray, List.set_cons_zero, List.set_cons_succ])
  (refine plan_pure ?_ rfl rfl (fun w' => ?_) ?_; rotate_left; (go_simp; try with_reducible rfl); simp only [Act.put, List.setIfInBounds_toArray, List.set_cons_zero, List.set_cons_succ])
  (refine plan_pure ?_ rfl rfl (fun w' => ?_) ?_; rotate_left; (go_simp; try with_reducible rfl); simp only [Act.put, List.setIfInBounds_toArray, List.set_cons_zero, List.set_cons_succ])
  (refine plan_pure ?_ rfl rfl (fun w' => ?_) ?_; rotate_left; (go_simp; try with_reducible rfl); simp only [Act.put, List.setIfInBounds_toArray, List.set_cons_zero, List.set_cons_succ])
  refine plan_call (.agg #[.int .u64 a0, .int .u64 a1, .int .u64 a2, .int .u64 a3]) 62 #[.agg #[.int .u64 (lo d), .int .u64 (hi d), .int .u64 0, .int .u64 0], .int .u64 (k : Nat)] rfl rfl rfl (fun _ _ h hb => ⟨row_call h.1 hb, row_call h.2.1 hb, row_call h.2.2.1 hb, h.2.2.2.trans (hb.mono h.2.2.2.size)⟩) (fun w' hS => by obtain ⟨X0, X1, X2, X3, X4, X5, Xf0, Xf1, Xf2, Xf3, Xf4, Xf5⟩ := row_six hS.1; obtain ⟨V0, V1, Vf0, Vf1⟩ := row_two hS.2.1; obtain ⟨D0, D1, Df0, Df1⟩ := row_two hS.2.2.1; go_simp) (fun w' hS => T1.out w') ?_
  simp only [Act.put, List.setIfInBounds_toArray, List.set_cons_zero, List.set_cons_succ]
  (refine plan_pure ?_ rfl rfl (fun w' => ?_) ?_; rotate_left; (go_simp; try with_reducible rfl); simp only [Act.put, List.setIfInBounds_toArray, List.set_cons_zero, List.set_cons_succ])
  (refine plan_val ?_ rfl rfl rfl (fun w' hS => ?_) ?_; rotate_left; (obtain ⟨X0, X1, X2, X3, X4, X5, Xf0, Xf1, Xf2, Xf3, Xf4, Xf5⟩ := row_six hS.1; obtain ⟨V0, V1, Vf0, Vf1⟩ := row_two hS.2.1; obtain ⟨D0, D1, Df0, Df1⟩ := row_two hS.2.2.1; go_simp; try with_reducible rfl); simp only [Act.put, List.setIfInBounds_toArray, List.set_cons_zero, List.set_cons_succ])
  (refine plan_pure ?_ rfl rfl (fun w' => ?_) ?_; rotate_left; (go_simp; try with_reducible rfl); simp only [Act.put, List.setIfInBounds_toArray, List.set_cons_zero, List.set_cons_succ])
  refine plan_call (.agg #[.int .u64 b0, .int .u64 b1, .int .u64 b2, .int .u64 b3]) 62 #[.agg #[.int .u64 a0, .int .u64 a1, .int .u64 a2, .int .u64 a3], .int .u64 (v2 : Nat)] rfl rfl rfl (fun _ _ h hb => ⟨row_call h.1 hb, row_call h.2.1 hb, row_call h.2.2.1 hb, h.2.2.2.trans (hb.mono h.2.2.2.size)⟩) (fun w' hS => by obtain ⟨X0, X1, X2, X3, X4, X5, Xf0, Xf1, Xf2, Xf3, Xf4, Xf5⟩ := row_six hS.1; obtain ⟨V0, V1, Vf0, Vf1⟩ := row_two hS.2.1; obtain ⟨D0, D1, Df0, Df1⟩ := row_two hS.2.2.1; go_simp) (fun w' hS => T2.out w') ?_
  simp only [Act.put, List.setIfInBounds_toArray, List.set_cons_zero, List.set_cons_succ]
  refine plan_nil ?_
  intro lb w5 L hlb hlg
  simp only [List.drop_succ_cons, List.drop_zero]
  try simp only [Act.put, List.setIfInBounds_toArray, List.set_cons_zero, List.set_cons_succ]
  obtain ⟨X', V', D', o'⟩ := L
  clear X V D o D'
  have n1 : w.heap.size ≠ lb := by omega
  have n2 : w.heap.size + 1 ≠ lb := by omega
  have n3 : w.heap.size ≤ lb := by omega
  obtain ⟨Q0, Q1, Q2, Q3, Qf0, Qf1, Qf2, Qf3⟩ := row_four hlb
  go_upto_region 5 with (fail)
  have LQ : Row ((((w5.setCell ⟨lb, 0, none⟩ (.int .u64 b0)).setCell ⟨lb, 1, none⟩ (.int .u64 b1)).setCell ⟨lb, 2, none⟩ (.int .u64 b2)).setCell ⟨lb, 3, none⟩ (.int .u64 b3)) lb 86 #[.int .u64 b0, .int .u64 b1, .int .u64 b2, .int .u64 b3] := (row_set (row_set (row_set (row_set hlb 0 (.int .u64 b0)) 1 (.int .u64 b1)) 2 (.int .u64 b2)) 3 (.int .u64 b3))
  have X : Row ((((w5.setCell ⟨lb, 0, none⟩ (.int .u64 b0)).setCell ⟨lb, 1, none⟩ (.int .u64 b1)).setCell ⟨lb, 2, none⟩ (.int .u64 b2)).setCell ⟨lb, 3, none⟩ (.int .u64 b3)) w.heap.size 45 #[.int .i64 (l1 : Nat), .int .i64 (l2 : Nat), .int .i64 (m1 : Nat), .int .i64 (m2 : Nat), .int .i64 (h1 : Nat), .int .i64 (h2 : Nat)] := (row_other (row_other (row_other (row_other X' n1 (.int .u64 b0)) n1 (.int .u64 b1)) n1 (.int .u64 b2)) n1 (.int .u64 b3))
  have V : Row ((((w5.setCell ⟨lb, 0, none⟩ (.int .u64 b0)).setCell ⟨lb, 1, none⟩ (.int .u64 b1)).setCell ⟨lb, 2, none⟩ (.int .u64 b2)).setCell ⟨lb, 3, none⟩ (.int .u64 b3)) (w.heap.size + 1) 35 #[.int .i64 (v1 : Nat), .int .i64 (v2 : Nat)] := (row_other (row_other (row_other (row_other V' n2 (.int .u64 b0)) n2 (.int .u64 b1)) n2 (.int .u64 b2)) n2 (.int .u64 b3))
  have o : Below w.heap.size w ((((w5.setCell ⟨lb, 0, none⟩ (.int .u64 b0)).setCell ⟨lb, 1, none⟩ (.int .u64 b1)).setCell ⟨lb, 2, none⟩ (.int .u64 b2)).setCell ⟨lb, 3, none⟩ (.int .u64 b3)) := (Below.setCell (p := ⟨lb, 3, none⟩) (Below.setCell (p := ⟨lb, 2, none⟩) (Below.setCell (p := ⟨lb, 1, none⟩) (Below.setCell (p := ⟨lb, 0, none⟩) o' n3 (.int .u64 b0)) n3 (.int .u64 b1)) n3 (.int .u64 b2)) n3 (.int .u64 b3))
  generalize ((((w5.setCell ⟨lb, 0, none⟩ (.int .u64 b0)).setCell ⟨lb, 1, none⟩ (.int .u64 b1)).setCell ⟨lb, 2, none⟩ (.int .u64 b2)).setCell ⟨lb, 3, none⟩ (.int .u64 b3)) = w6 at LQ X V o ⊢
  clear hlb X' V' o' Q0 Q1 Q2 Q3 Qf0 Qf1 Qf2 Qf3 xl vl hlg
  obtain ⟨X0, X1, X2, X3, X4, X5, Xf0, Xf1, Xf2, Xf3, Xf4, Xf5⟩ := row_six X
  go_wp2_with fail
  refine (P4.out _).mono ?_
  rintro e w7 ⟨rfl, hb⟩
  replace X := row_call X hb
  replace V := row_call V hb
  replace LQ := row_call LQ hb
  replace o := o.trans (hb.mono o.size)
  clear hb X0 Xf0 X1 Xf1 X2 Xf2 X3 Xf3 X4 Xf4 X5 Xf5
  go_upto_region 6 with (fail)
  have E : Row (w7.alloc (.cells #[.int .u64 (hi e), .int .u64 (lo e)] 72)) w7.heap.size 72 #[.int .u64 (hi e), .int .u64 (lo e)] := row_new rfl
  replace V := row_alloc V (.cells #[.int .u64 (hi e), .int .u64 (lo e)] 72)
  replace LQ := row_alloc LQ (.cells #[.int .u64 (hi e), .int .u64 (lo e)] 72)
  replace o := o.alloc o.size (.cells #[.int .u64 (hi e), .int .u64 (lo e)] 72)
  clear X
  generalize w7.alloc (.cells #[.int .u64 (hi e), .int .u64 (lo e)] 72) = w8 at V LQ E o ⊢
  generalize w7.heap.size = eb at E ⊢
  obtain ⟨V0, V1, Vf0, Vf1⟩ := row_two V
  obtain ⟨E0, E1, Ef0, Ef1⟩ := row_two E
  go_wp2_with fail
  refine (T3.out _).mono ?_
  rintro e w9 ⟨rfl, hb⟩
  replace V := row_call V hb
  replace E := row_call E hb
  replace LQ := row_call LQ hb
  replace o := o.trans (hb.mono o.size)
  clear hb V0 Vf0 V1 Vf1 E0 Ef0 E1 Ef1
  clear V E
  go_upto_region 7 with (fail)
  have RQ : Row (w9.alloc (.cells #[.int .u64 c0, .int .u64 c1, .int .u64 c2, .int .u64 c3] 86)) w9.heap.size 86 #[.int .u64 c0, .int .u64 c1, .int .u64 c2, .int .u64 c3] := row_new rfl
  replace LQ := row_alloc LQ (.cells #[.int .u64 c0, .int .u64 c1, .int .u64 c2, .int .u64 c3] 86)
  replace o := o.alloc o.size (.cells #[.int .u64 c0, .int .u64 c1, .int .u64 c2, .int .u64 c3] 86)
  generalize w9.alloc (.cells #[.int .u64 c0, .int .u64 c1, .int .u64 c2, .int .u64 c3] 86) = w10 at LQ RQ o ⊢
  generalize w9.heap.size = rb at RQ ⊢
  obtain ⟨L0, L1, L2, L3, Lf0, Lf1, Lf2, Lf3⟩ := row_four LQ
  obtain ⟨R0, R1, R2, R3, Rf0, Rf1, Rf2, Rf3⟩ := row_four RQ
  rcases HQ.out with ⟨rfl, rfl, rfl, rfl⟩ | h3 | ⟨rfl, h2⟩ | ⟨rfl, rfl, h1⟩ | ⟨rfl, rfl, rfl, h0⟩
  · have he := fun w' => run_quad_eq (b0 := b0) (b1 := b1) (b2 := b2) (b3 := b3) w'
    go_wp2
    go_ret
    exact ⟨rfl, o⟩
  · have hne : ¬ (b0 = c0 ∧ b1 = c1 ∧ b2 = c2 ∧ b3 = c3) := by omega
    have he : ∀ w', (binOp .eql 86 (.agg #[.int .u64 b0, .int .u64 b1, .int .u64 b2, .int .u64 b3]) (.agg #[.int .u64 c0, .int .u64 c1, .int .u64 c2, .int .u64 c3])).run Try.prog w' = .ok (.bool false) w' := fun w' => run_quad_ne hne w'
    clear hne
    have hd : (b3 == c3) = false := by simp; omega
    have LQ' : Row w10 lb 86 #[.int .u64 b0, .int .u64 b1, .int .u64 b2, .int .u64 b3] := LQ
    have RQ' : Row w10 rb 86 #[.int .u64 c0, .int .u64 c1, .int .u64 c2, .int .u64 c3] := RQ
    go_upto_region 10 with (fail)
    clear he L0 L1 L2 L3 Lf0 Lf1 Lf2 Lf3 R0 R1 R2 R3 Rf0 Rf1 Rf2 Rf3 LQ RQ
    go_loopw [11] (fun i wr => (i = .int .i64 3) ∧ Row wr lb 86 #[.int .u64 b0, .int .u64 b1, .int .u64 b2, .int .u64 b3] ∧ Row wr rb 86 #[.int .u64 c0, .int .u64 c1, .int .u64 c2, .int .u64 c3] ∧ Below w.heap.size w wr) (fun i _ => (intOf i).toNat)
    case atStart => exact ⟨rfl, LQ', RQ', o⟩
    case round =>
      clear LQ' RQ' o
      obtain ⟨hi, LQ, RQ, o⟩ := hrel
      obtain ⟨L0, L1, L2, L3, Lf0, Lf1, Lf2, Lf3⟩ := row_four LQ
      obtain ⟨R0, R1, R2, R3, Rf0, Rf1, Rf2, Rf3⟩ := row_four RQ
      rcases hi with rfl
      · go_upto_region 10 with (fail)
        go_quiet (fail)
        go_upto_region 12 with (fail)
        go_quiet (fail)
        go_wp2
        go_ret
        exact ⟨by first | rfl | (simp; omega), o.trans ⟨rfl, rfl, rfl, Nat.le_refl _, fun _ _ => rfl⟩⟩
  · have hne : ¬ (b0 = c0 ∧ b1 = c1 ∧ b2 = c2 ∧ b3 = b3) := by omega
    have he : ∀ w', (binOp .eql 86 (.agg #[.int .u64 b0, .int .u64 b1, .int .u64 b2, .int .u64 b3]) (.agg #[.int .u64 c0, .int .u64 c1, .int .u64 c2, .int .u64 b3])).run Try.prog w' = .ok (.bool false) w' := fun w' => run_quad_ne hne w'
    clear hne
    have hd : (b2 == c2) = false := by simp; omega
    have LQ' : Row w10 lb 86 #[.int .u64 b0, .int .u64 b1, .int .u64 b2, .int .u64 b3] := LQ
    have RQ' : Row w10 rb 86 #[.int .u64 c0, .int .u64 c1, .int .u64 c2, .int .u64 b3] := RQ
    go_upto_region 10 with (fail)
    clear he L0 L1 L2 L3 Lf0 Lf1 Lf2 Lf3 R0 R1 R2 R3 Rf0 Rf1 Rf2 Rf3 LQ RQ
    go_loopw [11] (fun i wr => (i = .int .i64 3 ∨ i = .int .i64 2) ∧ Row wr lb 86 #[.int .u64 b0, .int .u64 b1, .int .u64 b2, .int .u64 b3] ∧ Row wr rb 86 #[.int .u64 c0, .int .u64 c1, .int .u64 c2, .int .u64 b3] ∧ Below w.heap.size w wr) (fun i _ => (intOf i).toNat)
    case atStart => exact ⟨.inl rfl, LQ', RQ', o⟩
    case round =>
      clear LQ' RQ' o
      obtain ⟨hi, LQ, RQ, o⟩ := hrel
      obtain ⟨L0, L1, L2, L3, Lf0, Lf1, Lf2, Lf3⟩ := row_four LQ
      obtain ⟨R0, R1, R2, R3, Rf0, Rf1, Rf2, Rf3⟩ := row_four RQ
      rcases hi with rfl | rfl
      · go_upto_region 10 with (fail)
        go_quiet (fail)
        go_wp2
        go_roundw
        case rel => exact ⟨.inr rfl, LQ, RQ, o.trans ⟨rfl, rfl, rfl, Nat.le_refl _, fun _ _ => rfl⟩⟩
        case measure => simp [intOf]
      · go_upto_region 10 with (fail)
        go_quiet (fail)
        go_upto_region 12 with (fail)
        go_quiet (fail)
        go_wp2
        go_ret
        exact ⟨by first | rfl | (simp; omega), o.trans ⟨rfl, rfl, rfl, Nat.le_refl _, fun _ _ => rfl⟩⟩
  · have hne : ¬ (b0 = c0 ∧ b1 = c1 ∧ b2 = b2 ∧ b3 = b3) := by omega
    have he : ∀ w', (binOp .eql 86 (.agg #[.int .u64 b0, .int .u64 b1, .int .u64 b2, .int .u64 b3]) (.agg #[.int .u64 c0, .int .u64 c1, .int .u64 b2, .int .u64 b3])).run Try.prog w' = .ok (.bool false) w' := fun w' => run_quad_ne hne w'
    clear hne
    have hd : (b1 == c1) = false := by simp; omega
    have LQ' : Row w10 lb 86 #[.int .u64 b0, .int .u64 b1, .int .u64 b2, .int .u64 b3] := LQ
    have RQ' : Row w10 rb 86 #[.int .u64 c0, .int .u64 c1, .int .u64 b2, .int .u64 b3] := RQ
    go_upto_region 10 with (fail)
    clear he L0 L1 L2 L3 Lf0 Lf1 Lf2 Lf3 R0 R1 R2 R3 Rf0 Rf1 Rf2 Rf3 LQ RQ
    go_loopw [11] (fun i wr => (i = .int .i64 3 ∨ i = .int .i64 2 ∨ i = .int .i64 1) ∧ Row wr lb 86 #[.int .u64 b0, .int .u64 b1, .int .u64 b2, .int .u64 b3] ∧ Row wr rb 86 #[.int .u64 c0, .int .u64 c1, .int .u64 b2, .int .u64 b3] ∧ Below w.heap.size w wr) (fun i _ => (intOf i).toNat)
    case atStart => exact ⟨.inl rfl, LQ', RQ', o⟩
    case round =>
      clear LQ' RQ' o
      obtain ⟨hi, LQ, RQ, o⟩ := hrel
      obtain ⟨L0, L1, L2, L3, Lf0, Lf1, Lf2, Lf3⟩ := row_four LQ
      obtain ⟨R0, R1, R2, R3, Rf0, Rf1, Rf2, Rf3⟩ := row_four RQ
      rcases hi with rfl | rfl | rfl
      · go_upto_region 10 with (fail)
        go_quiet (fail)
        go_wp2
        go_roundw
        case rel => exact ⟨.inr (.inl rfl), LQ, RQ, o.trans ⟨rfl, rfl, rfl, Nat.le_refl _, fun _ _ => rfl⟩⟩
        case measure => simp [intOf]
      · go_upto_region 10 with (fail)
        go_quiet (fail)
        go_wp2
        go_roundw
        case rel => exact ⟨.inr (.inr rfl), LQ, RQ, o.trans ⟨rfl, rfl, rfl, Nat.le_refl _, fun _ _ => rfl⟩⟩
        case measure => simp [intOf]
      · go_upto_region 10 with (fail)
        go_quiet (fail)
        go_upto_region 12 with (fail)
        go_quiet (fail)
        go_wp2
        go_ret
        exact ⟨by first | rfl | (simp; omega), o.trans ⟨rfl, rfl, rfl, Nat.le_refl _, fun _ _ => rfl⟩⟩
  · have hne : ¬ (b0 = c0 ∧ b1 = b1 ∧ b2 = b2 ∧ b3 = b3) := by omega
    have he : ∀ w', (binOp .eql 86 (.agg #[.int .u64 b0, .int .u64 b1, .int .u64 b2, .int .u64 b3]) (.agg #[.int .u64 c0, .int .u64 b1, .int .u64 b2, .int .u64 b3])).run Try.prog w' = .ok (.bool false) w' := fun w' => run_quad_ne hne w'
    clear hne
    have hd : (b0 == c0) = false := by simp; omega
    have LQ' : Row w10 lb 86 #[.int .u64 b0, .int .u64 b1, .int .u64 b2, .int .u64 b3] := LQ
    have RQ' : Row w10 rb 86 #[.int .u64 c0, .int .u64 b1, .int .u64 b2, .int .u64 b3] := RQ
    go_upto_region 10 with (fail)
    clear he L0 L1 L2 L3 Lf0 Lf1 Lf2 Lf3 R0 R1 R2 R3 Rf0 Rf1 Rf2 Rf3 LQ RQ
    go_loopw [11] (fun i wr => (i = .int .i64 3 ∨ i = .int .i64 2 ∨ i = .int .i64 1 ∨ i = .int .i64 0) ∧ Row wr lb 86 #[.int .u64 b0, .int .u64 b1, .int .u64 b2, .int .u64 b3] ∧ Row wr rb 86 #[.int .u64 c0, .int .u64 b1, .int .u64 b2, .int .u64 b3] ∧ Below w.heap.size w wr) (fun i _ => (intOf i).toNat)
    case atStart => exact ⟨.inl rfl, LQ', RQ', o⟩
    case round =>
      clear LQ' RQ' o
      obtain ⟨hi, LQ, RQ, o⟩ := hrel
      obtain ⟨L0, L1, L2, L3, Lf0, Lf1, Lf2, Lf3⟩ := row_four LQ
      obtain ⟨R0, R1, R2, R3, Rf0, Rf1, Rf2, Rf3⟩ := row_four RQ
      rcases hi with rfl | rfl | rfl | rfl
      · go_upto_region 10 with (fail)
        go_quiet (fail)
        go_wp2
        go_roundw
        case rel => exact ⟨.inr (.inl rfl), LQ, RQ, o.trans ⟨rfl, rfl, rfl, Nat.le_refl _, fun _ _ => rfl⟩⟩
        case measure => simp [intOf]
      · go_upto_region 10 with (fail)
        go_quiet (fail)
        go_wp2
        go_roundw
        case rel => exact ⟨.inr (.inr (.inl rfl)), LQ, RQ, o.trans ⟨rfl, rfl, rfl, Nat.le_refl _, fun _ _ => rfl⟩⟩
        case measure => simp [intOf]
      · go_upto_region 10 with (fail)
        go_quiet (fail)
        go_wp2
        go_roundw
        case rel => exact ⟨.inr (.inr (.inr rfl)), LQ, RQ, o.trans ⟨rfl, rfl, rfl, Nat.le_refl _, fun _ _ => rfl⟩⟩
        case measure => simp [intOf]
      · go_upto_region 10 with (fail)
        go_quiet (fail)
        go_upto_region 12 with (fail)
        go_quiet (fail)
        go_wp2
        go_ret
        exact ⟨by first | rfl | (simp; omega), o.trans ⟨rfl, rfl, rfl, Nat.le_refl _, fun _ _ => rfl⟩⟩
theorem pwithin {l1 l2 m1 m2 h1 h2 v1 v2 k : Nat} (hb : BndOK l1 l2 m1 m2 h1 h2) (hv : RatOK v1 v2) (hk : 1 ≤ k ∧ k ≤ 64) (hle : l1 * h2 ≤ h1 * l2) (h : k * (h1 * l2 - l1 * h2) * v2 ≤ v1 * (l2 * h2)) (w : World) :
    Calls Try.prog 23 #[.agg #[.int .i64 (l1 : Nat), .int .i64 (l2 : Nat), .int .i64 (m1 : Nat), .int .i64 (m2 : Nat), .int .i64 (h1 : Nat), .int .i64 (h2 : Nat)], .int .i64 (k : Nat), .agg #[.int .i64 (v1 : Nat), .int .i64 (v2 : Nat)]] w fun e w' => e = .returned (.bool true) ∧ Below w.heap.size w w' := by
  have z1 := hb.lo.2.1.2
  have z2 := hb.hi.2.1.2
  have z3 := hv.2.1.2
  have z4 := hv.1
  have z5 := hb.hi.1
  have x1 : h1 * l2 ≤ 4611686018427387904 * 4294967295 := Nat.mul_le_mul (by omega) (by omega)
  have x2 : l2 * h2 ≤ 4294967295 * 4294967295 := Nat.mul_le_mul (by omega) (by omega)
  generalize hd : h1 * l2 - l1 * h2 = d at h
  generalize he : l2 * h2 = e at h x2
  have d1 : d ≤ 4611686018427387904 * 4294967295 := by omega
  have s1 : d * k ≤ 4611686018427387904 * 4294967295 * 64 := Nat.mul_le_mul d1 hk.2
  have s2 : d * k * v2 ≤ 4611686018427387904 * 4294967295 * 64 * 4294967295 := Nat.mul_le_mul s1 z3
  have s3 : e * v1 ≤ 4294967295 * 4294967295 * 4611686018427387904 := Nat.mul_le_mul x2 (by omega)
  have hle2 : d * k * v2 ≤ e * v1 := by rw [Nat.mul_comm d k, Nat.mul_comm e v1]; exact h
  have t1 := fun w => ptimes d k w (by omega)
  have t2 := fun w => ptimes (d * k) v2 w (by omega)
  have t3 := fun w => ptimes e v1 w (by omega)
  have q := q_le (L := d * k * v2) (R := e * v1) (by omega) (by omega) hle2
  rw [QV_W (d := d) (by unfold big; omega)] at t1
  rw [QV_W (d := e) (by unfold big; omega)] at t3
  exact pwithin_flat hb hv hk hle hd he (Lib.hid t1) (Lib.hid t2) (Lib.hid t3) (by omega) w
end Go.Proofs.Ytaiepjcnncajcaa
end
section
/- Ratios of spreads in lowest terms: their order, what lies between, what is narrow; plain. -/
set_option linter.unusedVariables false
set_option linter.unusedSimpArgs false
set_option linter.unusedSectionVars false
set_option linter.unnecessarySimpa false
namespace Go.Proofs.Ytaiepjcnncajcaa
def rn (T n : Nat) : Nat := T / Nat.gcd T n
def rd (T n : Nat) : Nat := n / Nat.gcd T n
theorem rat_g {T n : Nat} (hn : 1 ≤ n) : ∃ g, 1 ≤ g ∧ T = rn T n * g ∧ n = rd T n * g ∧ g = Nat.gcd T n := by
  have hg : 0 < Nat.gcd T n := Nat.gcd_pos_of_pos_right _ (by omega)
  exact ⟨_, hg, (Nat.div_mul_cancel (Nat.gcd_dvd_left T n)).symm, (Nat.div_mul_cancel (Nat.gcd_dvd_right T n)).symm, rfl⟩
theorem rat_ok {T n : Nat} (hT : T < 4611686018427387904) (hn : 1 ≤ n) (hn2 : n ≤ 65536) : RatOK (rn T n) (rd T n) := by
  have hg : 0 < Nat.gcd T n := Nat.gcd_pos_of_pos_right _ (by omega)
  have h1 : rn T n ≤ T := Nat.div_le_self _ _
  have h2 : rd T n ≤ n := Nat.div_le_self _ _
  obtain ⟨g, g1, _, e2, _⟩ := rat_g (T := T) hn
  refine ⟨by omega, ⟨?_, by omega⟩, by unfold rn rd; rw [Nat.gcd_div (Nat.gcd_dvd_left T n) (Nat.gcd_dvd_right T n), Nat.div_self hg]⟩
  rcases Nat.eq_zero_or_pos (rd T n) with h | h
  · rw [h, Nat.zero_mul] at e2; omega
  · exact h
theorem rat_le {T n T' n' : Nat} (hn : 1 ≤ n) (hn' : 1 ≤ n') (h : T * n' ≤ T' * n) : rn T n * rd T' n' ≤ rn T' n' * rd T n := by
  obtain ⟨g, g1, e1, e2, _⟩ := rat_g (T := T) hn
  obtain ⟨g', g1', e1', e2', _⟩ := rat_g (T := T') hn'
  generalize rn T n = a at *
  generalize rd T n = b at *
  generalize rn T' n' = c at *
  generalize rd T' n' = d at *
  subst e1 e2 e1' e2'
  have : (a * d) * (g * g') ≤ (c * b) * (g * g') := by grind
  exact Nat.le_of_mul_le_mul_right this (Nat.mul_pos g1 g1')
theorem rat_within {k T1 n1 T2 n2 T n : Nat} (h1 : 1 ≤ n1) (h2 : 1 ≤ n2) (hn : 1 ≤ n) (hle : T2 * n1 ≤ T1 * n2) (h : k * (T1 * n2 - T2 * n1) * n ≤ T * (n2 * n1)) :
    k * (rn T1 n1 * rd T2 n2 - rn T2 n2 * rd T1 n1) * rd T n ≤ rn T n * (rd T2 n2 * rd T1 n1) := by
  obtain ⟨g1, q1, e1, f1, _⟩ := rat_g (T := T1) h1
  obtain ⟨g2, q2, e2, f2, _⟩ := rat_g (T := T2) h2
  obtain ⟨g, q, e, f, _⟩ := rat_g (T := T) hn
  generalize rn T1 n1 = a1 at *
  generalize rd T1 n1 = b1 at *
  generalize rn T2 n2 = a2 at *
  generalize rd T2 n2 = b2 at *
  generalize rn T n = a at *
  generalize rd T n = b at *
  subst e1 f1 e2 f2 e f
  have s : a1 * g1 * (b2 * g2) - a2 * g2 * (b1 * g1) = (a1 * b2 - a2 * b1) * (g1 * g2) := by
    rw [Nat.sub_mul]
    congr 1 <;> grind
  rw [s] at h
  generalize a1 * b2 - a2 * b1 = d at *
  have : (k * d * b) * (g1 * g2 * g) ≤ (a * (b2 * b1)) * (g1 * g2 * g) := by grind
  exact Nat.le_of_mul_le_mul_right this (Nat.mul_pos (Nat.mul_pos q1 q2) q)
/-- A mark's spread as a ratio that is not in lowest terms. -/
def mT (m : Mk) : Nat := topN m.n m.s m.q
def mN (m : Mk) : Nat := m.n.toNat
theorem mT_eq {m : Mk} (h : rightP m.n m.s m.q) : (mT m : Int) = tpM m := (right_tp h).2
theorem mN_eq {m : Mk} (h : rightP m.n m.s m.q) : (mN m : Int) = m.n := Int.toNat_of_nonneg (by have := h.1; omega)
theorem mT_lt {m : Mk} (h : rightP m.n m.s m.q) : mT m < 4611686018427387904 := by
  have := right_top h
  unfold mT topN
  omega
theorem mN_pos {m : Mk} (h : rightP m.n m.s m.q) : 1 ≤ mN m ∧ mN m ≤ 65536 := by
  have h1 := h.1
  have h2 := h.2.1
  unfold mN
  omega
theorem rat_mark {m : Mk} (h : rightP m.n m.s m.q) : RatOK (rn (mT m) (mN m)) (rd (mT m) (mN m)) := rat_ok (mT_lt h) (mN_pos h).1 (mN_pos h).2
/-- The bounds of an answer, as the marks that they are of. -/
def loT (now wd : Int) (l : List Mk) : Nat := if l = [] then 0 else if now - wd < (mkAt l 0).t then mT (mkAt l 0) else mT (mkAt l 1)
def loN (now wd : Int) (l : List Mk) : Nat := if l = [] then 1 else if now - wd < (mkAt l 0).t then mN (mkAt l 0) else mN (mkAt l 1)
def hiT (now wd : Int) (l : List Mk) : Nat := if l = [] then 0 else if now - wd < (mkAt l 0).t then mT (mkAt l 0) else if (mkAt l 1).seq = (mkAt l 0).seq + 1 then mT (mkAt l 1) else mT (mkAt l 0)
def hiN (now wd : Int) (l : List Mk) : Nat := if l = [] then 1 else if now - wd < (mkAt l 0).t then mN (mkAt l 0) else if (mkAt l 1).seq = (mkAt l 0).seq + 1 then mN (mkAt l 1) else mN (mkAt l 0)
/-- The spread of items times their number; the number. -/
def itT (l : List Itm) : Nat := (l.length * isq l - isum l * isum l : Int).toNat
def itN (l : List Itm) : Nat := max l.length 1
/-- Items ahead of others. -/
theorem isq_isum : ∀ l : List Itm, 0 ≤ tpI l.length (isum l) (isq l)
  | [] => by simp [tpI, isum, isq]
  | x :: l => by
    have ih := isq_isum l
    have := tpI_snoc (n := l.length) (s := isum l) (q := isq l) (v := x.v) (by omega) ih (fun e => by
      have : l = [] := List.eq_nil_of_length_eq_zero (by omega)
      rw [this]; exact ⟨rfl, rfl⟩)
    rw [isum, isq, List.length_cons]
    rw [show ((l.length + 1 : Nat) : Int) = (l.length : Int) + 1 by omega, Int.add_comm x.v, Int.add_comm (x.v * x.v)]
    exact this
theorem itT_eq (l : List Itm) : (itT l : Int) = tpI l.length (isum l) (isq l) := by
  have := isq_isum l
  unfold itT
  unfold tpI at *
  omega
theorem mk_it {m : Mk} {l : List Itm} (h : MkIs m l) (hr : rightP m.n m.s m.q) : mT m = itT l ∧ mN m = itN l := by
  have h1 := mT_eq hr
  have h2 := itT_eq l
  have h3 := mN_eq hr
  unfold tpM at h1
  rw [h.n, h.s, h.q] at h1
  have := h.n
  have := hr.1
  unfold itN
  constructor
  · omega
  · omega
theorem it_mono (a b : List Itm) (hb : b ≠ []) : itT b * itN (a ++ b) ≤ itT (a ++ b) * itN b := by
  have hbl : 1 ≤ b.length := by cases b with | nil => exact absurd rfl hb | cons x b => simp
  have h := spread_mono (o := a.length) (g := b.length) (sO := isum a) (qO := isq a) (sG := isum b) (qG := isq b) (by omega) (by omega) (isq_isum a) (fun e => by
    have : a = [] := List.eq_nil_of_length_eq_zero (by omega)
    rw [this]; exact ⟨rfl, rfl⟩)
  rw [← itT_eq b, ← isum_append, ← isq_append, show (a.length : Int) + (b.length : Int) = ((a ++ b).length : Int) by simp, ← itT_eq (a ++ b)] at h
  have e1 : itN (a ++ b) = (a ++ b).length := by unfold itN; simp; omega
  have e2 : itN b = b.length := by unfold itN; omega
  rw [e1, e2]
  have h' : ((itT b * (a ++ b).length : Nat) : Int) ≤ ((itT (a ++ b) * b.length : Nat) : Int) := by rw [Int.natCast_mul, Int.natCast_mul]; exact h
  omega
/-- What is said of the bounds and the exact spread of the live items. -/
structure SpTrue (k lT lN hT hN vT vN : Nat) : Prop where
  lo : RatOK (rn lT lN) (rd lT lN)
  hi : RatOK (rn hT hN) (rd hT hN)
  v : RatOK (rn vT vN) (rd vT vN)
  l1 : 1 ≤ lN
  h1 : 1 ≤ hN
  v1 : 1 ≤ vN
  lv : lT * vN ≤ vT * lN
  vh : vT * hN ≤ hT * vN
  lh : lT * hN ≤ hT * lN
  nar : k * (hT * lN - lT * hN) * vN ≤ vT * (lN * hN)
theorem SpTrue.same {k T N : Nat} (h : RatOK (rn T N) (rd T N)) (h1 : 1 ≤ N) : SpTrue k T N T N T N :=
  ⟨h, h, h, h1, h1, h1, Nat.le_refl _, Nat.le_refl _, Nat.le_refl _, by rw [Nat.sub_self]; simp⟩
theorem sp_true {wd k cap now seq : Int} {kn : Nat} {l : List Mk} {its : List Itm} (hk : k = (kn : Int)) (hv : spValid wd k cap now seq l) (h : HistOf l seq now wd its) (hg : GapL (LaterM k) l) :
    SpTrue kn (loT now wd l) (loN now wd l) (hiT now wd l) (hiN now wd l) (itT (liveI now wd its)) (itN (liveI now wd its)) := by
  obtain ⟨⟨g2, g3, g4, g5, g6, g7, g8, g9⟩, hm, hs⟩ := hv
  obtain ⟨hq, hV⟩ := mvalid_iff.1 hm
  obtain ⟨p, hp, el, lt, ge⟩ := live_drop (wd := wd) h.ord
  rw [el]
  cases l with
  | nil =>
    have : p = its.length := by
      rcases Nat.lt_or_ge p its.length with c | c
      · have := h.gone p c (fun e => absurd rfl e)
        have := ge p (Nat.le_refl _) c
        omega
      · omega
    subst this
    rw [List.drop_length]
    have e1 : loT now wd [] = 0 := by unfold loT; rw [if_pos rfl]
    have e2 : loN now wd [] = 1 := by unfold loN; rw [if_pos rfl]
    have e3 : hiT now wd [] = 0 := by unfold hiT; rw [if_pos rfl]
    have e4 : hiN now wd [] = 1 := by unfold hiN; rw [if_pos rfl]
    have e5 : itT [] = 0 := by unfold itT; simp [isq, isum]
    have e6 : itN [] = 1 := by unfold itN; simp
    rw [e1, e2, e3, e4, e5, e6]
    exact SpTrue.same (rat_ok (by omega) (by omega) (by omega)) (by omega)
  | cons a r =>
    obtain ⟨a1, a2, a3, a4⟩ := h.mks a (by simp)
    have hgone : ∀ i : Nat, i < its.length → (i : Int) < a.seq - 1 → (itmAt its i).t ≤ now - wd := fun i hi hc => h.gone i hi (fun _ => hc)
    have oa := hV.one a (by simp)
    have ra := one_right oa g7
    have ea := mk_it a4 ra
    have ne : (a :: r) ≠ [] := List.cons_ne_nil _ _
    have pa : (a.seq - 1).toNat ≤ p := by
      rcases Nat.lt_or_ge p (a.seq - 1).toNat with c | c
      · have := hgone p (by omega) (by omega)
        have := ge p (Nat.le_refl _) (by omega)
        omega
      · exact c
    by_cases hl : now - wd < a.t
    · have e1 : loT now wd (a :: r) = mT a := by unfold loT; rw [if_neg ne, mkAt_zero, if_pos hl]
      have e2 : loN now wd (a :: r) = mN a := by unfold loN; rw [if_neg ne, mkAt_zero, if_pos hl]
      have e3 : hiT now wd (a :: r) = mT a := by unfold hiT; rw [if_neg ne, mkAt_zero, if_pos hl]
      have e4 : hiN now wd (a :: r) = mN a := by unfold hiN; rw [if_neg ne, mkAt_zero, if_pos hl]
      have ep : p = (a.seq - 1).toNat := by
        rcases Nat.lt_or_ge (a.seq - 1).toNat p with c | c
        · exact absurd hl (by rw [a3]; exact lt _ c)
        · omega
      rw [e1, e2, e3, e4, ep, ← ea.1, ← ea.2]
      exact SpTrue.same (rat_mark ra) (mN_pos ra).1
    · cases r with
      | nil => exact absurd (hV.alone a rfl) hl
      | cons b r =>
        obtain ⟨b1, b2, b3, b4⟩ := h.mks b (by simp)
        have ob := hV.one b (by simp)
        have rb := one_right ob g7
        have eb := mk_it b4 rb
        have e1 : loT now wd (a :: b :: r) = mT b := by unfold loT; rw [if_neg ne, mkAt_zero, if_neg hl, mkAt_succ, mkAt_zero]
        have e2 : loN now wd (a :: b :: r) = mN b := by unfold loN; rw [if_neg ne, mkAt_zero, if_neg hl, mkAt_succ, mkAt_zero]
        have hbl : now - wd < b.t := hV.live b (by simp)
        have pb : p ≤ (b.seq - 1).toNat := by
          rcases Nat.lt_or_ge (b.seq - 1).toNat p with c | c
          · exact absurd hbl (by rw [b3]; exact lt _ c)
          · exact c
        have pa2 : (a.seq - 1).toNat < p := by
          rcases Nat.lt_or_ge (a.seq - 1).toNat p with c | c
          · exact c
          · have := ge (a.seq - 1).toNat c (by omega)
            rw [← a3] at this
            exact absurd this hl
        have split : ∀ i j, i ≤ j → its.drop i = (its.drop i).take (j - i) ++ its.drop j := fun i j hij => by
          rw [show its.drop j = (its.drop i).drop (j - i) by rw [List.drop_drop]; congr 1; omega, List.take_append_drop]
        by_cases hsq : b.seq = a.seq + 1
        · have e3 : hiT now wd (a :: b :: r) = mT b := by unfold hiT; rw [if_neg ne, mkAt_zero, if_neg hl, mkAt_succ, mkAt_zero, if_pos hsq]
          have e4 : hiN now wd (a :: b :: r) = mN b := by unfold hiN; rw [if_neg ne, mkAt_zero, if_neg hl, mkAt_succ, mkAt_zero, if_pos hsq]
          have ep : p = (b.seq - 1).toNat := by omega
          rw [e1, e2, e3, e4, ep, ← eb.1, ← eb.2]
          exact SpTrue.same (rat_mark rb) (mN_pos rb).1
        · have e3 : hiT now wd (a :: b :: r) = mT a := by unfold hiT; rw [if_neg ne, mkAt_zero, if_neg hl, mkAt_succ, mkAt_zero, if_neg hsq]
          have e4 : hiN now wd (a :: b :: r) = mN a := by unfold hiN; rw [if_neg ne, mkAt_zero, if_neg hl, mkAt_succ, mkAt_zero, if_neg hsq]
          have tw : twoP a b := List.rel_of_pairwise_cons hV.two (by simp)
          have lat := hg 0 (by simp) (by rw [mkAt_succ, mkAt_zero, mkAt_zero]; have := tw.1; omega)
          rw [mkAt_succ, mkAt_zero, mkAt_zero] at lat
          have LS := later_spread (k := k) (by omega) oa ob tw lat
          have TS := two_spread oa ob tw
          have m1 := it_mono ((its.drop p).take ((b.seq - 1).toNat - p)) (its.drop (b.seq - 1).toNat) (fun e => by have := congrArg List.length e; simp at this; omega)
          rw [← split p _ pb, ← eb.1, ← eb.2] at m1
          have m2 := it_mono ((its.drop (a.seq - 1).toNat).take (p - (a.seq - 1).toNat)) (its.drop p) (fun e => by have := congrArg List.length e; simp at this; omega)
          rw [← split _ p pa, ← ea.1, ← ea.2] at m2
          have TS' : mT b * mN a ≤ mT a * mN b := by
            apply Int.ofNat_le.1
            rw [Int.natCast_mul, Int.natCast_mul, mT_eq ra, mT_eq rb, mN_eq ra, mN_eq rb]
            exact TS
          have LS' : kn * (mT a * mN b) ≤ (kn + 1) * (mT b * mN a) := by
            apply Int.ofNat_le.1
            rw [Int.natCast_mul, Int.natCast_mul, Int.natCast_mul, Int.natCast_mul, mT_eq ra, mT_eq rb, mN_eq ra, mN_eq rb, Int.natCast_add, ← hk]
            exact LS
          have vN1 : 1 ≤ itN (its.drop p) := by unfold itN; omega
          have lenp : (its.drop p).length ≤ 65536 := by
            have hc := oa.2.2.2.1
            have hn := a4.n
            have : (its.drop p).length ≤ (its.drop (a.seq - 1).toNat).length := by simp; omega
            omega
          have itl : itT (its.drop p) < 4611686018427387904 := by
            -- at most the greater mark's spread times the number
            have h1 := mT_lt ra
            have h2 : itN (its.drop p) ≤ mN a := by
              rw [ea.2]
              unfold itN
              simp
              omega
            have h3 : itT (its.drop p) * mN a ≤ mT a * mN a := Nat.le_trans m2 (Nat.mul_le_mul_left _ h2)
            have := Nat.le_of_mul_le_mul_right h3 (mN_pos ra).1
            omega
          rw [e1, e2, e3, e4]
          refine ⟨rat_mark rb, rat_mark ra, rat_ok itl vN1 (by unfold itN; omega), (mN_pos rb).1, (mN_pos ra).1, vN1, m1, m2, TS', ?_⟩
          have q1 : kn * (mT a * mN b - mT b * mN a) ≤ mT b * mN a := by
            rw [Nat.mul_sub]
            rw [Nat.add_mul, Nat.one_mul] at LS'
            omega
          calc kn * (mT a * mN b - mT b * mN a) * itN (its.drop p) ≤ mT b * mN a * itN (its.drop p) := Nat.mul_le_mul_right _ q1
            _ = mT b * itN (its.drop p) * mN a := by rw [Nat.mul_assoc, Nat.mul_comm (mN a), Nat.mul_assoc]
            _ ≤ itT (its.drop p) * mN b * mN a := Nat.mul_le_mul_right _ m1
            _ = itT (its.drop p) * (mN b * mN a) := Nat.mul_assoc _ _ _
end Go.Proofs.Ytaiepjcnncajcaa
end
section
/- Spreads of marks: the reference's spread of a mark; the law of marks, walked. -/
set_option linter.unusedVariables false
set_option linter.unusedSimpArgs false
set_option linter.unusedSectionVars false
set_option linter.unnecessarySimpa false
namespace Go.Proofs.Ytaiepjcnncajcaa
open Go.RowKit Go.Shelf
theorem rabs (a : Int) (h0 : 0 ≤ a) (h : a < 9223372036854775808) (w : World) : Calls Try.prog 89 #[.int .i64 a] w fun e w' => e = .returned (.int .u64 a) ∧ w' = w := by
  have t0 : ¬ a < 0 := by omega
  have wa : IntKind.u64.wrap a = a := IntWalk.u64_in _ (by omega)
  clear h h0
  go_enter Try.func89, Try.ntmps89
  go_wp2
  go_ret
  exact ⟨rfl, rfl⟩
set_option maxHeartbeats 4000000 in
theorem rreduced (a b : Nat) (ha : a < 9223372036854775808) (hb : b < 9223372036854775808) (h : b ≠ 0) (w : World) :
    Calls Try.prog 87 #[.bool false, W a, W b] w fun e w' => e = .returned (.tuple #[.agg #[.int .i64 ((a / Nat.gcd a b : Nat) : Int), .int .i64 ((b / Nat.gcd a b : Nat) : Int)], .bool true]) ∧ Below w.heap.size w w' := by
  have PG := Lib.hid (fun w => rgcd a b (by unfold big; omega) (by unfold big; omega) w)
  have g0 : Nat.gcd a b ≠ 0 := by
    intro e
    exact h (Nat.gcd_eq_zero_iff.1 e).2
  have gb : Nat.gcd a b ≤ b := Nat.gcd_le_right _ (by omega)
  have PA := Lib.hid (fun w => rdiv_yes a (Nat.gcd a b) (by unfold big; omega) (by unfold big; omega) g0 w)
  have PB := Lib.hid (fun w => rdiv_yes b (Nat.gcd a b) (by unfold big; omega) (by unfold big; omega) g0 w)
  have qa : a / Nat.gcd a b ≤ a := Nat.div_le_self _ _
  have qb : b / Nat.gcd a b ≤ b := Nat.div_le_self _ _
  generalize Nat.gcd a b = g at PG PA PB qa qb ⊢
  generalize a % g = ra at PA
  generalize b % g = rb at PB
  generalize a / g = x at PA qa ⊢
  generalize b / g = y at PB qb ⊢
  have e1 := hi_small (n := x) (by omega)
  have e2 := lo_small (n := x) (by omega)
  have e3 := hi_small (n := y) (by omega)
  have e4 := lo_small (n := y) (by omega)
  have u1 : (0 : Int) ≤ (x : Int) ∧ (x : Int) < 9223372036854775808 := by omega
  have u2 : (0 : Int) ≤ (y : Int) ∧ (y : Int) < 9223372036854775808 := by omega
  have ALL := Lib.hid (And.intro e1 (And.intro e2 (And.intro e3 (And.intro e4 (And.intro u1 u2)))))
  clear g0 gb e1 e2 e3 e4 u1 u2 qa qb ha hb
  go_enter Try.func87, Try.ntmps87
  go_upto_region 1 with (fail)
  have X : Row (((w.alloc (.cells #[.int .u64 (hi a), .int .u64 (lo a)] 72)).alloc (.cells #[.int .u64 (hi b), .int .u64 (lo b)] 72)).alloc (.cells #[.int .i64 0, .int .i64 0] 35)) w.heap.size 72 #[.int .u64 (hi a), .int .u64 (lo a)] := row_alloc (row_alloc (row_new rfl) _) _
  have Y : Row (((w.alloc (.cells #[.int .u64 (hi a), .int .u64 (lo a)] 72)).alloc (.cells #[.int .u64 (hi b), .int .u64 (lo b)] 72)).alloc (.cells #[.int .i64 0, .int .i64 0] 35)) (w.heap.size + 1) 72 #[.int .u64 (hi b), .int .u64 (lo b)] := row_alloc (row_new (by simp)) _
  have R : Row (((w.alloc (.cells #[.int .u64 (hi a), .int .u64 (lo a)] 72)).alloc (.cells #[.int .u64 (hi b), .int .u64 (lo b)] 72)).alloc (.cells #[.int .i64 0, .int .i64 0] 35)) (w.heap.size + 1 + 1) 35 #[.int .i64 0, .int .i64 0] := row_new (by simp)
  have o : Below w.heap.size w (((w.alloc (.cells #[.int .u64 (hi a), .int .u64 (lo a)] 72)).alloc (.cells #[.int .u64 (hi b), .int .u64 (lo b)] 72)).alloc (.cells #[.int .i64 0, .int .i64 0] 35)) := by (repeat (first | exact Below.refl _ _ | refine Below.setCell ?_ (by first | (simp; done) | (simp; omega) | omega) _ | refine Below.alloc ?_ (by first | (simp; done) | (simp; omega) | omega) _ | refine Below.drew ?_ | refine Below.trans ?_ (Below.mono (by assumption) (by first | (simp; done) | (simp; omega) | omega))))
  have z3 : w.heap.size + 1 + 1 < (((w.alloc (.cells #[.int .u64 (hi a), .int .u64 (lo a)] 72)).alloc (.cells #[.int .u64 (hi b), .int .u64 (lo b)] 72)).alloc (.cells #[.int .i64 0, .int .i64 0] 35)).heap.size := row_lt R
  generalize (((w.alloc (.cells #[.int .u64 (hi a), .int .u64 (lo a)] 72)).alloc (.cells #[.int .u64 (hi b), .int .u64 (lo b)] 72)).alloc (.cells #[.int .i64 0, .int .i64 0] 35)) = w3 at X Y R o z3 ⊢
  obtain ⟨X0, X1, X2, X3⟩ := row_two X
  obtain ⟨Y0, Y1, Y2, Y3⟩ := row_two Y
  go_wp2_with fail
  refine (PG.out _).mono ?_
  rintro e w4 ⟨rfl, hb4⟩
  clear X0 X1 X2 X3 Y0 Y1 Y2 Y3
  have X := row_call X hb4
  have Y := row_call Y hb4
  have R := row_call R hb4
  have o := o.trans (hb4.mono o.size)
  have z4 := hb4.size
  go_upto_region 2 with (fail)
  have X := row_alloc X (.cells #[.int .u64 (hi g), .int .u64 (lo g)] 72)
  have Y := row_alloc Y (.cells #[.int .u64 (hi g), .int .u64 (lo g)] 72)
  have R := row_alloc R (.cells #[.int .u64 (hi g), .int .u64 (lo g)] 72)
  have G : Row (w4.alloc (.cells #[.int .u64 (hi g), .int .u64 (lo g)] 72)) w4.heap.size 72 #[.int .u64 (hi g), .int .u64 (lo g)] := row_new rfl
  have o := o.alloc o.size (.cells #[.int .u64 (hi g), .int .u64 (lo g)] 72)
  generalize w4.alloc (.cells #[.int .u64 (hi g), .int .u64 (lo g)] 72) = w5 at X Y R G o ⊢
  generalize w4.heap.size = gb at G z4 ⊢
  obtain ⟨X0, X1, X2, X3⟩ := row_two X
  obtain ⟨G0, G1, G2, G3⟩ := row_two G
  go_wp2_with fail
  refine (PA.out _).mono ?_
  rintro e w6 ⟨rfl, hb6⟩
  clear X0 X1 X2 X3 G0 G1 G2 G3 X
  have Y := row_call Y hb6
  have R := row_call R hb6
  have G := row_call G hb6
  have o := o.trans (hb6.mono o.size)
  have z6 := hb6.size
  go_upto_region 3 with (fail)
  have N : Row ((w6.alloc (.cells #[.int .u64 (hi x), .int .u64 (lo x)] 72)).alloc (.cells #[.int .u64 (hi ra), .int .u64 (lo ra)] 72)) w6.heap.size 72 #[.int .u64 (hi x), .int .u64 (lo x)] := row_alloc (row_new rfl) _
  have Y := row_alloc (row_alloc Y (.cells #[.int .u64 (hi x), .int .u64 (lo x)] 72)) (.cells #[.int .u64 (hi ra), .int .u64 (lo ra)] 72)
  have R := row_alloc (row_alloc R (.cells #[.int .u64 (hi x), .int .u64 (lo x)] 72)) (.cells #[.int .u64 (hi ra), .int .u64 (lo ra)] 72)
  have G := row_alloc (row_alloc G (.cells #[.int .u64 (hi x), .int .u64 (lo x)] 72)) (.cells #[.int .u64 (hi ra), .int .u64 (lo ra)] 72)
  have o : Below w.heap.size w ((w6.alloc (.cells #[.int .u64 (hi x), .int .u64 (lo x)] 72)).alloc (.cells #[.int .u64 (hi ra), .int .u64 (lo ra)] 72)) := (o.alloc o.size _).alloc (by have := o.size; simp; omega) _
  generalize ((w6.alloc (.cells #[.int .u64 (hi x), .int .u64 (lo x)] 72)).alloc (.cells #[.int .u64 (hi ra), .int .u64 (lo ra)] 72)) = w7 at N Y R G o ⊢
  generalize w6.heap.size = nb at N z6 ⊢
  obtain ⟨Y0, Y1, Y2, Y3⟩ := row_two Y
  obtain ⟨G0, G1, G2, G3⟩ := row_two G
  go_wp2_with fail
  refine (PB.out _).mono ?_
  rintro e w8 ⟨rfl, hb8⟩
  clear Y0 Y1 Y2 Y3 G0 G1 G2 G3 G Y
  have N := row_call N hb8
  have R := row_call R hb8
  have o := o.trans (hb8.mono o.size)
  go_upto_region 4 with (fail)
  have D : Row ((w8.alloc (.cells #[.int .u64 (hi y), .int .u64 (lo y)] 72)).alloc (.cells #[.int .u64 (hi rb), .int .u64 (lo rb)] 72)) w8.heap.size 72 #[.int .u64 (hi y), .int .u64 (lo y)] := row_alloc (row_new rfl) _
  have N := row_alloc (row_alloc N (.cells #[.int .u64 (hi y), .int .u64 (lo y)] 72)) (.cells #[.int .u64 (hi rb), .int .u64 (lo rb)] 72)
  have R := row_alloc (row_alloc R (.cells #[.int .u64 (hi y), .int .u64 (lo y)] 72)) (.cells #[.int .u64 (hi rb), .int .u64 (lo rb)] 72)
  have o : Below w.heap.size w ((w8.alloc (.cells #[.int .u64 (hi y), .int .u64 (lo y)] 72)).alloc (.cells #[.int .u64 (hi rb), .int .u64 (lo rb)] 72)) := (o.alloc o.size _).alloc (by have := o.size; simp; omega) _
  generalize ((w8.alloc (.cells #[.int .u64 (hi y), .int .u64 (lo y)] 72)).alloc (.cells #[.int .u64 (hi rb), .int .u64 (lo rb)] 72)) = w9 at N D R o ⊢
  generalize w8.heap.size = db at D ⊢
  obtain ⟨e1, e2, e3, e4, u1, u2⟩ := ALL.out
  rw [e1, e2] at N
  rw [e3, e4] at D
  clear e1 e2 e3 e4
  generalize hxi : (x : Int) = xi at N u1
  generalize hyi : (y : Int) = yi at D u2
  have HXI := Lib.hid hxi
  have HYI := Lib.hid hyi
  clear hxi hyi
  have c1 : ¬ (9223372036854775808 : Int) ≤ yi := by omega
  have c2 : ¬ (9223372036854775808 : Int) < xi := by omega
  have c3 : (xi == 9223372036854775808) = false := by simp; omega
  have w1 : IntKind.i64.wrap xi = xi := IntWalk.i64_in _ (by omega)
  have w2 : IntKind.i64.wrap yi = yi := IntWalk.i64_in _ (by omega)
  obtain ⟨X0, X1, X2, X3⟩ := row_two N
  obtain ⟨Y0, Y1, Y2, Y3⟩ := row_two D
  obtain ⟨R0, R1, R2, R3⟩ := row_two R
  go_wp2
  exact bodyPost_ret (v := .tuple #[.agg #[.int .i64 xi, .int .i64 yi], .bool true]) (by simp [results, Try.results87, go_sem, R0, R1]) rfl ⟨by rw [HXI.out, HYI.out], by (repeat (first | exact Below.refl _ _ | refine Below.setCell ?_ (by first | (simp; done) | (simp; omega) | omega) _ | refine Below.alloc ?_ (by first | (simp; done) | (simp; omega) | omega) _ | refine Below.drew ?_ | refine Below.trans ?_ (Below.mono (by assumption) (by first | (simp; done) | (simp; omega) | omega))))⟩
theorem rmake (a b : Nat) (ha : a < 9223372036854775808) (hb : b < 9223372036854775808) (h : b ≠ 0) (w : World) :
    Calls Try.prog 48 #[.int .i64 a, .int .i64 b] w fun e w' => e = .returned (.tuple #[.agg #[.int .i64 ((a / Nat.gcd a b : Nat) : Int), .int .i64 ((b / Nat.gcd a b : Nat) : Int)], .bool true]) ∧ Below w.heap.size w w' := by
  have PR := fun w => rreduced a b ha hb h w
  have PA := fun w => rabs (a : Int) (by omega) (by omega) w
  have PB := fun w => rabs (b : Int) (by omega) (by omega) w
  have OA := fun w => rof a (by omega) w
  have OB := fun w => rof b (by omega) w
  generalize ((a / Nat.gcd a b : Nat) : Int) = x at PR ⊢
  generalize ((b / Nat.gcd a b : Nat) : Int) = y at PR ⊢
  have u0 : (b : Int) ≠ 0 := by omega
  have u1 : 0 ≤ (a : Int) := by omega
  have u2 : 0 ≤ (b : Int) := by omega
  generalize W a = wa at OA PR
  generalize W b = wb at OB PR
  generalize (a : Int) = ai at PA OA u1 ⊢
  generalize (b : Int) = bi at PB OB u0 u2 ⊢
  have t0 : (bi == 0) = false := by simpa using u0
  have t1 : ¬ ai < 0 := by omega
  have t2 : ¬ bi < 0 := by omega
  have PR := Lib.hid PR
  have PA := Lib.hid PA
  have PB := Lib.hid PB
  have OA := Lib.hid OA
  have OB := Lib.hid OB
  clear h ha hb u0 u1 u2
  go_enter Try.func48, Try.ntmps48
  go_wp2_with (first | (go_at_call 89; with_reducible refine (PA.out _).mono ?_; rintro e w9 ⟨rfl, h9⟩; obtain rfl := h9.symm) | (go_at_call 89; with_reducible refine (PB.out _).mono ?_; rintro e w9 ⟨rfl, h9⟩; obtain rfl := h9.symm) | (go_at_call 88; with_reducible refine (OA.out _).mono ?_; rintro e w1 ⟨rfl, hb1⟩; have hz1 := hb1.size; (try simp at hz1); have o1 : Below w.heap.size w w1 := (by (repeat (first | exact Below.refl _ _ | refine Below.setCell ?_ (by first | (simp; done) | (simp; omega) | omega) _ | refine Below.alloc ?_ (by first | (simp; done) | (simp; omega) | omega) _ | refine Below.drew ?_ | refine Below.trans ?_ (Below.mono (by assumption) (by first | (simp; done) | (simp; omega) | omega))))); have q1_0 : w.heap.size < w1.heap.size := (by omega); have r1_0 : Row w1 (w.heap.size) 35 #[.int .i64 0, .int .i64 0] := row_call (by (repeat (first | assumption | (refine row_new ?_; (first | (simp; done) | omega)) | refine row_alloc ?_ _ | refine row_drew ?_ | refine row_call ?_ (by assumption)))) hb1; obtain ⟨c1_0a, c1_0b, f1_0a, f1_0b⟩ := row_two r1_0) | (go_at_call 88; with_reducible refine (OB.out _).mono ?_; rintro e w2 ⟨rfl, hb2⟩; have hz2 := hb2.size; (try simp at hz2); have o2 : Below w.heap.size w w2 := (by (repeat (first | exact Below.refl _ _ | refine Below.setCell ?_ (by first | (simp; done) | (simp; omega) | omega) _ | refine Below.alloc ?_ (by first | (simp; done) | (simp; omega) | omega) _ | refine Below.drew ?_ | refine Below.trans ?_ (Below.mono (by assumption) (by first | (simp; done) | (simp; omega) | omega))))); have q2_0 : w.heap.size < w2.heap.size := (by omega); have r2_0 : Row w2 (w.heap.size) 35 #[.int .i64 0, .int .i64 0] := row_call (by (repeat (first | assumption | (refine row_new ?_; (first | (simp; done) | omega)) | refine row_alloc ?_ _ | refine row_drew ?_ | refine row_call ?_ (by assumption)))) hb2; obtain ⟨c2_0a, c2_0b, f2_0a, f2_0b⟩ := row_two r2_0) | (go_at_call 87; with_reducible refine (PR.out _).mono ?_; rintro e w3 ⟨rfl, hb3⟩; have hz3 := hb3.size; (try simp at hz3); have o3 : Below w.heap.size w w3 := (by (repeat (first | exact Below.refl _ _ | refine Below.setCell ?_ (by first | (simp; done) | (simp; omega) | omega) _ | refine Below.alloc ?_ (by first | (simp; done) | (simp; omega) | omega) _ | refine Below.drew ?_ | refine Below.trans ?_ (Below.mono (by assumption) (by first | (simp; done) | (simp; omega) | omega))))); have q3_0 : w.heap.size < w3.heap.size := (by omega); have r3_0 : Row w3 (w.heap.size) 35 #[.int .i64 0, .int .i64 0] := row_call (by (repeat (first | assumption | (refine row_new ?_; (first | (simp; done) | omega)) | refine row_alloc ?_ _ | refine row_drew ?_ | refine row_call ?_ (by assumption)))) hb3; obtain ⟨c3_0a, c3_0b, f3_0a, f3_0b⟩ := row_two r3_0))
  exact bodyPost_ret (v := .tuple #[.agg #[.int .i64 x, .int .i64 y], .bool true]) (by simp [results, Try.results48, go_sem, c3_0a, c3_0b]) rfl ⟨rfl, by (repeat (first | exact Below.refl _ _ | refine Below.setCell ?_ (by first | (simp; done) | (simp; omega) | omega) _ | refine Below.alloc ?_ (by first | (simp; done) | (simp; omega) | omega) _ | refine Below.drew ?_ | refine Below.trans ?_ (Below.mono (by assumption) (by first | (simp; done) | (simp; omega) | omega))))⟩
end Go.Proofs.Ytaiepjcnncajcaa
end
