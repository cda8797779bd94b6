/- Spread histograms: the clock moved on, walked. -/
import Derived.Test.YtaiepjcnncajcaaSpN
import Derived.Test.YtaiepjcnncajcaaMkC
set_option linter.unusedVariables false
set_option linter.unusedSimpArgs false
set_option linter.unusedSectionVars false
set_option linter.unnecessarySimpa false
namespace Go.Proofs.Ytaiepjcnncajcaa
open Go.RowKit
theorem MIn.blk {A : Option Addr} {m c : Nat} {l : List Mk} {w : World} (h : MIn A m c l w) (hm : 0 < m) (a : Addr) (e : A = some a) : a.block < w.heap.size := by
  obtain ⟨ad, e', hb, _⟩ := h.reads.2 hm
  rw [e'] at e
  cases e
  exact hb
theorem MIn.keep0 {A : Option Addr} {m c : Nat} {l : List Mk} {w w' : World} (h : MIn A m c l w) (hs : w.heap.size ≤ w'.heap.size) (hk : 0 < m → ∀ a, A = some a → w'.heap[a.block]? = w.heap[a.block]?) : MIn A m c l w' := by
  refine ⟨⟨h.reads.1, fun hn => ?_⟩, h.mB, h.mc, h.cB⟩
  obtain ⟨ad, e, hb, hc⟩ := h.reads.2 hn
  exact ⟨ad, e, Nat.lt_of_lt_of_le hb hs, fun j u hu => (World.cell?_of_block (by rw [block_of_add]; exact hk hn ad e)).trans (hc j u hu)⟩
theorem pclk_yes (now tt : Int) (w : World) (n0 : 0 ≤ now) (n1 : now ≤ 16777216) (h1 : now ≤ tt) (h2 : tt ≤ 16777216) : Calls Try.prog 64 #[.int .i64 now, .int .i64 tt] w fun e w' => e = .returned (.tuple #[.int .i64 tt, .int .i64 0]) ∧ w' = w := by
  have PT := Lib.hid (fun w => ptick_2 now w n0 n1)
  clear n0 n1
  go_enter Try.func64, Try.ntmps64
  go_wp2_with (go_at_call 99; with_reducible refine (PT.out _).mono ?_; rintro e w9 ⟨rfl, h9⟩; obtain rfl := h9.symm)
  go_ret2
  exact ⟨rfl, rfl⟩
theorem pclk_no1 (now tt : Int) (w : World) (n0 : 0 ≤ now) (n1 : now ≤ 16777216) (h1 : tt < now) : Calls Try.prog 64 #[.int .i64 now, .int .i64 tt] w fun e w' => e = .returned (.tuple #[.int .i64 0, .int .i64 3]) ∧ w' = w := by
  have PT := Lib.hid (fun w => ptick_2 now w n0 n1)
  clear n0 n1
  go_enter Try.func64, Try.ntmps64
  go_wp2_with (go_at_call 99; with_reducible refine (PT.out _).mono ?_; rintro e w9 ⟨rfl, h9⟩; obtain rfl := h9.symm)
  go_ret2
  exact ⟨rfl, rfl⟩
theorem pclk_no2 (now tt : Int) (w : World) (n0 : 0 ≤ now) (n1 : now ≤ 16777216) (h0 : now ≤ tt) (h1 : 16777216 < tt) : Calls Try.prog 64 #[.int .i64 now, .int .i64 tt] w fun e w' => e = .returned (.tuple #[.int .i64 0, .int .i64 3]) ∧ w' = w := by
  have PT := Lib.hid (fun w => ptick_2 now w n0 n1)
  clear n0 n1
  go_enter Try.func64, Try.ntmps64
  go_wp2_with (go_at_call 99; with_reducible refine (PT.out _).mono ?_; rintro e w9 ⟨rfl, h9⟩; obtain rfl := h9.symm)
  go_ret2
  exact ⟨rfl, rfl⟩
theorem pclk (now tt : Int) (w : World) (n0 : 0 ≤ now) (n1 : now ≤ 16777216) : Calls Try.prog 64 #[.int .i64 now, .int .i64 tt] w fun e w' => e = .returned (.tuple #[.int .i64 (if tt < now ∨ 16777216 < tt then 0 else tt), .int .i64 (if tt < now ∨ 16777216 < tt then 3 else 0)]) ∧ w' = w := by
  by_cases h1 : tt < now
  · rw [if_pos (.inl h1), if_pos (.inl h1)]
    exact pclk_no1 now tt w n0 n1 h1
  · by_cases h2 : 16777216 < tt
    · rw [if_pos (.inr h2), if_pos (.inr h2)]
      exact pclk_no2 now tt w n0 n1 (by omega) h2
    · rw [if_neg (by omega), if_neg (by omega)]
      exact pclk_yes now tt w n0 n1 (by omega) (by omega)
theorem rback_yes (now tt : Int) (w : World) (h1 : ¬ tt < now) (h2 : ¬ 16777216 < tt) : Calls Try.prog 71 #[.int .i64 now, .int .i64 tt] w fun e w' => e = .returned (.int .i64 0) ∧ w' = w := by
  go_enter Try.func71, Try.ntmps71
  go_wp2
  go_ret
  exact ⟨rfl, rfl⟩
theorem rback_no1 (now tt : Int) (w : World) (h1 : tt < now) : Calls Try.prog 71 #[.int .i64 now, .int .i64 tt] w fun e w' => e = .returned (.int .i64 3) ∧ w' = w := by
  go_enter Try.func71, Try.ntmps71
  go_wp2
  go_ret
  exact ⟨rfl, rfl⟩
theorem rback_no2 (now tt : Int) (w : World) (h0 : ¬ tt < now) (h1 : 16777216 < tt) : Calls Try.prog 71 #[.int .i64 now, .int .i64 tt] w fun e w' => e = .returned (.int .i64 3) ∧ w' = w := by
  go_enter Try.func71, Try.ntmps71
  go_wp2
  go_ret
  exact ⟨rfl, rfl⟩
theorem rback (now tt : Int) (w : World) : Calls Try.prog 71 #[.int .i64 now, .int .i64 tt] w fun e w' => e = .returned (.int .i64 (if tt < now ∨ 16777216 < tt then 3 else 0)) ∧ w' = w := by
  by_cases h1 : tt < now
  · rw [if_pos (.inl h1)]
    exact rback_no1 now tt w h1
  · by_cases h2 : 16777216 < tt
    · rw [if_pos (.inr h2)]
      exact rback_no2 now tt w h1 h2
    · rw [if_neg (by omega)]
      exact rback_yes now tt w h1 h2
theorem spTick_a {wd k cap now seq tt : Int} {l : List Mk} (h : spvalE wd k cap now seq l = 2) : spTick wd k cap now seq l tt = spZero 2 := by
  unfold spTick
  rw [if_neg (by omega)]
theorem spTick_b {wd k cap now seq tt : Int} {l : List Mk} (h : spvalE wd k cap now seq l = 0) (h1 : tt < now ∨ 16777216 < tt) : spTick wd k cap now seq l tt = spZero 3 := by
  unfold spTick
  rw [if_pos h, if_pos h1]
theorem spTick_c {wd k cap now seq tt : Int} {l : List Mk} (h : spvalE wd k cap now seq l = 0) (h1 : ¬ (tt < now ∨ 16777216 < tt)) : spTick wd k cap now seq l tt = ⟨wd, k, cap, tt, seq, dropM tt wd l, 0⟩ := by
  unfold spTick
  rw [if_pos h, if_neg h1]
set_option maxRecDepth 100000 in
theorem psptick_a (A : Option Addr) (m c : Nat) (l : List Mk) (wd k cap now seq : Int) (tt : Int) (w : World) (hin : MIn A m c l w) (sB : I64 seq) (hv : spvalE wd k cap now seq l = 2) : Calls Try.prog 26 #[.agg #[.int .i64 wd, .int .i64 k, .int .i64 cap, .int .i64 now, .int .i64 seq, .slice A m c], .int .i64 tt] w fun e w' => SpRet A (spTick wd k cap now seq l tt) w e w' := by
  rw [spTick_a hv]
  have P := fun w' (hb : Below w.heap.size w w') => pvalP A m c l wd k cap now seq w' (hin.below hb) sB
  rw [hv] at P
  replace P := Lib.hid P
  clear hv hin sB
  go_enter Try.func26, Try.ntmps26
  go_wp2_with (first | (go_at_call 27; with_reducible refine (P.out _ (by (repeat (first | exact Below.refl _ _ | refine Below.setCell ?_ (by first | (simp; done) | (simp; omega) | omega) _ | refine Below.alloc ?_ (by first | (simp; done) | (simp; omega) | omega) _ | refine Below.drew ?_ | refine Below.trans ?_ (Below.mono (by assumption) (by first | (simp; done) | (simp; omega) | omega)))))).mono ?_; rintro e w1 ⟨rfl, hb1⟩; have hz1 := hb1.size; (try simp at hz1); have o1 : Below w.heap.size w w1 := (by (repeat (first | exact Below.refl _ _ | refine Below.setCell ?_ (by first | (simp; done) | (simp; omega) | omega) _ | refine Below.alloc ?_ (by first | (simp; done) | (simp; omega) | omega) _ | refine Below.drew ?_ | refine Below.trans ?_ (Below.mono (by assumption) (by first | (simp; done) | (simp; omega) | omega))))); have q1_0 : w.heap.size < w1.heap.size := (by omega); have r1_0 : Row w1 (w.heap.size) 24 #[.int .i64 wd, .int .i64 k, .int .i64 cap, .int .i64 now, .int .i64 seq, .slice A m c] := row_call (by (repeat (first | assumption | (refine row_new ?_; (first | (simp; done) | omega)) | refine row_alloc ?_ _ | refine row_drew ?_ | refine row_call ?_ (by assumption)))) hb1; obtain ⟨c1_0a, c1_0b, c1_0c, c1_0d, c1_0e, c1_0f, f1_0a, f1_0b, f1_0c, f1_0d, f1_0e, f1_0f⟩ := row_six r1_0; have q1_1 : w.heap.size + 1 < w1.heap.size := (by omega); have r1_1 : Row w1 (w.heap.size + 1) 24 #[.int .i64 0, .int .i64 0, .int .i64 0, .int .i64 0, .int .i64 0, .slice none 0 0] := row_call (by (repeat (first | assumption | (refine row_new ?_; (first | (simp; done) | omega)) | refine row_alloc ?_ _ | refine row_drew ?_ | refine row_call ?_ (by assumption)))) hb1; obtain ⟨c1_1a, c1_1b, c1_1c, c1_1d, c1_1e, c1_1f, f1_1a, f1_1b, f1_1c, f1_1d, f1_1e, f1_1f⟩ := row_six r1_1))
  have hbge : w.heap.size ≤ w.heap.size + 1 := by omega
  have R9 : Row ((((((w1.setCell ⟨w.heap.size + 1, 0, none⟩ (.int .i64 0)).setCell ⟨w.heap.size + 1, 1, none⟩ (.int .i64 0)).setCell ⟨w.heap.size + 1, 2, none⟩ (.int .i64 0)).setCell ⟨w.heap.size + 1, 3, none⟩ (.int .i64 0)).setCell ⟨w.heap.size + 1, 4, none⟩ (.int .i64 0)).setCell ⟨w.heap.size + 1, 5, none⟩ (.slice none 0 0)) (w.heap.size + 1) 24 #[.int .i64 0, .int .i64 0, .int .i64 0, .int .i64 0, .int .i64 0, .slice none 0 0] := (row_set (row_set (row_set (row_set (row_set (row_set r1_1 0 (.int .i64 0)) 1 (.int .i64 0)) 2 (.int .i64 0)) 3 (.int .i64 0)) 4 (.int .i64 0)) 5 (.slice none 0 0))
  have o9 : Below w.heap.size w ((((((w1.setCell ⟨w.heap.size + 1, 0, none⟩ (.int .i64 0)).setCell ⟨w.heap.size + 1, 1, none⟩ (.int .i64 0)).setCell ⟨w.heap.size + 1, 2, none⟩ (.int .i64 0)).setCell ⟨w.heap.size + 1, 3, none⟩ (.int .i64 0)).setCell ⟨w.heap.size + 1, 4, none⟩ (.int .i64 0)).setCell ⟨w.heap.size + 1, 5, none⟩ (.slice none 0 0)) := (Below.setCell (p := ⟨w.heap.size + 1, 5, none⟩) (Below.setCell (p := ⟨w.heap.size + 1, 4, none⟩) (Below.setCell (p := ⟨w.heap.size + 1, 3, none⟩) (Below.setCell (p := ⟨w.heap.size + 1, 2, none⟩) (Below.setCell (p := ⟨w.heap.size + 1, 1, none⟩) (Below.setCell (p := ⟨w.heap.size + 1, 0, none⟩) o1 hbge (.int .i64 0)) hbge (.int .i64 0)) hbge (.int .i64 0)) hbge (.int .i64 0)) hbge (.int .i64 0)) hbge (.slice none 0 0))
  generalize ((((((w1.setCell ⟨w.heap.size + 1, 0, none⟩ (.int .i64 0)).setCell ⟨w.heap.size + 1, 1, none⟩ (.int .i64 0)).setCell ⟨w.heap.size + 1, 2, none⟩ (.int .i64 0)).setCell ⟨w.heap.size + 1, 3, none⟩ (.int .i64 0)).setCell ⟨w.heap.size + 1, 4, none⟩ (.int .i64 0)).setCell ⟨w.heap.size + 1, 5, none⟩ (.slice none 0 0)) = w9 at R9 o9 ⊢
  obtain ⟨N0, N1, N2, N3, N4, N5, Nf0, Nf1, Nf2, Nf3, Nf4, Nf5⟩ := row_six R9
  exact bodyPost_ret (v := .tuple #[.agg #[.int .i64 0, .int .i64 0, .int .i64 0, .int .i64 0, .int .i64 0, .slice none 0 0], .int .i64 2]) (by simp [results, Try.results26, go_sem, List.getElem?_toArray, N0, N1, N2, N3, N4, N5]) rfl (spret_zero o9)
set_option maxRecDepth 100000 in
theorem psptick_b (A : Option Addr) (m c : Nat) (l : List Mk) (wd k cap now seq : Int) (tt : Int) (w : World) (hin : MIn A m c l w) (sB : I64 seq) (hv : spvalE wd k cap now seq l = 0) (hto : tt < now ∨ 16777216 < tt) : Calls Try.prog 26 #[.agg #[.int .i64 wd, .int .i64 k, .int .i64 cap, .int .i64 now, .int .i64 seq, .slice A m c], .int .i64 tt] w fun e w' => SpRet A (spTick wd k cap now seq l tt) w e w' := by
  rw [spTick_b hv hto]
  obtain ⟨⟨_, _, _, _, _, _, n0, n1⟩, _, _⟩ := of_spvalE hv
  have PC := fun w => pclk now tt w n0 n1
  simp only [if_pos hto] at PC
  replace PC := Lib.hid PC
  have P := fun w' (hb : Below w.heap.size w w') => pvalP A m c l wd k cap now seq w' (hin.below hb) sB
  rw [hv] at P
  replace P := Lib.hid P
  clear hv hin sB hto n0 n1
  go_enter Try.func26, Try.ntmps26
  go_wp2_with (first | (go_at_call 27; with_reducible refine (P.out _ (by (repeat (first | exact Below.refl _ _ | refine Below.setCell ?_ (by first | (simp; done) | (simp; omega) | omega) _ | refine Below.alloc ?_ (by first | (simp; done) | (simp; omega) | omega) _ | refine Below.drew ?_ | refine Below.trans ?_ (Below.mono (by assumption) (by first | (simp; done) | (simp; omega) | omega)))))).mono ?_; rintro e w1 ⟨rfl, hb1⟩; have hz1 := hb1.size; (try simp at hz1); have o1 : Below w.heap.size w w1 := (by (repeat (first | exact Below.refl _ _ | refine Below.setCell ?_ (by first | (simp; done) | (simp; omega) | omega) _ | refine Below.alloc ?_ (by first | (simp; done) | (simp; omega) | omega) _ | refine Below.drew ?_ | refine Below.trans ?_ (Below.mono (by assumption) (by first | (simp; done) | (simp; omega) | omega))))); have q1_0 : w.heap.size < w1.heap.size := (by omega); have r1_0 : Row w1 (w.heap.size) 24 #[.int .i64 wd, .int .i64 k, .int .i64 cap, .int .i64 now, .int .i64 seq, .slice A m c] := row_call (by (repeat (first | assumption | (refine row_new ?_; (first | (simp; done) | omega)) | refine row_alloc ?_ _ | refine row_drew ?_ | refine row_call ?_ (by assumption)))) hb1; obtain ⟨c1_0a, c1_0b, c1_0c, c1_0d, c1_0e, c1_0f, f1_0a, f1_0b, f1_0c, f1_0d, f1_0e, f1_0f⟩ := row_six r1_0; have q1_1 : w.heap.size + 1 < w1.heap.size := (by omega); have r1_1 : Row w1 (w.heap.size + 1) 24 #[.int .i64 0, .int .i64 0, .int .i64 0, .int .i64 0, .int .i64 0, .slice none 0 0] := row_call (by (repeat (first | assumption | (refine row_new ?_; (first | (simp; done) | omega)) | refine row_alloc ?_ _ | refine row_drew ?_ | refine row_call ?_ (by assumption)))) hb1; obtain ⟨c1_1a, c1_1b, c1_1c, c1_1d, c1_1e, c1_1f, f1_1a, f1_1b, f1_1c, f1_1d, f1_1e, f1_1f⟩ := row_six r1_1) | (go_at_call 64; with_reducible refine (PC.out _).mono ?_; rintro e w9 ⟨rfl, h9⟩; obtain rfl := h9.symm))
  have hbge : w.heap.size ≤ w.heap.size + 1 := by omega
  have R9 : Row ((((((w1.setCell ⟨w.heap.size + 1, 0, none⟩ (.int .i64 0)).setCell ⟨w.heap.size + 1, 1, none⟩ (.int .i64 0)).setCell ⟨w.heap.size + 1, 2, none⟩ (.int .i64 0)).setCell ⟨w.heap.size + 1, 3, none⟩ (.int .i64 0)).setCell ⟨w.heap.size + 1, 4, none⟩ (.int .i64 0)).setCell ⟨w.heap.size + 1, 5, none⟩ (.slice none 0 0)) (w.heap.size + 1) 24 #[.int .i64 0, .int .i64 0, .int .i64 0, .int .i64 0, .int .i64 0, .slice none 0 0] := (row_set (row_set (row_set (row_set (row_set (row_set r1_1 0 (.int .i64 0)) 1 (.int .i64 0)) 2 (.int .i64 0)) 3 (.int .i64 0)) 4 (.int .i64 0)) 5 (.slice none 0 0))
  have o9 : Below w.heap.size w ((((((w1.setCell ⟨w.heap.size + 1, 0, none⟩ (.int .i64 0)).setCell ⟨w.heap.size + 1, 1, none⟩ (.int .i64 0)).setCell ⟨w.heap.size + 1, 2, none⟩ (.int .i64 0)).setCell ⟨w.heap.size + 1, 3, none⟩ (.int .i64 0)).setCell ⟨w.heap.size + 1, 4, none⟩ (.int .i64 0)).setCell ⟨w.heap.size + 1, 5, none⟩ (.slice none 0 0)) := (Below.setCell (p := ⟨w.heap.size + 1, 5, none⟩) (Below.setCell (p := ⟨w.heap.size + 1, 4, none⟩) (Below.setCell (p := ⟨w.heap.size + 1, 3, none⟩) (Below.setCell (p := ⟨w.heap.size + 1, 2, none⟩) (Below.setCell (p := ⟨w.heap.size + 1, 1, none⟩) (Below.setCell (p := ⟨w.heap.size + 1, 0, none⟩) o1 hbge (.int .i64 0)) hbge (.int .i64 0)) hbge (.int .i64 0)) hbge (.int .i64 0)) hbge (.int .i64 0)) hbge (.slice none 0 0))
  generalize ((((((w1.setCell ⟨w.heap.size + 1, 0, none⟩ (.int .i64 0)).setCell ⟨w.heap.size + 1, 1, none⟩ (.int .i64 0)).setCell ⟨w.heap.size + 1, 2, none⟩ (.int .i64 0)).setCell ⟨w.heap.size + 1, 3, none⟩ (.int .i64 0)).setCell ⟨w.heap.size + 1, 4, none⟩ (.int .i64 0)).setCell ⟨w.heap.size + 1, 5, none⟩ (.slice none 0 0)) = w9 at R9 o9 ⊢
  obtain ⟨N0, N1, N2, N3, N4, N5, Nf0, Nf1, Nf2, Nf3, Nf4, Nf5⟩ := row_six R9
  exact bodyPost_ret (v := .tuple #[.agg #[.int .i64 0, .int .i64 0, .int .i64 0, .int .i64 0, .int .i64 0, .slice none 0 0], .int .i64 3]) (by simp [results, Try.results26, go_sem, List.getElem?_toArray, N0, N1, N2, N3, N4, N5]) rfl (spret_zero o9)
set_option maxRecDepth 100000 in
set_option maxHeartbeats 4000000 in
theorem psptick_c (A : Option Addr) (m c : Nat) (l : List Mk) (wd k cap now seq : Int) (tt : Int) (w : World) (hin : MIn A m c l w) (sB : I64 seq) (hmm : m ≤ 100000) (hv : spvalE wd k cap now seq l = 0) (hto : ¬ (tt < now ∨ 16777216 < tt)) : Calls Try.prog 26 #[.agg #[.int .i64 wd, .int .i64 k, .int .i64 cap, .int .i64 now, .int .i64 seq, .slice A m c], .int .i64 tt] w fun e w' => SpRet A (spTick wd k cap now seq l tt) w e w' := by
  rw [spTick_c hv hto]
  obtain ⟨⟨d0, d1, _, _, _, _, n0, n1⟩, hMV, _⟩ := of_spvalE hv
  have HT := Lib.hid (show ∀ x ∈ l, 0 ≤ x.t ∧ x.t ≤ tt from fun x hx => by
    have := (mvalid_iff.1 hMV).2.one x hx
    have h5 := this.2.2.2.2.1
    have h6 := this.2.2.2.2.2.1
    omega)
  have PC := fun w => pclk now tt w n0 n1
  simp only [if_neg hto] at PC
  replace PC := Lib.hid PC
  have HR := Lib.hid hin
  have HFB := Lib.hid (fun h a e => hin.blk h a e)
  have P := fun w' (hb : Below w.heap.size w w') => pvalP A m c l wd k cap now seq w' (hin.below hb) sB
  rw [hv] at P
  replace P := Lib.hid P
  have t0 : 0 ≤ tt := by omega
  have t1 : tt ≤ 16777216 := by omega
  clear hv hin sB hto hMV
  go_enter Try.func26, Try.ntmps26
  go_upto_region 7 with (first | (go_at_call 27; with_reducible refine (P.out _ (by (repeat (first | exact Below.refl _ _ | refine Below.setCell ?_ (by first | (simp; done) | (simp; omega) | omega) _ | refine Below.alloc ?_ (by first | (simp; done) | (simp; omega) | omega) _ | refine Below.drew ?_ | refine Below.trans ?_ (Below.mono (by assumption) (by first | (simp; done) | (simp; omega) | omega)))))).mono ?_; rintro e w1 ⟨rfl, hb1⟩; have hz1 := hb1.size; (try simp at hz1); have o1 : Below w.heap.size w w1 := (by (repeat (first | exact Below.refl _ _ | refine Below.setCell ?_ (by first | (simp; done) | (simp; omega) | omega) _ | refine Below.alloc ?_ (by first | (simp; done) | (simp; omega) | omega) _ | refine Below.drew ?_ | refine Below.trans ?_ (Below.mono (by assumption) (by first | (simp; done) | (simp; omega) | omega))))); have q1_0 : w.heap.size < w1.heap.size := (by omega); have r1_0 : Row w1 (w.heap.size) 24 #[.int .i64 wd, .int .i64 k, .int .i64 cap, .int .i64 now, .int .i64 seq, .slice A m c] := row_call (by (repeat (first | assumption | (refine row_new ?_; (first | (simp; done) | omega)) | refine row_alloc ?_ _ | refine row_drew ?_ | refine row_call ?_ (by assumption)))) hb1; obtain ⟨c1_0a, c1_0b, c1_0c, c1_0d, c1_0e, c1_0f, f1_0a, f1_0b, f1_0c, f1_0d, f1_0e, f1_0f⟩ := row_six r1_0; have q1_1 : w.heap.size + 1 < w1.heap.size := (by omega); have r1_1 : Row w1 (w.heap.size + 1) 24 #[.int .i64 0, .int .i64 0, .int .i64 0, .int .i64 0, .int .i64 0, .slice none 0 0] := row_call (by (repeat (first | assumption | (refine row_new ?_; (first | (simp; done) | omega)) | refine row_alloc ?_ _ | refine row_drew ?_ | refine row_call ?_ (by assumption)))) hb1; obtain ⟨c1_1a, c1_1b, c1_1c, c1_1d, c1_1e, c1_1f, f1_1a, f1_1b, f1_1c, f1_1d, f1_1e, f1_1f⟩ := row_six r1_1) | (go_at_call 64; with_reducible refine (PC.out _).mono ?_; rintro e w9 ⟨rfl, h9⟩; obtain rfl := h9.symm))
  clear P PC c1_0a c1_0b c1_0c c1_0d c1_0e c1_0f f1_0a f1_0b f1_0c f1_0d f1_0e f1_0f c1_1a c1_1b c1_1c c1_1d c1_1e c1_1f f1_1a f1_1b f1_1c f1_1d f1_1e f1_1f 
  obtain ⟨X0, X1, X2, X3, X4, X5, Xf0, Xf1, Xf2, Xf3, Xf4, Xf5⟩ := row_six r1_0
  have KR := Lib.hid r1_0
  clear r1_0
  go_upto_region 8 with (fail)
  have X : Row (w1.setCell ⟨w.heap.size, 3, none⟩ (.int .i64 tt)) (w.heap.size) 24 #[.int .i64 wd, .int .i64 k, .int .i64 cap, .int .i64 tt, .int .i64 seq, .slice A m c] := row_set KR.out 3 _
  have R : Row (w1.setCell ⟨w.heap.size, 3, none⟩ (.int .i64 tt)) (w.heap.size + 1) 24 #[.int .i64 0, .int .i64 0, .int .i64 0, .int .i64 0, .int .i64 0, .slice none 0 0] := row_other (p := ⟨w.heap.size, 3, none⟩) r1_1 (by show w.heap.size + 1 ≠ w.heap.size; omega) _
  have o : Below w.heap.size w (w1.setCell ⟨w.heap.size, 3, none⟩ (.int .i64 tt)) := o1.setCell (p := ⟨w.heap.size, 3, none⟩) (Nat.le_refl _) _
  generalize w1.setCell ⟨w.heap.size, 3, none⟩ (.int .i64 tt) = w3 at X R o ⊢
  clear X0 X1 X2 X3 X4 X5 Xf0 Xf1 Xf2 Xf3 Xf4 Xf5 KR o1 r1_1
  obtain ⟨X0, X1, X2, X3, X4, X5, Xf0, Xf1, Xf2, Xf3, Xf4, Xf5⟩ := row_six X
  go_wp2_with fail
  refine (pmdrop A m c l tt wd w3 (HR.out.below o) (by omega) t0 t1 d0 d1 HT.out).mono ?_
  rintro e w4 ⟨A5, m5, c5, rfl, inA, hb4, fr4⟩
  have z3 := row_lt R
  clear X0 X1 X2 X3 X4 X5 Xf0 Xf1 Xf2 Xf3 Xf4 Xf5
  replace X := row_call X hb4
  replace R := row_call R hb4
  have z4 := hb4.size
  have o3 := o.size
  replace o := o.trans (hb4.mono o.size)
  have IN := Lib.hid inA
  have XB0 := Lib.hid (show 0 < m5 → ∀ a, A5 = some a → a.block ≠ w.heap.size ∧ a.block ≠ w.heap.size + 1 from fun h a e => by
    rcases fr4 a e with g | ⟨b, eb, g⟩
    · omega
    · have hl := inA.len
      have hm0 : 0 < m := by
        rcases Nat.eq_zero_or_pos m with h0 | h0
        · exfalso
          have h1 := HR.out.len
          have h2 : l = [] := List.eq_nil_of_length_eq_zero (by omega)
          rw [h2, dropM_nil] at hl
          simp at hl
          omega
        · exact h0
      have := HFB.out hm0 b eb
      omega)
  have FR := Lib.hid (show ∀ a, A5 = some a → (w.heap.size ≤ a.block ∧ a.block < w4.heap.size) ∨ ∃ b, A = some b ∧ a.block = b.block from fun a e => by
    rcases fr4 a e with g | g
    · exact .inl (by omega)
    · exact .inr g)
  clear hb4 inA fr4
  obtain ⟨X0, X1, X2, X3, X4, X5, Xf0, Xf1, Xf2, Xf3, Xf4, Xf5⟩ := row_six X
  obtain ⟨R0, R1, R2, R3, R4, R5, Rf0, Rf1, Rf2, Rf3, Rf4, Rf5⟩ := row_six R
  have XR := Lib.hid X
  have RR := Lib.hid R
  clear X R
  go_upto_region 9 with (fail)
  have X : Row (w4.setCell ⟨w.heap.size, 5, none⟩ (.slice A5 m5 c5)) (w.heap.size) 24 #[.int .i64 wd, .int .i64 k, .int .i64 cap, .int .i64 tt, .int .i64 seq, .slice A5 m5 c5] := (row_set XR.out 5 (.slice A5 m5 c5))
  have R : Row (w4.setCell ⟨w.heap.size, 5, none⟩ (.slice A5 m5 c5)) (w.heap.size + 1) 24 #[.int .i64 0, .int .i64 0, .int .i64 0, .int .i64 0, .int .i64 0, .slice none 0 0] := (row_other (p := ⟨w.heap.size, 5, none⟩) RR.out (by show w.heap.size + 1 ≠ w.heap.size; omega) (.slice A5 m5 c5))
  have o6 : Below w.heap.size w (w4.setCell ⟨w.heap.size, 5, none⟩ (.slice A5 m5 c5)) := (Below.setCell (p := ⟨w.heap.size, 5, none⟩) o (Nat.le_refl _) (.slice A5 m5 c5))
  have hkp6 : ∀ b', b' ≠ w.heap.size → ((w4.setCell ⟨w.heap.size, 5, none⟩ (.slice A5 m5 c5))).heap[b']? = w4.heap[b']? := fun b' h' => ((Below.heap_setCell _ ⟨w.heap.size, 5, none⟩ (.slice A5 m5 c5) b' h').trans rfl)
  have hs6 : w4.heap.size ≤ ((w4.setCell ⟨w.heap.size, 5, none⟩ (.slice A5 m5 c5))).heap.size := by simp only [size_setCell]; exact Nat.le_refl _
  have IN6 := Lib.hid (IN.out.keep0 hs6 (fun h a e => hkp6 a.block (XB0.out h a e).1))
  clear hkp6
  generalize (w4.setCell ⟨w.heap.size, 5, none⟩ (.slice A5 m5 c5)) = w6 at X R o6 hs6 IN6 ⊢
  clear X0 X1 X2 X3 X4 X5 Xf0 Xf1 Xf2 Xf3 Xf4 Xf5 R0 R1 R2 R3 R4 R5 Rf0 Rf1 Rf2 Rf3 Rf4 Rf5 XR RR IN o
  obtain ⟨X0, X1, X2, X3, X4, X5, Xf0, Xf1, Xf2, Xf3, Xf4, Xf5⟩ := row_six X
  obtain ⟨R0, R1, R2, R3, R4, R5, Rf0, Rf1, Rf2, Rf3, Rf4, Rf5⟩ := row_six R
  go_wp2
  have hbge : w.heap.size ≤ w.heap.size + 1 := by omega
  have hkp : ∀ b', b' ≠ w.heap.size + 1 → (((((((w6.setCell ⟨w.heap.size + 1, 0, none⟩ (.int .i64 wd)).setCell ⟨w.heap.size + 1, 1, none⟩ (.int .i64 k)).setCell ⟨w.heap.size + 1, 2, none⟩ (.int .i64 cap)).setCell ⟨w.heap.size + 1, 3, none⟩ (.int .i64 tt)).setCell ⟨w.heap.size + 1, 4, none⟩ (.int .i64 seq)).setCell ⟨w.heap.size + 1, 5, none⟩ (.slice A5 m5 c5))).heap[b']? = w6.heap[b']? := fun b' h' => ((Below.heap_setCell _ ⟨w.heap.size + 1, 5, none⟩ (.slice A5 m5 c5) b' h').trans ((Below.heap_setCell _ ⟨w.heap.size + 1, 4, none⟩ (.int .i64 seq) b' h').trans ((Below.heap_setCell _ ⟨w.heap.size + 1, 3, none⟩ (.int .i64 tt) b' h').trans ((Below.heap_setCell _ ⟨w.heap.size + 1, 2, none⟩ (.int .i64 cap) b' h').trans ((Below.heap_setCell _ ⟨w.heap.size + 1, 1, none⟩ (.int .i64 k) b' h').trans ((Below.heap_setCell _ ⟨w.heap.size + 1, 0, none⟩ (.int .i64 wd) b' h').trans rfl))))))
  have hksz : w6.heap.size ≤ (((((((w6.setCell ⟨w.heap.size + 1, 0, none⟩ (.int .i64 wd)).setCell ⟨w.heap.size + 1, 1, none⟩ (.int .i64 k)).setCell ⟨w.heap.size + 1, 2, none⟩ (.int .i64 cap)).setCell ⟨w.heap.size + 1, 3, none⟩ (.int .i64 tt)).setCell ⟨w.heap.size + 1, 4, none⟩ (.int .i64 seq)).setCell ⟨w.heap.size + 1, 5, none⟩ (.slice A5 m5 c5))).heap.size := by simp only [size_setCell]; exact Nat.le_refl _
  have R9 : Row ((((((w6.setCell ⟨w.heap.size + 1, 0, none⟩ (.int .i64 wd)).setCell ⟨w.heap.size + 1, 1, none⟩ (.int .i64 k)).setCell ⟨w.heap.size + 1, 2, none⟩ (.int .i64 cap)).setCell ⟨w.heap.size + 1, 3, none⟩ (.int .i64 tt)).setCell ⟨w.heap.size + 1, 4, none⟩ (.int .i64 seq)).setCell ⟨w.heap.size + 1, 5, none⟩ (.slice A5 m5 c5)) (w.heap.size + 1) 24 #[.int .i64 wd, .int .i64 k, .int .i64 cap, .int .i64 tt, .int .i64 seq, .slice A5 m5 c5] := (row_set (row_set (row_set (row_set (row_set (row_set R 0 (.int .i64 wd)) 1 (.int .i64 k)) 2 (.int .i64 cap)) 3 (.int .i64 tt)) 4 (.int .i64 seq)) 5 (.slice A5 m5 c5))
  have o9 : Below w.heap.size w ((((((w6.setCell ⟨w.heap.size + 1, 0, none⟩ (.int .i64 wd)).setCell ⟨w.heap.size + 1, 1, none⟩ (.int .i64 k)).setCell ⟨w.heap.size + 1, 2, none⟩ (.int .i64 cap)).setCell ⟨w.heap.size + 1, 3, none⟩ (.int .i64 tt)).setCell ⟨w.heap.size + 1, 4, none⟩ (.int .i64 seq)).setCell ⟨w.heap.size + 1, 5, none⟩ (.slice A5 m5 c5)) := (Below.setCell (p := ⟨w.heap.size + 1, 5, none⟩) (Below.setCell (p := ⟨w.heap.size + 1, 4, none⟩) (Below.setCell (p := ⟨w.heap.size + 1, 3, none⟩) (Below.setCell (p := ⟨w.heap.size + 1, 2, none⟩) (Below.setCell (p := ⟨w.heap.size + 1, 1, none⟩) (Below.setCell (p := ⟨w.heap.size + 1, 0, none⟩) o6 hbge (.int .i64 wd)) hbge (.int .i64 k)) hbge (.int .i64 cap)) hbge (.int .i64 tt)) hbge (.int .i64 seq)) hbge (.slice A5 m5 c5))
  generalize ((((((w6.setCell ⟨w.heap.size + 1, 0, none⟩ (.int .i64 wd)).setCell ⟨w.heap.size + 1, 1, none⟩ (.int .i64 k)).setCell ⟨w.heap.size + 1, 2, none⟩ (.int .i64 cap)).setCell ⟨w.heap.size + 1, 3, none⟩ (.int .i64 tt)).setCell ⟨w.heap.size + 1, 4, none⟩ (.int .i64 seq)).setCell ⟨w.heap.size + 1, 5, none⟩ (.slice A5 m5 c5)) = w9 at R9 o9 hkp hksz ⊢
  obtain ⟨N0, N1, N2, N3, N4, N5, Nf0, Nf1, Nf2, Nf3, Nf4, Nf5⟩ := row_six R9
  exact bodyPost_ret (v := .tuple #[.agg #[.int .i64 wd, .int .i64 k, .int .i64 cap, .int .i64 tt, .int .i64 seq, .slice A5 m5 c5], .int .i64 0]) (by simp [results, Try.results26, go_sem, List.getElem?_toArray, N0, N1, N2, N3, N4, N5]) rfl (spret_ok (IN6.out.keep0 hksz (fun h a e => hkp a.block (XB0.out h a e).2)) o9 (fun a e => (FR.out a e).imp (fun g => ⟨g.1, by omega⟩) (fun g => g)))
theorem psptick (A : Option Addr) (m c : Nat) (l : List Mk) (wd k cap now seq : Int) (tt : Int) (w : World) (hin : MIn A m c l w) (sB : I64 seq) (hmm : m ≤ 100000) : Calls Try.prog 26 #[.agg #[.int .i64 wd, .int .i64 k, .int .i64 cap, .int .i64 now, .int .i64 seq, .slice A m c], .int .i64 tt] w fun e w' => SpRet A (spTick wd k cap now seq l tt) w e w' := by
  rcases spvalE_two (wd := wd) (k := k) (cap := cap) (now := now) (seq := seq) (l := l) with hv | hv
  · by_cases hto : tt < now ∨ 16777216 < tt
    · exact psptick_b A m c l wd k cap now seq tt w hin sB hv hto
    · exact psptick_c A m c l wd k cap now seq tt w hin sB hmm hv hto
  · exact psptick_a A m c l wd k cap now seq tt w hin sB hv
set_option maxRecDepth 100000 in
theorem rsptick_a (A : Option Addr) (m c : Nat) (l : List Mk) (wd k cap now seq : Int) (tt : Int) (w : World) (hin : MIn A m c l w) (sB : I64 seq) (hv : spvalE wd k cap now seq l = 2) : Calls Try.prog 31 #[.agg #[.int .i64 wd, .int .i64 k, .int .i64 cap, .int .i64 now, .int .i64 seq, .slice A m c], .int .i64 tt] w fun e w' => SpRet A (spTick wd k cap now seq l tt) w e w' := by
  rw [spTick_a hv]
  have P := fun w' (hb : Below w.heap.size w w') => rvalP A m c l wd k cap now seq w' (hin.below hb) sB
  rw [hv] at P
  replace P := Lib.hid P
  clear hv hin sB
  go_enter Try.func31, Try.ntmps31
  go_wp2_with (first | (go_at_call 28; with_reducible refine (P.out _ (by (repeat (first | exact Below.refl _ _ | refine Below.setCell ?_ (by first | (simp; done) | (simp; omega) | omega) _ | refine Below.alloc ?_ (by first | (simp; done) | (simp; omega) | omega) _ | refine Below.drew ?_ | refine Below.trans ?_ (Below.mono (by assumption) (by first | (simp; done) | (simp; omega) | omega)))))).mono ?_; rintro e w1 ⟨rfl, hb1⟩; have hz1 := hb1.size; (try simp at hz1); have o1 : Below w.heap.size w w1 := (by (repeat (first | exact Below.refl _ _ | refine Below.setCell ?_ (by first | (simp; done) | (simp; omega) | omega) _ | refine Below.alloc ?_ (by first | (simp; done) | (simp; omega) | omega) _ | refine Below.drew ?_ | refine Below.trans ?_ (Below.mono (by assumption) (by first | (simp; done) | (simp; omega) | omega))))); have q1_0 : w.heap.size < w1.heap.size := (by omega); have r1_0 : Row w1 (w.heap.size) 24 #[.int .i64 wd, .int .i64 k, .int .i64 cap, .int .i64 now, .int .i64 seq, .slice A m c] := row_call (by (repeat (first | assumption | (refine row_new ?_; (first | (simp; done) | omega)) | refine row_alloc ?_ _ | refine row_drew ?_ | refine row_call ?_ (by assumption)))) hb1; obtain ⟨c1_0a, c1_0b, c1_0c, c1_0d, c1_0e, c1_0f, f1_0a, f1_0b, f1_0c, f1_0d, f1_0e, f1_0f⟩ := row_six r1_0; have q1_1 : w.heap.size + 1 < w1.heap.size := (by omega); have r1_1 : Row w1 (w.heap.size + 1) 24 #[.int .i64 0, .int .i64 0, .int .i64 0, .int .i64 0, .int .i64 0, .slice none 0 0] := row_call (by (repeat (first | assumption | (refine row_new ?_; (first | (simp; done) | omega)) | refine row_alloc ?_ _ | refine row_drew ?_ | refine row_call ?_ (by assumption)))) hb1; obtain ⟨c1_1a, c1_1b, c1_1c, c1_1d, c1_1e, c1_1f, f1_1a, f1_1b, f1_1c, f1_1d, f1_1e, f1_1f⟩ := row_six r1_1))
  have hbge : w.heap.size ≤ w.heap.size + 1 := by omega
  have R9 : Row ((((((w1.setCell ⟨w.heap.size + 1, 0, none⟩ (.int .i64 0)).setCell ⟨w.heap.size + 1, 1, none⟩ (.int .i64 0)).setCell ⟨w.heap.size + 1, 2, none⟩ (.int .i64 0)).setCell ⟨w.heap.size + 1, 3, none⟩ (.int .i64 0)).setCell ⟨w.heap.size + 1, 4, none⟩ (.int .i64 0)).setCell ⟨w.heap.size + 1, 5, none⟩ (.slice none 0 0)) (w.heap.size + 1) 24 #[.int .i64 0, .int .i64 0, .int .i64 0, .int .i64 0, .int .i64 0, .slice none 0 0] := (row_set (row_set (row_set (row_set (row_set (row_set r1_1 0 (.int .i64 0)) 1 (.int .i64 0)) 2 (.int .i64 0)) 3 (.int .i64 0)) 4 (.int .i64 0)) 5 (.slice none 0 0))
  have o9 : Below w.heap.size w ((((((w1.setCell ⟨w.heap.size + 1, 0, none⟩ (.int .i64 0)).setCell ⟨w.heap.size + 1, 1, none⟩ (.int .i64 0)).setCell ⟨w.heap.size + 1, 2, none⟩ (.int .i64 0)).setCell ⟨w.heap.size + 1, 3, none⟩ (.int .i64 0)).setCell ⟨w.heap.size + 1, 4, none⟩ (.int .i64 0)).setCell ⟨w.heap.size + 1, 5, none⟩ (.slice none 0 0)) := (Below.setCell (p := ⟨w.heap.size + 1, 5, none⟩) (Below.setCell (p := ⟨w.heap.size + 1, 4, none⟩) (Below.setCell (p := ⟨w.heap.size + 1, 3, none⟩) (Below.setCell (p := ⟨w.heap.size + 1, 2, none⟩) (Below.setCell (p := ⟨w.heap.size + 1, 1, none⟩) (Below.setCell (p := ⟨w.heap.size + 1, 0, none⟩) o1 hbge (.int .i64 0)) hbge (.int .i64 0)) hbge (.int .i64 0)) hbge (.int .i64 0)) hbge (.int .i64 0)) hbge (.slice none 0 0))
  generalize ((((((w1.setCell ⟨w.heap.size + 1, 0, none⟩ (.int .i64 0)).setCell ⟨w.heap.size + 1, 1, none⟩ (.int .i64 0)).setCell ⟨w.heap.size + 1, 2, none⟩ (.int .i64 0)).setCell ⟨w.heap.size + 1, 3, none⟩ (.int .i64 0)).setCell ⟨w.heap.size + 1, 4, none⟩ (.int .i64 0)).setCell ⟨w.heap.size + 1, 5, none⟩ (.slice none 0 0)) = w9 at R9 o9 ⊢
  obtain ⟨N0, N1, N2, N3, N4, N5, Nf0, Nf1, Nf2, Nf3, Nf4, Nf5⟩ := row_six R9
  exact bodyPost_ret (v := .tuple #[.agg #[.int .i64 0, .int .i64 0, .int .i64 0, .int .i64 0, .int .i64 0, .slice none 0 0], .int .i64 2]) (by simp [results, Try.results31, go_sem, List.getElem?_toArray, N0, N1, N2, N3, N4, N5]) rfl (spret_zero o9)
set_option maxRecDepth 100000 in
theorem rsptick_b (A : Option Addr) (m c : Nat) (l : List Mk) (wd k cap now seq : Int) (tt : Int) (w : World) (hin : MIn A m c l w) (sB : I64 seq) (hv : spvalE wd k cap now seq l = 0) (hto : tt < now ∨ 16777216 < tt) : Calls Try.prog 31 #[.agg #[.int .i64 wd, .int .i64 k, .int .i64 cap, .int .i64 now, .int .i64 seq, .slice A m c], .int .i64 tt] w fun e w' => SpRet A (spTick wd k cap now seq l tt) w e w' := by
  rw [spTick_b hv hto]
  obtain ⟨⟨_, _, _, _, _, _, n0, n1⟩, _, _⟩ := of_spvalE hv
  have PC := fun w => rback now tt w
  rw [if_pos hto] at PC
  replace PC := Lib.hid PC
  have P := fun w' (hb : Below w.heap.size w w') => rvalP A m c l wd k cap now seq w' (hin.below hb) sB
  rw [hv] at P
  replace P := Lib.hid P
  clear hv hin sB hto n0 n1
  go_enter Try.func31, Try.ntmps31
  go_wp2_with (first | (go_at_call 28; with_reducible refine (P.out _ (by (repeat (first | exact Below.refl _ _ | refine Below.setCell ?_ (by first | (simp; done) | (simp; omega) | omega) _ | refine Below.alloc ?_ (by first | (simp; done) | (simp; omega) | omega) _ | refine Below.drew ?_ | refine Below.trans ?_ (Below.mono (by assumption) (by first | (simp; done) | (simp; omega) | omega)))))).mono ?_; rintro e w1 ⟨rfl, hb1⟩; have hz1 := hb1.size; (try simp at hz1); have o1 : Below w.heap.size w w1 := (by (repeat (first | exact Below.refl _ _ | refine Below.setCell ?_ (by first | (simp; done) | (simp; omega) | omega) _ | refine Below.alloc ?_ (by first | (simp; done) | (simp; omega) | omega) _ | refine Below.drew ?_ | refine Below.trans ?_ (Below.mono (by assumption) (by first | (simp; done) | (simp; omega) | omega))))); have q1_0 : w.heap.size < w1.heap.size := (by omega); have r1_0 : Row w1 (w.heap.size) 24 #[.int .i64 wd, .int .i64 k, .int .i64 cap, .int .i64 now, .int .i64 seq, .slice A m c] := row_call (by (repeat (first | assumption | (refine row_new ?_; (first | (simp; done) | omega)) | refine row_alloc ?_ _ | refine row_drew ?_ | refine row_call ?_ (by assumption)))) hb1; obtain ⟨c1_0a, c1_0b, c1_0c, c1_0d, c1_0e, c1_0f, f1_0a, f1_0b, f1_0c, f1_0d, f1_0e, f1_0f⟩ := row_six r1_0; have q1_1 : w.heap.size + 1 < w1.heap.size := (by omega); have r1_1 : Row w1 (w.heap.size + 1) 24 #[.int .i64 0, .int .i64 0, .int .i64 0, .int .i64 0, .int .i64 0, .slice none 0 0] := row_call (by (repeat (first | assumption | (refine row_new ?_; (first | (simp; done) | omega)) | refine row_alloc ?_ _ | refine row_drew ?_ | refine row_call ?_ (by assumption)))) hb1; obtain ⟨c1_1a, c1_1b, c1_1c, c1_1d, c1_1e, c1_1f, f1_1a, f1_1b, f1_1c, f1_1d, f1_1e, f1_1f⟩ := row_six r1_1) | (go_at_call 71; with_reducible refine (PC.out _).mono ?_; rintro e w9 ⟨rfl, h9⟩; obtain rfl := h9.symm))
  have hbge : w.heap.size ≤ w.heap.size + 1 := by omega
  have R9 : Row ((((((w1.setCell ⟨w.heap.size + 1, 0, none⟩ (.int .i64 0)).setCell ⟨w.heap.size + 1, 1, none⟩ (.int .i64 0)).setCell ⟨w.heap.size + 1, 2, none⟩ (.int .i64 0)).setCell ⟨w.heap.size + 1, 3, none⟩ (.int .i64 0)).setCell ⟨w.heap.size + 1, 4, none⟩ (.int .i64 0)).setCell ⟨w.heap.size + 1, 5, none⟩ (.slice none 0 0)) (w.heap.size + 1) 24 #[.int .i64 0, .int .i64 0, .int .i64 0, .int .i64 0, .int .i64 0, .slice none 0 0] := (row_set (row_set (row_set (row_set (row_set (row_set r1_1 0 (.int .i64 0)) 1 (.int .i64 0)) 2 (.int .i64 0)) 3 (.int .i64 0)) 4 (.int .i64 0)) 5 (.slice none 0 0))
  have o9 : Below w.heap.size w ((((((w1.setCell ⟨w.heap.size + 1, 0, none⟩ (.int .i64 0)).setCell ⟨w.heap.size + 1, 1, none⟩ (.int .i64 0)).setCell ⟨w.heap.size + 1, 2, none⟩ (.int .i64 0)).setCell ⟨w.heap.size + 1, 3, none⟩ (.int .i64 0)).setCell ⟨w.heap.size + 1, 4, none⟩ (.int .i64 0)).setCell ⟨w.heap.size + 1, 5, none⟩ (.slice none 0 0)) := (Below.setCell (p := ⟨w.heap.size + 1, 5, none⟩) (Below.setCell (p := ⟨w.heap.size + 1, 4, none⟩) (Below.setCell (p := ⟨w.heap.size + 1, 3, none⟩) (Below.setCell (p := ⟨w.heap.size + 1, 2, none⟩) (Below.setCell (p := ⟨w.heap.size + 1, 1, none⟩) (Below.setCell (p := ⟨w.heap.size + 1, 0, none⟩) o1 hbge (.int .i64 0)) hbge (.int .i64 0)) hbge (.int .i64 0)) hbge (.int .i64 0)) hbge (.int .i64 0)) hbge (.slice none 0 0))
  generalize ((((((w1.setCell ⟨w.heap.size + 1, 0, none⟩ (.int .i64 0)).setCell ⟨w.heap.size + 1, 1, none⟩ (.int .i64 0)).setCell ⟨w.heap.size + 1, 2, none⟩ (.int .i64 0)).setCell ⟨w.heap.size + 1, 3, none⟩ (.int .i64 0)).setCell ⟨w.heap.size + 1, 4, none⟩ (.int .i64 0)).setCell ⟨w.heap.size + 1, 5, none⟩ (.slice none 0 0)) = w9 at R9 o9 ⊢
  obtain ⟨N0, N1, N2, N3, N4, N5, Nf0, Nf1, Nf2, Nf3, Nf4, Nf5⟩ := row_six R9
  exact bodyPost_ret (v := .tuple #[.agg #[.int .i64 0, .int .i64 0, .int .i64 0, .int .i64 0, .int .i64 0, .slice none 0 0], .int .i64 3]) (by simp [results, Try.results31, go_sem, List.getElem?_toArray, N0, N1, N2, N3, N4, N5]) rfl (spret_zero o9)
set_option maxRecDepth 100000 in
set_option maxHeartbeats 4000000 in
theorem rsptick_c (A : Option Addr) (m c : Nat) (l : List Mk) (wd k cap now seq : Int) (tt : Int) (w : World) (hin : MIn A m c l w) (sB : I64 seq) (hmm : m ≤ 100000) (hv : spvalE wd k cap now seq l = 0) (hto : ¬ (tt < now ∨ 16777216 < tt)) : Calls Try.prog 31 #[.agg #[.int .i64 wd, .int .i64 k, .int .i64 cap, .int .i64 now, .int .i64 seq, .slice A m c], .int .i64 tt] w fun e w' => SpRet A (spTick wd k cap now seq l tt) w e w' := by
  rw [spTick_c hv hto]
  obtain ⟨⟨d0, d1, _, _, _, _, n0, n1⟩, hMV, _⟩ := of_spvalE hv
  have HT := Lib.hid (show ∀ x ∈ l, 0 ≤ x.t ∧ x.t ≤ tt from fun x hx => by
    have := (mvalid_iff.1 hMV).2.one x hx
    have h5 := this.2.2.2.2.1
    have h6 := this.2.2.2.2.2.1
    omega)
  have PC := fun w => rback now tt w
  rw [if_neg hto] at PC
  replace PC := Lib.hid PC
  have HR := Lib.hid hin
  have HFB := Lib.hid (fun h a e => hin.blk h a e)
  have P := fun w' (hb : Below w.heap.size w w') => rvalP A m c l wd k cap now seq w' (hin.below hb) sB
  rw [hv] at P
  replace P := Lib.hid P
  have t0 : 0 ≤ tt := by omega
  have t1 : tt ≤ 16777216 := by omega
  clear hv hin sB hto hMV
  go_enter Try.func31, Try.ntmps31
  go_upto_region 7 with (first | (go_at_call 28; with_reducible refine (P.out _ (by (repeat (first | exact Below.refl _ _ | refine Below.setCell ?_ (by first | (simp; done) | (simp; omega) | omega) _ | refine Below.alloc ?_ (by first | (simp; done) | (simp; omega) | omega) _ | refine Below.drew ?_ | refine Below.trans ?_ (Below.mono (by assumption) (by first | (simp; done) | (simp; omega) | omega)))))).mono ?_; rintro e w1 ⟨rfl, hb1⟩; have hz1 := hb1.size; (try simp at hz1); have o1 : Below w.heap.size w w1 := (by (repeat (first | exact Below.refl _ _ | refine Below.setCell ?_ (by first | (simp; done) | (simp; omega) | omega) _ | refine Below.alloc ?_ (by first | (simp; done) | (simp; omega) | omega) _ | refine Below.drew ?_ | refine Below.trans ?_ (Below.mono (by assumption) (by first | (simp; done) | (simp; omega) | omega))))); have q1_0 : w.heap.size < w1.heap.size := (by omega); have r1_0 : Row w1 (w.heap.size) 24 #[.int .i64 wd, .int .i64 k, .int .i64 cap, .int .i64 now, .int .i64 seq, .slice A m c] := row_call (by (repeat (first | assumption | (refine row_new ?_; (first | (simp; done) | omega)) | refine row_alloc ?_ _ | refine row_drew ?_ | refine row_call ?_ (by assumption)))) hb1; obtain ⟨c1_0a, c1_0b, c1_0c, c1_0d, c1_0e, c1_0f, f1_0a, f1_0b, f1_0c, f1_0d, f1_0e, f1_0f⟩ := row_six r1_0; have q1_1 : w.heap.size + 1 < w1.heap.size := (by omega); have r1_1 : Row w1 (w.heap.size + 1) 24 #[.int .i64 0, .int .i64 0, .int .i64 0, .int .i64 0, .int .i64 0, .slice none 0 0] := row_call (by (repeat (first | assumption | (refine row_new ?_; (first | (simp; done) | omega)) | refine row_alloc ?_ _ | refine row_drew ?_ | refine row_call ?_ (by assumption)))) hb1; obtain ⟨c1_1a, c1_1b, c1_1c, c1_1d, c1_1e, c1_1f, f1_1a, f1_1b, f1_1c, f1_1d, f1_1e, f1_1f⟩ := row_six r1_1) | (go_at_call 71; with_reducible refine (PC.out _).mono ?_; rintro e w9 ⟨rfl, h9⟩; obtain rfl := h9.symm))
  clear P PC c1_0a c1_0b c1_0c c1_0d c1_0e c1_0f f1_0a f1_0b f1_0c f1_0d f1_0e f1_0f c1_1a c1_1b c1_1c c1_1d c1_1e c1_1f f1_1a f1_1b f1_1c f1_1d f1_1e f1_1f 
  obtain ⟨X0, X1, X2, X3, X4, X5, Xf0, Xf1, Xf2, Xf3, Xf4, Xf5⟩ := row_six r1_0
  have X := r1_0
  have R := r1_1
  have o := o1
  clear r1_0 r1_1 o1
  obtain ⟨w3, hw3⟩ : ∃ x, x = w1 := ⟨_, rfl⟩
  rw [← hw3] at X R o X0 X1 X2 X3 X4 X5 Xf0 Xf1 Xf2 Xf3 Xf4 Xf5 ⊢
  clear hw3
  go_wp2_with fail
  refine (rmdrop A m c l tt wd w3 (HR.out.below o) (by omega) t0 t1 d0 d1 HT.out).mono ?_
  rintro e w4 ⟨A5, m5, c5, rfl, inA, hb4, fr4⟩
  have z3 := row_lt R
  clear X0 X1 X2 X3 X4 X5 Xf0 Xf1 Xf2 Xf3 Xf4 Xf5
  replace X := row_call X hb4
  replace R := row_call R hb4
  have z4 := hb4.size
  have o3 := o.size
  replace o := o.trans (hb4.mono o.size)
  have IN := Lib.hid inA
  have XB0 := Lib.hid (show 0 < m5 → ∀ a, A5 = some a → a.block ≠ w.heap.size ∧ a.block ≠ w.heap.size + 1 from fun h a e => by
    rcases fr4 a e with g | ⟨b, eb, g⟩
    · omega
    · have hl := inA.len
      have hm0 : 0 < m := by
        rcases Nat.eq_zero_or_pos m with h0 | h0
        · exfalso
          have h1 := HR.out.len
          have h2 : l = [] := List.eq_nil_of_length_eq_zero (by omega)
          rw [h2, dropM_nil] at hl
          simp at hl
          omega
        · exact h0
      have := HFB.out hm0 b eb
      omega)
  have FR := Lib.hid (show ∀ a, A5 = some a → (w.heap.size ≤ a.block ∧ a.block < w4.heap.size) ∨ ∃ b, A = some b ∧ a.block = b.block from fun a e => by
    rcases fr4 a e with g | g
    · exact .inl (by omega)
    · exact .inr g)
  clear hb4 inA fr4
  obtain ⟨X0, X1, X2, X3, X4, X5, Xf0, Xf1, Xf2, Xf3, Xf4, Xf5⟩ := row_six X
  obtain ⟨R0, R1, R2, R3, R4, R5, Rf0, Rf1, Rf2, Rf3, Rf4, Rf5⟩ := row_six R
  have XR := Lib.hid X
  have RR := Lib.hid R
  clear X R
  go_upto_region 8 with (fail)
  have X : Row ((w4.setCell ⟨w.heap.size, 3, none⟩ (.int .i64 tt)).setCell ⟨w.heap.size, 5, none⟩ (.slice A5 m5 c5)) (w.heap.size) 24 #[.int .i64 wd, .int .i64 k, .int .i64 cap, .int .i64 tt, .int .i64 seq, .slice A5 m5 c5] := (row_set (row_set XR.out 3 (.int .i64 tt)) 5 (.slice A5 m5 c5))
  have R : Row ((w4.setCell ⟨w.heap.size, 3, none⟩ (.int .i64 tt)).setCell ⟨w.heap.size, 5, none⟩ (.slice A5 m5 c5)) (w.heap.size + 1) 24 #[.int .i64 0, .int .i64 0, .int .i64 0, .int .i64 0, .int .i64 0, .slice none 0 0] := (row_other (p := ⟨w.heap.size, 5, none⟩) (row_other (p := ⟨w.heap.size, 3, none⟩) RR.out (by show w.heap.size + 1 ≠ w.heap.size; omega) (.int .i64 tt)) (by show w.heap.size + 1 ≠ w.heap.size; omega) (.slice A5 m5 c5))
  have o6 : Below w.heap.size w ((w4.setCell ⟨w.heap.size, 3, none⟩ (.int .i64 tt)).setCell ⟨w.heap.size, 5, none⟩ (.slice A5 m5 c5)) := (Below.setCell (p := ⟨w.heap.size, 5, none⟩) (Below.setCell (p := ⟨w.heap.size, 3, none⟩) o (Nat.le_refl _) (.int .i64 tt)) (Nat.le_refl _) (.slice A5 m5 c5))
  have hkp6 : ∀ b', b' ≠ w.heap.size → (((w4.setCell ⟨w.heap.size, 3, none⟩ (.int .i64 tt)).setCell ⟨w.heap.size, 5, none⟩ (.slice A5 m5 c5))).heap[b']? = w4.heap[b']? := fun b' h' => ((Below.heap_setCell _ ⟨w.heap.size, 5, none⟩ (.slice A5 m5 c5) b' h').trans ((Below.heap_setCell _ ⟨w.heap.size, 3, none⟩ (.int .i64 tt) b' h').trans rfl))
  have hs6 : w4.heap.size ≤ (((w4.setCell ⟨w.heap.size, 3, none⟩ (.int .i64 tt)).setCell ⟨w.heap.size, 5, none⟩ (.slice A5 m5 c5))).heap.size := by simp only [size_setCell]; exact Nat.le_refl _
  have IN6 := Lib.hid (IN.out.keep0 hs6 (fun h a e => hkp6 a.block (XB0.out h a e).1))
  clear hkp6
  generalize ((w4.setCell ⟨w.heap.size, 3, none⟩ (.int .i64 tt)).setCell ⟨w.heap.size, 5, none⟩ (.slice A5 m5 c5)) = w6 at X R o6 hs6 IN6 ⊢
  clear X0 X1 X2 X3 X4 X5 Xf0 Xf1 Xf2 Xf3 Xf4 Xf5 R0 R1 R2 R3 R4 R5 Rf0 Rf1 Rf2 Rf3 Rf4 Rf5 XR RR IN o
  obtain ⟨X0, X1, X2, X3, X4, X5, Xf0, Xf1, Xf2, Xf3, Xf4, Xf5⟩ := row_six X
  obtain ⟨R0, R1, R2, R3, R4, R5, Rf0, Rf1, Rf2, Rf3, Rf4, Rf5⟩ := row_six R
  go_wp2
  have hbge : w.heap.size ≤ w.heap.size + 1 := by omega
  have hkp : ∀ b', b' ≠ w.heap.size + 1 → (((((((w6.setCell ⟨w.heap.size + 1, 0, none⟩ (.int .i64 wd)).setCell ⟨w.heap.size + 1, 1, none⟩ (.int .i64 k)).setCell ⟨w.heap.size + 1, 2, none⟩ (.int .i64 cap)).setCell ⟨w.heap.size + 1, 3, none⟩ (.int .i64 tt)).setCell ⟨w.heap.size + 1, 4, none⟩ (.int .i64 seq)).setCell ⟨w.heap.size + 1, 5, none⟩ (.slice A5 m5 c5))).heap[b']? = w6.heap[b']? := fun b' h' => ((Below.heap_setCell _ ⟨w.heap.size + 1, 5, none⟩ (.slice A5 m5 c5) b' h').trans ((Below.heap_setCell _ ⟨w.heap.size + 1, 4, none⟩ (.int .i64 seq) b' h').trans ((Below.heap_setCell _ ⟨w.heap.size + 1, 3, none⟩ (.int .i64 tt) b' h').trans ((Below.heap_setCell _ ⟨w.heap.size + 1, 2, none⟩ (.int .i64 cap) b' h').trans ((Below.heap_setCell _ ⟨w.heap.size + 1, 1, none⟩ (.int .i64 k) b' h').trans ((Below.heap_setCell _ ⟨w.heap.size + 1, 0, none⟩ (.int .i64 wd) b' h').trans rfl))))))
  have hksz : w6.heap.size ≤ (((((((w6.setCell ⟨w.heap.size + 1, 0, none⟩ (.int .i64 wd)).setCell ⟨w.heap.size + 1, 1, none⟩ (.int .i64 k)).setCell ⟨w.heap.size + 1, 2, none⟩ (.int .i64 cap)).setCell ⟨w.heap.size + 1, 3, none⟩ (.int .i64 tt)).setCell ⟨w.heap.size + 1, 4, none⟩ (.int .i64 seq)).setCell ⟨w.heap.size + 1, 5, none⟩ (.slice A5 m5 c5))).heap.size := by simp only [size_setCell]; exact Nat.le_refl _
  have R9 : Row ((((((w6.setCell ⟨w.heap.size + 1, 0, none⟩ (.int .i64 wd)).setCell ⟨w.heap.size + 1, 1, none⟩ (.int .i64 k)).setCell ⟨w.heap.size + 1, 2, none⟩ (.int .i64 cap)).setCell ⟨w.heap.size + 1, 3, none⟩ (.int .i64 tt)).setCell ⟨w.heap.size + 1, 4, none⟩ (.int .i64 seq)).setCell ⟨w.heap.size + 1, 5, none⟩ (.slice A5 m5 c5)) (w.heap.size + 1) 24 #[.int .i64 wd, .int .i64 k, .int .i64 cap, .int .i64 tt, .int .i64 seq, .slice A5 m5 c5] := (row_set (row_set (row_set (row_set (row_set (row_set R 0 (.int .i64 wd)) 1 (.int .i64 k)) 2 (.int .i64 cap)) 3 (.int .i64 tt)) 4 (.int .i64 seq)) 5 (.slice A5 m5 c5))
  have o9 : Below w.heap.size w ((((((w6.setCell ⟨w.heap.size + 1, 0, none⟩ (.int .i64 wd)).setCell ⟨w.heap.size + 1, 1, none⟩ (.int .i64 k)).setCell ⟨w.heap.size + 1, 2, none⟩ (.int .i64 cap)).setCell ⟨w.heap.size + 1, 3, none⟩ (.int .i64 tt)).setCell ⟨w.heap.size + 1, 4, none⟩ (.int .i64 seq)).setCell ⟨w.heap.size + 1, 5, none⟩ (.slice A5 m5 c5)) := (Below.setCell (p := ⟨w.heap.size + 1, 5, none⟩) (Below.setCell (p := ⟨w.heap.size + 1, 4, none⟩) (Below.setCell (p := ⟨w.heap.size + 1, 3, none⟩) (Below.setCell (p := ⟨w.heap.size + 1, 2, none⟩) (Below.setCell (p := ⟨w.heap.size + 1, 1, none⟩) (Below.setCell (p := ⟨w.heap.size + 1, 0, none⟩) o6 hbge (.int .i64 wd)) hbge (.int .i64 k)) hbge (.int .i64 cap)) hbge (.int .i64 tt)) hbge (.int .i64 seq)) hbge (.slice A5 m5 c5))
  generalize ((((((w6.setCell ⟨w.heap.size + 1, 0, none⟩ (.int .i64 wd)).setCell ⟨w.heap.size + 1, 1, none⟩ (.int .i64 k)).setCell ⟨w.heap.size + 1, 2, none⟩ (.int .i64 cap)).setCell ⟨w.heap.size + 1, 3, none⟩ (.int .i64 tt)).setCell ⟨w.heap.size + 1, 4, none⟩ (.int .i64 seq)).setCell ⟨w.heap.size + 1, 5, none⟩ (.slice A5 m5 c5)) = w9 at R9 o9 hkp hksz ⊢
  obtain ⟨N0, N1, N2, N3, N4, N5, Nf0, Nf1, Nf2, Nf3, Nf4, Nf5⟩ := row_six R9
  exact bodyPost_ret (v := .tuple #[.agg #[.int .i64 wd, .int .i64 k, .int .i64 cap, .int .i64 tt, .int .i64 seq, .slice A5 m5 c5], .int .i64 0]) (by simp [results, Try.results31, go_sem, List.getElem?_toArray, N0, N1, N2, N3, N4, N5]) rfl (spret_ok (IN6.out.keep0 hksz (fun h a e => hkp a.block (XB0.out h a e).2)) o9 (fun a e => (FR.out a e).imp (fun g => ⟨g.1, by omega⟩) (fun g => g)))
theorem rsptick (A : Option Addr) (m c : Nat) (l : List Mk) (wd k cap now seq : Int) (tt : Int) (w : World) (hin : MIn A m c l w) (sB : I64 seq) (hmm : m ≤ 100000) : Calls Try.prog 31 #[.agg #[.int .i64 wd, .int .i64 k, .int .i64 cap, .int .i64 now, .int .i64 seq, .slice A m c], .int .i64 tt] w fun e w' => SpRet A (spTick wd k cap now seq l tt) w e w' := by
  rcases spvalE_two (wd := wd) (k := k) (cap := cap) (now := now) (seq := seq) (l := l) with hv | hv
  · by_cases hto : tt < now ∨ 16777216 < tt
    · exact rsptick_b A m c l wd k cap now seq tt w hin sB hv hto
    · exact rsptick_c A m c l wd k cap now seq tt w hin sB hmm hv hto
  · exact rsptick_a A m c l wd k cap now seq tt w hin sB hv
end Go.Proofs.Ytaiepjcnncajcaa
