/- What the law SmoothTruth needs, joined of its texts by a program (slim.py); part 3. -/
import Derived.Test.YthknkdjpfanlnaaZSmoothTruth2
section
/- Smooth histograms: a value more, walked. -/
set_option linter.unusedVariables false
set_option linter.unusedSimpArgs false
set_option linter.unusedSectionVars false
set_option linter.unnecessarySimpa false
namespace Go.Proofs.Ythknkdjpfanlnaa
open Go.RowKit
theorem fc_run (args : Array Value) (w : World) : Sem.run Try.prog (callFunc 46 args) w = .ok (.enter 46 args) w := by
  unfold callFunc
  simp [go_sem, Try.func46]
  rfl
set_option maxHeartbeats 2000000 in
theorem pclos_flat (agg wd k cap now sq1 : Int) (A : Option Addr) (m c xb : Nat) (sq tk n s q lo hi bsq btk bn bs bq blo bhi : Int) (nv : Bool) (w : World) (X : Row w xb 24 #[.int .i64 agg, .int .i64 wd, .int .i64 k, .int .i64 cap, .int .i64 now, .int .i64 sq1, .slice A m c])
    (PN : ∀ w, Calls Try.prog 39 #[.agg #[.int .i64 sq, .int .i64 tk, .int .i64 n, .int .i64 s, .int .i64 q, .int .i64 lo, .int .i64 hi], .agg #[.int .i64 bsq, .int .i64 btk, .int .i64 bn, .int .i64 bs, .int .i64 bq, .int .i64 blo, .int .i64 bhi], .int .i64 agg, .int .i64 k] w fun e w' => e = .returned (.bool nv) ∧ Below w.heap.size w w') :
    Calls Try.prog 46 #[.agg #[.int .i64 sq, .int .i64 tk, .int .i64 n, .int .i64 s, .int .i64 q, .int .i64 lo, .int .i64 hi], .agg #[.int .i64 bsq, .int .i64 btk, .int .i64 bn, .int .i64 bs, .int .i64 bq, .int .i64 blo, .int .i64 bhi], .pointer (some ⟨xb, 0, none⟩)] w fun e w' => e = .returned (.bool nv) ∧ Below w.heap.size w w' := by
  have PN := Lib.hid PN
  go_enter Try.func46, Try.ntmps46
  go_upto_region 1 with (fail)
  have K : Row ((w.alloc (.cells #[.int .i64 sq, .int .i64 tk, .int .i64 n, .int .i64 s, .int .i64 q, .int .i64 lo, .int .i64 hi] 43)).alloc (.cells #[.int .i64 bsq, .int .i64 btk, .int .i64 bn, .int .i64 bs, .int .i64 bq, .int .i64 blo, .int .i64 bhi] 43)) w.heap.size 43 #[.int .i64 sq, .int .i64 tk, .int .i64 n, .int .i64 s, .int .i64 q, .int .i64 lo, .int .i64 hi] := row_alloc (row_new rfl) _
  have L : Row ((w.alloc (.cells #[.int .i64 sq, .int .i64 tk, .int .i64 n, .int .i64 s, .int .i64 q, .int .i64 lo, .int .i64 hi] 43)).alloc (.cells #[.int .i64 bsq, .int .i64 btk, .int .i64 bn, .int .i64 bs, .int .i64 bq, .int .i64 blo, .int .i64 bhi] 43)) (w.heap.size + 1) 43 #[.int .i64 bsq, .int .i64 btk, .int .i64 bn, .int .i64 bs, .int .i64 bq, .int .i64 blo, .int .i64 bhi] := row_new (by simp)
  have o : Below w.heap.size w ((w.alloc (.cells #[.int .i64 sq, .int .i64 tk, .int .i64 n, .int .i64 s, .int .i64 q, .int .i64 lo, .int .i64 hi] 43)).alloc (.cells #[.int .i64 bsq, .int .i64 btk, .int .i64 bn, .int .i64 bs, .int .i64 bq, .int .i64 blo, .int .i64 bhi] 43)) := by (repeat (first | exact Below.refl _ _ | refine Below.setCell ?_ (by first | (simp; done) | (simp; omega) | omega) _ | refine Below.alloc ?_ (by first | (simp; done) | (simp; omega) | omega) _ | refine Below.drew ?_ | refine Below.trans ?_ (Below.mono (by assumption) (by first | (simp; done) | (simp; omega) | omega))))
  replace X := row_alloc (row_alloc X (.cells #[.int .i64 sq, .int .i64 tk, .int .i64 n, .int .i64 s, .int .i64 q, .int .i64 lo, .int .i64 hi] 43)) (.cells #[.int .i64 bsq, .int .i64 btk, .int .i64 bn, .int .i64 bs, .int .i64 bq, .int .i64 blo, .int .i64 bhi] 43)
  generalize ((w.alloc (.cells #[.int .i64 sq, .int .i64 tk, .int .i64 n, .int .i64 s, .int .i64 q, .int .i64 lo, .int .i64 hi] 43)).alloc (.cells #[.int .i64 bsq, .int .i64 btk, .int .i64 bn, .int .i64 bs, .int .i64 bq, .int .i64 blo, .int .i64 bhi] 43)) = w3 at K L X o ⊢
  obtain ⟨X0, X1, X2, X3, X4, X5, X6, Xf0, Xf1, Xf2, Xf3, Xf4, Xf5, Xf6⟩ := row_seven X
  obtain ⟨K0, K1, K2, K3, K4, K5, K6, Kf0, Kf1, Kf2, Kf3, Kf4, Kf5, Kf6⟩ := row_seven K
  obtain ⟨L0, L1, L2, L3, L4, L5, L6, Lf0, Lf1, Lf2, Lf3, Lf4, Lf5, Lf6⟩ := row_seven L
  clear K L X
  go_wp2_with fail
  refine (PN.out _).mono ?_
  rintro e w4 ⟨rfl, hb4⟩
  replace o := o.trans (hb4.mono o.size)
  go_wp2
  go_ret
  exact ⟨rfl, o⟩
theorem smAdd_a {agg wd k cap now seq v : Int} {l : List Mk} (h : smvalE agg wd k cap now seq l = 2) : smAdd agg wd k cap now seq l v = smZero 2 := by
  unfold smAdd
  rw [if_neg (by omega)]
theorem smAdd_b {agg wd k cap now seq v : Int} {l : List Mk} (h : smvalE agg wd k cap now seq l = 0) (h1 : v < leastV agg ∨ 4096 < v) : smAdd agg wd k cap now seq l v = smZero 4 := by
  unfold smAdd
  rw [if_pos h, if_pos h1]
theorem smAdd_c {agg wd k cap now seq v : Int} {l : List Mk} (h : smvalE agg wd k cap now seq l = 0) (h1 : ¬ (v < leastV agg ∨ 4096 < v)) (h2 : smFull cap seq l) : smAdd agg wd k cap now seq l v = smZero 5 := by
  unfold smAdd
  rw [if_pos h, if_neg h1, if_pos h2]
theorem smAdd_d {agg wd k cap now seq v : Int} {l : List Mk} (h : smvalE agg wd k cap now seq l = 0) (h1 : ¬ (v < leastV agg ∨ 4096 < v)) (h2 : ¬ smFull cap seq l) : smAdd agg wd k cap now seq l v = ⟨agg, wd, k, cap, now, seq + 1, prune (nearB agg k) (incl l (seq + 1) now v), 0⟩ := by
  unfold smAdd
  rw [if_pos h, if_neg h1, if_neg h2]
set_option maxRecDepth 100000 in
theorem psmadd_a (A : Option Addr) (m c : Nat) (l : List Mk) (agg wd k cap now seq : Int) (v : Int) (w : World) (hin : MIn A m c l w) (sB : I64 seq) (hv : smvalE agg wd k cap now seq l = 2) : Calls Try.prog 14 #[.agg #[.int .i64 agg, .int .i64 wd, .int .i64 k, .int .i64 cap, .int .i64 now, .int .i64 seq, .slice A m c], .int .i64 v] w fun e w' => SmRet A (smAdd agg wd k cap now seq l v) w e w' := by
  rw [smAdd_a hv]
  have P := fun w' (hb : Below w.heap.size w w') => pvalS A m c l agg wd k cap now seq w' (hin.below hb) sB
  rw [hv] at P
  replace P := Lib.hid P
  clear hv hin sB
  go_enter Try.func14, Try.ntmps14
  go_wp2_with (first | (go_at_call 12; with_reducible refine (P.out _ (by (repeat (first | exact Below.refl _ _ | refine Below.setCell ?_ (by first | (simp; done) | (simp; omega) | omega) _ | refine Below.alloc ?_ (by first | (simp; done) | (simp; omega) | omega) _ | refine Below.drew ?_ | refine Below.trans ?_ (Below.mono (by assumption) (by first | (simp; done) | (simp; omega) | omega)))))).mono ?_; rintro e w1 ⟨rfl, hb1⟩; have hz1 := hb1.size; (try simp at hz1); have o1 : Below w.heap.size w w1 := (by (repeat (first | exact Below.refl _ _ | refine Below.setCell ?_ (by first | (simp; done) | (simp; omega) | omega) _ | refine Below.alloc ?_ (by first | (simp; done) | (simp; omega) | omega) _ | refine Below.drew ?_ | refine Below.trans ?_ (Below.mono (by assumption) (by first | (simp; done) | (simp; omega) | omega))))); have q1_0 : w.heap.size < w1.heap.size := (by omega); have r1_0 : Row w1 (w.heap.size) 24 #[.int .i64 agg, .int .i64 wd, .int .i64 k, .int .i64 cap, .int .i64 now, .int .i64 seq, .slice A m c] := row_call (by (repeat (first | assumption | (refine row_new ?_; (first | (simp; done) | omega)) | refine row_alloc ?_ _ | refine row_drew ?_ | refine row_call ?_ (by assumption)))) hb1; obtain ⟨c1_0a, c1_0b, c1_0c, c1_0d, c1_0e, c1_0f, c1_0g, f1_0a, f1_0b, f1_0c, f1_0d, f1_0e, f1_0f, f1_0g⟩ := row_seven r1_0; have q1_1 : w.heap.size + 1 < w1.heap.size := (by omega); have r1_1 : Row w1 (w.heap.size + 1) 24 #[.int .i64 0, .int .i64 0, .int .i64 0, .int .i64 0, .int .i64 0, .int .i64 0, .slice none 0 0] := row_call (by (repeat (first | assumption | (refine row_new ?_; (first | (simp; done) | omega)) | refine row_alloc ?_ _ | refine row_drew ?_ | refine row_call ?_ (by assumption)))) hb1; obtain ⟨c1_1a, c1_1b, c1_1c, c1_1d, c1_1e, c1_1f, c1_1g, f1_1a, f1_1b, f1_1c, f1_1d, f1_1e, f1_1f, f1_1g⟩ := row_seven r1_1))
  have hbge : w.heap.size ≤ w.heap.size + 1 := by omega
  have R9 : Row (((((((w1.setCell ⟨w.heap.size + 1, 0, none⟩ (.int .i64 0)).setCell ⟨w.heap.size + 1, 1, none⟩ (.int .i64 0)).setCell ⟨w.heap.size + 1, 2, none⟩ (.int .i64 0)).setCell ⟨w.heap.size + 1, 3, none⟩ (.int .i64 0)).setCell ⟨w.heap.size + 1, 4, none⟩ (.int .i64 0)).setCell ⟨w.heap.size + 1, 5, none⟩ (.int .i64 0)).setCell ⟨w.heap.size + 1, 6, none⟩ (.slice none 0 0)) (w.heap.size + 1) 24 #[.int .i64 0, .int .i64 0, .int .i64 0, .int .i64 0, .int .i64 0, .int .i64 0, .slice none 0 0] := (row_set (row_set (row_set (row_set (row_set (row_set (row_set r1_1 0 (.int .i64 0)) 1 (.int .i64 0)) 2 (.int .i64 0)) 3 (.int .i64 0)) 4 (.int .i64 0)) 5 (.int .i64 0)) 6 (.slice none 0 0))
  have o9 : Below w.heap.size w (((((((w1.setCell ⟨w.heap.size + 1, 0, none⟩ (.int .i64 0)).setCell ⟨w.heap.size + 1, 1, none⟩ (.int .i64 0)).setCell ⟨w.heap.size + 1, 2, none⟩ (.int .i64 0)).setCell ⟨w.heap.size + 1, 3, none⟩ (.int .i64 0)).setCell ⟨w.heap.size + 1, 4, none⟩ (.int .i64 0)).setCell ⟨w.heap.size + 1, 5, none⟩ (.int .i64 0)).setCell ⟨w.heap.size + 1, 6, none⟩ (.slice none 0 0)) := (Below.setCell (p := ⟨w.heap.size + 1, 6, none⟩) (Below.setCell (p := ⟨w.heap.size + 1, 5, none⟩) (Below.setCell (p := ⟨w.heap.size + 1, 4, none⟩) (Below.setCell (p := ⟨w.heap.size + 1, 3, none⟩) (Below.setCell (p := ⟨w.heap.size + 1, 2, none⟩) (Below.setCell (p := ⟨w.heap.size + 1, 1, none⟩) (Below.setCell (p := ⟨w.heap.size + 1, 0, none⟩) o1 hbge (.int .i64 0)) hbge (.int .i64 0)) hbge (.int .i64 0)) hbge (.int .i64 0)) hbge (.int .i64 0)) hbge (.int .i64 0)) hbge (.slice none 0 0))
  generalize (((((((w1.setCell ⟨w.heap.size + 1, 0, none⟩ (.int .i64 0)).setCell ⟨w.heap.size + 1, 1, none⟩ (.int .i64 0)).setCell ⟨w.heap.size + 1, 2, none⟩ (.int .i64 0)).setCell ⟨w.heap.size + 1, 3, none⟩ (.int .i64 0)).setCell ⟨w.heap.size + 1, 4, none⟩ (.int .i64 0)).setCell ⟨w.heap.size + 1, 5, none⟩ (.int .i64 0)).setCell ⟨w.heap.size + 1, 6, none⟩ (.slice none 0 0)) = w9 at R9 o9 ⊢
  obtain ⟨N0, N1, N2, N3, N4, N5, N6, Nf0, Nf1, Nf2, Nf3, Nf4, Nf5, Nf6⟩ := row_seven R9
  exact bodyPost_ret (v := .tuple #[.agg #[.int .i64 0, .int .i64 0, .int .i64 0, .int .i64 0, .int .i64 0, .int .i64 0, .slice none 0 0], .int .i64 2]) (by simp [results, Try.results14, go_sem, List.getElem?_toArray, N0, N1, N2, N3, N4, N5, N6]) rfl (smret_zero o9)
set_option maxRecDepth 100000 in
theorem psmadd_b1 (A : Option Addr) (m c : Nat) (l : List Mk) (agg wd k cap now seq : Int) (v : Int) (w : World) (hin : MIn A m c l w) (sB : I64 seq) (hv : smvalE agg wd k cap now seq l = 0) (h1 : v < leastV agg) : Calls Try.prog 14 #[.agg #[.int .i64 agg, .int .i64 wd, .int .i64 k, .int .i64 cap, .int .i64 now, .int .i64 seq, .slice A m c], .int .i64 v] w fun e w' => SmRet A (smAdd agg wd k cap now seq l v) w e w' := by
  rw [smAdd_b hv (by omega)]
  have P := fun w' (hb : Below w.heap.size w w') => pvalS A m c l agg wd k cap now seq w' (hin.below hb) sB
  rw [hv] at P
  replace P := Lib.hid P
  have PL := fun w => pleast agg w
  generalize leastV agg = least at PL h1
  replace PL := Lib.hid PL
  have d1 : decide (v < least) = true := decide_eq_true h1
  clear hv hin sB h1
  go_enter Try.func14, Try.ntmps14
  go_wp2_with (first | (go_at_call 12; with_reducible refine (P.out _ (by (repeat (first | exact Below.refl _ _ | refine Below.setCell ?_ (by first | (simp; done) | (simp; omega) | omega) _ | refine Below.alloc ?_ (by first | (simp; done) | (simp; omega) | omega) _ | refine Below.drew ?_ | refine Below.trans ?_ (Below.mono (by assumption) (by first | (simp; done) | (simp; omega) | omega)))))).mono ?_; rintro e w1 ⟨rfl, hb1⟩; have hz1 := hb1.size; (try simp at hz1); have o1 : Below w.heap.size w w1 := (by (repeat (first | exact Below.refl _ _ | refine Below.setCell ?_ (by first | (simp; done) | (simp; omega) | omega) _ | refine Below.alloc ?_ (by first | (simp; done) | (simp; omega) | omega) _ | refine Below.drew ?_ | refine Below.trans ?_ (Below.mono (by assumption) (by first | (simp; done) | (simp; omega) | omega))))); have q1_0 : w.heap.size < w1.heap.size := (by omega); have r1_0 : Row w1 (w.heap.size) 24 #[.int .i64 agg, .int .i64 wd, .int .i64 k, .int .i64 cap, .int .i64 now, .int .i64 seq, .slice A m c] := row_call (by (repeat (first | assumption | (refine row_new ?_; (first | (simp; done) | omega)) | refine row_alloc ?_ _ | refine row_drew ?_ | refine row_call ?_ (by assumption)))) hb1; obtain ⟨c1_0a, c1_0b, c1_0c, c1_0d, c1_0e, c1_0f, c1_0g, f1_0a, f1_0b, f1_0c, f1_0d, f1_0e, f1_0f, f1_0g⟩ := row_seven r1_0; have q1_1 : w.heap.size + 1 < w1.heap.size := (by omega); have r1_1 : Row w1 (w.heap.size + 1) 24 #[.int .i64 0, .int .i64 0, .int .i64 0, .int .i64 0, .int .i64 0, .int .i64 0, .slice none 0 0] := row_call (by (repeat (first | assumption | (refine row_new ?_; (first | (simp; done) | omega)) | refine row_alloc ?_ _ | refine row_drew ?_ | refine row_call ?_ (by assumption)))) hb1; obtain ⟨c1_1a, c1_1b, c1_1c, c1_1d, c1_1e, c1_1f, c1_1g, f1_1a, f1_1b, f1_1c, f1_1d, f1_1e, f1_1f, f1_1g⟩ := row_seven r1_1) | (go_at_call 38; with_reducible refine (PL.out _).mono ?_; rintro e w9 ⟨rfl, h9⟩; obtain rfl := h9.symm))
  have hbge : w.heap.size ≤ w.heap.size + 1 := by omega
  have R9 : Row (((((((w1.setCell ⟨w.heap.size + 1, 0, none⟩ (.int .i64 0)).setCell ⟨w.heap.size + 1, 1, none⟩ (.int .i64 0)).setCell ⟨w.heap.size + 1, 2, none⟩ (.int .i64 0)).setCell ⟨w.heap.size + 1, 3, none⟩ (.int .i64 0)).setCell ⟨w.heap.size + 1, 4, none⟩ (.int .i64 0)).setCell ⟨w.heap.size + 1, 5, none⟩ (.int .i64 0)).setCell ⟨w.heap.size + 1, 6, none⟩ (.slice none 0 0)) (w.heap.size + 1) 24 #[.int .i64 0, .int .i64 0, .int .i64 0, .int .i64 0, .int .i64 0, .int .i64 0, .slice none 0 0] := (row_set (row_set (row_set (row_set (row_set (row_set (row_set r1_1 0 (.int .i64 0)) 1 (.int .i64 0)) 2 (.int .i64 0)) 3 (.int .i64 0)) 4 (.int .i64 0)) 5 (.int .i64 0)) 6 (.slice none 0 0))
  have o9 : Below w.heap.size w (((((((w1.setCell ⟨w.heap.size + 1, 0, none⟩ (.int .i64 0)).setCell ⟨w.heap.size + 1, 1, none⟩ (.int .i64 0)).setCell ⟨w.heap.size + 1, 2, none⟩ (.int .i64 0)).setCell ⟨w.heap.size + 1, 3, none⟩ (.int .i64 0)).setCell ⟨w.heap.size + 1, 4, none⟩ (.int .i64 0)).setCell ⟨w.heap.size + 1, 5, none⟩ (.int .i64 0)).setCell ⟨w.heap.size + 1, 6, none⟩ (.slice none 0 0)) := (Below.setCell (p := ⟨w.heap.size + 1, 6, none⟩) (Below.setCell (p := ⟨w.heap.size + 1, 5, none⟩) (Below.setCell (p := ⟨w.heap.size + 1, 4, none⟩) (Below.setCell (p := ⟨w.heap.size + 1, 3, none⟩) (Below.setCell (p := ⟨w.heap.size + 1, 2, none⟩) (Below.setCell (p := ⟨w.heap.size + 1, 1, none⟩) (Below.setCell (p := ⟨w.heap.size + 1, 0, none⟩) o1 hbge (.int .i64 0)) hbge (.int .i64 0)) hbge (.int .i64 0)) hbge (.int .i64 0)) hbge (.int .i64 0)) hbge (.int .i64 0)) hbge (.slice none 0 0))
  generalize (((((((w1.setCell ⟨w.heap.size + 1, 0, none⟩ (.int .i64 0)).setCell ⟨w.heap.size + 1, 1, none⟩ (.int .i64 0)).setCell ⟨w.heap.size + 1, 2, none⟩ (.int .i64 0)).setCell ⟨w.heap.size + 1, 3, none⟩ (.int .i64 0)).setCell ⟨w.heap.size + 1, 4, none⟩ (.int .i64 0)).setCell ⟨w.heap.size + 1, 5, none⟩ (.int .i64 0)).setCell ⟨w.heap.size + 1, 6, none⟩ (.slice none 0 0)) = w9 at R9 o9 ⊢
  obtain ⟨N0, N1, N2, N3, N4, N5, N6, Nf0, Nf1, Nf2, Nf3, Nf4, Nf5, Nf6⟩ := row_seven R9
  exact bodyPost_ret (v := .tuple #[.agg #[.int .i64 0, .int .i64 0, .int .i64 0, .int .i64 0, .int .i64 0, .int .i64 0, .slice none 0 0], .int .i64 4]) (by simp [results, Try.results14, go_sem, List.getElem?_toArray, N0, N1, N2, N3, N4, N5, N6]) rfl (smret_zero o9)
set_option maxRecDepth 100000 in
theorem psmadd_b2 (A : Option Addr) (m c : Nat) (l : List Mk) (agg wd k cap now seq : Int) (v : Int) (w : World) (hin : MIn A m c l w) (sB : I64 seq) (hv : smvalE agg wd k cap now seq l = 0) (h0 : ¬ v < leastV agg) (h1 : 4096 < v) : Calls Try.prog 14 #[.agg #[.int .i64 agg, .int .i64 wd, .int .i64 k, .int .i64 cap, .int .i64 now, .int .i64 seq, .slice A m c], .int .i64 v] w fun e w' => SmRet A (smAdd agg wd k cap now seq l v) w e w' := by
  rw [smAdd_b hv (by omega)]
  have P := fun w' (hb : Below w.heap.size w w') => pvalS A m c l agg wd k cap now seq w' (hin.below hb) sB
  rw [hv] at P
  replace P := Lib.hid P
  have PL := fun w => pleast agg w
  generalize leastV agg = least at PL h1 h0
  replace PL := Lib.hid PL
  have d0 : decide (v < least) = false := decide_eq_false h0
  have d1 : decide (4096 < v) = true := decide_eq_true h1
  clear hv hin sB h1 h0
  go_enter Try.func14, Try.ntmps14
  go_wp2_with (first | (go_at_call 12; with_reducible refine (P.out _ (by (repeat (first | exact Below.refl _ _ | refine Below.setCell ?_ (by first | (simp; done) | (simp; omega) | omega) _ | refine Below.alloc ?_ (by first | (simp; done) | (simp; omega) | omega) _ | refine Below.drew ?_ | refine Below.trans ?_ (Below.mono (by assumption) (by first | (simp; done) | (simp; omega) | omega)))))).mono ?_; rintro e w1 ⟨rfl, hb1⟩; have hz1 := hb1.size; (try simp at hz1); have o1 : Below w.heap.size w w1 := (by (repeat (first | exact Below.refl _ _ | refine Below.setCell ?_ (by first | (simp; done) | (simp; omega) | omega) _ | refine Below.alloc ?_ (by first | (simp; done) | (simp; omega) | omega) _ | refine Below.drew ?_ | refine Below.trans ?_ (Below.mono (by assumption) (by first | (simp; done) | (simp; omega) | omega))))); have q1_0 : w.heap.size < w1.heap.size := (by omega); have r1_0 : Row w1 (w.heap.size) 24 #[.int .i64 agg, .int .i64 wd, .int .i64 k, .int .i64 cap, .int .i64 now, .int .i64 seq, .slice A m c] := row_call (by (repeat (first | assumption | (refine row_new ?_; (first | (simp; done) | omega)) | refine row_alloc ?_ _ | refine row_drew ?_ | refine row_call ?_ (by assumption)))) hb1; obtain ⟨c1_0a, c1_0b, c1_0c, c1_0d, c1_0e, c1_0f, c1_0g, f1_0a, f1_0b, f1_0c, f1_0d, f1_0e, f1_0f, f1_0g⟩ := row_seven r1_0; have q1_1 : w.heap.size + 1 < w1.heap.size := (by omega); have r1_1 : Row w1 (w.heap.size + 1) 24 #[.int .i64 0, .int .i64 0, .int .i64 0, .int .i64 0, .int .i64 0, .int .i64 0, .slice none 0 0] := row_call (by (repeat (first | assumption | (refine row_new ?_; (first | (simp; done) | omega)) | refine row_alloc ?_ _ | refine row_drew ?_ | refine row_call ?_ (by assumption)))) hb1; obtain ⟨c1_1a, c1_1b, c1_1c, c1_1d, c1_1e, c1_1f, c1_1g, f1_1a, f1_1b, f1_1c, f1_1d, f1_1e, f1_1f, f1_1g⟩ := row_seven r1_1) | (go_at_call 38; with_reducible refine (PL.out _).mono ?_; rintro e w9 ⟨rfl, h9⟩; obtain rfl := h9.symm))
  have hbge : w.heap.size ≤ w.heap.size + 1 := by omega
  have R9 : Row (((((((w1.setCell ⟨w.heap.size + 1, 0, none⟩ (.int .i64 0)).setCell ⟨w.heap.size + 1, 1, none⟩ (.int .i64 0)).setCell ⟨w.heap.size + 1, 2, none⟩ (.int .i64 0)).setCell ⟨w.heap.size + 1, 3, none⟩ (.int .i64 0)).setCell ⟨w.heap.size + 1, 4, none⟩ (.int .i64 0)).setCell ⟨w.heap.size + 1, 5, none⟩ (.int .i64 0)).setCell ⟨w.heap.size + 1, 6, none⟩ (.slice none 0 0)) (w.heap.size + 1) 24 #[.int .i64 0, .int .i64 0, .int .i64 0, .int .i64 0, .int .i64 0, .int .i64 0, .slice none 0 0] := (row_set (row_set (row_set (row_set (row_set (row_set (row_set r1_1 0 (.int .i64 0)) 1 (.int .i64 0)) 2 (.int .i64 0)) 3 (.int .i64 0)) 4 (.int .i64 0)) 5 (.int .i64 0)) 6 (.slice none 0 0))
  have o9 : Below w.heap.size w (((((((w1.setCell ⟨w.heap.size + 1, 0, none⟩ (.int .i64 0)).setCell ⟨w.heap.size + 1, 1, none⟩ (.int .i64 0)).setCell ⟨w.heap.size + 1, 2, none⟩ (.int .i64 0)).setCell ⟨w.heap.size + 1, 3, none⟩ (.int .i64 0)).setCell ⟨w.heap.size + 1, 4, none⟩ (.int .i64 0)).setCell ⟨w.heap.size + 1, 5, none⟩ (.int .i64 0)).setCell ⟨w.heap.size + 1, 6, none⟩ (.slice none 0 0)) := (Below.setCell (p := ⟨w.heap.size + 1, 6, none⟩) (Below.setCell (p := ⟨w.heap.size + 1, 5, none⟩) (Below.setCell (p := ⟨w.heap.size + 1, 4, none⟩) (Below.setCell (p := ⟨w.heap.size + 1, 3, none⟩) (Below.setCell (p := ⟨w.heap.size + 1, 2, none⟩) (Below.setCell (p := ⟨w.heap.size + 1, 1, none⟩) (Below.setCell (p := ⟨w.heap.size + 1, 0, none⟩) o1 hbge (.int .i64 0)) hbge (.int .i64 0)) hbge (.int .i64 0)) hbge (.int .i64 0)) hbge (.int .i64 0)) hbge (.int .i64 0)) hbge (.slice none 0 0))
  generalize (((((((w1.setCell ⟨w.heap.size + 1, 0, none⟩ (.int .i64 0)).setCell ⟨w.heap.size + 1, 1, none⟩ (.int .i64 0)).setCell ⟨w.heap.size + 1, 2, none⟩ (.int .i64 0)).setCell ⟨w.heap.size + 1, 3, none⟩ (.int .i64 0)).setCell ⟨w.heap.size + 1, 4, none⟩ (.int .i64 0)).setCell ⟨w.heap.size + 1, 5, none⟩ (.int .i64 0)).setCell ⟨w.heap.size + 1, 6, none⟩ (.slice none 0 0)) = w9 at R9 o9 ⊢
  obtain ⟨N0, N1, N2, N3, N4, N5, N6, Nf0, Nf1, Nf2, Nf3, Nf4, Nf5, Nf6⟩ := row_seven R9
  exact bodyPost_ret (v := .tuple #[.agg #[.int .i64 0, .int .i64 0, .int .i64 0, .int .i64 0, .int .i64 0, .int .i64 0, .slice none 0 0], .int .i64 4]) (by simp [results, Try.results14, go_sem, List.getElem?_toArray, N0, N1, N2, N3, N4, N5, N6]) rfl (smret_zero o9)
set_option maxRecDepth 100000 in
set_option maxHeartbeats 2000000 in
theorem psmadd_c1 (A : Option Addr) (m c : Nat) (l : List Mk) (agg wd k cap now seq : Int) (v : Int) (w : World) (hin : MIn A m c l w) (sB : I64 seq) (hv : smvalE agg wd k cap now seq l = 0) (h0 : ¬ v < leastV agg) (h1 : ¬ 4096 < v) (hm0 : 0 < m) (hn : (mkAt l 0).n = cap) (hf : smFull cap seq l) : Calls Try.prog 14 #[.agg #[.int .i64 agg, .int .i64 wd, .int .i64 k, .int .i64 cap, .int .i64 now, .int .i64 seq, .slice A m c], .int .i64 v] w fun e w' => SmRet A (smAdd agg wd k cap now seq l v) w e w' := by
  rw [smAdd_c hv (by omega) hf]
  clear hf
  have P := fun w' (hb : Below w.heap.size w w') => pvalS A m c l agg wd k cap now seq w' (hin.below hb) sB
  rw [hv] at P
  replace P := Lib.hid P
  have PL := fun w => pleast agg w
  generalize leastV agg = least at PL h0
  replace PL := Lib.hid PL
  have d0 : decide (v < least) = false := decide_eq_false h0
  have d1 : decide (4096 < v) = false := decide_eq_false h1
  have HR := Lib.hid hin
  have HL := Lib.hid hin.len
  clear hin sB h0 h1
  go_enter Try.func14, Try.ntmps14
  go_upto_region 6 with (first | (go_at_call 12; with_reducible refine (P.out _ (by (repeat (first | exact Below.refl _ _ | refine Below.setCell ?_ (by first | (simp; done) | (simp; omega) | omega) _ | refine Below.alloc ?_ (by first | (simp; done) | (simp; omega) | omega) _ | refine Below.drew ?_ | refine Below.trans ?_ (Below.mono (by assumption) (by first | (simp; done) | (simp; omega) | omega)))))).mono ?_; rintro e w1 ⟨rfl, hb1⟩; have hz1 := hb1.size; (try simp at hz1); have o1 : Below w.heap.size w w1 := (by (repeat (first | exact Below.refl _ _ | refine Below.setCell ?_ (by first | (simp; done) | (simp; omega) | omega) _ | refine Below.alloc ?_ (by first | (simp; done) | (simp; omega) | omega) _ | refine Below.drew ?_ | refine Below.trans ?_ (Below.mono (by assumption) (by first | (simp; done) | (simp; omega) | omega))))); have q1_0 : w.heap.size < w1.heap.size := (by omega); have r1_0 : Row w1 (w.heap.size) 24 #[.int .i64 agg, .int .i64 wd, .int .i64 k, .int .i64 cap, .int .i64 now, .int .i64 seq, .slice A m c] := row_call (by (repeat (first | assumption | (refine row_new ?_; (first | (simp; done) | omega)) | refine row_alloc ?_ _ | refine row_drew ?_ | refine row_call ?_ (by assumption)))) hb1; obtain ⟨c1_0a, c1_0b, c1_0c, c1_0d, c1_0e, c1_0f, c1_0g, f1_0a, f1_0b, f1_0c, f1_0d, f1_0e, f1_0f, f1_0g⟩ := row_seven r1_0; have q1_1 : w.heap.size + 1 < w1.heap.size := (by omega); have r1_1 : Row w1 (w.heap.size + 1) 24 #[.int .i64 0, .int .i64 0, .int .i64 0, .int .i64 0, .int .i64 0, .int .i64 0, .slice none 0 0] := row_call (by (repeat (first | assumption | (refine row_new ?_; (first | (simp; done) | omega)) | refine row_alloc ?_ _ | refine row_drew ?_ | refine row_call ?_ (by assumption)))) hb1; obtain ⟨c1_1a, c1_1b, c1_1c, c1_1d, c1_1e, c1_1f, c1_1g, f1_1a, f1_1b, f1_1c, f1_1d, f1_1e, f1_1f, f1_1g⟩ := row_seven r1_1) | (go_at_call 38; with_reducible refine (PL.out _).mono ?_; rintro e w9 ⟨rfl, h9⟩; obtain rfl := h9.symm))
  clear d0 d1 P PL
  clear hv
  obtain ⟨ad, rfl, hadb, ht0⟩ := HR.out.reads.mk (i := 0) hm0
  have ht0 : MkCells w ad (mkAt l 0) := ht0
  generalize mkAt l 0 = m0 at ht0 hn
  obtain ⟨sq, tk, n, s, q, lo, hi⟩ := m0
  obtain ⟨q0, q1, q2, q3, q4, q5, q6⟩ := ht0.below o1 hadb
  dsimp only at q0 q1 q2 q3 q4 q5 q6 hn
  clear ht0
  have e0 : decide (0 < m) = true := decide_eq_true hm0
  have g0 : (0 : Int) < (m : Int) := by omega
  have e1 : (n == cap) = true := by simpa using hn
  refine wp_region_quiet_lit (by as_aux_lemma => kernel_rfl) (by as_aux_lemma => kernel_rfl) ?_
  repeat (go_big_quiet_step (fail))
  refine wpQuiet_nil ?_
  intro _ hw'
  obtain ⟨nq, hw''⟩ := hw'
  subst hw''
  replace r1_0 : Row (w1.drewN nq) (w.heap.size) 24 #[.int .i64 agg, .int .i64 wd, .int .i64 k, .int .i64 cap, .int .i64 now, .int .i64 seq, .slice (some ad) m c] := r1_0
  replace r1_1 : Row (w1.drewN nq) (w.heap.size + 1) 24 #[.int .i64 0, .int .i64 0, .int .i64 0, .int .i64 0, .int .i64 0, .int .i64 0, .slice none 0 0] := r1_1
  replace o1 := o1.trans (⟨rfl, rfl, rfl, Nat.le_refl _, fun _ _ => rfl⟩ : Below _ w1 (w1.drewN nq))
  generalize w1.drewN nq = w2 at r1_0 r1_1 o1 ⊢
  clear c1_0a c1_0b c1_0c c1_0d c1_0e c1_0f c1_0g f1_0a f1_0b f1_0c f1_0d f1_0e f1_0f f1_0g c1_1a c1_1b c1_1c c1_1d c1_1e c1_1f c1_1g f1_1a f1_1b f1_1c f1_1d f1_1e f1_1f f1_1g
  obtain ⟨Z0, Z1, Z2, Z3, Z4, Z5, Z6, Zf0, Zf1, Zf2, Zf3, Zf4, Zf5, Zf6⟩ := row_seven r1_1
  clear r1_0
  clear q0 q1 q2 q3 q4 q5 q6
  go_wp2
  have hbge : w.heap.size ≤ w.heap.size + 1 := by omega
  have R9 : Row (((((((w2.setCell ⟨w.heap.size + 1, 0, none⟩ (.int .i64 0)).setCell ⟨w.heap.size + 1, 1, none⟩ (.int .i64 0)).setCell ⟨w.heap.size + 1, 2, none⟩ (.int .i64 0)).setCell ⟨w.heap.size + 1, 3, none⟩ (.int .i64 0)).setCell ⟨w.heap.size + 1, 4, none⟩ (.int .i64 0)).setCell ⟨w.heap.size + 1, 5, none⟩ (.int .i64 0)).setCell ⟨w.heap.size + 1, 6, none⟩ (.slice none 0 0)) (w.heap.size + 1) 24 #[.int .i64 0, .int .i64 0, .int .i64 0, .int .i64 0, .int .i64 0, .int .i64 0, .slice none 0 0] := (row_set (row_set (row_set (row_set (row_set (row_set (row_set r1_1 0 (.int .i64 0)) 1 (.int .i64 0)) 2 (.int .i64 0)) 3 (.int .i64 0)) 4 (.int .i64 0)) 5 (.int .i64 0)) 6 (.slice none 0 0))
  have o9 : Below w.heap.size w (((((((w2.setCell ⟨w.heap.size + 1, 0, none⟩ (.int .i64 0)).setCell ⟨w.heap.size + 1, 1, none⟩ (.int .i64 0)).setCell ⟨w.heap.size + 1, 2, none⟩ (.int .i64 0)).setCell ⟨w.heap.size + 1, 3, none⟩ (.int .i64 0)).setCell ⟨w.heap.size + 1, 4, none⟩ (.int .i64 0)).setCell ⟨w.heap.size + 1, 5, none⟩ (.int .i64 0)).setCell ⟨w.heap.size + 1, 6, none⟩ (.slice none 0 0)) := (Below.setCell (p := ⟨w.heap.size + 1, 6, none⟩) (Below.setCell (p := ⟨w.heap.size + 1, 5, none⟩) (Below.setCell (p := ⟨w.heap.size + 1, 4, none⟩) (Below.setCell (p := ⟨w.heap.size + 1, 3, none⟩) (Below.setCell (p := ⟨w.heap.size + 1, 2, none⟩) (Below.setCell (p := ⟨w.heap.size + 1, 1, none⟩) (Below.setCell (p := ⟨w.heap.size + 1, 0, none⟩) o1 hbge (.int .i64 0)) hbge (.int .i64 0)) hbge (.int .i64 0)) hbge (.int .i64 0)) hbge (.int .i64 0)) hbge (.int .i64 0)) hbge (.slice none 0 0))
  generalize (((((((w2.setCell ⟨w.heap.size + 1, 0, none⟩ (.int .i64 0)).setCell ⟨w.heap.size + 1, 1, none⟩ (.int .i64 0)).setCell ⟨w.heap.size + 1, 2, none⟩ (.int .i64 0)).setCell ⟨w.heap.size + 1, 3, none⟩ (.int .i64 0)).setCell ⟨w.heap.size + 1, 4, none⟩ (.int .i64 0)).setCell ⟨w.heap.size + 1, 5, none⟩ (.int .i64 0)).setCell ⟨w.heap.size + 1, 6, none⟩ (.slice none 0 0)) = w9 at R9 o9 ⊢
  obtain ⟨N0, N1, N2, N3, N4, N5, N6, Nf0, Nf1, Nf2, Nf3, Nf4, Nf5, Nf6⟩ := row_seven R9
  exact bodyPost_ret (v := .tuple #[.agg #[.int .i64 0, .int .i64 0, .int .i64 0, .int .i64 0, .int .i64 0, .int .i64 0, .slice none 0 0], .int .i64 5]) (by simp [results, Try.results14, go_sem, List.getElem?_toArray, N0, N1, N2, N3, N4, N5, N6]) rfl (smret_zero o9)
set_option maxRecDepth 100000 in
set_option maxHeartbeats 2000000 in
theorem psmadd_c2 (A : Option Addr) (m c : Nat) (l : List Mk) (agg wd k cap now seq : Int) (v : Int) (w : World) (hin : MIn A m c l w) (sB : I64 seq) (hv : smvalE agg wd k cap now seq l = 0) (h0 : ¬ v < leastV agg) (h1 : ¬ 4096 < v) (hm0 : 0 < m) (hn : (mkAt l 0).n ≠ cap) (hs : seq = 1099511627776) (hf : smFull cap seq l) : Calls Try.prog 14 #[.agg #[.int .i64 agg, .int .i64 wd, .int .i64 k, .int .i64 cap, .int .i64 now, .int .i64 seq, .slice A m c], .int .i64 v] w fun e w' => SmRet A (smAdd agg wd k cap now seq l v) w e w' := by
  rw [smAdd_c hv (by omega) hf]
  clear hf
  have HSQ := Lib.hid hs
  clear hs
  have P := fun w' (hb : Below w.heap.size w w') => pvalS A m c l agg wd k cap now seq w' (hin.below hb) sB
  rw [hv] at P
  replace P := Lib.hid P
  have PL := fun w => pleast agg w
  generalize leastV agg = least at PL h0
  replace PL := Lib.hid PL
  have d0 : decide (v < least) = false := decide_eq_false h0
  have d1 : decide (4096 < v) = false := decide_eq_false h1
  have HR := Lib.hid hin
  have HL := Lib.hid hin.len
  clear hin sB h0 h1
  go_enter Try.func14, Try.ntmps14
  go_upto_region 6 with (first | (go_at_call 12; with_reducible refine (P.out _ (by (repeat (first | exact Below.refl _ _ | refine Below.setCell ?_ (by first | (simp; done) | (simp; omega) | omega) _ | refine Below.alloc ?_ (by first | (simp; done) | (simp; omega) | omega) _ | refine Below.drew ?_ | refine Below.trans ?_ (Below.mono (by assumption) (by first | (simp; done) | (simp; omega) | omega)))))).mono ?_; rintro e w1 ⟨rfl, hb1⟩; have hz1 := hb1.size; (try simp at hz1); have o1 : Below w.heap.size w w1 := (by (repeat (first | exact Below.refl _ _ | refine Below.setCell ?_ (by first | (simp; done) | (simp; omega) | omega) _ | refine Below.alloc ?_ (by first | (simp; done) | (simp; omega) | omega) _ | refine Below.drew ?_ | refine Below.trans ?_ (Below.mono (by assumption) (by first | (simp; done) | (simp; omega) | omega))))); have q1_0 : w.heap.size < w1.heap.size := (by omega); have r1_0 : Row w1 (w.heap.size) 24 #[.int .i64 agg, .int .i64 wd, .int .i64 k, .int .i64 cap, .int .i64 now, .int .i64 seq, .slice A m c] := row_call (by (repeat (first | assumption | (refine row_new ?_; (first | (simp; done) | omega)) | refine row_alloc ?_ _ | refine row_drew ?_ | refine row_call ?_ (by assumption)))) hb1; obtain ⟨c1_0a, c1_0b, c1_0c, c1_0d, c1_0e, c1_0f, c1_0g, f1_0a, f1_0b, f1_0c, f1_0d, f1_0e, f1_0f, f1_0g⟩ := row_seven r1_0; have q1_1 : w.heap.size + 1 < w1.heap.size := (by omega); have r1_1 : Row w1 (w.heap.size + 1) 24 #[.int .i64 0, .int .i64 0, .int .i64 0, .int .i64 0, .int .i64 0, .int .i64 0, .slice none 0 0] := row_call (by (repeat (first | assumption | (refine row_new ?_; (first | (simp; done) | omega)) | refine row_alloc ?_ _ | refine row_drew ?_ | refine row_call ?_ (by assumption)))) hb1; obtain ⟨c1_1a, c1_1b, c1_1c, c1_1d, c1_1e, c1_1f, c1_1g, f1_1a, f1_1b, f1_1c, f1_1d, f1_1e, f1_1f, f1_1g⟩ := row_seven r1_1) | (go_at_call 38; with_reducible refine (PL.out _).mono ?_; rintro e w9 ⟨rfl, h9⟩; obtain rfl := h9.symm))
  clear d0 d1 P PL
  clear hv
  have e2 : (seq == 1099511627776) = true := by simpa using HSQ.out
  obtain ⟨ad, rfl, hadb, ht0⟩ := HR.out.reads.mk (i := 0) hm0
  have ht0 : MkCells w ad (mkAt l 0) := ht0
  generalize mkAt l 0 = m0 at ht0 hn
  obtain ⟨sq, tk, n, s, q, lo, hi⟩ := m0
  obtain ⟨q0, q1, q2, q3, q4, q5, q6⟩ := ht0.below o1 hadb
  dsimp only at q0 q1 q2 q3 q4 q5 q6 hn
  clear ht0
  have e0 : decide (0 < m) = true := decide_eq_true hm0
  have g0 : (0 : Int) < (m : Int) := by omega
  have e1 : (n == cap) = false := by simpa using hn
  refine wp_region_quiet_lit (by as_aux_lemma => kernel_rfl) (by as_aux_lemma => kernel_rfl) ?_
  repeat (go_big_quiet_step (fail))
  refine wpQuiet_nil ?_
  intro _ hw'
  obtain ⟨nq, hw''⟩ := hw'
  subst hw''
  replace r1_0 : Row (w1.drewN nq) (w.heap.size) 24 #[.int .i64 agg, .int .i64 wd, .int .i64 k, .int .i64 cap, .int .i64 now, .int .i64 seq, .slice (some ad) m c] := r1_0
  replace r1_1 : Row (w1.drewN nq) (w.heap.size + 1) 24 #[.int .i64 0, .int .i64 0, .int .i64 0, .int .i64 0, .int .i64 0, .int .i64 0, .slice none 0 0] := r1_1
  replace o1 := o1.trans (⟨rfl, rfl, rfl, Nat.le_refl _, fun _ _ => rfl⟩ : Below _ w1 (w1.drewN nq))
  generalize w1.drewN nq = w2 at r1_0 r1_1 o1 ⊢
  clear c1_0a c1_0b c1_0c c1_0d c1_0e c1_0f c1_0g f1_0a f1_0b f1_0c f1_0d f1_0e f1_0f f1_0g c1_1a c1_1b c1_1c c1_1d c1_1e c1_1f c1_1g f1_1a f1_1b f1_1c f1_1d f1_1e f1_1f f1_1g
  obtain ⟨Z0, Z1, Z2, Z3, Z4, Z5, Z6, Zf0, Zf1, Zf2, Zf3, Zf4, Zf5, Zf6⟩ := row_seven r1_1
  clear r1_0
  clear q0 q1 q2 q3 q4 q5 q6
  go_wp2
  have hbge : w.heap.size ≤ w.heap.size + 1 := by omega
  have R9 : Row (((((((w2.setCell ⟨w.heap.size + 1, 0, none⟩ (.int .i64 0)).setCell ⟨w.heap.size + 1, 1, none⟩ (.int .i64 0)).setCell ⟨w.heap.size + 1, 2, none⟩ (.int .i64 0)).setCell ⟨w.heap.size + 1, 3, none⟩ (.int .i64 0)).setCell ⟨w.heap.size + 1, 4, none⟩ (.int .i64 0)).setCell ⟨w.heap.size + 1, 5, none⟩ (.int .i64 0)).setCell ⟨w.heap.size + 1, 6, none⟩ (.slice none 0 0)) (w.heap.size + 1) 24 #[.int .i64 0, .int .i64 0, .int .i64 0, .int .i64 0, .int .i64 0, .int .i64 0, .slice none 0 0] := (row_set (row_set (row_set (row_set (row_set (row_set (row_set r1_1 0 (.int .i64 0)) 1 (.int .i64 0)) 2 (.int .i64 0)) 3 (.int .i64 0)) 4 (.int .i64 0)) 5 (.int .i64 0)) 6 (.slice none 0 0))
  have o9 : Below w.heap.size w (((((((w2.setCell ⟨w.heap.size + 1, 0, none⟩ (.int .i64 0)).setCell ⟨w.heap.size + 1, 1, none⟩ (.int .i64 0)).setCell ⟨w.heap.size + 1, 2, none⟩ (.int .i64 0)).setCell ⟨w.heap.size + 1, 3, none⟩ (.int .i64 0)).setCell ⟨w.heap.size + 1, 4, none⟩ (.int .i64 0)).setCell ⟨w.heap.size + 1, 5, none⟩ (.int .i64 0)).setCell ⟨w.heap.size + 1, 6, none⟩ (.slice none 0 0)) := (Below.setCell (p := ⟨w.heap.size + 1, 6, none⟩) (Below.setCell (p := ⟨w.heap.size + 1, 5, none⟩) (Below.setCell (p := ⟨w.heap.size + 1, 4, none⟩) (Below.setCell (p := ⟨w.heap.size + 1, 3, none⟩) (Below.setCell (p := ⟨w.heap.size + 1, 2, none⟩) (Below.setCell (p := ⟨w.heap.size + 1, 1, none⟩) (Below.setCell (p := ⟨w.heap.size + 1, 0, none⟩) o1 hbge (.int .i64 0)) hbge (.int .i64 0)) hbge (.int .i64 0)) hbge (.int .i64 0)) hbge (.int .i64 0)) hbge (.int .i64 0)) hbge (.slice none 0 0))
  generalize (((((((w2.setCell ⟨w.heap.size + 1, 0, none⟩ (.int .i64 0)).setCell ⟨w.heap.size + 1, 1, none⟩ (.int .i64 0)).setCell ⟨w.heap.size + 1, 2, none⟩ (.int .i64 0)).setCell ⟨w.heap.size + 1, 3, none⟩ (.int .i64 0)).setCell ⟨w.heap.size + 1, 4, none⟩ (.int .i64 0)).setCell ⟨w.heap.size + 1, 5, none⟩ (.int .i64 0)).setCell ⟨w.heap.size + 1, 6, none⟩ (.slice none 0 0)) = w9 at R9 o9 ⊢
  obtain ⟨N0, N1, N2, N3, N4, N5, N6, Nf0, Nf1, Nf2, Nf3, Nf4, Nf5, Nf6⟩ := row_seven R9
  exact bodyPost_ret (v := .tuple #[.agg #[.int .i64 0, .int .i64 0, .int .i64 0, .int .i64 0, .int .i64 0, .int .i64 0, .slice none 0 0], .int .i64 5]) (by simp [results, Try.results14, go_sem, List.getElem?_toArray, N0, N1, N2, N3, N4, N5, N6]) rfl (smret_zero o9)
set_option maxRecDepth 100000 in
set_option maxHeartbeats 2000000 in
theorem psmadd_c3 (A : Option Addr) (c : Nat) (l : List Mk) (agg wd k cap now seq : Int) (v : Int) (w : World) (hin : MIn A 0 c l w) (sB : I64 seq) (hv : smvalE agg wd k cap now seq l = 0) (h0 : ¬ v < leastV agg) (h1 : ¬ 4096 < v) (hs : seq = 1099511627776) (hf : smFull cap seq l) : Calls Try.prog 14 #[.agg #[.int .i64 agg, .int .i64 wd, .int .i64 k, .int .i64 cap, .int .i64 now, .int .i64 seq, .slice A 0 c], .int .i64 v] w fun e w' => SmRet A (smAdd agg wd k cap now seq l v) w e w' := by
  rw [smAdd_c hv (by omega) hf]
  clear hf
  have HSQ := Lib.hid hs
  clear hs
  have P := fun w' (hb : Below w.heap.size w w') => pvalS A 0 c l agg wd k cap now seq w' (hin.below hb) sB
  rw [hv] at P
  replace P := Lib.hid P
  have PL := fun w => pleast agg w
  generalize leastV agg = least at PL h0
  replace PL := Lib.hid PL
  have d0 : decide (v < least) = false := decide_eq_false h0
  have d1 : decide (4096 < v) = false := decide_eq_false h1
  have HR := Lib.hid hin
  have HL := Lib.hid hin.len
  clear hin sB h0 h1
  go_enter Try.func14, Try.ntmps14
  go_upto_region 6 with (first | (go_at_call 12; with_reducible refine (P.out _ (by (repeat (first | exact Below.refl _ _ | refine Below.setCell ?_ (by first | (simp; done) | (simp; omega) | omega) _ | refine Below.alloc ?_ (by first | (simp; done) | (simp; omega) | omega) _ | refine Below.drew ?_ | refine Below.trans ?_ (Below.mono (by assumption) (by first | (simp; done) | (simp; omega) | omega)))))).mono ?_; rintro e w1 ⟨rfl, hb1⟩; have hz1 := hb1.size; (try simp at hz1); have o1 : Below w.heap.size w w1 := (by (repeat (first | exact Below.refl _ _ | refine Below.setCell ?_ (by first | (simp; done) | (simp; omega) | omega) _ | refine Below.alloc ?_ (by first | (simp; done) | (simp; omega) | omega) _ | refine Below.drew ?_ | refine Below.trans ?_ (Below.mono (by assumption) (by first | (simp; done) | (simp; omega) | omega))))); have q1_0 : w.heap.size < w1.heap.size := (by omega); have r1_0 : Row w1 (w.heap.size) 24 #[.int .i64 agg, .int .i64 wd, .int .i64 k, .int .i64 cap, .int .i64 now, .int .i64 seq, .slice A 0 c] := row_call (by (repeat (first | assumption | (refine row_new ?_; (first | (simp; done) | omega)) | refine row_alloc ?_ _ | refine row_drew ?_ | refine row_call ?_ (by assumption)))) hb1; obtain ⟨c1_0a, c1_0b, c1_0c, c1_0d, c1_0e, c1_0f, c1_0g, f1_0a, f1_0b, f1_0c, f1_0d, f1_0e, f1_0f, f1_0g⟩ := row_seven r1_0; have q1_1 : w.heap.size + 1 < w1.heap.size := (by omega); have r1_1 : Row w1 (w.heap.size + 1) 24 #[.int .i64 0, .int .i64 0, .int .i64 0, .int .i64 0, .int .i64 0, .int .i64 0, .slice none 0 0] := row_call (by (repeat (first | assumption | (refine row_new ?_; (first | (simp; done) | omega)) | refine row_alloc ?_ _ | refine row_drew ?_ | refine row_call ?_ (by assumption)))) hb1; obtain ⟨c1_1a, c1_1b, c1_1c, c1_1d, c1_1e, c1_1f, c1_1g, f1_1a, f1_1b, f1_1c, f1_1d, f1_1e, f1_1f, f1_1g⟩ := row_seven r1_1) | (go_at_call 38; with_reducible refine (PL.out _).mono ?_; rintro e w9 ⟨rfl, h9⟩; obtain rfl := h9.symm))
  clear d0 d1 P PL
  clear hv
  have e2 : (seq == 1099511627776) = true := by simpa using HSQ.out
  refine wp_region_quiet_lit (by as_aux_lemma => kernel_rfl) (by as_aux_lemma => kernel_rfl) ?_
  repeat (go_big_quiet_step (fail))
  refine wpQuiet_nil ?_
  intro _ hw'
  obtain ⟨nq, hw''⟩ := hw'
  subst hw''
  replace r1_0 : Row (w1.drewN nq) (w.heap.size) 24 #[.int .i64 agg, .int .i64 wd, .int .i64 k, .int .i64 cap, .int .i64 now, .int .i64 seq, .slice A 0 c] := r1_0
  replace r1_1 : Row (w1.drewN nq) (w.heap.size + 1) 24 #[.int .i64 0, .int .i64 0, .int .i64 0, .int .i64 0, .int .i64 0, .int .i64 0, .slice none 0 0] := r1_1
  replace o1 := o1.trans (⟨rfl, rfl, rfl, Nat.le_refl _, fun _ _ => rfl⟩ : Below _ w1 (w1.drewN nq))
  generalize w1.drewN nq = w2 at r1_0 r1_1 o1 ⊢
  clear c1_0a c1_0b c1_0c c1_0d c1_0e c1_0f c1_0g f1_0a f1_0b f1_0c f1_0d f1_0e f1_0f f1_0g c1_1a c1_1b c1_1c c1_1d c1_1e c1_1f c1_1g f1_1a f1_1b f1_1c f1_1d f1_1e f1_1f f1_1g
  obtain ⟨Z0, Z1, Z2, Z3, Z4, Z5, Z6, Zf0, Zf1, Zf2, Zf3, Zf4, Zf5, Zf6⟩ := row_seven r1_1
  clear r1_0
  skip
  go_wp2
  have hbge : w.heap.size ≤ w.heap.size + 1 := by omega
  have R9 : Row (((((((w2.setCell ⟨w.heap.size + 1, 0, none⟩ (.int .i64 0)).setCell ⟨w.heap.size + 1, 1, none⟩ (.int .i64 0)).setCell ⟨w.heap.size + 1, 2, none⟩ (.int .i64 0)).setCell ⟨w.heap.size + 1, 3, none⟩ (.int .i64 0)).setCell ⟨w.heap.size + 1, 4, none⟩ (.int .i64 0)).setCell ⟨w.heap.size + 1, 5, none⟩ (.int .i64 0)).setCell ⟨w.heap.size + 1, 6, none⟩ (.slice none 0 0)) (w.heap.size + 1) 24 #[.int .i64 0, .int .i64 0, .int .i64 0, .int .i64 0, .int .i64 0, .int .i64 0, .slice none 0 0] := (row_set (row_set (row_set (row_set (row_set (row_set (row_set r1_1 0 (.int .i64 0)) 1 (.int .i64 0)) 2 (.int .i64 0)) 3 (.int .i64 0)) 4 (.int .i64 0)) 5 (.int .i64 0)) 6 (.slice none 0 0))
  have o9 : Below w.heap.size w (((((((w2.setCell ⟨w.heap.size + 1, 0, none⟩ (.int .i64 0)).setCell ⟨w.heap.size + 1, 1, none⟩ (.int .i64 0)).setCell ⟨w.heap.size + 1, 2, none⟩ (.int .i64 0)).setCell ⟨w.heap.size + 1, 3, none⟩ (.int .i64 0)).setCell ⟨w.heap.size + 1, 4, none⟩ (.int .i64 0)).setCell ⟨w.heap.size + 1, 5, none⟩ (.int .i64 0)).setCell ⟨w.heap.size + 1, 6, none⟩ (.slice none 0 0)) := (Below.setCell (p := ⟨w.heap.size + 1, 6, none⟩) (Below.setCell (p := ⟨w.heap.size + 1, 5, none⟩) (Below.setCell (p := ⟨w.heap.size + 1, 4, none⟩) (Below.setCell (p := ⟨w.heap.size + 1, 3, none⟩) (Below.setCell (p := ⟨w.heap.size + 1, 2, none⟩) (Below.setCell (p := ⟨w.heap.size + 1, 1, none⟩) (Below.setCell (p := ⟨w.heap.size + 1, 0, none⟩) o1 hbge (.int .i64 0)) hbge (.int .i64 0)) hbge (.int .i64 0)) hbge (.int .i64 0)) hbge (.int .i64 0)) hbge (.int .i64 0)) hbge (.slice none 0 0))
  generalize (((((((w2.setCell ⟨w.heap.size + 1, 0, none⟩ (.int .i64 0)).setCell ⟨w.heap.size + 1, 1, none⟩ (.int .i64 0)).setCell ⟨w.heap.size + 1, 2, none⟩ (.int .i64 0)).setCell ⟨w.heap.size + 1, 3, none⟩ (.int .i64 0)).setCell ⟨w.heap.size + 1, 4, none⟩ (.int .i64 0)).setCell ⟨w.heap.size + 1, 5, none⟩ (.int .i64 0)).setCell ⟨w.heap.size + 1, 6, none⟩ (.slice none 0 0)) = w9 at R9 o9 ⊢
  obtain ⟨N0, N1, N2, N3, N4, N5, N6, Nf0, Nf1, Nf2, Nf3, Nf4, Nf5, Nf6⟩ := row_seven R9
  exact bodyPost_ret (v := .tuple #[.agg #[.int .i64 0, .int .i64 0, .int .i64 0, .int .i64 0, .int .i64 0, .int .i64 0, .slice none 0 0], .int .i64 5]) (by simp [results, Try.results14, go_sem, List.getElem?_toArray, N0, N1, N2, N3, N4, N5, N6]) rfl (smret_zero o9)
set_option maxRecDepth 100000 in
set_option maxHeartbeats 4000000 in
theorem psmadd_d1 (A : Option Addr) (m c : Nat) (l : List Mk) (agg wd k cap now seq : Int) (v : Int) (w : World) (hin : MIn A m c l w) (sB : I64 seq) (hv : smvalE agg wd k cap now seq l = 0) (h0 : ¬ v < leastV agg) (h1 : ¬ 4096 < v) (hmm : m ≤ 100000) (hm0 : 0 < m) (hn : (mkAt l 0).n ≠ cap) (hs : seq ≠ 1099511627776) (hf : ¬ smFull cap seq l) : Calls Try.prog 14 #[.agg #[.int .i64 agg, .int .i64 wd, .int .i64 k, .int .i64 cap, .int .i64 now, .int .i64 seq, .slice A m c], .int .i64 v] w fun e w' => SmRet A (smAdd agg wd k cap now seq l v) w e w' := by
  rw [smAdd_d hv (by omega) hf]
  have hV := of_smvalE hv
  obtain ⟨hG, hMV, _⟩ := hV
  obtain ⟨⟨a0, a1⟩, d0, d1, k0, k1, c0, c1, n0, n1⟩ := hG
  obtain ⟨⟨s0, s1⟩, hVL⟩ := mvalid_iff.1 hMV
  have HVI := Lib.hid (hVL.incl s0 (hVL.n_lt (fun a => hf (.inl a))) c0 n0 d0 (Int.not_lt.1 h0) (by have := leastV_ge agg; omega) (Int.not_lt.1 h1))
  have HSM := Lib.hid (fun i (hi : i < m) => SmallM.of_one (hVL.one _ (mkAt_mem (l := l) (i := i) (by rw [hin.len]; exact hi))) c1 (leastV_ge agg))
  have hv0 : -4096 ≤ v := by have := leastV_ge agg; omega
  have hv1 : v ≤ 4096 := by omega
  have HLE := Lib.hid (leastV_ge agg)
  have HMI := Lib.hid (show ∀ i, M64 (mkAt (incl l (seq + 1) now v) i) from M64.all fun x hx => M64.of_one (HVI.out.one x hx) (by omega) c1 n1 HLE.out)
  have HMP := Lib.hid (show ∀ i, M64 (mkAt (prune (nearB agg k) (incl l (seq + 1) now v)) i) from M64.all fun x hx => M64.of_one (HVI.out.one x ((prune_sub _ _ _ (Nat.le_refl _)).subset hx)) (by omega) c1 n1 HLE.out)
  clear hf hMV hVL
  have P := fun w' (hb : Below w.heap.size w w') => pvalS A m c l agg wd k cap now seq w' (hin.below hb) sB
  rw [hv] at P
  replace P := Lib.hid P
  have PL := fun w => pleast agg w
  obtain ⟨least, hle⟩ : ∃ x, leastV agg = x := ⟨_, rfl⟩
  rw [hle] at PL h0
  clear hle
  replace PL := Lib.hid PL
  have d0 : decide (v < least) = false := decide_eq_false h0
  have d1 : decide (4096 < v) = false := decide_eq_false h1
  have HR := Lib.hid hin
  have HL := Lib.hid hin.len
  clear hin sB h0 h1
  go_enter Try.func14, Try.ntmps14
  go_upto_region 6 with (first | (go_at_call 12; with_reducible refine (P.out _ (by (repeat (first | exact Below.refl _ _ | refine Below.setCell ?_ (by first | (simp; done) | (simp; omega) | omega) _ | refine Below.alloc ?_ (by first | (simp; done) | (simp; omega) | omega) _ | refine Below.drew ?_ | refine Below.trans ?_ (Below.mono (by assumption) (by first | (simp; done) | (simp; omega) | omega)))))).mono ?_; rintro e w1 ⟨rfl, hb1⟩; have hz1 := hb1.size; (try simp at hz1); have o1 : Below w.heap.size w w1 := (by (repeat (first | exact Below.refl _ _ | refine Below.setCell ?_ (by first | (simp; done) | (simp; omega) | omega) _ | refine Below.alloc ?_ (by first | (simp; done) | (simp; omega) | omega) _ | refine Below.drew ?_ | refine Below.trans ?_ (Below.mono (by assumption) (by first | (simp; done) | (simp; omega) | omega))))); have q1_0 : w.heap.size < w1.heap.size := (by omega); have r1_0 : Row w1 (w.heap.size) 24 #[.int .i64 agg, .int .i64 wd, .int .i64 k, .int .i64 cap, .int .i64 now, .int .i64 seq, .slice A m c] := row_call (by (repeat (first | assumption | (refine row_new ?_; (first | (simp; done) | omega)) | refine row_alloc ?_ _ | refine row_drew ?_ | refine row_call ?_ (by assumption)))) hb1; obtain ⟨c1_0a, c1_0b, c1_0c, c1_0d, c1_0e, c1_0f, c1_0g, f1_0a, f1_0b, f1_0c, f1_0d, f1_0e, f1_0f, f1_0g⟩ := row_seven r1_0; have q1_1 : w.heap.size + 1 < w1.heap.size := (by omega); have r1_1 : Row w1 (w.heap.size + 1) 24 #[.int .i64 0, .int .i64 0, .int .i64 0, .int .i64 0, .int .i64 0, .int .i64 0, .slice none 0 0] := row_call (by (repeat (first | assumption | (refine row_new ?_; (first | (simp; done) | omega)) | refine row_alloc ?_ _ | refine row_drew ?_ | refine row_call ?_ (by assumption)))) hb1; obtain ⟨c1_1a, c1_1b, c1_1c, c1_1d, c1_1e, c1_1f, c1_1g, f1_1a, f1_1b, f1_1c, f1_1d, f1_1e, f1_1f, f1_1g⟩ := row_seven r1_1) | (go_at_call 38; with_reducible refine (PL.out _).mono ?_; rintro e w9 ⟨rfl, h9⟩; obtain rfl := h9.symm))
  clear d0 d1 P PL
  clear hv
  obtain ⟨ad, rfl, hadb, ht0⟩ := HR.out.reads.mk (i := 0) hm0
  have ht0 : MkCells w ad (mkAt l 0) := ht0
  generalize mkAt l 0 = m0 at ht0 hn
  obtain ⟨sq, tk, n, s, q, lo, hi⟩ := m0
  obtain ⟨q0, q1, q2, q3, q4, q5, q6⟩ := ht0.below o1 hadb
  dsimp only at q0 q1 q2 q3 q4 q5 q6 hn
  clear ht0
  have e0 : decide (0 < m) = true := decide_eq_true hm0
  have g0 : (0 : Int) < (m : Int) := by omega
  have e1 : (n == cap) = false := by simpa using hn
  have e2 : (seq == 1099511627776) = false := by simpa using hs
  refine wp_region_quiet_lit (by as_aux_lemma => kernel_rfl) (by as_aux_lemma => kernel_rfl) ?_
  repeat (go_big_quiet_step (fail))
  refine wpQuiet_nil ?_
  intro _ hw'
  obtain ⟨nq, hw''⟩ := hw'
  subst hw''
  replace r1_0 : Row (w1.drewN nq) (w.heap.size) 24 #[.int .i64 agg, .int .i64 wd, .int .i64 k, .int .i64 cap, .int .i64 now, .int .i64 seq, .slice (some ad) m c] := r1_0
  replace r1_1 : Row (w1.drewN nq) (w.heap.size + 1) 24 #[.int .i64 0, .int .i64 0, .int .i64 0, .int .i64 0, .int .i64 0, .int .i64 0, .slice none 0 0] := r1_1
  replace o1 := o1.trans (⟨rfl, rfl, rfl, Nat.le_refl _, fun _ _ => rfl⟩ : Below _ w1 (w1.drewN nq))
  generalize w1.drewN nq = w2 at r1_0 r1_1 o1 ⊢
  clear c1_0a c1_0b c1_0c c1_0d c1_0e c1_0f c1_0g f1_0a f1_0b f1_0c f1_0d f1_0e f1_0f f1_0g c1_1a c1_1b c1_1c c1_1d c1_1e c1_1f c1_1g f1_1a f1_1b f1_1c f1_1d f1_1e f1_1f f1_1g
  clear e2 q0 q1 q2 q3 q4 q5 q6 e0 g0 e1 hn
  have wsq : IntKind.i64.wrap (seq + 1) = seq + 1 := IntWalk.i64_in _ (by omega)
  obtain ⟨X0, X1, X2, X3, X4, X5, X6, Xf0, Xf1, Xf2, Xf3, Xf4, Xf5, Xf6⟩ := row_seven r1_0
  have KR := Lib.hid r1_0
  clear r1_0
  go_upto_region 9 with (fail)
  have X : Row (w2.setCell ⟨w.heap.size, 5, none⟩ (.int .i64 (seq + 1))) (w.heap.size) 24 #[.int .i64 agg, .int .i64 wd, .int .i64 k, .int .i64 cap, .int .i64 now, .int .i64 (seq + 1), .slice (some ad) m c] := row_set KR.out 5 _
  have R : Row (w2.setCell ⟨w.heap.size, 5, none⟩ (.int .i64 (seq + 1))) (w.heap.size + 1) 24 #[.int .i64 0, .int .i64 0, .int .i64 0, .int .i64 0, .int .i64 0, .int .i64 0, .slice none 0 0] := row_other (p := ⟨w.heap.size, 5, none⟩) r1_1 (by show w.heap.size + 1 ≠ w.heap.size; omega) _
  have o : Below w.heap.size w (w2.setCell ⟨w.heap.size, 5, none⟩ (.int .i64 (seq + 1))) := o1.setCell (p := ⟨w.heap.size, 5, none⟩) (Nat.le_refl _) _
  generalize w2.setCell ⟨w.heap.size, 5, none⟩ (.int .i64 (seq + 1)) = w3 at X R o ⊢
  clear X0 X1 X2 X3 X4 X5 X6 Xf0 Xf1 Xf2 Xf3 Xf4 Xf5 Xf6 KR o1 r1_1 wsq
  obtain ⟨X0, X1, X2, X3, X4, X5, X6, Xf0, Xf1, Xf2, Xf3, Xf4, Xf5, Xf6⟩ := row_seven X
  go_wp2_with fail
  refine (pmadd (some ad) m c l (seq + 1) now v w3 (HR.out.below o) (by omega) HSM.out hv0 hv1).mono ?_
  rintro e w4 ⟨va, rfl, ownA, hb4⟩
  obtain ⟨A4, c4, rfl, inA, fr4⟩ := MIn.of_row ownA HMI.out
  have z4 := row_lt X
  clear X0 X1 X2 X3 X4 X5 X6 Xf0 Xf1 Xf2 Xf3 Xf4 Xf5 Xf6 ownA fr4
  replace X := row_call X hb4
  replace R := row_call R hb4
  replace o := o.trans (hb4.mono o.size)
  have z8 := row_lt R
  clear hb4
  have INA := Lib.hid inA
  clear inA
  have LI : RowKit.Hid ((incl l (seq + 1) now v).length = m + 1) := Lib.hid (by rw [incl_len, HL.out])
  have PP := Lib.hid (pprune (nearB agg k) 46 (w.heap.size) A4 (m + 1) c4 (incl l (seq + 1) now v) w4 INA.out (by omega) fc_run (fun i j w' hij hj hb => by
    have hi1 := HVI.out.one _ (mkAt_mem (l := incl l (seq + 1) now v) (i := i) (by rw [LI.out]; omega))
    have hj1 := HVI.out.one _ (mkAt_mem (l := incl l (seq + 1) now v) (i := j) (by rw [LI.out]; omega))
    have bi := ofV_bound hi1 c1
    have bj := ofV_bound hj1 c1
    exact pclos_flat agg wd k cap now (seq + 1) (some ad) m c (w.heap.size) (mkAt (incl l (seq + 1) now v) i).seq (mkAt (incl l (seq + 1) now v) i).t (mkAt (incl l (seq + 1) now v) i).n (mkAt (incl l (seq + 1) now v) i).s (mkAt (incl l (seq + 1) now v) i).q (mkAt (incl l (seq + 1) now v) i).lo (mkAt (incl l (seq + 1) now v) i).hi (mkAt (incl l (seq + 1) now v) j).seq (mkAt (incl l (seq + 1) now v) j).t (mkAt (incl l (seq + 1) now v) j).n (mkAt (incl l (seq + 1) now v) j).s (mkAt (incl l (seq + 1) now v) j).q (mkAt (incl l (seq + 1) now v) j).lo (mkAt (incl l (seq + 1) now v) j).hi _ w' (row_call X hb) (fun w => pnear agg k _ _ w k0 k1 (HMI.out i) (HMI.out j) bi.1 bi.2 bj.1 bj.2)))
  obtain ⟨X0, X1, X2, X3, X4, X5, X6, Xf0, Xf1, Xf2, Xf3, Xf4, Xf5, Xf6⟩ := row_seven X
  go_wp2_with fail
  refine PP.out.mono ?_
  rintro e w5 ⟨vp, rfl, ownP, hb5⟩
  obtain ⟨A5, c5, rfl, inP, fr5⟩ := MIn.of_row ownP HMP.out
  have z5 := inP.reads
  clear X0 X1 X2 X3 X4 X5 X6 Xf0 Xf1 Xf2 Xf3 Xf4 Xf5 Xf6 ownP PP
  replace X := row_call X hb5
  replace R := row_call R hb5
  have z6 := row_lt R
  have o4 := o.size
  replace o := o.trans (hb5.mono o.size)
  have z7 := hb5.size
  have INP := Lib.hid inP
  have FR := Lib.hid fr5
  clear hb5 inP fr5 z5
  generalize hpl : (prune (nearB agg k) (incl l (seq + 1) now v)).length = pl at INP
  clear hpl
  obtain ⟨X0, X1, X2, X3, X4, X5, X6, Xf0, Xf1, Xf2, Xf3, Xf4, Xf5, Xf6⟩ := row_seven X
  obtain ⟨R0, R1, R2, R3, R4, R5, R6, Rf0, Rf1, Rf2, Rf3, Rf4, Rf5, Rf6⟩ := row_seven R
  have XR := Lib.hid X
  have RR := Lib.hid R
  clear X R
  go_upto_region 10 with (fail)
  have X : Row (w5.setCell ⟨w.heap.size, 6, none⟩ (.slice A5 pl c5)) (w.heap.size) 24 #[.int .i64 agg, .int .i64 wd, .int .i64 k, .int .i64 cap, .int .i64 now, .int .i64 (seq + 1), .slice A5 pl c5] := row_set XR.out 6 _
  have R : Row (w5.setCell ⟨w.heap.size, 6, none⟩ (.slice A5 pl c5)) (w.heap.size + 1) 24 #[.int .i64 0, .int .i64 0, .int .i64 0, .int .i64 0, .int .i64 0, .int .i64 0, .slice none 0 0] := row_other (p := ⟨w.heap.size, 6, none⟩) RR.out (by show w.heap.size + 1 ≠ w.heap.size; omega) _
  have o6 : Below w.heap.size w (w5.setCell ⟨w.heap.size, 6, none⟩ (.slice A5 pl c5)) := o.setCell (p := ⟨w.heap.size, 6, none⟩) (Nat.le_refl _) _
  have INP6 := Lib.hid (INP.out.keep (w' := w5.setCell ⟨w.heap.size, 6, none⟩ (.slice A5 pl c5)) (by rw [size_setCell]; exact Nat.le_refl _) (fun a e => Below.heap_setCell _ ⟨w.heap.size, 6, none⟩ _ a.block (by have := FR.out a e; show a.block ≠ w.heap.size; omega)))
  have hs6 : w5.heap.size ≤ (w5.setCell ⟨w.heap.size, 6, none⟩ (.slice A5 pl c5)).heap.size := by rw [size_setCell]; exact Nat.le_refl _
  generalize w5.setCell ⟨w.heap.size, 6, none⟩ (.slice A5 pl c5) = w6 at X R o6 INP6 hs6 ⊢
  clear X0 X1 X2 X3 X4 X5 X6 Xf0 Xf1 Xf2 Xf3 Xf4 Xf5 Xf6 R0 R1 R2 R3 R4 R5 R6 Rf0 Rf1 Rf2 Rf3 Rf4 Rf5 Rf6 XR RR INP o
  obtain ⟨X0, X1, X2, X3, X4, X5, X6, Xf0, Xf1, Xf2, Xf3, Xf4, Xf5, Xf6⟩ := row_seven X
  obtain ⟨R0, R1, R2, R3, R4, R5, R6, Rf0, Rf1, Rf2, Rf3, Rf4, Rf5, Rf6⟩ := row_seven R
  go_wp2
  have hbge : w.heap.size ≤ w.heap.size + 1 := by omega
  have hkp : ∀ b', b' ≠ w.heap.size + 1 → ((((((((w6.setCell ⟨w.heap.size + 1, 0, none⟩ (.int .i64 agg)).setCell ⟨w.heap.size + 1, 1, none⟩ (.int .i64 wd)).setCell ⟨w.heap.size + 1, 2, none⟩ (.int .i64 k)).setCell ⟨w.heap.size + 1, 3, none⟩ (.int .i64 cap)).setCell ⟨w.heap.size + 1, 4, none⟩ (.int .i64 now)).setCell ⟨w.heap.size + 1, 5, none⟩ (.int .i64 (seq + 1))).setCell ⟨w.heap.size + 1, 6, none⟩ (.slice A5 pl c5))).heap[b']? = w6.heap[b']? := fun b' h' => ((Below.heap_setCell _ ⟨w.heap.size + 1, 6, none⟩ (.slice A5 pl c5) b' h').trans ((Below.heap_setCell _ ⟨w.heap.size + 1, 5, none⟩ (.int .i64 (seq + 1)) b' h').trans ((Below.heap_setCell _ ⟨w.heap.size + 1, 4, none⟩ (.int .i64 now) b' h').trans ((Below.heap_setCell _ ⟨w.heap.size + 1, 3, none⟩ (.int .i64 cap) b' h').trans ((Below.heap_setCell _ ⟨w.heap.size + 1, 2, none⟩ (.int .i64 k) b' h').trans ((Below.heap_setCell _ ⟨w.heap.size + 1, 1, none⟩ (.int .i64 wd) b' h').trans ((Below.heap_setCell _ ⟨w.heap.size + 1, 0, none⟩ (.int .i64 agg) b' h').trans rfl)))))))
  have hksz : w6.heap.size ≤ ((((((((w6.setCell ⟨w.heap.size + 1, 0, none⟩ (.int .i64 agg)).setCell ⟨w.heap.size + 1, 1, none⟩ (.int .i64 wd)).setCell ⟨w.heap.size + 1, 2, none⟩ (.int .i64 k)).setCell ⟨w.heap.size + 1, 3, none⟩ (.int .i64 cap)).setCell ⟨w.heap.size + 1, 4, none⟩ (.int .i64 now)).setCell ⟨w.heap.size + 1, 5, none⟩ (.int .i64 (seq + 1))).setCell ⟨w.heap.size + 1, 6, none⟩ (.slice A5 pl c5))).heap.size := by simp only [size_setCell]; exact Nat.le_refl _
  have R9 : Row (((((((w6.setCell ⟨w.heap.size + 1, 0, none⟩ (.int .i64 agg)).setCell ⟨w.heap.size + 1, 1, none⟩ (.int .i64 wd)).setCell ⟨w.heap.size + 1, 2, none⟩ (.int .i64 k)).setCell ⟨w.heap.size + 1, 3, none⟩ (.int .i64 cap)).setCell ⟨w.heap.size + 1, 4, none⟩ (.int .i64 now)).setCell ⟨w.heap.size + 1, 5, none⟩ (.int .i64 (seq + 1))).setCell ⟨w.heap.size + 1, 6, none⟩ (.slice A5 pl c5)) (w.heap.size + 1) 24 #[.int .i64 agg, .int .i64 wd, .int .i64 k, .int .i64 cap, .int .i64 now, .int .i64 (seq + 1), .slice A5 pl c5] := (row_set (row_set (row_set (row_set (row_set (row_set (row_set R 0 (.int .i64 agg)) 1 (.int .i64 wd)) 2 (.int .i64 k)) 3 (.int .i64 cap)) 4 (.int .i64 now)) 5 (.int .i64 (seq + 1))) 6 (.slice A5 pl c5))
  have o9 : Below w.heap.size w (((((((w6.setCell ⟨w.heap.size + 1, 0, none⟩ (.int .i64 agg)).setCell ⟨w.heap.size + 1, 1, none⟩ (.int .i64 wd)).setCell ⟨w.heap.size + 1, 2, none⟩ (.int .i64 k)).setCell ⟨w.heap.size + 1, 3, none⟩ (.int .i64 cap)).setCell ⟨w.heap.size + 1, 4, none⟩ (.int .i64 now)).setCell ⟨w.heap.size + 1, 5, none⟩ (.int .i64 (seq + 1))).setCell ⟨w.heap.size + 1, 6, none⟩ (.slice A5 pl c5)) := (Below.setCell (p := ⟨w.heap.size + 1, 6, none⟩) (Below.setCell (p := ⟨w.heap.size + 1, 5, none⟩) (Below.setCell (p := ⟨w.heap.size + 1, 4, none⟩) (Below.setCell (p := ⟨w.heap.size + 1, 3, none⟩) (Below.setCell (p := ⟨w.heap.size + 1, 2, none⟩) (Below.setCell (p := ⟨w.heap.size + 1, 1, none⟩) (Below.setCell (p := ⟨w.heap.size + 1, 0, none⟩) o6 hbge (.int .i64 agg)) hbge (.int .i64 wd)) hbge (.int .i64 k)) hbge (.int .i64 cap)) hbge (.int .i64 now)) hbge (.int .i64 (seq + 1))) hbge (.slice A5 pl c5))
  generalize (((((((w6.setCell ⟨w.heap.size + 1, 0, none⟩ (.int .i64 agg)).setCell ⟨w.heap.size + 1, 1, none⟩ (.int .i64 wd)).setCell ⟨w.heap.size + 1, 2, none⟩ (.int .i64 k)).setCell ⟨w.heap.size + 1, 3, none⟩ (.int .i64 cap)).setCell ⟨w.heap.size + 1, 4, none⟩ (.int .i64 now)).setCell ⟨w.heap.size + 1, 5, none⟩ (.int .i64 (seq + 1))).setCell ⟨w.heap.size + 1, 6, none⟩ (.slice A5 pl c5)) = w9 at R9 o9 hkp hksz ⊢
  obtain ⟨N0, N1, N2, N3, N4, N5, N6, Nf0, Nf1, Nf2, Nf3, Nf4, Nf5, Nf6⟩ := row_seven R9
  exact bodyPost_ret (v := .tuple #[.agg #[.int .i64 agg, .int .i64 wd, .int .i64 k, .int .i64 cap, .int .i64 now, .int .i64 (seq + 1), .slice A5 pl c5], .int .i64 0]) (by simp [results, Try.results14, go_sem, List.getElem?_toArray, N0, N1, N2, N3, N4, N5, N6]) rfl (smret_ok (INP6.out.keep hksz (fun a e => hkp a.block (by have := FR.out a e; omega))) o9 (fun a e => .inl (by have := FR.out a e; omega)))
set_option maxRecDepth 100000 in
set_option maxHeartbeats 4000000 in
theorem psmadd_d0 (A : Option Addr) (c : Nat) (l : List Mk) (agg wd k cap now seq : Int) (v : Int) (w : World) (hin : MIn A 0 c l w) (sB : I64 seq) (hv : smvalE agg wd k cap now seq l = 0) (h0 : ¬ v < leastV agg) (h1 : ¬ 4096 < v)  (hs : seq ≠ 1099511627776) (hf : ¬ smFull cap seq l) : Calls Try.prog 14 #[.agg #[.int .i64 agg, .int .i64 wd, .int .i64 k, .int .i64 cap, .int .i64 now, .int .i64 seq, .slice A 0 c], .int .i64 v] w fun e w' => SmRet A (smAdd agg wd k cap now seq l v) w e w' := by
  rw [smAdd_d hv (by omega) hf]
  have hV := of_smvalE hv
  obtain ⟨hG, hMV, _⟩ := hV
  obtain ⟨⟨a0, a1⟩, d0, d1, k0, k1, c0, c1, n0, n1⟩ := hG
  obtain ⟨⟨s0, s1⟩, hVL⟩ := mvalid_iff.1 hMV
  have HVI := Lib.hid (hVL.incl s0 (hVL.n_lt (fun a => hf (.inl a))) c0 n0 d0 (Int.not_lt.1 h0) (by have := leastV_ge agg; omega) (Int.not_lt.1 h1))
  have HSM := Lib.hid (fun i (hi : i < 0) => SmallM.of_one (hVL.one _ (mkAt_mem (l := l) (i := i) (by rw [hin.len]; exact hi))) c1 (leastV_ge agg))
  have hv0 : -4096 ≤ v := by have := leastV_ge agg; omega
  have hv1 : v ≤ 4096 := by omega
  have HLE := Lib.hid (leastV_ge agg)
  have HMI := Lib.hid (show ∀ i, M64 (mkAt (incl l (seq + 1) now v) i) from M64.all fun x hx => M64.of_one (HVI.out.one x hx) (by omega) c1 n1 HLE.out)
  have HMP := Lib.hid (show ∀ i, M64 (mkAt (prune (nearB agg k) (incl l (seq + 1) now v)) i) from M64.all fun x hx => M64.of_one (HVI.out.one x ((prune_sub _ _ _ (Nat.le_refl _)).subset hx)) (by omega) c1 n1 HLE.out)
  clear hf hMV hVL
  have P := fun w' (hb : Below w.heap.size w w') => pvalS A 0 c l agg wd k cap now seq w' (hin.below hb) sB
  rw [hv] at P
  replace P := Lib.hid P
  have PL := fun w => pleast agg w
  obtain ⟨least, hle⟩ : ∃ x, leastV agg = x := ⟨_, rfl⟩
  rw [hle] at PL h0
  clear hle
  replace PL := Lib.hid PL
  have d0 : decide (v < least) = false := decide_eq_false h0
  have d1 : decide (4096 < v) = false := decide_eq_false h1
  have HR := Lib.hid hin
  have HL := Lib.hid hin.len
  clear hin sB h0 h1
  go_enter Try.func14, Try.ntmps14
  go_upto_region 6 with (first | (go_at_call 12; with_reducible refine (P.out _ (by (repeat (first | exact Below.refl _ _ | refine Below.setCell ?_ (by first | (simp; done) | (simp; omega) | omega) _ | refine Below.alloc ?_ (by first | (simp; done) | (simp; omega) | omega) _ | refine Below.drew ?_ | refine Below.trans ?_ (Below.mono (by assumption) (by first | (simp; done) | (simp; omega) | omega)))))).mono ?_; rintro e w1 ⟨rfl, hb1⟩; have hz1 := hb1.size; (try simp at hz1); have o1 : Below w.heap.size w w1 := (by (repeat (first | exact Below.refl _ _ | refine Below.setCell ?_ (by first | (simp; done) | (simp; omega) | omega) _ | refine Below.alloc ?_ (by first | (simp; done) | (simp; omega) | omega) _ | refine Below.drew ?_ | refine Below.trans ?_ (Below.mono (by assumption) (by first | (simp; done) | (simp; omega) | omega))))); have q1_0 : w.heap.size < w1.heap.size := (by omega); have r1_0 : Row w1 (w.heap.size) 24 #[.int .i64 agg, .int .i64 wd, .int .i64 k, .int .i64 cap, .int .i64 now, .int .i64 seq, .slice A 0 c] := row_call (by (repeat (first | assumption | (refine row_new ?_; (first | (simp; done) | omega)) | refine row_alloc ?_ _ | refine row_drew ?_ | refine row_call ?_ (by assumption)))) hb1; obtain ⟨c1_0a, c1_0b, c1_0c, c1_0d, c1_0e, c1_0f, c1_0g, f1_0a, f1_0b, f1_0c, f1_0d, f1_0e, f1_0f, f1_0g⟩ := row_seven r1_0; have q1_1 : w.heap.size + 1 < w1.heap.size := (by omega); have r1_1 : Row w1 (w.heap.size + 1) 24 #[.int .i64 0, .int .i64 0, .int .i64 0, .int .i64 0, .int .i64 0, .int .i64 0, .slice none 0 0] := row_call (by (repeat (first | assumption | (refine row_new ?_; (first | (simp; done) | omega)) | refine row_alloc ?_ _ | refine row_drew ?_ | refine row_call ?_ (by assumption)))) hb1; obtain ⟨c1_1a, c1_1b, c1_1c, c1_1d, c1_1e, c1_1f, c1_1g, f1_1a, f1_1b, f1_1c, f1_1d, f1_1e, f1_1f, f1_1g⟩ := row_seven r1_1) | (go_at_call 38; with_reducible refine (PL.out _).mono ?_; rintro e w9 ⟨rfl, h9⟩; obtain rfl := h9.symm))
  clear d0 d1 P PL
  clear hv
  have e2 : (seq == 1099511627776) = false := by simpa using hs
  refine wp_region_quiet_lit (by as_aux_lemma => kernel_rfl) (by as_aux_lemma => kernel_rfl) ?_
  repeat (go_big_quiet_step (fail))
  refine wpQuiet_nil ?_
  intro _ hw'
  obtain ⟨nq, hw''⟩ := hw'
  subst hw''
  replace r1_0 : Row (w1.drewN nq) (w.heap.size) 24 #[.int .i64 agg, .int .i64 wd, .int .i64 k, .int .i64 cap, .int .i64 now, .int .i64 seq, .slice A 0 c] := r1_0
  replace r1_1 : Row (w1.drewN nq) (w.heap.size + 1) 24 #[.int .i64 0, .int .i64 0, .int .i64 0, .int .i64 0, .int .i64 0, .int .i64 0, .slice none 0 0] := r1_1
  replace o1 := o1.trans (⟨rfl, rfl, rfl, Nat.le_refl _, fun _ _ => rfl⟩ : Below _ w1 (w1.drewN nq))
  generalize w1.drewN nq = w2 at r1_0 r1_1 o1 ⊢
  clear c1_0a c1_0b c1_0c c1_0d c1_0e c1_0f c1_0g f1_0a f1_0b f1_0c f1_0d f1_0e f1_0f f1_0g c1_1a c1_1b c1_1c c1_1d c1_1e c1_1f c1_1g f1_1a f1_1b f1_1c f1_1d f1_1e f1_1f f1_1g
  clear e2
  have wsq : IntKind.i64.wrap (seq + 1) = seq + 1 := IntWalk.i64_in _ (by omega)
  obtain ⟨X0, X1, X2, X3, X4, X5, X6, Xf0, Xf1, Xf2, Xf3, Xf4, Xf5, Xf6⟩ := row_seven r1_0
  have KR := Lib.hid r1_0
  clear r1_0
  go_upto_region 9 with (fail)
  have X : Row (w2.setCell ⟨w.heap.size, 5, none⟩ (.int .i64 (seq + 1))) (w.heap.size) 24 #[.int .i64 agg, .int .i64 wd, .int .i64 k, .int .i64 cap, .int .i64 now, .int .i64 (seq + 1), .slice A 0 c] := row_set KR.out 5 _
  have R : Row (w2.setCell ⟨w.heap.size, 5, none⟩ (.int .i64 (seq + 1))) (w.heap.size + 1) 24 #[.int .i64 0, .int .i64 0, .int .i64 0, .int .i64 0, .int .i64 0, .int .i64 0, .slice none 0 0] := row_other (p := ⟨w.heap.size, 5, none⟩) r1_1 (by show w.heap.size + 1 ≠ w.heap.size; omega) _
  have o : Below w.heap.size w (w2.setCell ⟨w.heap.size, 5, none⟩ (.int .i64 (seq + 1))) := o1.setCell (p := ⟨w.heap.size, 5, none⟩) (Nat.le_refl _) _
  generalize w2.setCell ⟨w.heap.size, 5, none⟩ (.int .i64 (seq + 1)) = w3 at X R o ⊢
  clear X0 X1 X2 X3 X4 X5 X6 Xf0 Xf1 Xf2 Xf3 Xf4 Xf5 Xf6 KR o1 r1_1 wsq
  obtain ⟨X0, X1, X2, X3, X4, X5, X6, Xf0, Xf1, Xf2, Xf3, Xf4, Xf5, Xf6⟩ := row_seven X
  go_wp2_with fail
  refine (pmadd A 0 c l (seq + 1) now v w3 (HR.out.below o) (by omega) HSM.out hv0 hv1).mono ?_
  rintro e w4 ⟨va, rfl, ownA, hb4⟩
  obtain ⟨A4, c4, rfl, inA, fr4⟩ := MIn.of_row ownA HMI.out
  have z4 := row_lt X
  clear X0 X1 X2 X3 X4 X5 X6 Xf0 Xf1 Xf2 Xf3 Xf4 Xf5 Xf6 ownA fr4
  replace X := row_call X hb4
  replace R := row_call R hb4
  replace o := o.trans (hb4.mono o.size)
  have z8 := row_lt R
  clear hb4
  have INA := Lib.hid inA
  clear inA
  have LI : RowKit.Hid ((incl l (seq + 1) now v).length = 0 + 1) := Lib.hid (by rw [incl_len, HL.out])
  have PP := Lib.hid (pprune (nearB agg k) 46 (w.heap.size) A4 (0 + 1) c4 (incl l (seq + 1) now v) w4 INA.out (by omega) fc_run (fun i j w' hij hj hb => by
    have hi1 := HVI.out.one _ (mkAt_mem (l := incl l (seq + 1) now v) (i := i) (by rw [LI.out]; omega))
    have hj1 := HVI.out.one _ (mkAt_mem (l := incl l (seq + 1) now v) (i := j) (by rw [LI.out]; omega))
    have bi := ofV_bound hi1 c1
    have bj := ofV_bound hj1 c1
    exact pclos_flat agg wd k cap now (seq + 1) A 0 c (w.heap.size) (mkAt (incl l (seq + 1) now v) i).seq (mkAt (incl l (seq + 1) now v) i).t (mkAt (incl l (seq + 1) now v) i).n (mkAt (incl l (seq + 1) now v) i).s (mkAt (incl l (seq + 1) now v) i).q (mkAt (incl l (seq + 1) now v) i).lo (mkAt (incl l (seq + 1) now v) i).hi (mkAt (incl l (seq + 1) now v) j).seq (mkAt (incl l (seq + 1) now v) j).t (mkAt (incl l (seq + 1) now v) j).n (mkAt (incl l (seq + 1) now v) j).s (mkAt (incl l (seq + 1) now v) j).q (mkAt (incl l (seq + 1) now v) j).lo (mkAt (incl l (seq + 1) now v) j).hi _ w' (row_call X hb) (fun w => pnear agg k _ _ w k0 k1 (HMI.out i) (HMI.out j) bi.1 bi.2 bj.1 bj.2)))
  obtain ⟨X0, X1, X2, X3, X4, X5, X6, Xf0, Xf1, Xf2, Xf3, Xf4, Xf5, Xf6⟩ := row_seven X
  go_wp2_with fail
  refine PP.out.mono ?_
  rintro e w5 ⟨vp, rfl, ownP, hb5⟩
  obtain ⟨A5, c5, rfl, inP, fr5⟩ := MIn.of_row ownP HMP.out
  have z5 := inP.reads
  clear X0 X1 X2 X3 X4 X5 X6 Xf0 Xf1 Xf2 Xf3 Xf4 Xf5 Xf6 ownP PP
  replace X := row_call X hb5
  replace R := row_call R hb5
  have z6 := row_lt R
  have o4 := o.size
  replace o := o.trans (hb5.mono o.size)
  have z7 := hb5.size
  have INP := Lib.hid inP
  have FR := Lib.hid fr5
  clear hb5 inP fr5 z5
  generalize hpl : (prune (nearB agg k) (incl l (seq + 1) now v)).length = pl at INP
  clear hpl
  obtain ⟨X0, X1, X2, X3, X4, X5, X6, Xf0, Xf1, Xf2, Xf3, Xf4, Xf5, Xf6⟩ := row_seven X
  obtain ⟨R0, R1, R2, R3, R4, R5, R6, Rf0, Rf1, Rf2, Rf3, Rf4, Rf5, Rf6⟩ := row_seven R
  have XR := Lib.hid X
  have RR := Lib.hid R
  clear X R
  go_upto_region 10 with (fail)
  have X : Row (w5.setCell ⟨w.heap.size, 6, none⟩ (.slice A5 pl c5)) (w.heap.size) 24 #[.int .i64 agg, .int .i64 wd, .int .i64 k, .int .i64 cap, .int .i64 now, .int .i64 (seq + 1), .slice A5 pl c5] := row_set XR.out 6 _
  have R : Row (w5.setCell ⟨w.heap.size, 6, none⟩ (.slice A5 pl c5)) (w.heap.size + 1) 24 #[.int .i64 0, .int .i64 0, .int .i64 0, .int .i64 0, .int .i64 0, .int .i64 0, .slice none 0 0] := row_other (p := ⟨w.heap.size, 6, none⟩) RR.out (by show w.heap.size + 1 ≠ w.heap.size; omega) _
  have o6 : Below w.heap.size w (w5.setCell ⟨w.heap.size, 6, none⟩ (.slice A5 pl c5)) := o.setCell (p := ⟨w.heap.size, 6, none⟩) (Nat.le_refl _) _
  have INP6 := Lib.hid (INP.out.keep (w' := w5.setCell ⟨w.heap.size, 6, none⟩ (.slice A5 pl c5)) (by rw [size_setCell]; exact Nat.le_refl _) (fun a e => Below.heap_setCell _ ⟨w.heap.size, 6, none⟩ _ a.block (by have := FR.out a e; show a.block ≠ w.heap.size; omega)))
  have hs6 : w5.heap.size ≤ (w5.setCell ⟨w.heap.size, 6, none⟩ (.slice A5 pl c5)).heap.size := by rw [size_setCell]; exact Nat.le_refl _
  generalize w5.setCell ⟨w.heap.size, 6, none⟩ (.slice A5 pl c5) = w6 at X R o6 INP6 hs6 ⊢
  clear X0 X1 X2 X3 X4 X5 X6 Xf0 Xf1 Xf2 Xf3 Xf4 Xf5 Xf6 R0 R1 R2 R3 R4 R5 R6 Rf0 Rf1 Rf2 Rf3 Rf4 Rf5 Rf6 XR RR INP o
  obtain ⟨X0, X1, X2, X3, X4, X5, X6, Xf0, Xf1, Xf2, Xf3, Xf4, Xf5, Xf6⟩ := row_seven X
  obtain ⟨R0, R1, R2, R3, R4, R5, R6, Rf0, Rf1, Rf2, Rf3, Rf4, Rf5, Rf6⟩ := row_seven R
  go_wp2
  have hbge : w.heap.size ≤ w.heap.size + 1 := by omega
  have hkp : ∀ b', b' ≠ w.heap.size + 1 → ((((((((w6.setCell ⟨w.heap.size + 1, 0, none⟩ (.int .i64 agg)).setCell ⟨w.heap.size + 1, 1, none⟩ (.int .i64 wd)).setCell ⟨w.heap.size + 1, 2, none⟩ (.int .i64 k)).setCell ⟨w.heap.size + 1, 3, none⟩ (.int .i64 cap)).setCell ⟨w.heap.size + 1, 4, none⟩ (.int .i64 now)).setCell ⟨w.heap.size + 1, 5, none⟩ (.int .i64 (seq + 1))).setCell ⟨w.heap.size + 1, 6, none⟩ (.slice A5 pl c5))).heap[b']? = w6.heap[b']? := fun b' h' => ((Below.heap_setCell _ ⟨w.heap.size + 1, 6, none⟩ (.slice A5 pl c5) b' h').trans ((Below.heap_setCell _ ⟨w.heap.size + 1, 5, none⟩ (.int .i64 (seq + 1)) b' h').trans ((Below.heap_setCell _ ⟨w.heap.size + 1, 4, none⟩ (.int .i64 now) b' h').trans ((Below.heap_setCell _ ⟨w.heap.size + 1, 3, none⟩ (.int .i64 cap) b' h').trans ((Below.heap_setCell _ ⟨w.heap.size + 1, 2, none⟩ (.int .i64 k) b' h').trans ((Below.heap_setCell _ ⟨w.heap.size + 1, 1, none⟩ (.int .i64 wd) b' h').trans ((Below.heap_setCell _ ⟨w.heap.size + 1, 0, none⟩ (.int .i64 agg) b' h').trans rfl)))))))
  have hksz : w6.heap.size ≤ ((((((((w6.setCell ⟨w.heap.size + 1, 0, none⟩ (.int .i64 agg)).setCell ⟨w.heap.size + 1, 1, none⟩ (.int .i64 wd)).setCell ⟨w.heap.size + 1, 2, none⟩ (.int .i64 k)).setCell ⟨w.heap.size + 1, 3, none⟩ (.int .i64 cap)).setCell ⟨w.heap.size + 1, 4, none⟩ (.int .i64 now)).setCell ⟨w.heap.size + 1, 5, none⟩ (.int .i64 (seq + 1))).setCell ⟨w.heap.size + 1, 6, none⟩ (.slice A5 pl c5))).heap.size := by simp only [size_setCell]; exact Nat.le_refl _
  have R9 : Row (((((((w6.setCell ⟨w.heap.size + 1, 0, none⟩ (.int .i64 agg)).setCell ⟨w.heap.size + 1, 1, none⟩ (.int .i64 wd)).setCell ⟨w.heap.size + 1, 2, none⟩ (.int .i64 k)).setCell ⟨w.heap.size + 1, 3, none⟩ (.int .i64 cap)).setCell ⟨w.heap.size + 1, 4, none⟩ (.int .i64 now)).setCell ⟨w.heap.size + 1, 5, none⟩ (.int .i64 (seq + 1))).setCell ⟨w.heap.size + 1, 6, none⟩ (.slice A5 pl c5)) (w.heap.size + 1) 24 #[.int .i64 agg, .int .i64 wd, .int .i64 k, .int .i64 cap, .int .i64 now, .int .i64 (seq + 1), .slice A5 pl c5] := (row_set (row_set (row_set (row_set (row_set (row_set (row_set R 0 (.int .i64 agg)) 1 (.int .i64 wd)) 2 (.int .i64 k)) 3 (.int .i64 cap)) 4 (.int .i64 now)) 5 (.int .i64 (seq + 1))) 6 (.slice A5 pl c5))
  have o9 : Below w.heap.size w (((((((w6.setCell ⟨w.heap.size + 1, 0, none⟩ (.int .i64 agg)).setCell ⟨w.heap.size + 1, 1, none⟩ (.int .i64 wd)).setCell ⟨w.heap.size + 1, 2, none⟩ (.int .i64 k)).setCell ⟨w.heap.size + 1, 3, none⟩ (.int .i64 cap)).setCell ⟨w.heap.size + 1, 4, none⟩ (.int .i64 now)).setCell ⟨w.heap.size + 1, 5, none⟩ (.int .i64 (seq + 1))).setCell ⟨w.heap.size + 1, 6, none⟩ (.slice A5 pl c5)) := (Below.setCell (p := ⟨w.heap.size + 1, 6, none⟩) (Below.setCell (p := ⟨w.heap.size + 1, 5, none⟩) (Below.setCell (p := ⟨w.heap.size + 1, 4, none⟩) (Below.setCell (p := ⟨w.heap.size + 1, 3, none⟩) (Below.setCell (p := ⟨w.heap.size + 1, 2, none⟩) (Below.setCell (p := ⟨w.heap.size + 1, 1, none⟩) (Below.setCell (p := ⟨w.heap.size + 1, 0, none⟩) o6 hbge (.int .i64 agg)) hbge (.int .i64 wd)) hbge (.int .i64 k)) hbge (.int .i64 cap)) hbge (.int .i64 now)) hbge (.int .i64 (seq + 1))) hbge (.slice A5 pl c5))
  generalize (((((((w6.setCell ⟨w.heap.size + 1, 0, none⟩ (.int .i64 agg)).setCell ⟨w.heap.size + 1, 1, none⟩ (.int .i64 wd)).setCell ⟨w.heap.size + 1, 2, none⟩ (.int .i64 k)).setCell ⟨w.heap.size + 1, 3, none⟩ (.int .i64 cap)).setCell ⟨w.heap.size + 1, 4, none⟩ (.int .i64 now)).setCell ⟨w.heap.size + 1, 5, none⟩ (.int .i64 (seq + 1))).setCell ⟨w.heap.size + 1, 6, none⟩ (.slice A5 pl c5)) = w9 at R9 o9 hkp hksz ⊢
  obtain ⟨N0, N1, N2, N3, N4, N5, N6, Nf0, Nf1, Nf2, Nf3, Nf4, Nf5, Nf6⟩ := row_seven R9
  exact bodyPost_ret (v := .tuple #[.agg #[.int .i64 agg, .int .i64 wd, .int .i64 k, .int .i64 cap, .int .i64 now, .int .i64 (seq + 1), .slice A5 pl c5], .int .i64 0]) (by simp [results, Try.results14, go_sem, List.getElem?_toArray, N0, N1, N2, N3, N4, N5, N6]) rfl (smret_ok (INP6.out.keep hksz (fun a e => hkp a.block (by have := FR.out a e; omega))) o9 (fun a e => .inl (by have := FR.out a e; omega)))
theorem psmadd (A : Option Addr) (m c : Nat) (l : List Mk) (agg wd k cap now seq : Int) (v : Int) (w : World) (hin : MIn A m c l w) (sB : I64 seq) (hmm : m ≤ 100000) : Calls Try.prog 14 #[.agg #[.int .i64 agg, .int .i64 wd, .int .i64 k, .int .i64 cap, .int .i64 now, .int .i64 seq, .slice A m c], .int .i64 v] w fun e w' => SmRet A (smAdd agg wd k cap now seq l v) w e w' := by
  rcases smvalE_two (agg := agg) (wd := wd) (k := k) (cap := cap) (now := now) (seq := seq) (l := l) with hv | hv
  · by_cases h0 : v < leastV agg
    · exact psmadd_b1 A m c l agg wd k cap now seq v w hin sB hv h0
    · by_cases h1 : 4096 < v
      · exact psmadd_b2 A m c l agg wd k cap now seq v w hin sB hv h0 h1
      · have hl := hin.len
        by_cases hm0 : 0 < m
        · have hne : l ≠ [] := fun e => by rw [e] at hl; simp at hl; omega
          by_cases hn : (mkAt l 0).n = cap
          · exact psmadd_c1 A m c l agg wd k cap now seq v w hin sB hv h0 h1 hm0 hn (.inl ⟨hne, hn⟩)
          · by_cases hs : seq = 1099511627776
            · exact psmadd_c2 A m c l agg wd k cap now seq v w hin sB hv h0 h1 hm0 hn hs (.inr hs)
            · exact psmadd_d1 A m c l agg wd k cap now seq v w hin sB hv h0 h1 hmm hm0 hn hs (fun a => a.elim (fun a => hn a.2) hs)
        · obtain rfl : m = 0 := by omega
          have he : l = [] := by simpa using hl
          by_cases hs : seq = 1099511627776
          · exact psmadd_c3 A c l agg wd k cap now seq v w hin sB hv h0 h1 hs (.inr hs)
          · exact psmadd_d0 A c l agg wd k cap now seq v w hin sB hv h0 h1 hs (fun a => a.elim (fun a => a.1 he) hs)
  · exact psmadd_a A m c l agg wd k cap now seq v w hin sB hv
end Go.Proofs.Ythknkdjpfanlnaa
end
section
/- Smooth histograms: the example of the chapter, walked. -/
set_option linter.unusedVariables false
set_option linter.unusedSimpArgs false
set_option linter.unusedSectionVars false
set_option linter.unnecessarySimpa false
namespace Go.Proofs.Ythknkdjpfanlnaa
open Go.RowKit
/-- The marks of the example behind so many values. -/
def exL : Nat → List Mk
  | 0 => []
  | 1 => [⟨1, 0, 1, 1, 1, 1, 1⟩]
  | 2 => [⟨1, 0, 2, 2, 2, 1, 1⟩, ⟨2, 0, 1, 1, 1, 1, 1⟩]
  | 3 => [⟨1, 0, 3, 3, 3, 1, 1⟩, ⟨2, 0, 2, 2, 2, 1, 1⟩, ⟨3, 0, 1, 1, 1, 1, 1⟩]
  | _ => [⟨1, 0, 4, 4, 4, 1, 1⟩, ⟨3, 0, 2, 2, 2, 1, 1⟩, ⟨4, 0, 1, 1, 1, 1, 1⟩]
theorem exP0 : prune (nearB 1 1) [⟨1, 0, 1, 1, 1, 1, 1⟩] = [⟨1, 0, 1, 1, 1, 1, 1⟩] := by
  rw [prune_cons, List.drop_nil, prune_nil]
theorem exA0 : smAdd 1 9 1 100 0 0 (exL 0) 1 = ⟨1, 9, 1, 100, 0, 0 + 1, exL (0 + 1), 0⟩ := by
  have hv : smvalE 1 9 1 100 0 0 (exL 0) = 0 := by decide
  rw [smAdd_d hv (by decide) (by decide), show incl (exL 0) (0 + 1) 0 1 = [⟨1, 0, 1, 1, 1, 1, 1⟩] from rfl, exP0]
  rfl
theorem exP1 : prune (nearB 1 1) [⟨1, 0, 2, 2, 2, 1, 1⟩, ⟨2, 0, 1, 1, 1, 1, 1⟩] = [⟨1, 0, 2, 2, 2, 1, 1⟩, ⟨2, 0, 1, 1, 1, 1, 1⟩] := by
  rw [prune_cons, show List.drop (lastN (nearB 1 1 ⟨1, 0, 2, 2, 2, 1, 1⟩) ([⟨2, 0, 1, 1, 1, 1, 1⟩] : List Mk)) ([⟨2, 0, 1, 1, 1, 1, 1⟩] : List Mk) = ([⟨2, 0, 1, 1, 1, 1, 1⟩] : List Mk) from rfl]
  rw [prune_cons, List.drop_nil, prune_nil]
theorem exA1 : smAdd 1 9 1 100 0 1 (exL 1) 1 = ⟨1, 9, 1, 100, 0, 1 + 1, exL (1 + 1), 0⟩ := by
  have hv : smvalE 1 9 1 100 0 1 (exL 1) = 0 := by decide
  rw [smAdd_d hv (by decide) (by decide), show incl (exL 1) (1 + 1) 0 1 = [⟨1, 0, 2, 2, 2, 1, 1⟩, ⟨2, 0, 1, 1, 1, 1, 1⟩] from rfl, exP1]
  rfl
theorem exP2 : prune (nearB 1 1) [⟨1, 0, 3, 3, 3, 1, 1⟩, ⟨2, 0, 2, 2, 2, 1, 1⟩, ⟨3, 0, 1, 1, 1, 1, 1⟩] = [⟨1, 0, 3, 3, 3, 1, 1⟩, ⟨2, 0, 2, 2, 2, 1, 1⟩, ⟨3, 0, 1, 1, 1, 1, 1⟩] := by
  rw [prune_cons, show List.drop (lastN (nearB 1 1 ⟨1, 0, 3, 3, 3, 1, 1⟩) ([⟨2, 0, 2, 2, 2, 1, 1⟩, ⟨3, 0, 1, 1, 1, 1, 1⟩] : List Mk)) ([⟨2, 0, 2, 2, 2, 1, 1⟩, ⟨3, 0, 1, 1, 1, 1, 1⟩] : List Mk) = ([⟨2, 0, 2, 2, 2, 1, 1⟩, ⟨3, 0, 1, 1, 1, 1, 1⟩] : List Mk) from rfl]
  rw [prune_cons, show List.drop (lastN (nearB 1 1 ⟨2, 0, 2, 2, 2, 1, 1⟩) ([⟨3, 0, 1, 1, 1, 1, 1⟩] : List Mk)) ([⟨3, 0, 1, 1, 1, 1, 1⟩] : List Mk) = ([⟨3, 0, 1, 1, 1, 1, 1⟩] : List Mk) from rfl]
  rw [prune_cons, List.drop_nil, prune_nil]
theorem exA2 : smAdd 1 9 1 100 0 2 (exL 2) 1 = ⟨1, 9, 1, 100, 0, 2 + 1, exL (2 + 1), 0⟩ := by
  have hv : smvalE 1 9 1 100 0 2 (exL 2) = 0 := by decide
  rw [smAdd_d hv (by decide) (by decide), show incl (exL 2) (2 + 1) 0 1 = [⟨1, 0, 3, 3, 3, 1, 1⟩, ⟨2, 0, 2, 2, 2, 1, 1⟩, ⟨3, 0, 1, 1, 1, 1, 1⟩] from rfl, exP2]
  rfl
theorem exP3 : prune (nearB 1 1) [⟨1, 0, 4, 4, 4, 1, 1⟩, ⟨2, 0, 3, 3, 3, 1, 1⟩, ⟨3, 0, 2, 2, 2, 1, 1⟩, ⟨4, 0, 1, 1, 1, 1, 1⟩] = [⟨1, 0, 4, 4, 4, 1, 1⟩, ⟨3, 0, 2, 2, 2, 1, 1⟩, ⟨4, 0, 1, 1, 1, 1, 1⟩] := by
  rw [prune_cons, show List.drop (lastN (nearB 1 1 ⟨1, 0, 4, 4, 4, 1, 1⟩) ([⟨2, 0, 3, 3, 3, 1, 1⟩, ⟨3, 0, 2, 2, 2, 1, 1⟩, ⟨4, 0, 1, 1, 1, 1, 1⟩] : List Mk)) ([⟨2, 0, 3, 3, 3, 1, 1⟩, ⟨3, 0, 2, 2, 2, 1, 1⟩, ⟨4, 0, 1, 1, 1, 1, 1⟩] : List Mk) = ([⟨3, 0, 2, 2, 2, 1, 1⟩, ⟨4, 0, 1, 1, 1, 1, 1⟩] : List Mk) from rfl]
  rw [prune_cons, show List.drop (lastN (nearB 1 1 ⟨3, 0, 2, 2, 2, 1, 1⟩) ([⟨4, 0, 1, 1, 1, 1, 1⟩] : List Mk)) ([⟨4, 0, 1, 1, 1, 1, 1⟩] : List Mk) = ([⟨4, 0, 1, 1, 1, 1, 1⟩] : List Mk) from rfl]
  rw [prune_cons, List.drop_nil, prune_nil]
theorem exA3 : smAdd 1 9 1 100 0 3 (exL 3) 1 = ⟨1, 9, 1, 100, 0, 3 + 1, exL (3 + 1), 0⟩ := by
  have hv : smvalE 1 9 1 100 0 3 (exL 3) = 0 := by decide
  rw [smAdd_d hv (by decide) (by decide), show incl (exL 3) (3 + 1) 0 1 = [⟨1, 0, 4, 4, 4, 1, 1⟩, ⟨2, 0, 3, 3, 3, 1, 1⟩, ⟨3, 0, 2, 2, 2, 1, 1⟩, ⟨4, 0, 1, 1, 1, 1, 1⟩] from rfl, exP3]
  rfl
theorem exA : ∀ j : Nat, j < 4 → smAdd 1 9 1 100 0 (j : Int) (exL j) 1 = ⟨1, 9, 1, 100, 0, (j : Int) + 1, exL (j + 1), 0⟩
  | 0, _ => exA0
  | 1, _ => exA1
  | 2, _ => exA2
  | 3, _ => exA3
  | j + 4, h => absurd h (by omega)
theorem exL_len : ∀ j : Nat, (exL j).length ≤ 4
  | 0 => by decide
  | 1 => by decide
  | 2 => by decide
  | 3 => by decide
  | j + 4 => by show (exL 4).length ≤ 4; decide
set_option maxRecDepth 100000 in
set_option maxHeartbeats 4000000 in
theorem awake13 (w : World) : Calls Try.prog 11 #[] w fun e w' => e = .returned (.bool true) ∧ Below w.heap.size w w' := by
  go_enter Try.func11, Try.ntmps11
  go_wp2_with fail
  refine (psmnew 1 9 1 100 0 w).mono ?_
  intro e w1 hq
  obtain ⟨A0, m0, c0, rfl, in0, hb1, fr0⟩ := smret_at (show smNew 1 9 1 100 0 = ⟨1, 9, 1, 100, 0, 0, [], 0⟩ from rfl) hq
  clear hq
  go_upto_block 0 with (fail)
  have X : Row (w1.alloc (.cells #[.int .i64 1, .int .i64 9, .int .i64 1, .int .i64 100, .int .i64 0, .int .i64 0, .slice A0 m0 c0] 24)) w1.heap.size 24 #[.int .i64 1, .int .i64 9, .int .i64 1, .int .i64 100, .int .i64 0, .int .i64 0, .slice A0 m0 c0] := row_new rfl
  have o : Below w.heap.size w (w1.alloc (.cells #[.int .i64 1, .int .i64 9, .int .i64 1, .int .i64 100, .int .i64 0, .int .i64 0, .slice A0 m0 c0] 24)) := hb1.alloc hb1.size _
  replace in0 := in0.below ((Below.refl _ _).alloc (Nat.le_refl _) (.cells #[.int .i64 1, .int .i64 9, .int .i64 1, .int .i64 100, .int .i64 0, .int .i64 0, .slice A0 m0 c0] 24))
  have fr : ∀ a, A0 = some a → a.block ≠ w1.heap.size := fun a e h => by
    rcases fr0 a e with g | ⟨b, g, _⟩
    · omega
    · cases g
  have zx := hb1.size
  generalize (w1.alloc (.cells #[.int .i64 1, .int .i64 9, .int .i64 1, .int .i64 100, .int .i64 0, .int .i64 0, .slice A0 m0 c0] 24)) = w2 at X o in0 ⊢
  obtain ⟨xb, hxb⟩ : ∃ x, x = w1.heap.size := ⟨_, rfl⟩
  rw [← hxb] at X fr zx ⊢
  clear hxb fr0 hb1
  go_wp2
  go_loopw [2, 3] (fun fv i wr => ∃ (j : Nat) (A : Option Addr) (m c : Nat), j ≤ 4 ∧ fv = .int .i64 0 ∧ i = .int .i64 (j : Nat) ∧ Row wr xb 24 #[.int .i64 1, .int .i64 9, .int .i64 1, .int .i64 100, .int .i64 0, .int .i64 (j : Nat), .slice A m c] ∧ MIn A m c (exL j) wr ∧ RowKit.Hid (∀ a, A = some a → a.block ≠ xb) ∧ Below w.heap.size w wr) (fun _ i _ => 4 - (intOf i).toNat)
  case atStart => exact ⟨0, A0, m0, c0, by omega, rfl, rfl, X, in0, Lib.hid fr, o⟩
  case round =>
    clear X in0 fr o
    obtain ⟨j, A, m, c, hj, rfl, rfl, X, hin, FR, o⟩ := hrel
    have hl := hin.len
    have hlm := exL_len j
    have HIN := Lib.hid hin
    clear hin
    by_cases hlt : j < 4
    · have i1 : (j : Int) < 4 := by omega
      obtain ⟨X0, X1, X2, X3, X4, X5, X6, Xf0, Xf1, Xf2, Xf3, Xf4, Xf5, Xf6⟩ := row_seven X
      have HL := Lib.hid hl
      clear hl
      go_wp2_with fail
      refine (psmadd A m c (exL j) 1 9 1 100 0 (j : Nat) 1 _ HIN.out (by unfold I64; omega) (by have := HL.out; omega)).mono ?_
      intro e w4 hq
      obtain ⟨A2, m2, c2, rfl, in2, hb4, fr4⟩ := smret_at (exA j hlt) hq
      have zx4 := row_lt X
      clear hq X0 X1 X2 X3 X4 X5 X6 Xf0 Xf1 Xf2 Xf3 Xf4 Xf5 Xf6 HIN
      have FR2 : RowKit.Hid (∀ a, A2 = some a → a.block ≠ xb) := Lib.hid (fun a e h => by
        rcases fr4 a e with g | ⟨b, g, hb⟩
        · omega
        · exact FR.out b g (by omega))
      replace X := row_call X hb4
      replace o := o.trans (hb4.mono o.size)
      clear fr4 hb4
      obtain ⟨X0, X1, X2, X3, X4, X5, X6, Xf0, Xf1, Xf2, Xf3, Xf4, Xf5, Xf6⟩ := row_seven X
      have XR := Lib.hid X
      have IN2 := Lib.hid in2
      clear X in2
      go_upto_region 4 with (fail)
      have hbx : w.heap.size ≤ xb := by omega
      have X : Row (((((((w4.setCell ⟨xb, 0, none⟩ (.int .i64 1)).setCell ⟨xb, 1, none⟩ (.int .i64 9)).setCell ⟨xb, 2, none⟩ (.int .i64 1)).setCell ⟨xb, 3, none⟩ (.int .i64 100)).setCell ⟨xb, 4, none⟩ (.int .i64 0)).setCell ⟨xb, 5, none⟩ (.int .i64 ((j : Int) + 1))).setCell ⟨xb, 6, none⟩ (.slice A2 m2 c2)) xb 24 #[.int .i64 1, .int .i64 9, .int .i64 1, .int .i64 100, .int .i64 0, .int .i64 ((j : Int) + 1), .slice A2 m2 c2] := (row_set (row_set (row_set (row_set (row_set (row_set (row_set XR.out 0 (.int .i64 1)) 1 (.int .i64 9)) 2 (.int .i64 1)) 3 (.int .i64 100)) 4 (.int .i64 0)) 5 (.int .i64 ((j : Int) + 1))) 6 (.slice A2 m2 c2))
      replace o : Below w.heap.size w (((((((w4.setCell ⟨xb, 0, none⟩ (.int .i64 1)).setCell ⟨xb, 1, none⟩ (.int .i64 9)).setCell ⟨xb, 2, none⟩ (.int .i64 1)).setCell ⟨xb, 3, none⟩ (.int .i64 100)).setCell ⟨xb, 4, none⟩ (.int .i64 0)).setCell ⟨xb, 5, none⟩ (.int .i64 ((j : Int) + 1))).setCell ⟨xb, 6, none⟩ (.slice A2 m2 c2)) := (Below.setCell (p := ⟨xb, 6, none⟩) (Below.setCell (p := ⟨xb, 5, none⟩) (Below.setCell (p := ⟨xb, 4, none⟩) (Below.setCell (p := ⟨xb, 3, none⟩) (Below.setCell (p := ⟨xb, 2, none⟩) (Below.setCell (p := ⟨xb, 1, none⟩) (Below.setCell (p := ⟨xb, 0, none⟩) o hbx (.int .i64 1)) hbx (.int .i64 9)) hbx (.int .i64 1)) hbx (.int .i64 100)) hbx (.int .i64 0)) hbx (.int .i64 ((j : Int) + 1))) hbx (.slice A2 m2 c2))
      have hkp : ∀ b', b' ≠ xb → ((((((((w4.setCell ⟨xb, 0, none⟩ (.int .i64 1)).setCell ⟨xb, 1, none⟩ (.int .i64 9)).setCell ⟨xb, 2, none⟩ (.int .i64 1)).setCell ⟨xb, 3, none⟩ (.int .i64 100)).setCell ⟨xb, 4, none⟩ (.int .i64 0)).setCell ⟨xb, 5, none⟩ (.int .i64 ((j : Int) + 1))).setCell ⟨xb, 6, none⟩ (.slice A2 m2 c2))).heap[b']? = w4.heap[b']? := fun b' h' => ((Below.heap_setCell _ ⟨xb, 6, none⟩ (.slice A2 m2 c2) b' h').trans ((Below.heap_setCell _ ⟨xb, 5, none⟩ (.int .i64 ((j : Int) + 1)) b' h').trans ((Below.heap_setCell _ ⟨xb, 4, none⟩ (.int .i64 0) b' h').trans ((Below.heap_setCell _ ⟨xb, 3, none⟩ (.int .i64 100) b' h').trans ((Below.heap_setCell _ ⟨xb, 2, none⟩ (.int .i64 1) b' h').trans ((Below.heap_setCell _ ⟨xb, 1, none⟩ (.int .i64 9) b' h').trans ((Below.heap_setCell _ ⟨xb, 0, none⟩ (.int .i64 1) b' h').trans rfl)))))))
      have hksz : w4.heap.size ≤ ((((((((w4.setCell ⟨xb, 0, none⟩ (.int .i64 1)).setCell ⟨xb, 1, none⟩ (.int .i64 9)).setCell ⟨xb, 2, none⟩ (.int .i64 1)).setCell ⟨xb, 3, none⟩ (.int .i64 100)).setCell ⟨xb, 4, none⟩ (.int .i64 0)).setCell ⟨xb, 5, none⟩ (.int .i64 ((j : Int) + 1))).setCell ⟨xb, 6, none⟩ (.slice A2 m2 c2))).heap.size := by simp only [size_setCell]; exact Nat.le_refl _
      have in2 := Lib.hid (IN2.out.keep hksz (fun a e => hkp a.block (FR2.out a e)))
      clear hkp hksz
      generalize (((((((w4.setCell ⟨xb, 0, none⟩ (.int .i64 1)).setCell ⟨xb, 1, none⟩ (.int .i64 9)).setCell ⟨xb, 2, none⟩ (.int .i64 1)).setCell ⟨xb, 3, none⟩ (.int .i64 100)).setCell ⟨xb, 4, none⟩ (.int .i64 0)).setCell ⟨xb, 5, none⟩ (.int .i64 ((j : Int) + 1))).setCell ⟨xb, 6, none⟩ (.slice A2 m2 c2)) = w5 at X o in2 ⊢
      clear X0 X1 X2 X3 X4 X5 X6 Xf0 Xf1 Xf2 Xf3 Xf4 Xf5 Xf6 XR IN2
      go_wp2
      go_roundw
      case rel => exact ⟨j + 1, A2, m2, c2, by omega, rfl, by go_num, X, in2.out, FR2, o⟩
      case measure => simp [intOf]; omega
    · obtain rfl : j = 4 := by omega
      obtain rfl : m = 3 := by rw [← hl]; rfl
      obtain ⟨ad, rfl, hadb, ht0⟩ := HIN.out.reads.mk (i := 1) (by omega)
      have q2 : wr.cell? ⟨ad.block, ad.off + 7 + 2, none⟩ = some (.int .i64 2) := by
        have h := ht0.2.2.1
        rw [show ad.add (1 * 7) = ⟨ad.block, ad.off + 7, none⟩ from mk_lit ad 7 (by decide)] at h
        exact h
      obtain ⟨X0, X1, X2, X3, X4, X5, X6, Xf0, Xf1, Xf2, Xf3, Xf4, Xf5, Xf6⟩ := row_seven X
      clear ht0 hl hlm
      go_wp2
      go_ret
      exact ⟨rfl, o⟩
end Go.Proofs.Ythknkdjpfanlnaa
end
section
/- Smooth histograms: the law of valid states, walked. -/
set_option linter.unusedVariables false
set_option linter.unusedSimpArgs false
set_option linter.unusedSectionVars false
set_option linter.unnecessarySimpa false
namespace Go.Proofs.Ythknkdjpfanlnaa
open Go.RowKit
end Go.Proofs.Ythknkdjpfanlnaa
end
section
/- Marks of smooth histograms: marks that a later tick makes superfluous, walked. -/
set_option linter.unusedVariables false
set_option linter.unusedSimpArgs false
set_option linter.unusedSectionVars false
set_option linter.unnecessarySimpa false
namespace Go.Proofs.Ythknkdjpfanlnaa
open Go.RowKit
/-- What a call leaves that answers the marks that stay: its argument's rear part, or marks of its own. -/
def MDrop (A0 : Option Addr) (l : List Mk) (w : World) (e : Ending) (w' : World) : Prop := ∃ (A : Option Addr) (m c : Nat), e = .returned (.slice A m c) ∧ MIn A m c l w' ∧ Below w.heap.size w w' ∧ ∀ a, A = some a → (w.heap.size ≤ a.block ∧ a.block < w'.heap.size) ∨ ∃ b, A0 = some b ∧ a.block = b.block
def lenV : Value → Nat
  | .slice _ n _ => n
  | _ => 0
theorem MIn.tail {ad : Addr} {m c : Nat} {a : Mk} {l : List Mk} {w : World} (h : MIn (some ad) m c (a :: l) w) : MIn (some ⟨ad.block, ad.off + 7, none⟩) (m - 1) (c - 1) l w := by
  rw [← mk_lit ad 7 (by decide)]
  have hl := h.len
  simp at hl
  refine ⟨⟨by have := h.reads.1; rw [mcells_cons] at this; simp at this; omega, fun hn => ?_⟩, fun i => h.mB (i + 1), by have := h.mc; omega, by have := h.cB; omega⟩
  obtain ⟨ad', e', hb, hc⟩ := h.reads.2 (by omega)
  obtain rfl : ad = ad' := by injection e'
  refine ⟨_, rfl, by rw [block_of_add]; exact hb, fun j u hu => ?_⟩
  rw [add_of_add]
  exact hc (7 + j) u (by rw [mcells_cons, show 7 + j = j + 1 + 1 + 1 + 1 + 1 + 1 + 1 by omega]; simpa using hu)
theorem MIn.zero {w : World} : MIn none 0 0 [] w := ⟨by simpa [mcells_nil] using Reads.none_, fun i => by unfold mkAt; simp; exact M64_zero, Nat.le_refl _, Nat.zero_le _⟩
theorem MIn.maxL {A : Option Addr} {m c : Nat} {l : List Mk} {w : World} (h : MIn A m c l w) : m ≤ maxLen := Nat.le_trans h.mc h.cB
theorem MIn.of_own {g m c : Nat} {l : List Mk} {w : World} (h : Own w 43 7 g m c (mcells l)) (hB : ∀ i, M64 (mkAt l i)) : MIn (some ⟨g, 0, none⟩) m c l w := ⟨h.reads, hB, h.cap.1, h.cap.2⟩
set_option maxHeartbeats 2000000 in
theorem pmdrop (A : Option Addr) (m c : Nat) (l : List Mk) (now wd : Int) (w : World) (hin : MIn A m c l w) (hmm : m ≤ 1000000) (n0 : 0 ≤ now) (n1 : now ≤ 16777216) (d0 : 1 ≤ wd) (d1 : wd ≤ 1048576) (hT : ∀ x ∈ l, 0 ≤ x.t ∧ x.t ≤ now) :
    Calls Try.prog 51 #[.slice A m c, .int .i64 now, .int .i64 wd] w fun e w' => MDrop A (dropM now wd l) w e w' := by
  have HT := Lib.hid hT
  clear hT
  obtain ⟨i0, hi0, iz0, iz1, iz2⟩ := info_parts info_mk
  go_enter Try.func51, Try.ntmps51
  go_wp2
  go_loopw [0] (fun s wr => ∃ (A' : Option Addr) (m' c' : Nat) (l' : List Mk), s = .slice A' m' c' ∧ MIn A' m' c' l' w ∧ m' ≤ m ∧ RowKit.Hid (dropM now wd l' = dropM now wd l ∧ (∀ x ∈ l', x ∈ l) ∧ ∀ a, A' = some a → ∃ b, A = some b ∧ a.block = b.block) ∧ w = wr) (fun s _ => lenV s)
  case atStart => exact ⟨A, m, c, l, rfl, hin, Nat.le_refl _, Lib.hid ⟨rfl, fun x h => h, fun a e => ⟨a, e, rfl⟩⟩, rfl⟩
  case round =>
    clear hin
    obtain ⟨A', m', c', l', rfl, hin', hm', HD, rfl⟩ := hrel
    have HI := Lib.hid hin'
    have HL := Lib.hid hin'.len
    have hcm := hin'.mc
    by_cases g2 : 2 ≤ m'
    · obtain ⟨ad, rfl, hadb, ht1⟩ := hin'.reads.mk (i := 1) (by omega)
      obtain ⟨a, b, r, rfl⟩ : ∃ a b r, l' = a :: b :: r := by
        have := hin'.len
        match l', this with
        | a :: b :: r, _ => exact ⟨a, b, r, rfl⟩
        | [], h => simp at h; omega
        | [a], h => simp at h; omega
      have q1 : w.cell? ⟨ad.block, ad.off + 7 + 1, none⟩ = some (.int .i64 b.t) := by
        have h := ht1.2.1
        rw [show ad.add (1 * 7) = ⟨ad.block, ad.off + 7, none⟩ from mk_lit ad 7 (by decide)] at h
        exact h
      have htb := HT.out b (HD.out.2.1 b (by simp))
      have PL := fun w => plive now wd b.t w n0 n1 d0 d1 htb.1 htb.2
      obtain ⟨tb, hb⟩ : ∃ x, x = b.t := ⟨_, rfl⟩
      rw [← hb] at q1 PL
      have HB := Lib.hid hb
      clear hb htb ht1 hin'
      have i1 : (1 : Int) < (m' : Int) := by omega
      have i3 : (1 : Int) ≤ (m' : Int) := by omega
      have i4 : (1 : Int) ≤ (c' : Int) := by omega
      have i5 : (m' : Int) ≤ (c' : Int) := by omega
      have i2 : ((m' : Int) == 1) = false := by simp; omega
      by_cases lv : now - wd < tb
      · rw [decide_eq_true lv] at PL
        replace PL := Lib.hid PL
        have HDr : RowKit.Hid (dropM now wd (a :: b :: r) = a :: b :: r) := Lib.hid (by rw [dropM_two, if_pos (by rw [← HB.out]; exact lv)])
        clear lv
        go_wp2_with (first | (go_at_call 62; with_reducible refine (PL.out _).mono ?_; rintro e w9 ⟨rfl, h9⟩; obtain rfl := h9.symm) | (at_builtin; refine wpList_clone rfl _ _ 22 rfl 43 i0 (.agg #[.int .i64 0, .int .i64 0, .int .i64 0, .int .i64 0, .int .i64 0, .int .i64 0, .int .i64 0]) 7 56 Try.underlying22 hi0 iz0 iz1 iz2 rfl (by decide) rfl w.heap.size (some ad) m' c' (mcells (a :: b :: r)) rfl HI.out.reads (Nat.le_refl _) (mcells_one _) HI.out.maxL (by omega) ?_; intro g c2 w2 own2 hg2 hb2 hz2))
        go_ret
        exact ⟨_, _, _, rfl, by rw [← HD.out.1, HDr.out]; exact MIn.of_own own2 HI.out.mB, hb2, fun a e => .inl (by cases e; exact ⟨hg2, own2.lt⟩)⟩
      · rw [decide_eq_false lv] at PL
        replace PL := Lib.hid PL
        have HDr : RowKit.Hid (dropM now wd (a :: b :: r) = dropM now wd (b :: r)) := Lib.hid (by rw [dropM_two, if_neg (by rw [← HB.out]; exact lv)])
        clear lv
        go_wp2_with (go_at_call 62; with_reducible refine (PL.out _).mono ?_; rintro e w9 ⟨rfl, h9⟩; obtain rfl := h9.symm)
        go_roundw
        case rel => exact ⟨_, m' - 1, c' - 1, b :: r, rfl, HI.out.tail, by omega, Lib.hid ⟨HDr.out ▸ HD.out.1, fun x hx => HD.out.2.1 x (by simp [hx]), fun x e => by cases e; exact HD.out.2.2 ad rfl⟩, by trivial⟩
        case measure => simp [lenV]; omega
    · by_cases g1 : m' = 1
      · subst g1
        obtain ⟨ad, rfl, hadb, ht0⟩ := hin'.reads.mk (i := 0) (by omega)
        obtain ⟨a, rfl⟩ : ∃ a, l' = [a] := by
          have := hin'.len
          match l', this with
          | [a], _ => exact ⟨a, rfl⟩
          | [], h => exact absurd h (by simp)
          | a :: b :: r, h => exact absurd h (by simp)
        have q1 : w.cell? ⟨ad.block, ad.off + 1, none⟩ = some (.int .i64 a.t) := ht0.2.1
        have hta := HT.out a (HD.out.2.1 a (by simp))
        have PL := fun w => plive now wd a.t w n0 n1 d0 d1 hta.1 hta.2
        obtain ⟨ta, hb⟩ : ∃ x, x = a.t := ⟨_, rfl⟩
        rw [← hb] at q1 PL
        have HB := Lib.hid hb
        clear hb hta ht0 hin'
        clear g2
        by_cases lv : now - wd < ta
        · rw [decide_eq_true lv] at PL
          replace PL := Lib.hid PL
          have HDr : RowKit.Hid (dropM now wd [a] = [a]) := Lib.hid (by rw [dropM_one, if_pos (by rw [← HB.out]; exact lv)])
          clear lv
          go_wp2_with (first | (go_at_call 62; with_reducible refine (PL.out _).mono ?_; rintro e w9 ⟨rfl, h9⟩; obtain rfl := h9.symm) | (at_builtin; refine wpList_clone rfl _ _ 22 rfl 43 i0 (.agg #[.int .i64 0, .int .i64 0, .int .i64 0, .int .i64 0, .int .i64 0, .int .i64 0, .int .i64 0]) 7 56 Try.underlying22 hi0 iz0 iz1 iz2 rfl (by decide) rfl w.heap.size (some ad) 1 c' (mcells [a]) rfl HI.out.reads (Nat.le_refl _) (mcells_one _) HI.out.maxL (by omega) ?_; intro g c2 w2 own2 hg2 hb2 hz2))
          go_ret
          exact ⟨_, _, _, rfl, by rw [← HD.out.1, HDr.out]; exact MIn.of_own own2 HI.out.mB, hb2, fun a e => .inl (by cases e; exact ⟨hg2, own2.lt⟩)⟩
        · rw [decide_eq_false lv] at PL
          replace PL := Lib.hid PL
          have HDr : RowKit.Hid (dropM now wd [a] = []) := Lib.hid (by rw [dropM_one, if_neg (by rw [← HB.out]; exact lv)])
          clear lv
          go_wp2_with (go_at_call 62; with_reducible refine (PL.out _).mono ?_; rintro e w9 ⟨rfl, h9⟩; obtain rfl := h9.symm)
          go_ret
          exact ⟨_, _, _, rfl, by rw [← HD.out.1, HDr.out]; exact MIn.zero, Below.refl _ _, fun a e => by cases e⟩
      · have i1 : ¬ (1 : Int) < (m' : Int) := by omega
        have i2 : ((m' : Int) == 1) = false := by simp; omega
        obtain rfl : l' = [] := by
          have := hin'.len
          match l', this with
          | [], _ => rfl
          | a :: r, h => simp at h; omega
        have HDr : RowKit.Hid (dropM now wd [] = []) := Lib.hid (dropM_nil _ _)
        clear hin' g1 g2
        go_wp2_with (first | (at_builtin; refine wpList_clone rfl _ _ 22 rfl 43 i0 (.agg #[.int .i64 0, .int .i64 0, .int .i64 0, .int .i64 0, .int .i64 0, .int .i64 0, .int .i64 0]) 7 56 Try.underlying22 hi0 iz0 iz1 iz2 rfl (by decide) rfl w.heap.size A' m' c' (mcells []) rfl HI.out.reads (Nat.le_refl _) (mcells_one _) HI.out.maxL (by omega) ?_; intro g c2 w2 own2 hg2 hb2 hz2))
        go_ret
        exact ⟨_, _, _, rfl, by rw [← HD.out.1, HDr.out]; exact MIn.of_own own2 HI.out.mB, hb2, fun a e => .inl (by cases e; exact ⟨hg2, own2.lt⟩)⟩
end Go.Proofs.Ythknkdjpfanlnaa
end
section
/- Smooth histograms: the clock moved on, walked. -/
set_option linter.unusedVariables false
set_option linter.unusedSimpArgs false
set_option linter.unusedSectionVars false
set_option linter.unnecessarySimpa false
namespace Go.Proofs.Ythknkdjpfanlnaa
open Go.RowKit
theorem MIn.blk {A : Option Addr} {m c : Nat} {l : List Mk} {w : World} (h : MIn A m c l w) (hm : 0 < m) (a : Addr) (e : A = some a) : a.block < w.heap.size := by
  obtain ⟨ad, e', hb, _⟩ := h.reads.2 hm
  rw [e'] at e
  cases e
  exact hb
theorem MIn.keep0 {A : Option Addr} {m c : Nat} {l : List Mk} {w w' : World} (h : MIn A m c l w) (hs : w.heap.size ≤ w'.heap.size) (hk : 0 < m → ∀ a, A = some a → w'.heap[a.block]? = w.heap[a.block]?) : MIn A m c l w' := by
  refine ⟨⟨h.reads.1, fun hn => ?_⟩, h.mB, h.mc, h.cB⟩
  obtain ⟨ad, e, hb, hc⟩ := h.reads.2 hn
  exact ⟨ad, e, Nat.lt_of_lt_of_le hb hs, fun j u hu => (World.cell?_of_block (by rw [block_of_add]; exact hk hn ad e)).trans (hc j u hu)⟩
theorem pclk_yes (now tt : Int) (w : World) (n0 : 0 ≤ now) (n1 : now ≤ 16777216) (h1 : now ≤ tt) (h2 : tt ≤ 16777216) : Calls Try.prog 50 #[.int .i64 now, .int .i64 tt] w fun e w' => e = .returned (.tuple #[.int .i64 tt, .int .i64 0]) ∧ w' = w := by
  have PT := Lib.hid (fun w => ptick_2 now w n0 n1)
  clear n0 n1
  go_enter Try.func50, Try.ntmps50
  go_wp2_with (go_at_call 80; with_reducible refine (PT.out _).mono ?_; rintro e w9 ⟨rfl, h9⟩; obtain rfl := h9.symm)
  go_ret2
  exact ⟨rfl, rfl⟩
theorem pclk_no1 (now tt : Int) (w : World) (n0 : 0 ≤ now) (n1 : now ≤ 16777216) (h1 : tt < now) : Calls Try.prog 50 #[.int .i64 now, .int .i64 tt] w fun e w' => e = .returned (.tuple #[.int .i64 0, .int .i64 3]) ∧ w' = w := by
  have PT := Lib.hid (fun w => ptick_2 now w n0 n1)
  clear n0 n1
  go_enter Try.func50, Try.ntmps50
  go_wp2_with (go_at_call 80; with_reducible refine (PT.out _).mono ?_; rintro e w9 ⟨rfl, h9⟩; obtain rfl := h9.symm)
  go_ret2
  exact ⟨rfl, rfl⟩
theorem pclk_no2 (now tt : Int) (w : World) (n0 : 0 ≤ now) (n1 : now ≤ 16777216) (h0 : now ≤ tt) (h1 : 16777216 < tt) : Calls Try.prog 50 #[.int .i64 now, .int .i64 tt] w fun e w' => e = .returned (.tuple #[.int .i64 0, .int .i64 3]) ∧ w' = w := by
  have PT := Lib.hid (fun w => ptick_2 now w n0 n1)
  clear n0 n1
  go_enter Try.func50, Try.ntmps50
  go_wp2_with (go_at_call 80; with_reducible refine (PT.out _).mono ?_; rintro e w9 ⟨rfl, h9⟩; obtain rfl := h9.symm)
  go_ret2
  exact ⟨rfl, rfl⟩
theorem pclk (now tt : Int) (w : World) (n0 : 0 ≤ now) (n1 : now ≤ 16777216) : Calls Try.prog 50 #[.int .i64 now, .int .i64 tt] w fun e w' => e = .returned (.tuple #[.int .i64 (if tt < now ∨ 16777216 < tt then 0 else tt), .int .i64 (if tt < now ∨ 16777216 < tt then 3 else 0)]) ∧ w' = w := by
  by_cases h1 : tt < now
  · rw [if_pos (.inl h1), if_pos (.inl h1)]
    exact pclk_no1 now tt w n0 n1 h1
  · by_cases h2 : 16777216 < tt
    · rw [if_pos (.inr h2), if_pos (.inr h2)]
      exact pclk_no2 now tt w n0 n1 (by omega) h2
    · rw [if_neg (by omega), if_neg (by omega)]
      exact pclk_yes now tt w n0 n1 (by omega) (by omega)
theorem smTick_a {agg wd k cap now seq tt : Int} {l : List Mk} (h : smvalE agg wd k cap now seq l = 2) : smTick agg wd k cap now seq l tt = smZero 2 := by
  unfold smTick
  rw [if_neg (by omega)]
theorem smTick_b {agg wd k cap now seq tt : Int} {l : List Mk} (h : smvalE agg wd k cap now seq l = 0) (h1 : tt < now ∨ 16777216 < tt) : smTick agg wd k cap now seq l tt = smZero 3 := by
  unfold smTick
  rw [if_pos h, if_pos h1]
theorem smTick_c {agg wd k cap now seq tt : Int} {l : List Mk} (h : smvalE agg wd k cap now seq l = 0) (h1 : ¬ (tt < now ∨ 16777216 < tt)) : smTick agg wd k cap now seq l tt = ⟨agg, wd, k, cap, tt, seq, dropM tt wd l, 0⟩ := by
  unfold smTick
  rw [if_pos h, if_neg h1]
set_option maxRecDepth 100000 in
theorem psmtick_a (A : Option Addr) (m c : Nat) (l : List Mk) (agg wd k cap now seq : Int) (tt : Int) (w : World) (hin : MIn A m c l w) (sB : I64 seq) (hv : smvalE agg wd k cap now seq l = 2) : Calls Try.prog 17 #[.agg #[.int .i64 agg, .int .i64 wd, .int .i64 k, .int .i64 cap, .int .i64 now, .int .i64 seq, .slice A m c], .int .i64 tt] w fun e w' => SmRet A (smTick agg wd k cap now seq l tt) w e w' := by
  rw [smTick_a hv]
  have P := fun w' (hb : Below w.heap.size w w') => pvalS A m c l agg wd k cap now seq w' (hin.below hb) sB
  rw [hv] at P
  replace P := Lib.hid P
  clear hv hin sB
  go_enter Try.func17, Try.ntmps17
  go_wp2_with (first | (go_at_call 12; with_reducible refine (P.out _ (by (repeat (first | exact Below.refl _ _ | refine Below.setCell ?_ (by first | (simp; done) | (simp; omega) | omega) _ | refine Below.alloc ?_ (by first | (simp; done) | (simp; omega) | omega) _ | refine Below.drew ?_ | refine Below.trans ?_ (Below.mono (by assumption) (by first | (simp; done) | (simp; omega) | omega)))))).mono ?_; rintro e w1 ⟨rfl, hb1⟩; have hz1 := hb1.size; (try simp at hz1); have o1 : Below w.heap.size w w1 := (by (repeat (first | exact Below.refl _ _ | refine Below.setCell ?_ (by first | (simp; done) | (simp; omega) | omega) _ | refine Below.alloc ?_ (by first | (simp; done) | (simp; omega) | omega) _ | refine Below.drew ?_ | refine Below.trans ?_ (Below.mono (by assumption) (by first | (simp; done) | (simp; omega) | omega))))); have q1_0 : w.heap.size < w1.heap.size := (by omega); have r1_0 : Row w1 (w.heap.size) 24 #[.int .i64 agg, .int .i64 wd, .int .i64 k, .int .i64 cap, .int .i64 now, .int .i64 seq, .slice A m c] := row_call (by (repeat (first | assumption | (refine row_new ?_; (first | (simp; done) | omega)) | refine row_alloc ?_ _ | refine row_drew ?_ | refine row_call ?_ (by assumption)))) hb1; obtain ⟨c1_0a, c1_0b, c1_0c, c1_0d, c1_0e, c1_0f, c1_0g, f1_0a, f1_0b, f1_0c, f1_0d, f1_0e, f1_0f, f1_0g⟩ := row_seven r1_0; have q1_1 : w.heap.size + 1 < w1.heap.size := (by omega); have r1_1 : Row w1 (w.heap.size + 1) 24 #[.int .i64 0, .int .i64 0, .int .i64 0, .int .i64 0, .int .i64 0, .int .i64 0, .slice none 0 0] := row_call (by (repeat (first | assumption | (refine row_new ?_; (first | (simp; done) | omega)) | refine row_alloc ?_ _ | refine row_drew ?_ | refine row_call ?_ (by assumption)))) hb1; obtain ⟨c1_1a, c1_1b, c1_1c, c1_1d, c1_1e, c1_1f, c1_1g, f1_1a, f1_1b, f1_1c, f1_1d, f1_1e, f1_1f, f1_1g⟩ := row_seven r1_1))
  have hbge : w.heap.size ≤ w.heap.size + 1 := by omega
  have R9 : Row (((((((w1.setCell ⟨w.heap.size + 1, 0, none⟩ (.int .i64 0)).setCell ⟨w.heap.size + 1, 1, none⟩ (.int .i64 0)).setCell ⟨w.heap.size + 1, 2, none⟩ (.int .i64 0)).setCell ⟨w.heap.size + 1, 3, none⟩ (.int .i64 0)).setCell ⟨w.heap.size + 1, 4, none⟩ (.int .i64 0)).setCell ⟨w.heap.size + 1, 5, none⟩ (.int .i64 0)).setCell ⟨w.heap.size + 1, 6, none⟩ (.slice none 0 0)) (w.heap.size + 1) 24 #[.int .i64 0, .int .i64 0, .int .i64 0, .int .i64 0, .int .i64 0, .int .i64 0, .slice none 0 0] := (row_set (row_set (row_set (row_set (row_set (row_set (row_set r1_1 0 (.int .i64 0)) 1 (.int .i64 0)) 2 (.int .i64 0)) 3 (.int .i64 0)) 4 (.int .i64 0)) 5 (.int .i64 0)) 6 (.slice none 0 0))
  have o9 : Below w.heap.size w (((((((w1.setCell ⟨w.heap.size + 1, 0, none⟩ (.int .i64 0)).setCell ⟨w.heap.size + 1, 1, none⟩ (.int .i64 0)).setCell ⟨w.heap.size + 1, 2, none⟩ (.int .i64 0)).setCell ⟨w.heap.size + 1, 3, none⟩ (.int .i64 0)).setCell ⟨w.heap.size + 1, 4, none⟩ (.int .i64 0)).setCell ⟨w.heap.size + 1, 5, none⟩ (.int .i64 0)).setCell ⟨w.heap.size + 1, 6, none⟩ (.slice none 0 0)) := (Below.setCell (p := ⟨w.heap.size + 1, 6, none⟩) (Below.setCell (p := ⟨w.heap.size + 1, 5, none⟩) (Below.setCell (p := ⟨w.heap.size + 1, 4, none⟩) (Below.setCell (p := ⟨w.heap.size + 1, 3, none⟩) (Below.setCell (p := ⟨w.heap.size + 1, 2, none⟩) (Below.setCell (p := ⟨w.heap.size + 1, 1, none⟩) (Below.setCell (p := ⟨w.heap.size + 1, 0, none⟩) o1 hbge (.int .i64 0)) hbge (.int .i64 0)) hbge (.int .i64 0)) hbge (.int .i64 0)) hbge (.int .i64 0)) hbge (.int .i64 0)) hbge (.slice none 0 0))
  generalize (((((((w1.setCell ⟨w.heap.size + 1, 0, none⟩ (.int .i64 0)).setCell ⟨w.heap.size + 1, 1, none⟩ (.int .i64 0)).setCell ⟨w.heap.size + 1, 2, none⟩ (.int .i64 0)).setCell ⟨w.heap.size + 1, 3, none⟩ (.int .i64 0)).setCell ⟨w.heap.size + 1, 4, none⟩ (.int .i64 0)).setCell ⟨w.heap.size + 1, 5, none⟩ (.int .i64 0)).setCell ⟨w.heap.size + 1, 6, none⟩ (.slice none 0 0)) = w9 at R9 o9 ⊢
  obtain ⟨N0, N1, N2, N3, N4, N5, N6, Nf0, Nf1, Nf2, Nf3, Nf4, Nf5, Nf6⟩ := row_seven R9
  exact bodyPost_ret (v := .tuple #[.agg #[.int .i64 0, .int .i64 0, .int .i64 0, .int .i64 0, .int .i64 0, .int .i64 0, .slice none 0 0], .int .i64 2]) (by simp [results, Try.results17, go_sem, List.getElem?_toArray, N0, N1, N2, N3, N4, N5, N6]) rfl (smret_zero o9)
set_option maxRecDepth 100000 in
theorem psmtick_b (A : Option Addr) (m c : Nat) (l : List Mk) (agg wd k cap now seq : Int) (tt : Int) (w : World) (hin : MIn A m c l w) (sB : I64 seq) (hv : smvalE agg wd k cap now seq l = 0) (hto : tt < now ∨ 16777216 < tt) : Calls Try.prog 17 #[.agg #[.int .i64 agg, .int .i64 wd, .int .i64 k, .int .i64 cap, .int .i64 now, .int .i64 seq, .slice A m c], .int .i64 tt] w fun e w' => SmRet A (smTick agg wd k cap now seq l tt) w e w' := by
  rw [smTick_b hv hto]
  obtain ⟨⟨_, _, _, _, _, _, _, n0, n1⟩, _, _⟩ := of_smvalE hv
  have PC := fun w => pclk now tt w n0 n1
  simp only [if_pos hto] at PC
  replace PC := Lib.hid PC
  have P := fun w' (hb : Below w.heap.size w w') => pvalS A m c l agg wd k cap now seq w' (hin.below hb) sB
  rw [hv] at P
  replace P := Lib.hid P
  clear hv hin sB hto n0 n1
  go_enter Try.func17, Try.ntmps17
  go_wp2_with (first | (go_at_call 12; with_reducible refine (P.out _ (by (repeat (first | exact Below.refl _ _ | refine Below.setCell ?_ (by first | (simp; done) | (simp; omega) | omega) _ | refine Below.alloc ?_ (by first | (simp; done) | (simp; omega) | omega) _ | refine Below.drew ?_ | refine Below.trans ?_ (Below.mono (by assumption) (by first | (simp; done) | (simp; omega) | omega)))))).mono ?_; rintro e w1 ⟨rfl, hb1⟩; have hz1 := hb1.size; (try simp at hz1); have o1 : Below w.heap.size w w1 := (by (repeat (first | exact Below.refl _ _ | refine Below.setCell ?_ (by first | (simp; done) | (simp; omega) | omega) _ | refine Below.alloc ?_ (by first | (simp; done) | (simp; omega) | omega) _ | refine Below.drew ?_ | refine Below.trans ?_ (Below.mono (by assumption) (by first | (simp; done) | (simp; omega) | omega))))); have q1_0 : w.heap.size < w1.heap.size := (by omega); have r1_0 : Row w1 (w.heap.size) 24 #[.int .i64 agg, .int .i64 wd, .int .i64 k, .int .i64 cap, .int .i64 now, .int .i64 seq, .slice A m c] := row_call (by (repeat (first | assumption | (refine row_new ?_; (first | (simp; done) | omega)) | refine row_alloc ?_ _ | refine row_drew ?_ | refine row_call ?_ (by assumption)))) hb1; obtain ⟨c1_0a, c1_0b, c1_0c, c1_0d, c1_0e, c1_0f, c1_0g, f1_0a, f1_0b, f1_0c, f1_0d, f1_0e, f1_0f, f1_0g⟩ := row_seven r1_0; have q1_1 : w.heap.size + 1 < w1.heap.size := (by omega); have r1_1 : Row w1 (w.heap.size + 1) 24 #[.int .i64 0, .int .i64 0, .int .i64 0, .int .i64 0, .int .i64 0, .int .i64 0, .slice none 0 0] := row_call (by (repeat (first | assumption | (refine row_new ?_; (first | (simp; done) | omega)) | refine row_alloc ?_ _ | refine row_drew ?_ | refine row_call ?_ (by assumption)))) hb1; obtain ⟨c1_1a, c1_1b, c1_1c, c1_1d, c1_1e, c1_1f, c1_1g, f1_1a, f1_1b, f1_1c, f1_1d, f1_1e, f1_1f, f1_1g⟩ := row_seven r1_1) | (go_at_call 50; with_reducible refine (PC.out _).mono ?_; rintro e w9 ⟨rfl, h9⟩; obtain rfl := h9.symm))
  have hbge : w.heap.size ≤ w.heap.size + 1 := by omega
  have R9 : Row (((((((w1.setCell ⟨w.heap.size + 1, 0, none⟩ (.int .i64 0)).setCell ⟨w.heap.size + 1, 1, none⟩ (.int .i64 0)).setCell ⟨w.heap.size + 1, 2, none⟩ (.int .i64 0)).setCell ⟨w.heap.size + 1, 3, none⟩ (.int .i64 0)).setCell ⟨w.heap.size + 1, 4, none⟩ (.int .i64 0)).setCell ⟨w.heap.size + 1, 5, none⟩ (.int .i64 0)).setCell ⟨w.heap.size + 1, 6, none⟩ (.slice none 0 0)) (w.heap.size + 1) 24 #[.int .i64 0, .int .i64 0, .int .i64 0, .int .i64 0, .int .i64 0, .int .i64 0, .slice none 0 0] := (row_set (row_set (row_set (row_set (row_set (row_set (row_set r1_1 0 (.int .i64 0)) 1 (.int .i64 0)) 2 (.int .i64 0)) 3 (.int .i64 0)) 4 (.int .i64 0)) 5 (.int .i64 0)) 6 (.slice none 0 0))
  have o9 : Below w.heap.size w (((((((w1.setCell ⟨w.heap.size + 1, 0, none⟩ (.int .i64 0)).setCell ⟨w.heap.size + 1, 1, none⟩ (.int .i64 0)).setCell ⟨w.heap.size + 1, 2, none⟩ (.int .i64 0)).setCell ⟨w.heap.size + 1, 3, none⟩ (.int .i64 0)).setCell ⟨w.heap.size + 1, 4, none⟩ (.int .i64 0)).setCell ⟨w.heap.size + 1, 5, none⟩ (.int .i64 0)).setCell ⟨w.heap.size + 1, 6, none⟩ (.slice none 0 0)) := (Below.setCell (p := ⟨w.heap.size + 1, 6, none⟩) (Below.setCell (p := ⟨w.heap.size + 1, 5, none⟩) (Below.setCell (p := ⟨w.heap.size + 1, 4, none⟩) (Below.setCell (p := ⟨w.heap.size + 1, 3, none⟩) (Below.setCell (p := ⟨w.heap.size + 1, 2, none⟩) (Below.setCell (p := ⟨w.heap.size + 1, 1, none⟩) (Below.setCell (p := ⟨w.heap.size + 1, 0, none⟩) o1 hbge (.int .i64 0)) hbge (.int .i64 0)) hbge (.int .i64 0)) hbge (.int .i64 0)) hbge (.int .i64 0)) hbge (.int .i64 0)) hbge (.slice none 0 0))
  generalize (((((((w1.setCell ⟨w.heap.size + 1, 0, none⟩ (.int .i64 0)).setCell ⟨w.heap.size + 1, 1, none⟩ (.int .i64 0)).setCell ⟨w.heap.size + 1, 2, none⟩ (.int .i64 0)).setCell ⟨w.heap.size + 1, 3, none⟩ (.int .i64 0)).setCell ⟨w.heap.size + 1, 4, none⟩ (.int .i64 0)).setCell ⟨w.heap.size + 1, 5, none⟩ (.int .i64 0)).setCell ⟨w.heap.size + 1, 6, none⟩ (.slice none 0 0)) = w9 at R9 o9 ⊢
  obtain ⟨N0, N1, N2, N3, N4, N5, N6, Nf0, Nf1, Nf2, Nf3, Nf4, Nf5, Nf6⟩ := row_seven R9
  exact bodyPost_ret (v := .tuple #[.agg #[.int .i64 0, .int .i64 0, .int .i64 0, .int .i64 0, .int .i64 0, .int .i64 0, .slice none 0 0], .int .i64 3]) (by simp [results, Try.results17, go_sem, List.getElem?_toArray, N0, N1, N2, N3, N4, N5, N6]) rfl (smret_zero o9)
set_option maxRecDepth 100000 in
set_option maxHeartbeats 4000000 in
theorem psmtick_c (A : Option Addr) (m c : Nat) (l : List Mk) (agg wd k cap now seq : Int) (tt : Int) (w : World) (hin : MIn A m c l w) (sB : I64 seq) (hmm : m ≤ 100000) (hv : smvalE agg wd k cap now seq l = 0) (hto : ¬ (tt < now ∨ 16777216 < tt)) : Calls Try.prog 17 #[.agg #[.int .i64 agg, .int .i64 wd, .int .i64 k, .int .i64 cap, .int .i64 now, .int .i64 seq, .slice A m c], .int .i64 tt] w fun e w' => SmRet A (smTick agg wd k cap now seq l tt) w e w' := by
  rw [smTick_c hv hto]
  obtain ⟨⟨_, d0, d1, _, _, _, _, n0, n1⟩, hMV, _⟩ := of_smvalE hv
  have HT := Lib.hid (show ∀ x ∈ l, 0 ≤ x.t ∧ x.t ≤ tt from fun x hx => by
    have := (mvalid_iff.1 hMV).2.one x hx
    have h5 := this.2.2.2.2.1
    have h6 := this.2.2.2.2.2.1
    omega)
  have PC := fun w => pclk now tt w n0 n1
  simp only [if_neg hto] at PC
  replace PC := Lib.hid PC
  have HR := Lib.hid hin
  have HFB := Lib.hid (fun h a e => hin.blk h a e)
  have P := fun w' (hb : Below w.heap.size w w') => pvalS A m c l agg wd k cap now seq w' (hin.below hb) sB
  rw [hv] at P
  replace P := Lib.hid P
  have t0 : 0 ≤ tt := by omega
  have t1 : tt ≤ 16777216 := by omega
  clear hv hin sB hto hMV
  go_enter Try.func17, Try.ntmps17
  go_upto_region 7 with (first | (go_at_call 12; with_reducible refine (P.out _ (by (repeat (first | exact Below.refl _ _ | refine Below.setCell ?_ (by first | (simp; done) | (simp; omega) | omega) _ | refine Below.alloc ?_ (by first | (simp; done) | (simp; omega) | omega) _ | refine Below.drew ?_ | refine Below.trans ?_ (Below.mono (by assumption) (by first | (simp; done) | (simp; omega) | omega)))))).mono ?_; rintro e w1 ⟨rfl, hb1⟩; have hz1 := hb1.size; (try simp at hz1); have o1 : Below w.heap.size w w1 := (by (repeat (first | exact Below.refl _ _ | refine Below.setCell ?_ (by first | (simp; done) | (simp; omega) | omega) _ | refine Below.alloc ?_ (by first | (simp; done) | (simp; omega) | omega) _ | refine Below.drew ?_ | refine Below.trans ?_ (Below.mono (by assumption) (by first | (simp; done) | (simp; omega) | omega))))); have q1_0 : w.heap.size < w1.heap.size := (by omega); have r1_0 : Row w1 (w.heap.size) 24 #[.int .i64 agg, .int .i64 wd, .int .i64 k, .int .i64 cap, .int .i64 now, .int .i64 seq, .slice A m c] := row_call (by (repeat (first | assumption | (refine row_new ?_; (first | (simp; done) | omega)) | refine row_alloc ?_ _ | refine row_drew ?_ | refine row_call ?_ (by assumption)))) hb1; obtain ⟨c1_0a, c1_0b, c1_0c, c1_0d, c1_0e, c1_0f, c1_0g, f1_0a, f1_0b, f1_0c, f1_0d, f1_0e, f1_0f, f1_0g⟩ := row_seven r1_0; have q1_1 : w.heap.size + 1 < w1.heap.size := (by omega); have r1_1 : Row w1 (w.heap.size + 1) 24 #[.int .i64 0, .int .i64 0, .int .i64 0, .int .i64 0, .int .i64 0, .int .i64 0, .slice none 0 0] := row_call (by (repeat (first | assumption | (refine row_new ?_; (first | (simp; done) | omega)) | refine row_alloc ?_ _ | refine row_drew ?_ | refine row_call ?_ (by assumption)))) hb1; obtain ⟨c1_1a, c1_1b, c1_1c, c1_1d, c1_1e, c1_1f, c1_1g, f1_1a, f1_1b, f1_1c, f1_1d, f1_1e, f1_1f, f1_1g⟩ := row_seven r1_1) | (go_at_call 50; with_reducible refine (PC.out _).mono ?_; rintro e w9 ⟨rfl, h9⟩; obtain rfl := h9.symm))
  clear P PC c1_0a c1_0b c1_0c c1_0d c1_0e c1_0f c1_0g f1_0a f1_0b f1_0c f1_0d f1_0e f1_0f f1_0g c1_1a c1_1b c1_1c c1_1d c1_1e c1_1f c1_1g f1_1a f1_1b f1_1c f1_1d f1_1e f1_1f f1_1g
  obtain ⟨X0, X1, X2, X3, X4, X5, X6, Xf0, Xf1, Xf2, Xf3, Xf4, Xf5, Xf6⟩ := row_seven r1_0
  have KR := Lib.hid r1_0
  clear r1_0
  go_upto_region 8 with (fail)
  have X : Row (w1.setCell ⟨w.heap.size, 4, none⟩ (.int .i64 tt)) (w.heap.size) 24 #[.int .i64 agg, .int .i64 wd, .int .i64 k, .int .i64 cap, .int .i64 tt, .int .i64 seq, .slice A m c] := row_set KR.out 4 _
  have R : Row (w1.setCell ⟨w.heap.size, 4, none⟩ (.int .i64 tt)) (w.heap.size + 1) 24 #[.int .i64 0, .int .i64 0, .int .i64 0, .int .i64 0, .int .i64 0, .int .i64 0, .slice none 0 0] := row_other (p := ⟨w.heap.size, 4, none⟩) r1_1 (by show w.heap.size + 1 ≠ w.heap.size; omega) _
  have o : Below w.heap.size w (w1.setCell ⟨w.heap.size, 4, none⟩ (.int .i64 tt)) := o1.setCell (p := ⟨w.heap.size, 4, none⟩) (Nat.le_refl _) _
  generalize w1.setCell ⟨w.heap.size, 4, none⟩ (.int .i64 tt) = w3 at X R o ⊢
  clear X0 X1 X2 X3 X4 X5 X6 Xf0 Xf1 Xf2 Xf3 Xf4 Xf5 Xf6 KR o1 r1_1
  obtain ⟨X0, X1, X2, X3, X4, X5, X6, Xf0, Xf1, Xf2, Xf3, Xf4, Xf5, Xf6⟩ := row_seven X
  go_wp2_with fail
  refine (pmdrop A m c l tt wd w3 (HR.out.below o) (by omega) t0 t1 d0 d1 HT.out).mono ?_
  rintro e w4 ⟨A5, m5, c5, rfl, inA, hb4, fr4⟩
  have z3 := row_lt R
  clear X0 X1 X2 X3 X4 X5 X6 Xf0 Xf1 Xf2 Xf3 Xf4 Xf5 Xf6
  replace X := row_call X hb4
  replace R := row_call R hb4
  have z4 := hb4.size
  have o3 := o.size
  replace o := o.trans (hb4.mono o.size)
  have IN := Lib.hid inA
  have XB0 := Lib.hid (show 0 < m5 → ∀ a, A5 = some a → a.block ≠ w.heap.size ∧ a.block ≠ w.heap.size + 1 from fun h a e => by
    rcases fr4 a e with g | ⟨b, eb, g⟩
    · omega
    · have hl := inA.len
      have hm0 : 0 < m := by
        rcases Nat.eq_zero_or_pos m with h0 | h0
        · exfalso
          have h1 := HR.out.len
          have h2 : l = [] := List.eq_nil_of_length_eq_zero (by omega)
          rw [h2, dropM_nil] at hl
          simp at hl
          omega
        · exact h0
      have := HFB.out hm0 b eb
      omega)
  have FR := Lib.hid (show ∀ a, A5 = some a → (w.heap.size ≤ a.block ∧ a.block < w4.heap.size) ∨ ∃ b, A = some b ∧ a.block = b.block from fun a e => by
    rcases fr4 a e with g | g
    · exact .inl (by omega)
    · exact .inr g)
  clear hb4 inA fr4
  obtain ⟨X0, X1, X2, X3, X4, X5, X6, Xf0, Xf1, Xf2, Xf3, Xf4, Xf5, Xf6⟩ := row_seven X
  obtain ⟨R0, R1, R2, R3, R4, R5, R6, Rf0, Rf1, Rf2, Rf3, Rf4, Rf5, Rf6⟩ := row_seven R
  have XR := Lib.hid X
  have RR := Lib.hid R
  clear X R
  go_upto_region 9 with (fail)
  have X : Row (w4.setCell ⟨w.heap.size, 6, none⟩ (.slice A5 m5 c5)) (w.heap.size) 24 #[.int .i64 agg, .int .i64 wd, .int .i64 k, .int .i64 cap, .int .i64 tt, .int .i64 seq, .slice A5 m5 c5] := (row_set XR.out 6 (.slice A5 m5 c5))
  have R : Row (w4.setCell ⟨w.heap.size, 6, none⟩ (.slice A5 m5 c5)) (w.heap.size + 1) 24 #[.int .i64 0, .int .i64 0, .int .i64 0, .int .i64 0, .int .i64 0, .int .i64 0, .slice none 0 0] := (row_other (p := ⟨w.heap.size, 6, none⟩) RR.out (by show w.heap.size + 1 ≠ w.heap.size; omega) (.slice A5 m5 c5))
  have o6 : Below w.heap.size w (w4.setCell ⟨w.heap.size, 6, none⟩ (.slice A5 m5 c5)) := (Below.setCell (p := ⟨w.heap.size, 6, none⟩) o (Nat.le_refl _) (.slice A5 m5 c5))
  have hkp6 : ∀ b', b' ≠ w.heap.size → ((w4.setCell ⟨w.heap.size, 6, none⟩ (.slice A5 m5 c5))).heap[b']? = w4.heap[b']? := fun b' h' => ((Below.heap_setCell _ ⟨w.heap.size, 6, none⟩ (.slice A5 m5 c5) b' h').trans rfl)
  have hs6 : w4.heap.size ≤ ((w4.setCell ⟨w.heap.size, 6, none⟩ (.slice A5 m5 c5))).heap.size := by simp only [size_setCell]; exact Nat.le_refl _
  have IN6 := Lib.hid (IN.out.keep0 hs6 (fun h a e => hkp6 a.block (XB0.out h a e).1))
  clear hkp6
  generalize (w4.setCell ⟨w.heap.size, 6, none⟩ (.slice A5 m5 c5)) = w6 at X R o6 hs6 IN6 ⊢
  clear X0 X1 X2 X3 X4 X5 X6 Xf0 Xf1 Xf2 Xf3 Xf4 Xf5 Xf6 R0 R1 R2 R3 R4 R5 R6 Rf0 Rf1 Rf2 Rf3 Rf4 Rf5 Rf6 XR RR IN o
  obtain ⟨X0, X1, X2, X3, X4, X5, X6, Xf0, Xf1, Xf2, Xf3, Xf4, Xf5, Xf6⟩ := row_seven X
  obtain ⟨R0, R1, R2, R3, R4, R5, R6, Rf0, Rf1, Rf2, Rf3, Rf4, Rf5, Rf6⟩ := row_seven R
  go_wp2
  have hbge : w.heap.size ≤ w.heap.size + 1 := by omega
  have hkp : ∀ b', b' ≠ w.heap.size + 1 → ((((((((w6.setCell ⟨w.heap.size + 1, 0, none⟩ (.int .i64 agg)).setCell ⟨w.heap.size + 1, 1, none⟩ (.int .i64 wd)).setCell ⟨w.heap.size + 1, 2, none⟩ (.int .i64 k)).setCell ⟨w.heap.size + 1, 3, none⟩ (.int .i64 cap)).setCell ⟨w.heap.size + 1, 4, none⟩ (.int .i64 tt)).setCell ⟨w.heap.size + 1, 5, none⟩ (.int .i64 seq)).setCell ⟨w.heap.size + 1, 6, none⟩ (.slice A5 m5 c5))).heap[b']? = w6.heap[b']? := fun b' h' => ((Below.heap_setCell _ ⟨w.heap.size + 1, 6, none⟩ (.slice A5 m5 c5) b' h').trans ((Below.heap_setCell _ ⟨w.heap.size + 1, 5, none⟩ (.int .i64 seq) b' h').trans ((Below.heap_setCell _ ⟨w.heap.size + 1, 4, none⟩ (.int .i64 tt) b' h').trans ((Below.heap_setCell _ ⟨w.heap.size + 1, 3, none⟩ (.int .i64 cap) b' h').trans ((Below.heap_setCell _ ⟨w.heap.size + 1, 2, none⟩ (.int .i64 k) b' h').trans ((Below.heap_setCell _ ⟨w.heap.size + 1, 1, none⟩ (.int .i64 wd) b' h').trans ((Below.heap_setCell _ ⟨w.heap.size + 1, 0, none⟩ (.int .i64 agg) b' h').trans rfl)))))))
  have hksz : w6.heap.size ≤ ((((((((w6.setCell ⟨w.heap.size + 1, 0, none⟩ (.int .i64 agg)).setCell ⟨w.heap.size + 1, 1, none⟩ (.int .i64 wd)).setCell ⟨w.heap.size + 1, 2, none⟩ (.int .i64 k)).setCell ⟨w.heap.size + 1, 3, none⟩ (.int .i64 cap)).setCell ⟨w.heap.size + 1, 4, none⟩ (.int .i64 tt)).setCell ⟨w.heap.size + 1, 5, none⟩ (.int .i64 seq)).setCell ⟨w.heap.size + 1, 6, none⟩ (.slice A5 m5 c5))).heap.size := by simp only [size_setCell]; exact Nat.le_refl _
  have R9 : Row (((((((w6.setCell ⟨w.heap.size + 1, 0, none⟩ (.int .i64 agg)).setCell ⟨w.heap.size + 1, 1, none⟩ (.int .i64 wd)).setCell ⟨w.heap.size + 1, 2, none⟩ (.int .i64 k)).setCell ⟨w.heap.size + 1, 3, none⟩ (.int .i64 cap)).setCell ⟨w.heap.size + 1, 4, none⟩ (.int .i64 tt)).setCell ⟨w.heap.size + 1, 5, none⟩ (.int .i64 seq)).setCell ⟨w.heap.size + 1, 6, none⟩ (.slice A5 m5 c5)) (w.heap.size + 1) 24 #[.int .i64 agg, .int .i64 wd, .int .i64 k, .int .i64 cap, .int .i64 tt, .int .i64 seq, .slice A5 m5 c5] := (row_set (row_set (row_set (row_set (row_set (row_set (row_set R 0 (.int .i64 agg)) 1 (.int .i64 wd)) 2 (.int .i64 k)) 3 (.int .i64 cap)) 4 (.int .i64 tt)) 5 (.int .i64 seq)) 6 (.slice A5 m5 c5))
  have o9 : Below w.heap.size w (((((((w6.setCell ⟨w.heap.size + 1, 0, none⟩ (.int .i64 agg)).setCell ⟨w.heap.size + 1, 1, none⟩ (.int .i64 wd)).setCell ⟨w.heap.size + 1, 2, none⟩ (.int .i64 k)).setCell ⟨w.heap.size + 1, 3, none⟩ (.int .i64 cap)).setCell ⟨w.heap.size + 1, 4, none⟩ (.int .i64 tt)).setCell ⟨w.heap.size + 1, 5, none⟩ (.int .i64 seq)).setCell ⟨w.heap.size + 1, 6, none⟩ (.slice A5 m5 c5)) := (Below.setCell (p := ⟨w.heap.size + 1, 6, none⟩) (Below.setCell (p := ⟨w.heap.size + 1, 5, none⟩) (Below.setCell (p := ⟨w.heap.size + 1, 4, none⟩) (Below.setCell (p := ⟨w.heap.size + 1, 3, none⟩) (Below.setCell (p := ⟨w.heap.size + 1, 2, none⟩) (Below.setCell (p := ⟨w.heap.size + 1, 1, none⟩) (Below.setCell (p := ⟨w.heap.size + 1, 0, none⟩) o6 hbge (.int .i64 agg)) hbge (.int .i64 wd)) hbge (.int .i64 k)) hbge (.int .i64 cap)) hbge (.int .i64 tt)) hbge (.int .i64 seq)) hbge (.slice A5 m5 c5))
  generalize (((((((w6.setCell ⟨w.heap.size + 1, 0, none⟩ (.int .i64 agg)).setCell ⟨w.heap.size + 1, 1, none⟩ (.int .i64 wd)).setCell ⟨w.heap.size + 1, 2, none⟩ (.int .i64 k)).setCell ⟨w.heap.size + 1, 3, none⟩ (.int .i64 cap)).setCell ⟨w.heap.size + 1, 4, none⟩ (.int .i64 tt)).setCell ⟨w.heap.size + 1, 5, none⟩ (.int .i64 seq)).setCell ⟨w.heap.size + 1, 6, none⟩ (.slice A5 m5 c5)) = w9 at R9 o9 hkp hksz ⊢
  obtain ⟨N0, N1, N2, N3, N4, N5, N6, Nf0, Nf1, Nf2, Nf3, Nf4, Nf5, Nf6⟩ := row_seven R9
  exact bodyPost_ret (v := .tuple #[.agg #[.int .i64 agg, .int .i64 wd, .int .i64 k, .int .i64 cap, .int .i64 tt, .int .i64 seq, .slice A5 m5 c5], .int .i64 0]) (by simp [results, Try.results17, go_sem, List.getElem?_toArray, N0, N1, N2, N3, N4, N5, N6]) rfl (smret_ok (IN6.out.keep0 hksz (fun h a e => hkp a.block (XB0.out h a e).2)) o9 (fun a e => (FR.out a e).imp (fun g => ⟨g.1, by omega⟩) (fun g => g)))
theorem psmtick (A : Option Addr) (m c : Nat) (l : List Mk) (agg wd k cap now seq : Int) (tt : Int) (w : World) (hin : MIn A m c l w) (sB : I64 seq) (hmm : m ≤ 100000) : Calls Try.prog 17 #[.agg #[.int .i64 agg, .int .i64 wd, .int .i64 k, .int .i64 cap, .int .i64 now, .int .i64 seq, .slice A m c], .int .i64 tt] w fun e w' => SmRet A (smTick agg wd k cap now seq l tt) w e w' := by
  rcases smvalE_two (agg := agg) (wd := wd) (k := k) (cap := cap) (now := now) (seq := seq) (l := l) with hv | hv
  · by_cases hto : tt < now ∨ 16777216 < tt
    · exact psmtick_b A m c l agg wd k cap now seq tt w hin sB hv hto
    · exact psmtick_c A m c l agg wd k cap now seq tt w hin sB hmm hv hto
  · exact psmtick_a A m c l agg wd k cap now seq tt w hin sB hv
end Go.Proofs.Ythknkdjpfanlnaa
end
section
/- Marks of smooth histograms: equal lists, walked. -/
set_option linter.unusedVariables false
set_option linter.unusedSimpArgs false
set_option linter.unusedSectionVars false
set_option linter.unnecessarySimpa false
namespace Go.Proofs.Ythknkdjpfanlnaa
open Go.RowKit
end Go.Proofs.Ythknkdjpfanlnaa
end
section
/- Smooth histograms: equal states; the law of a tick, walked. -/
set_option linter.unusedVariables false
set_option linter.unusedSimpArgs false
set_option linter.unusedSectionVars false
set_option linter.unnecessarySimpa false
namespace Go.Proofs.Ythknkdjpfanlnaa
open Go.RowKit
end Go.Proofs.Ythknkdjpfanlnaa
end
section
/- What makes arguments out of any numbers, walked. -/
set_option linter.unusedVariables false
set_option linter.unusedSimpArgs false
set_option linter.unusedSectionVars false
set_option linter.unnecessarySimpa false
namespace Go.Proofs.Ythknkdjpfanlnaa
open Go.RowKit
theorem tmod_mod {a n : Int} (hn : 1 ≤ n) : a % n = if a.tmod n < 0 then a.tmod n + n else a.tmod n := by
  rw [Int.tmod_eq_emod]
  have h0 := Int.emod_nonneg a (show n ≠ 0 by omega)
  have h1 := Int.emod_lt_of_pos a (show 0 < n by omega)
  have hd : n.natAbs = n := by omega
  split
  · rw [if_neg (by omega)]
    omega
  · rename_i h
    rw [not_or] at h
    have h2 : a % n ≠ 0 := fun e => h.2 (Int.dvd_of_emod_eq_zero e)
    rw [if_pos (by omega)]
    omega
theorem tmod_bd {a n : Int} (hn : 1 ≤ n) : -n < a.tmod n ∧ a.tmod n < n := by
  have := tmod_mod (a := a) hn
  have h0 := Int.emod_nonneg a (show n ≠ 0 by omega)
  have h1 := Int.emod_lt_of_pos a (show 0 < n by omega)
  rw [Int.tmod_eq_emod]
  have hd : n.natAbs = n := by omega
  split
  · omega
  · rename_i h
    rw [not_or] at h
    have h2 : a % n ≠ 0 := fun e => h.2 (Int.dvd_of_emod_eq_zero e)
    omega
theorem pmod (a n : Int) (hn : 1 ≤ n) (hn2 : n ≤ 4611686018427387904) (w : World) : Calls Try.prog 30 #[.int .i64 a, .int .i64 n] w fun e w' => e = .returned (.int .i64 (a % n)) ∧ w' = w := by
  rw [tmod_mod hn]
  have hb := tmod_bd (a := a) hn
  have hz : n ≠ 0 := by omega
  have hm1 : ¬ n = -1 := by omega
  obtain ⟨b1, b2⟩ := hb
  have hw : IntKind.i64.wrap (a.tmod n) = a.tmod n := IntWalk.i64_in _ (by omega)
  by_cases h : a.tmod n < 0
  · rw [if_pos h]
    have hw2 : IntKind.i64.wrap (a.tmod n + n) = a.tmod n + n := IntWalk.i64_in _ (by omega)
    go_enter Try.func30, Try.ntmps30
    go_wp2
    go_ret
    exact ⟨by first | rfl | simp_all, rfl⟩
  · rw [if_neg h]
    have h' : 0 ≤ a.tmod n := by omega
    go_enter Try.func30, Try.ntmps30
    go_wp2
    go_ret
    exact ⟨by first | rfl | simp_all, rfl⟩
theorem pint (a n : Int) (hn : 1 ≤ n) (hn2 : n ≤ 4611686018427387904) (w : World) : Calls Try.prog 19 #[.int .i64 a, .int .i64 n] w fun e w' => e = .returned (.int .i64 (a % n)) ∧ w' = w := by
  have PM := Lib.hid (fun w => pmod a n hn hn2 w)
  have h0 := Int.emod_nonneg a (show n ≠ 0 by omega)
  have h1 := Int.emod_lt_of_pos a (show 0 < n by omega)
  generalize a % n = r at PM h0 h1 ⊢
  go_enter Try.func19, Try.ntmps19
  go_wp2_with (go_at_call 30; with_reducible refine (PM.out _).mono ?_; rintro e w9 ⟨rfl, rfl⟩)
  go_ret
  exact ⟨rfl, rfl⟩
/-- The value that a number is turned into. -/
def mval (a : Int) : Int := if a % 8 = 0 then a.tdiv 8 % 8193 - 4096 else if a % 8 = 1 then 4096 * (2 * (a.tdiv 8 % 2) - 1) else a.tdiv 8 % 13 - 6
theorem mval_bd (a : Int) : -4096 ≤ mval a ∧ mval a ≤ 4096 := by unfold mval; split <;> (try split) <;> omega
/-- The step of the clock that a number is turned into. -/
def mgap (a w : Int) : Int := if a % 8 = 0 then a.tdiv 8 % (2 * w + 2) else if a % 8 = 1 ∨ a % 8 = 2 then 1 + a.tdiv 8 % 3 else 0
theorem mgap_bd (a : Int) {w : Int} (hw : 1 ≤ w) : 0 ≤ mgap a w ∧ mgap a w ≤ 2 * w + 1 := by
  unfold mgap
  have h0 := Int.emod_nonneg (a.tdiv 8) (show 2 * w + 2 ≠ 0 by omega)
  have h1 := Int.emod_lt_of_pos (a.tdiv 8) (show 0 < 2 * w + 2 by omega)
  split <;> (try split) <;> omega
theorem tdiv8_bd {a : Int} (h : -9223372036854775808 ≤ a ∧ a ≤ 9223372036854775807) : -9223372036854775808 ≤ a.tdiv 8 ∧ a.tdiv 8 ≤ 9223372036854775807 := by
  rw [Int.tdiv_eq_ediv, show Int.sign 8 = 1 from rfl]
  split <;> omega
theorem pval_0 (a : Int) (ha : -9223372036854775808 ≤ a ∧ a ≤ 9223372036854775807) (h : a % 8 = 0) (w0 : World) : Calls Try.prog 82 #[.int .i64 a] w0 fun e w' => e = .returned (.int .i64 (mval a)) ∧ w' = w0 := by
  rw [mval, if_pos h]
  have hbb := tdiv8_bd ha
  have hw : IntKind.i64.wrap (a.tdiv 8) = a.tdiv 8 := IntWalk.i64_in _ hbb
  have P8 := fun w => pmod a 8 (by decide) (by decide) w
  rw [h] at P8
  have PB := fun w => pmod (a.tdiv 8) 8193 (by decide) (by decide) w
  have b0 := Int.emod_nonneg (a.tdiv 8) (show (8193 : Int) ≠ 0 by decide)
  have b1 := Int.emod_lt_of_pos (a.tdiv 8) (show (0 : Int) < 8193 by decide)
  generalize a.tdiv 8 % 8193 = q at PB b0 b1 ⊢
  have P8 := Lib.hid P8
  have PB := Lib.hid PB
  clear h hbb
  go_enter Try.func82, Try.ntmps82
  go_wp2_with (first | (go_at_call 30; with_reducible refine (P8.out _).mono ?_; rintro e w9 ⟨rfl, rfl⟩) | (go_at_call 30; with_reducible refine (PB.out _).mono ?_; rintro e w9 ⟨rfl, rfl⟩))
  go_ret
  exact ⟨rfl, rfl⟩
theorem pval_1 (a : Int) (ha : -9223372036854775808 ≤ a ∧ a ≤ 9223372036854775807) (h0 : ¬ a % 8 = 0) (h : a % 8 = 1) (w0 : World) : Calls Try.prog 82 #[.int .i64 a] w0 fun e w' => e = .returned (.int .i64 (mval a)) ∧ w' = w0 := by
  rw [mval, if_neg h0, if_pos h]
  have hbb := tdiv8_bd ha
  have hw : IntKind.i64.wrap (a.tdiv 8) = a.tdiv 8 := IntWalk.i64_in _ hbb
  have P8 := fun w => pmod a 8 (by decide) (by decide) w
  rw [h] at P8
  have PB := fun w => pmod (a.tdiv 8) 2 (by decide) (by decide) w
  have b0 := Int.emod_nonneg (a.tdiv 8) (show (2 : Int) ≠ 0 by decide)
  have b1 := Int.emod_lt_of_pos (a.tdiv 8) (show (0 : Int) < 2 by decide)
  generalize a.tdiv 8 % 2 = q at PB b0 b1 ⊢
  have P8 := Lib.hid P8
  have PB := Lib.hid PB
  clear h0 h hbb
  go_enter Try.func82, Try.ntmps82
  go_wp2_with (first | (go_at_call 30; with_reducible refine (P8.out _).mono ?_; rintro e w9 ⟨rfl, rfl⟩) | (go_at_call 30; with_reducible refine (PB.out _).mono ?_; rintro e w9 ⟨rfl, rfl⟩))
  go_ret
  exact ⟨rfl, rfl⟩
theorem pval_2 (a : Int) (ha : -9223372036854775808 ≤ a ∧ a ≤ 9223372036854775807) (h0 : ¬ a % 8 = 0) (h : ¬ a % 8 = 1) (w0 : World) : Calls Try.prog 82 #[.int .i64 a] w0 fun e w' => e = .returned (.int .i64 (mval a)) ∧ w' = w0 := by
  rw [mval, if_neg h0, if_neg h]
  have hbb := tdiv8_bd ha
  have hw : IntKind.i64.wrap (a.tdiv 8) = a.tdiv 8 := IntWalk.i64_in _ hbb
  have P8 := fun w => pmod a 8 (by decide) (by decide) w
  generalize a % 8 = r8 at P8 h0 h
  have c0 : (r8 == 0) = false := by simpa using h0
  have c1 : (r8 == 1) = false := by simpa using h
  have PB := fun w => pmod (a.tdiv 8) 13 (by decide) (by decide) w
  have b0 := Int.emod_nonneg (a.tdiv 8) (show (13 : Int) ≠ 0 by decide)
  have b1 := Int.emod_lt_of_pos (a.tdiv 8) (show (0 : Int) < 13 by decide)
  generalize a.tdiv 8 % 13 = q at PB b0 b1 ⊢
  have P8 := Lib.hid P8
  have PB := Lib.hid PB
  clear h0 h hbb
  go_enter Try.func82, Try.ntmps82
  go_wp2_with (first | (go_at_call 30; with_reducible refine (P8.out _).mono ?_; rintro e w9 ⟨rfl, rfl⟩) | (go_at_call 30; with_reducible refine (PB.out _).mono ?_; rintro e w9 ⟨rfl, rfl⟩))
  go_ret
  exact ⟨rfl, rfl⟩
theorem pval (a : Int) (ha : -9223372036854775808 ≤ a ∧ a ≤ 9223372036854775807) (w : World) : Calls Try.prog 82 #[.int .i64 a] w fun e w' => e = .returned (.int .i64 (mval a)) ∧ w' = w := by
  by_cases h0 : a % 8 = 0
  · exact pval_0 a ha h0 w
  · by_cases h1 : a % 8 = 1
    · exact pval_1 a ha h0 h1 w
    · exact pval_2 a ha h0 h1 w
theorem pgap_0 (a : Int) (w : Int) (hw1 : 1 ≤ w) (hw2 : w ≤ 1048576) (ha : -9223372036854775808 ≤ a ∧ a ≤ 9223372036854775807) (h : a % 8 = 0) (w0 : World) : Calls Try.prog 81 #[.int .i64 a, .int .i64 w] w0 fun e w' => e = .returned (.int .i64 (mgap a w)) ∧ w' = w0 := by
  rw [mgap, if_pos h]
  have hbb := tdiv8_bd ha
  have hw : IntKind.i64.wrap (a.tdiv 8) = a.tdiv 8 := IntWalk.i64_in _ hbb
  have P8 := fun w => pmod a 8 (by decide) (by decide) w
  rw [h] at P8
  have PB := fun w' => pmod (a.tdiv 8) (2 * w + 2) (by omega) (by omega) w'
  have b0 := Int.emod_nonneg (a.tdiv 8) (show ((2 * w + 2) : Int) ≠ 0 by omega)
  have b1 := Int.emod_lt_of_pos (a.tdiv 8) (show (0 : Int) < (2 * w + 2) by omega)
  generalize a.tdiv 8 % (2 * w + 2) = q at PB b0 b1 ⊢
  have PB := Lib.hid PB
  have P8 := Lib.hid P8
  clear h hbb
  go_enter Try.func81, Try.ntmps81
  go_wp2_with (first | (go_at_call 30; with_reducible refine (P8.out _).mono ?_; rintro e w9 ⟨rfl, rfl⟩) | (go_at_call 30; with_reducible refine (PB.out _).mono ?_; rintro e w9 ⟨rfl, rfl⟩))
  go_ret
  exact ⟨rfl, rfl⟩
theorem pgap_1 (a : Int) (w : Int) (hw1 : 1 ≤ w) (hw2 : w ≤ 1048576) (ha : -9223372036854775808 ≤ a ∧ a ≤ 9223372036854775807) (h0 : ¬ a % 8 = 0) (h : a % 8 = 1) (w0 : World) : Calls Try.prog 81 #[.int .i64 a, .int .i64 w] w0 fun e w' => e = .returned (.int .i64 (mgap a w)) ∧ w' = w0 := by
  rw [mgap, if_neg h0, if_pos (Or.inl h)]
  have hbb := tdiv8_bd ha
  have hw : IntKind.i64.wrap (a.tdiv 8) = a.tdiv 8 := IntWalk.i64_in _ hbb
  have P8 := fun w => pmod a 8 (by decide) (by decide) w
  rw [h] at P8
  have PB := fun w' => pmod (a.tdiv 8) 3 (by omega) (by omega) w'
  have b0 := Int.emod_nonneg (a.tdiv 8) (show (3 : Int) ≠ 0 by omega)
  have b1 := Int.emod_lt_of_pos (a.tdiv 8) (show (0 : Int) < 3 by omega)
  generalize a.tdiv 8 % 3 = q at PB b0 b1 ⊢
  have PB := Lib.hid PB
  have P8 := Lib.hid P8
  clear h0 h hbb
  go_enter Try.func81, Try.ntmps81
  go_wp2_with (first | (go_at_call 30; with_reducible refine (P8.out _).mono ?_; rintro e w9 ⟨rfl, rfl⟩) | (go_at_call 30; with_reducible refine (PB.out _).mono ?_; rintro e w9 ⟨rfl, rfl⟩))
  go_ret
  exact ⟨rfl, rfl⟩
theorem pgap_2 (a : Int) (w : Int) (hw1 : 1 ≤ w) (hw2 : w ≤ 1048576) (ha : -9223372036854775808 ≤ a ∧ a ≤ 9223372036854775807) (h0 : ¬ a % 8 = 0) (h : a % 8 = 2) (w0 : World) : Calls Try.prog 81 #[.int .i64 a, .int .i64 w] w0 fun e w' => e = .returned (.int .i64 (mgap a w)) ∧ w' = w0 := by
  rw [mgap, if_neg h0, if_pos (Or.inr h)]
  have hbb := tdiv8_bd ha
  have hw : IntKind.i64.wrap (a.tdiv 8) = a.tdiv 8 := IntWalk.i64_in _ hbb
  have P8 := fun w => pmod a 8 (by decide) (by decide) w
  rw [h] at P8
  have PB := fun w' => pmod (a.tdiv 8) 3 (by omega) (by omega) w'
  have b0 := Int.emod_nonneg (a.tdiv 8) (show (3 : Int) ≠ 0 by omega)
  have b1 := Int.emod_lt_of_pos (a.tdiv 8) (show (0 : Int) < 3 by omega)
  generalize a.tdiv 8 % 3 = q at PB b0 b1 ⊢
  have PB := Lib.hid PB
  have P8 := Lib.hid P8
  clear h0 h hbb
  go_enter Try.func81, Try.ntmps81
  go_wp2_with (first | (go_at_call 30; with_reducible refine (P8.out _).mono ?_; rintro e w9 ⟨rfl, rfl⟩) | (go_at_call 30; with_reducible refine (PB.out _).mono ?_; rintro e w9 ⟨rfl, rfl⟩))
  go_ret
  exact ⟨rfl, rfl⟩
theorem pgap_3 (a : Int) (w : Int) (hw1 : 1 ≤ w) (hw2 : w ≤ 1048576) (ha : -9223372036854775808 ≤ a ∧ a ≤ 9223372036854775807) (h0 : ¬ a % 8 = 0) (h : ¬ (a % 8 = 1 ∨ a % 8 = 2)) (w0 : World) : Calls Try.prog 81 #[.int .i64 a, .int .i64 w] w0 fun e w' => e = .returned (.int .i64 (mgap a w)) ∧ w' = w0 := by
  rw [mgap, if_neg h0, if_neg h]
  have hbb := tdiv8_bd ha
  have hw : IntKind.i64.wrap (a.tdiv 8) = a.tdiv 8 := IntWalk.i64_in _ hbb
  have P8 := fun w => pmod a 8 (by decide) (by decide) w
  generalize a % 8 = r8 at P8 h0 h
  rw [not_or] at h
  have c0 : (r8 == 0) = false := by simpa using h0
  have c1 : (r8 == 1) = false := by simpa using h.1
  have c2 : (r8 == 2) = false := by simpa using h.2
  have P8 := Lib.hid P8
  clear h0 h hbb
  go_enter Try.func81, Try.ntmps81
  go_wp2_with (first | (go_at_call 30; with_reducible refine (P8.out _).mono ?_; rintro e w9 ⟨rfl, rfl⟩))
  go_ret
  exact ⟨rfl, rfl⟩
theorem pgap (a w : Int) (ha : -9223372036854775808 ≤ a ∧ a ≤ 9223372036854775807) (hw1 : 1 ≤ w) (hw2 : w ≤ 1048576) (w0 : World) : Calls Try.prog 81 #[.int .i64 a, .int .i64 w] w0 fun e w' => e = .returned (.int .i64 (mgap a w)) ∧ w' = w0 := by
  by_cases h0 : a % 8 = 0
  · exact pgap_0 a w hw1 hw2 ha h0 w0
  · by_cases h1 : a % 8 = 1 ∨ a % 8 = 2
    · rcases h1 with h1 | h1
      · exact pgap_1 a w hw1 hw2 ha h0 h1 w0
      · exact pgap_2 a w hw1 hw2 ha h0 h1 w0
    · exact pgap_3 a w hw1 hw2 ha h0 h1 w0
end Go.Proofs.Ythknkdjpfanlnaa
end
section
/- Items made out of any numbers, walked. -/
set_option linter.unusedVariables false
set_option linter.unusedSimpArgs false
set_option linter.unusedSectionVars false
set_option linter.unnecessarySimpa false
namespace Go.Proofs.Ythknkdjpfanlnaa
open Go.RowKit
/-- An item. -/
structure Itm where
  t : Int
  v : Int
def itmAt (l : List Itm) (i : Nat) : Itm := l.getD i ⟨0, 0⟩
def icells (l : List Itm) : List Value := l.flatMap fun x => [.int .i64 x.t, .int .i64 x.v]
theorem icells_cons (x : Itm) (l : List Itm) : icells (x :: l) = .int .i64 x.t :: .int .i64 x.v :: icells l := rfl
theorem icells_append (a b : List Itm) : icells (a ++ b) = icells a ++ icells b := by unfold icells; rw [List.flatMap_append]
theorem icells_len : ∀ l : List Itm, (icells l).length = l.length * 2
  | [] => rfl
  | x :: l => by rw [icells_cons]; simp only [List.length_cons, icells_len l]; omega
theorem icells_at : ∀ (l : List Itm) (i : Nat), i < l.length → (icells l)[i * 2]? = some (.int .i64 (itmAt l i).t) ∧ (icells l)[i * 2 + 1]? = some (.int .i64 (itmAt l i).v)
  | [], i, h => absurd h (by simp)
  | x :: l, 0, _ => ⟨rfl, rfl⟩
  | x :: l, i + 1, h => by
    have ih := icells_at l i (by simpa using h)
    rw [icells_cons, show (i + 1) * 2 = i * 2 + 1 + 1 by omega, show i * 2 + 1 + 1 + 1 = (i * 2 + 1) + 1 + 1 by omega]
    simp only [List.getElem?_cons_succ]
    exact ih
theorem icells_set (l : List Itm) (i : Nat) (h : i < l.length) (v : Int) : (icells l).set (i * 2 + 1) (.int .i64 v) = icells (l.set i { itmAt l i with v := v }) := by
  induction l generalizing i with
  | nil => exact absurd h (by simp)
  | cons x l ih =>
    cases i with
    | zero => rfl
    | succ i =>
      have := ih i (by simpa using h)
      rw [icells_cons, show (i + 1) * 2 + 1 = i * 2 + 1 + 1 + 1 by omega]
      simp only [List.set_cons_succ]
      rw [this]
      rfl
theorem addr_lit (a : Addr) (j : Nat) (h : j ≠ 0) : a.add j = ⟨a.block, a.off + j, none⟩ := by unfold Addr.add; rw [if_neg h]
/-- The two cells of an item. -/
def ItmCells (w : World) (a : Addr) (x : Itm) : Prop := w.cell? a = some (.int .i64 x.t) ∧ w.cell? ⟨a.block, a.off + 1, none⟩ = some (.int .i64 x.v)
section
variable {w w' : World} {B m : Nat} {A : Option Addr} {l : List Itm}
theorem ItmCells.below {a : Addr} {x : Itm} (h : ItmCells w a x) (hb : Below B w w') (hlt : a.block < B) : ItmCells w' a x :=
  ⟨(hb.cell hlt).trans h.1, (hb.cell (p := ⟨a.block, a.off + 1, none⟩) hlt).trans h.2⟩
theorem Reads.itm_len (h : Reads w B 2 A m (icells l)) : l.length = m := by have := h.1; rw [icells_len] at this; omega
theorem Reads.itm {i : Nat} (h : Reads w B 2 A m (icells l)) (hi : i < m) : ∃ ad, A = some ad ∧ ad.block < B ∧ ItmCells w (ad.add (i * 2)) (itmAt l i) := by
  obtain ⟨ad, e, hb, hc⟩ := h.2 (by omega)
  have ht := icells_at l i (by rw [h.itm_len]; exact hi)
  refine ⟨ad, e, hb, hc _ _ ht.1, ?_⟩
  rw [← addr_lit _ 1 (by decide), add_of_add]
  exact hc _ _ ht.2
end
/-- Raw items as an argument. -/
structure RIn (A : Option Addr) (m c : Nat) (l : List Itm) (w : World) : Prop where
  reads : Reads w w.heap.size 2 A m (icells l)
  tB : ∀ i, -9223372036854775808 ≤ (itmAt l i).t ∧ (itmAt l i).t ≤ 9223372036854775807
  vB : ∀ i, -9223372036854775808 ≤ (itmAt l i).v ∧ (itmAt l i).v ≤ 9223372036854775807
  mc : m ≤ c
  cB : c ≤ maxLen
theorem RIn.below {A : Option Addr} {m c : Nat} {l : List Itm} {w w' : World} (h : RIn A m c l w) (hb : Below w.heap.size w w') : RIn A m c l w' := ⟨(h.reads.below hb).more hb.size, h.tB, h.vB, h.mc, h.cB⟩
/-- Items as they are made: their ticks ascend by at most so much a step, their values lie between bounds. -/
def Made (st lo hi last : Int) (l : List Itm) : Prop :=
  (∀ i, i < l.length → 0 ≤ (itmAt l i).t ∧ (itmAt l i).t ≤ last ∧ (∀ j, j ≤ i → (itmAt l j).t ≤ (itmAt l i).t) ∧ lo ≤ (itmAt l i).v ∧ (itmAt l i).v ≤ hi) ∧ 0 ≤ last ∧ last ≤ st * l.length
theorem itm_left {l : List Itm} {x : Itm} {i : Nat} (h : i < l.length) : itmAt (l ++ [x]) i = itmAt l i := by
  unfold itmAt
  rw [List.getD_eq_getElem?_getD, List.getD_eq_getElem?_getD, List.getElem?_append_left h]
theorem itm_last {l : List Itm} {x : Itm} : itmAt (l ++ [x]) l.length = x := by
  unfold itmAt
  rw [List.getD_eq_getElem?_getD, List.getElem?_append_right (Nat.le_refl _)]
  simp
theorem made_nil {st lo hi : Int} : Made st lo hi 0 [] := ⟨fun i h => absurd h (by simp), Int.le_refl _, by simp⟩
theorem made_snoc {st lo hi last g v : Int} {l : List Itm} (h : Made st lo hi last l) (g0 : 0 ≤ g) (g1 : g ≤ st) (v0 : lo ≤ v) (v1 : v ≤ hi) : Made st lo hi (last + g) (l ++ [⟨last + g, v⟩]) := by
  obtain ⟨h1, h2, h3⟩ := h
  refine ⟨fun i hi => ?_, by omega, ?_⟩
  · rw [List.length_append, List.length_singleton] at hi
    by_cases c : i < l.length
    · have q := h1 i c
      rw [itm_left c]
      refine ⟨q.1, by omega, fun j hj => ?_, q.2.2.2⟩
      rw [itm_left (by omega)]
      exact q.2.2.1 j hj
    · obtain rfl : i = l.length := by omega
      rw [itm_last]
      refine ⟨(show 0 ≤ last + g by omega), Int.le_refl _, fun j hj => ?_, v0, v1⟩
      by_cases c2 : j < l.length
      · rw [itm_left c2]
        have := (h1 j c2).2.1
        show _ ≤ last + g
        omega
      · obtain rfl : j = l.length := by omega
        rw [itm_last]
        exact Int.le_refl _
  · rw [List.length_append, List.length_singleton]
    have e : st * ((l.length + 1 : Nat) : Int) = st * (l.length : Int) + st := by rw [Int.natCast_succ, Int.mul_add, Int.mul_one]
    rw [e]
    omega
theorem made_bound {st lo hi last : Int} {l : List Itm} (h : Made st lo hi last l) (hs0 : 0 ≤ st) (hs : st ≤ 2097153) (hl : l.length ≤ 1000000) : last ≤ 2097153000000 := by
  have h3 := h.2.2
  have : st * (l.length : Int) ≤ 2097153 * 1000000 := Int.mul_le_mul hs (by omega) (by omega) (by omega)
  omega
theorem info_itm : (Try.prog.info? 40).map (fun i => (i.zero, i.size, i.bytes)) = some (some (.agg #[.int .i64 0, .int .i64 0]), 2, 16) := by kernel_rfl
/-- What the making of items leaves: a slice of the call's own (nil where there is none) that reads as made items. -/
def IRet (most : Nat) (st lo hi : Int) (w : World) (e : Ending) (w' : World) : Prop :=
  ∃ (v : Value) (l : List Itm) (last : Int), e = .returned v ∧ w'.ownsRow w.heap.size 40 2 v l.length (icells l) ∧ l.length ≤ most ∧ Made st lo hi last l ∧ Below w.heap.size w w'
set_option maxHeartbeats 2000000 in
theorem pitems (A : Option Addr) (m c : Nat) (l : List Itm) (wd most : Nat) (w : World) (hin : RIn A m c l w) (hw1 : 1 ≤ wd) (hw2 : wd ≤ 1048576) (hmost : most ≤ 100000) :
    Calls Try.prog 55 #[.slice A m c, .int .i64 wd, .int .i64 most] w (IRet most (2 * (wd : Int) + 1) (-4096) 4096 w) := by
  have HR := Lib.hid hin
  have hmB : m ≤ 9223372036854775807 := by have := hin.mc; have := hin.cB; unfold maxLen at *; omega
  obtain ⟨i1, hi1, iz0, iz1, iz2⟩ := info_parts info_itm
  clear hin
  go_enter Try.func55, Try.ntmps55
  go_wp2
  go_loopw [7, 8, 9] (fun v tt i wr => ∃ (l' : List Itm) (last : Int), l'.length ≤ m ∧ l'.length ≤ most ∧ i = .int .i64 (l'.length : Nat) ∧ tt = .int .i64 last ∧ wr.ownsRow w.heap.size 40 2 v l'.length (icells l') ∧ RowKit.Hid (Made (2 * (wd : Int) + 1) (-4096) 4096 last l') ∧ Below w.heap.size w wr) (fun _ _ i _ => m - (intOf i).toNat)
  case atStart => exact ⟨[], 0, by simp, by simp, rfl, rfl, World.ownsRow_nil _ _ _ _, Lib.hid made_nil, Below.refl _ _⟩
  case round =>
    obtain ⟨l', last, hk1, hk2, rfl, rfl, own, HM, hb⟩ := hrel
    have lb := made_bound HM.out (by omega) (by omega) (by omega)
    have lb0 := HM.out.2.1
    generalize hk : l'.length = k at hk1 hk2 own ⊢
    have HK := Lib.hid hk
    clear hk
    by_cases hlt : k < m
    · by_cases hlt2 : k < most
      · obtain ⟨ad, rfl, hadb, hi0⟩ := HR.out.reads.itm hlt
        obtain ⟨c0, c1⟩ := hi0.below hb (by rw [block_of_add]; exact hadb)
        have tB := HR.out.tB k
        have vB := HR.out.vB k
        have PG := Lib.hid (fun w => pgap (itmAt l k).t (wd : Int) tB (by omega) (by omega) w)
        have PV := Lib.hid (fun w => pval (itmAt l k).v vB w)
        have gB := mgap_bd (itmAt l k).t (w := (wd : Int)) (by omega)
        have wB := mval_bd (itmAt l k).v
        generalize mgap (itmAt l k).t (wd : Int) = g at PG gB
        generalize mval (itmAt l k).v = v at PV wB
        generalize (itmAt l k).t = rt at c0 PG
        generalize (itmAt l k).v = rv at c1 PV
        obtain ⟨gB0, gB1⟩ := gB
        obtain ⟨wB0, wB1⟩ := wB
        have HM2 := Lib.hid (made_snoc HM.out gB0 gB1 wB0 wB1)
        have i2 : (k : Int) < (m : Int) := by omega
        have i3 : (k : Int) < (most : Int) := by omega
        have i4 : (0 : Int) ≤ (k : Int) := by omega
        have hbl := own.lt
        have OWN := Lib.hid own
        have zb := hb.size
        clear hi0 tB vB own
        go_wp2_with (first | (go_at_call 81; with_reducible refine (PG.out _).mono ?_; rintro e w9 ⟨rfl, rfl⟩) | (go_at_call 82; with_reducible refine (PV.out _).mono ?_; rintro e w9 ⟨rfl, rfl⟩) | (at_builtin; refine wpList_push rfl _ _ 33 rfl 40 i1 (.agg #[.int .i64 0, .int .i64 0]) 2 16 Try.underlying33 hi1 iz0 iz1 iz2 rfl (by decide) w.heap.size u7 k (icells l') rfl OWN.out #[.int .i64 (last + g), .int .i64 v] rfl rfl (by simp [Value.oneCell']) (by unfold maxLen; omega) (by omega) zb ?_; intro g' c4 w8 own8 hg8 hat8 hgr8))
        have L8 : w8.ownsRow w.heap.size 40 2 (.slice (some ⟨g', 0, none⟩) (k + 1) c4) (l' ++ [(⟨last + g, v⟩ : Itm)]).length (icells (l' ++ [(⟨last + g, v⟩ : Itm)])) := by
          rw [icells_append, List.length_append, HK.out]
          exact own8.row hg8
        have L9 : Below w.heap.size w w8 := below_grown (hb.alloc zb _) hgr8 (fun b e => (hbl b e).1) (by simp; omega)
        have hlen : (l' ++ [(⟨last + g, v⟩ : Itm)]).length = k + 1 := by rw [List.length_append, HK.out]; rfl
        clear own8 hgr8 hat8
        go_roundw
        case rel => exact ⟨l' ++ [(⟨last + g, v⟩ : Itm)], last + g, by omega, by omega, by rw [hlen]; go_num, rfl, L8, HM2, L9⟩
        case measure => simp [intOf]; omega
      · have i2 : (k : Int) < (m : Int) := by omega
        have i3 : ¬ (k : Int) < (most : Int) := by omega
        go_wp2
        go_ret
        exact ⟨_, l', last, rfl, by rw [HK.out]; exact own, by rw [HK.out]; omega, HM.out, hb⟩
    · have i2 : ¬ (k : Int) < (m : Int) := by omega
      go_wp2
      go_ret
      exact ⟨_, l', last, rfl, by rw [HK.out]; exact own, by rw [HK.out]; omega, HM.out, hb⟩
/-- An item whose value is turned into its remainder. -/
def imod (q : Int) (x : Itm) : Itm := { x with v := x.v % q }
def ipart (q : Int) (l : List Itm) (k : Nat) : List Itm := (l.take k).map (imod q) ++ l.drop k
theorem ipart_zero (q : Int) (l : List Itm) : ipart q l 0 = l := by simp [ipart]
theorem ipart_all (q : Int) (l : List Itm) : ipart q l l.length = l.map (imod q) := by simp [ipart]
theorem ipart_len (q : Int) (l : List Itm) (k : Nat) : (ipart q l k).length = l.length := by simp [ipart]; omega
theorem itm_eq {l : List Itm} {i : Nat} (h : i < l.length) : l[i] = itmAt l i := by unfold itmAt; rw [List.getD_eq_getElem?_getD, List.getElem?_eq_getElem h]; rfl
theorem ipart_at {q : Int} {l : List Itm} {k : Nat} (h : k < l.length) : itmAt (ipart q l k) k = itmAt l k := by
  unfold ipart itmAt
  rw [List.getD_eq_getElem?_getD, List.getD_eq_getElem?_getD, List.getElem?_append_right (by simp; omega)]
  simp [Nat.min_eq_left (Nat.le_of_lt h)]
theorem ipart_step {q : Int} {l : List Itm} {k : Nat} (h : k < l.length) : (ipart q l k).set k { itmAt (ipart q l k) k with v := (itmAt l k).v % q } = ipart q l (k + 1) := by
  rw [ipart_at h]
  unfold ipart
  rw [List.set_append_right _ _ (by simp; omega), List.length_map, List.length_take, Nat.min_eq_left (by omega), Nat.sub_self, List.drop_eq_getElem_cons h, List.set_cons_zero, List.take_succ_eq_append_getElem h, List.map_append, itm_eq h]
  simp [imod]
theorem itm_map (q : Int) (l : List Itm) (i : Nat) (h : i < l.length) : itmAt (l.map (imod q)) i = imod q (itmAt l i) := by
  unfold itmAt
  rw [List.getD_eq_getElem?_getD, List.getD_eq_getElem?_getD, List.getElem?_map, List.getElem?_eq_getElem h]
  rfl
theorem made_map {st lo hi last q : Int} {l : List Itm} (hq : 1 ≤ q) (h : Made st lo hi last l) : Made st 0 (q - 1) last (l.map (imod q)) := by
  obtain ⟨h1, h2, h3⟩ := h
  refine ⟨fun i hi => ?_, h2, by rw [List.length_map]; exact h3⟩
  rw [List.length_map] at hi
  rw [itm_map q l i hi]
  have a := h1 i hi
  have b0 := Int.emod_nonneg (itmAt l i).v (show q ≠ 0 by omega)
  have b1 := Int.emod_lt_of_pos (itmAt l i).v (show 0 < q by omega)
  refine ⟨a.1, a.2.1, fun j hj => ?_, b0, by show _ % q ≤ q - 1; omega⟩
  rw [itm_map q l j (by omega)]
  exact a.2.2.1 j hj
set_option maxHeartbeats 2000000 in
theorem ppos (A : Option Addr) (m c : Nat) (l : List Itm) (wd most top : Nat) (w : World) (hin : RIn A m c l w) (hw1 : 1 ≤ wd) (hw2 : wd ≤ 1048576) (hmost : most ≤ 100000) (htop : top ≤ 1000000) :
    Calls Try.prog 54 #[.slice A m c, .int .i64 wd, .int .i64 most, .int .i64 top] w (IRet most (2 * (wd : Int) + 1) 0 top w) := by
  have PI := Lib.hid (fun w1 (hb : Below w.heap.size w w1) => pitems A m c l wd most w1 (hin.below hb) hw1 hw2 hmost)
  have hq1 : (1 : Int) ≤ (top : Int) + 1 := by omega
  clear hin
  go_enter Try.func54, Try.ntmps54
  go_wp2_with fail
  refine (PI.out _ (Below.refl _ _)).mono ?_
  intro e w1 hq
  obtain ⟨v, l', last, rfl, own1, hlm, HM0, hb1⟩ := hq
  have HM := Lib.hid (made_map hq1 HM0)
  have vB := Lib.hid (fun i (hi : i < l'.length) => (HM0.1 i hi).2.2.2)
  clear HM0
  obtain ⟨A1, c1, rfl⟩ : ∃ A1 c1, v = .slice A1 l'.length c1 := by
    rcases own1.2 with ⟨h1, h2⟩ | ⟨g, cap, cur, h1, _⟩
    · exact ⟨none, 0, by rw [h1, h2]⟩
    · exact ⟨_, _, h1⟩
  generalize hn : l'.length = n at own1 hlm vB ⊢
  have HN := Lib.hid hn
  clear hn
  have OWN : w1.ownsRow w.heap.size 40 2 (.slice A1 n c1) n (icells (ipart ((top : Int) + 1) l' 0)) := by rw [ipart_zero]; exact own1
  clear own1
  go_wp2
  go_loopw [17] (fun i wr => ∃ k : Nat, k ≤ n ∧ i = .int .i64 (k : Nat) ∧ wr.ownsRow w.heap.size 40 2 (.slice A1 n c1) n (icells (ipart ((top : Int) + 1) l' k)) ∧ Below w.heap.size w wr) (fun i _ => n - (intOf i).toNat)
  case atStart => exact ⟨0, by omega, rfl, OWN, hb1⟩
  case round =>
    clear OWN
    obtain ⟨k, hk, rfl, own, hb⟩ := hrel
    by_cases hlt : k < n
    · obtain ⟨g, c2, hv, hg, hgl⟩ := own.form (by omega)
      simp only [Value.slice.injEq] at hv
      obtain ⟨rfl, _, rfl⟩ := hv
      obtain ⟨own2, _⟩ := own_of_row own
      have hl2 : (ipart ((top : Int) + 1) l' k).length = n := by rw [ipart_len, HN.out]
      have hat := icells_at (ipart ((top : Int) + 1) l' k) k (by omega)
      rw [ipart_at (by rw [HN.out]; exact hlt)] at hat
      have hx := (own2.cell (j := k * 2 + 1) (by omega)).trans hat.2
      have hfr := own2.free (k * 2 + 1)
      have st := own2.set (k * 2 + 1) (.int .i64 ((itmAt l' k).v % ((top : Int) + 1)))
      rw [icells_set _ _ (by omega), ipart_step (by rw [HN.out]; exact hlt)] at st
      have PM := Lib.hid (fun w => pmod (itmAt l' k).v ((top : Int) + 1) hq1 (by omega) w)
      generalize (itmAt l' k).v % ((top : Int) + 1) = r at st PM
      generalize (itmAt l' k).v = rv at hx PM
      have sb : Below w.heap.size w (wr.setCell ⟨g, k * 2 + 1, none⟩ (.int .i64 r)) := hb.setCell hg _
      have ST := Lib.hid st
      have i1 : (k : Int) < (n : Int) := by omega
      have i2 : (0 : Int) ≤ (k : Int) := by omega
      have nm : n ≤ 100000 := by omega
      clear hat st own own2
      go_wp2_with (first | (go_at_call 30; with_reducible refine (PM.out _).mono ?_; rintro e w9 ⟨rfl, rfl⟩))
      go_roundw
      case rel => exact ⟨k + 1, by omega, by go_num, ST.out.row hg, sb⟩
      case measure => simp [intOf]; omega
    · have i1 : ¬ (k : Int) < (n : Int) := by omega
      obtain rfl : k = n := by omega
      have ha := ipart_all ((top : Int) + 1) l'
      rw [HN.out] at ha
      rw [ha] at own
      have HM2 := HM.out
      rw [show (top : Int) + 1 - 1 = (top : Int) by omega] at HM2
      have HMM := Lib.hid HM2
      have hlen : (l'.map (imod ((top : Int) + 1))).length = k := by rw [List.length_map, HN.out]
      clear ha HM2
      go_wp2
      go_ret
      exact ⟨_, l'.map (imod ((top : Int) + 1)), last, rfl, by rw [hlen]; exact own, by rw [hlen]; exact hlm, HMM.out, hb⟩
end Go.Proofs.Ythknkdjpfanlnaa
end
section
/- Smooth histograms: the aggregate of the live items lies between the bounds, which are narrow; few marks; plain. -/
set_option linter.unusedVariables false
set_option linter.unusedSimpArgs false
set_option linter.unusedSectionVars false
set_option linter.unnecessarySimpa false
namespace Go.Proofs.Ythknkdjpfanlnaa
def isum : List Itm → Int
  | [] => 0
  | x :: l => x.v + isum l
def isq : List Itm → Int
  | [] => 0
  | x :: l => x.v * x.v + isq l
theorem isum_append : ∀ a b : List Itm, isum (a ++ b) = isum a + isum b
  | [], b => by simp [isum]
  | x :: a, b => by rw [List.cons_append, isum, isum, isum_append a b]; omega
theorem isq_append : ∀ a b : List Itm, isq (a ++ b) = isq a + isq b
  | [], b => by simp [isq]
  | x :: a, b => by rw [List.cons_append, isq, isq, isq_append a b]; omega
def IsMin (l : List Itm) (m : Int) : Prop := (∃ x ∈ l, x.v = m) ∧ ∀ x ∈ l, m ≤ x.v
def IsMax (l : List Itm) (m : Int) : Prop := (∃ x ∈ l, x.v = m) ∧ ∀ x ∈ l, x.v ≤ m
theorem IsMin.unique {l : List Itm} {a b : Int} (h : IsMin l a) (h' : IsMin l b) : a = b := by
  obtain ⟨⟨x, hx, rfl⟩, h2⟩ := h
  obtain ⟨⟨y, hy, rfl⟩, h4⟩ := h'
  have := h2 y hy
  have := h4 x hx
  omega
theorem IsMax.unique {l : List Itm} {a b : Int} (h : IsMax l a) (h' : IsMax l b) : a = b := by
  obtain ⟨⟨x, hx, rfl⟩, h2⟩ := h
  obtain ⟨⟨y, hy, rfl⟩, h4⟩ := h'
  have := h2 y hy
  have := h4 x hx
  omega
theorem IsMin.snoc {l : List Itm} {a : Int} (h : IsMin l a) (x : Itm) : IsMin (l ++ [x]) (min a x.v) := by
  obtain ⟨⟨y, hy, rfl⟩, h2⟩ := h
  refine ⟨?_, fun z hz => ?_⟩
  · rcases Int.le_total y.v x.v with c | c
    · exact ⟨y, by simp [hy], by omega⟩
    · exact ⟨x, by simp, by omega⟩
  · rcases List.mem_append.1 hz with hz | hz
    · have := h2 z hz
      omega
    · obtain rfl : z = x := by simpa using hz
      omega
theorem IsMax.snoc {l : List Itm} {a : Int} (h : IsMax l a) (x : Itm) : IsMax (l ++ [x]) (max a x.v) := by
  obtain ⟨⟨y, hy, rfl⟩, h2⟩ := h
  refine ⟨?_, fun z hz => ?_⟩
  · rcases Int.le_total x.v y.v with c | c
    · exact ⟨y, by simp [hy], by omega⟩
    · exact ⟨x, by simp, by omega⟩
  · rcases List.mem_append.1 hz with hz | hz
    · have := h2 z hz
      omega
    · obtain rfl : z = x := by simpa using hz
      omega
theorem IsMin.one (x : Itm) : IsMin [x] x.v := ⟨⟨x, by simp, rfl⟩, fun z hz => by rw [show z = x from by simpa using hz]; exact Int.le_refl _⟩
theorem IsMax.one (x : Itm) : IsMax [x] x.v := ⟨⟨x, by simp, rfl⟩, fun z hz => by rw [show z = x from by simpa using hz]; exact Int.le_refl _⟩
/-- A mark of items. -/
structure MkIs (m : Mk) (l : List Itm) : Prop where
  n : m.n = l.length
  s : m.s = isum l
  q : m.q = isq l
  lo : IsMin l m.lo
  hi : IsMax l m.hi
theorem MkIs.snoc {m : Mk} {l : List Itm} (h : MkIs m l) (x : Itm) : MkIs (inc x.v m) (l ++ [x]) := by
  refine ⟨?_, ?_, ?_, h.lo.snoc x, h.hi.snoc x⟩
  · show m.n + 1 = _
    rw [h.n]; simp
  · show m.s + x.v = _
    rw [h.s, isum_append]; simp [isum]
  · show m.q + x.v * x.v = _
    rw [h.q, isq_append]; simp [isq]
theorem MkIs.new (seq : Int) (x : Itm) : MkIs (newMk seq x.t x.v) [x] := ⟨by simp [newMk], by simp [newMk, isum], by simp [newMk, isq], IsMin.one x, IsMax.one x⟩
/-- Items in the order of their ticks, up to now. -/
structure Ord (l : List Itm) (now : Int) : Prop where
  up : ∀ i j, i ≤ j → j < l.length → (itmAt l i).t ≤ (itmAt l j).t
  pos : ∀ i, i < l.length → 0 ≤ (itmAt l i).t
  now : ∀ i, i < l.length → (itmAt l i).t ≤ now
theorem Ord.nil (now : Int) : Ord [] now := ⟨fun i j _ h => absurd h (by simp), fun i h => absurd h (by simp), fun i h => absurd h (by simp)⟩
theorem Ord.later {l : List Itm} {now tt9 : Int} (h : Ord l now) (hn : now ≤ tt9) : Ord l tt9 := ⟨h.up, h.pos, fun i hi => by have := h.now i hi; omega⟩
theorem Ord.snoc {l : List Itm} {now v : Int} (h : Ord l now) (hn : 0 ≤ now) : Ord (l ++ [⟨now, v⟩]) now := by
  have key : ∀ i, i < (l ++ [(⟨now, v⟩ : Itm)]).length → (itmAt (l ++ [⟨now, v⟩]) i).t ≤ now ∧ 0 ≤ (itmAt (l ++ [⟨now, v⟩]) i).t := by
    intro i hi
    by_cases c : i < l.length
    · rw [itm_left c]
      exact ⟨h.now i c, h.pos i c⟩
    · obtain rfl : i = l.length := by simp at hi; omega
      rw [itm_last]
      exact ⟨Int.le_refl _, hn⟩
  refine ⟨fun i j hij hj => ?_, fun i hi => (key i hi).2, fun i hi => (key i hi).1⟩
  by_cases c : j < l.length
  · rw [itm_left (by omega), itm_left c]
    exact h.up i j hij c
  · obtain rfl : j = l.length := by simp at hj; omega
    rw [itm_last]
    exact (key i (by simp; omega)).1
/-- The histogram of items: each mark is that of the items from its number on, and what lies ahead of all marks is not live. -/
structure HistOf (l : List Mk) (seq now wd : Int) (its : List Itm) : Prop where
  seq : seq = its.length
  ord : Ord its now
  mks : ∀ m ∈ l, 1 ≤ m.seq ∧ m.seq ≤ its.length ∧ m.t = (itmAt its (m.seq - 1).toNat).t ∧ MkIs m (its.drop (m.seq - 1).toNat)
  gone : ∀ i : Nat, i < its.length → (l ≠ [] → (i : Int) < (mkAt l 0).seq - 1) → (itmAt its i).t ≤ now - wd
theorem hist_nil (now wd : Int) : HistOf [] 0 now wd [] := ⟨rfl, Ord.nil _, fun m h => absurd h (by simp), fun i h => absurd h (by simp)⟩
theorem hist_drop {wd tt9 : Int} {its : List Itm} (ord : Ord its tt9) : ∀ (l : List Mk), (∀ m ∈ l, 1 ≤ m.seq ∧ m.seq ≤ its.length ∧ m.t = (itmAt its (m.seq - 1).toNat).t ∧ MkIs m (its.drop (m.seq - 1).toNat)) → (l ≠ [] → (mkAt l (l.length - 1)).seq = its.length) →
    (∀ i : Nat, i < its.length → (l ≠ [] → (i : Int) < (mkAt l 0).seq - 1) → (itmAt its i).t ≤ tt9 - wd) → ∀ i : Nat, i < its.length → (dropM tt9 wd l ≠ [] → (i : Int) < (mkAt (dropM tt9 wd l) 0).seq - 1) → (itmAt its i).t ≤ tt9 - wd
  | [], _, _, h, i, hi, _ => h i hi (fun h => absurd rfl h)
  | [a], hm, hl, h, i, hi, hd => by
    rw [dropM_one] at hd
    split at hd
    · exact h i hi hd
    · rename_i hlive
      obtain ⟨m1, m2, m3, _⟩ := hm a (by simp)
      have hls := hl (by simp)
      have hls : a.seq = its.length := hls
      have := ord.up i (a.seq - 1).toNat (by omega) (by omega)
      omega
  | a :: b :: r, hm, hl, h, i, hi, hd => by
    rw [dropM_two] at hd
    split at hd
    · exact h i hi hd
    · rename_i hlive
      refine hist_drop ord (b :: r) (fun m hmm => hm m (List.mem_cons_of_mem _ hmm)) (fun _ => ?_) (fun j hj hjb => ?_) i hi hd
      · have := hl (by simp)
        simpa [mkAt_succ] using this
      · obtain ⟨m1, m2, m3, _⟩ := hm b (by simp)
        have hjb := hjb (by simp)
        have hjb : (j : Int) < b.seq - 1 := hjb
        have := ord.up j (b.seq - 1).toNat (by omega) (by omega)
        omega
theorem HistOf.tick {l : List Mk} {seq cap now wd tt9 least : Int} {its : List Itm} (h : HistOf l seq now wd its) (hV : VL l seq cap now wd least) (hn : now ≤ tt9) : HistOf (dropM tt9 wd l) seq tt9 wd its := by
  have s1 := (dropM_spec tt9 wd l).1
  refine ⟨h.seq, h.ord.later hn, fun m hm => h.mks m (s1.subset hm), ?_⟩
  refine hist_drop (h.ord.later hn) l h.mks (fun hne => ?_) (fun i hi hc => ?_)
  · rw [(hV.last hne).1, h.seq]
  · have := h.gone i hi hc
    omega
theorem HistOf.incl {l : List Mk} {seq now wd v : Int} {its : List Itm} (h : HistOf l seq now wd its) (hn : 0 ≤ now) : HistOf (incl l (seq + 1) now v) (seq + 1) now wd (its ++ [⟨now, v⟩]) := by
  have hs := h.seq
  refine ⟨by rw [hs]; simp, h.ord.snoc hn, fun m hm => ?_, fun i hi hc => ?_⟩
  · unfold Proofs.Ythknkdjpfanlnaa.incl at hm
    rcases List.mem_append.1 hm with hm | hm
    · obtain ⟨m, hm2, rfl⟩ := List.mem_map.1 hm
      obtain ⟨m1, m2, m3, m4⟩ := h.mks m hm2
      refine ⟨m1, by show m.seq ≤ _; simp; omega, ?_, ?_⟩
      · show m.t = (itmAt _ (m.seq - 1).toNat).t
        rw [itm_left (by omega)]
        exact m3
      · show MkIs (inc v m) (List.drop (m.seq - 1).toNat _)
        rw [List.drop_append_of_le_length (by omega)]
        exact m4.snoc ⟨now, v⟩
    · obtain rfl : m = newMk (seq + 1) now v := by simpa using hm
      have e : (newMk (seq + 1) now v).seq = seq + 1 := rfl
      have e2 : ((newMk (seq + 1) now v).seq - 1).toNat = its.length := by rw [e]; omega
      refine ⟨by rw [e]; omega, by rw [e]; simp; omega, ?_, ?_⟩
      · rw [e2, itm_last]
        rfl
      · rw [e2, List.drop_left]
        exact MkIs.new (seq + 1) ⟨now, v⟩
  · have hc := hc (fun e => by have := congrArg List.length e; rw [incl_len] at this; simp at this)
    unfold Proofs.Ythknkdjpfanlnaa.incl at hc
    cases l with
    | nil =>
      have hc : (i : Int) < seq + 1 - 1 := hc
      rw [itm_left (by omega)]
      exact h.gone i (by omega) (fun e => absurd rfl e)
    | cons a r =>
      have hc : (i : Int) < a.seq - 1 := hc
      have m2 := (h.mks a (by simp)).2.1
      rw [itm_left (by omega)]
      exact h.gone i (by omega) (fun _ => hc)
theorem HistOf.prune {l : List Mk} {seq now wd : Int} {its : List Itm} (h : HistOf l seq now wd its) (near : Mk → Mk → Bool) : HistOf (prune near l) seq now wd its := by
  have sb := prune_sub near _ l (Nat.le_refl _)
  refine ⟨h.seq, h.ord, fun m hm => h.mks m (sb.subset hm), fun i hi hc => h.gone i hi (fun hne => ?_)⟩
  cases l with
  | nil => exact absurd rfl hne
  | cons a r =>
    rw [prune_cons] at hc
    exact hc (by simp)
/-- The items that are live. -/
def liveI (now wd : Int) (its : List Itm) : List Itm := its.filter fun x => decide (now - wd < x.t ∧ x.t ≤ now)
theorem filter_drop {f : Itm → Bool} : ∀ (l : List Itm) (p : Nat), p ≤ l.length → (∀ i, i < p → f (itmAt l i) = false) → (∀ i, p ≤ i → i < l.length → f (itmAt l i) = true) → l.filter f = l.drop p
  | [], p, hp, _, _ => by simp
  | x :: l, 0, _, _, h2 => by
    have hx : f x = true := h2 0 (Nat.le_refl _) (by simp)
    have ih := filter_drop l 0 (by omega) (fun i h => absurd h (by omega)) (fun i _ hi => h2 (i + 1) (by omega) (by simpa using hi))
    rw [List.filter_cons, if_pos hx, ih]
    simp
  | x :: l, p + 1, hp, h1, h2 => by
    have hx : f x = false := h1 0 (by omega)
    have ih := filter_drop l p (by simpa using hp) (fun i h => h1 (i + 1) (by omega)) (fun i h hi => h2 (i + 1) (by omega) (by simpa using hi))
    rw [List.filter_cons, if_neg (by rw [hx]; simp), ih]
    simp
theorem first_live {f : Nat → Bool} (n : Nat) (hm : ∀ i j, i ≤ j → j < n → f i = true → f j = true) : ∃ p, p ≤ n ∧ (∀ i, i < p → f i = false) ∧ ∀ i, p ≤ i → i < n → f i = true := by
  induction n with
  | zero => exact ⟨0, Nat.le_refl _, fun i h => absurd h (by omega), fun i _ h => absurd h (by omega)⟩
  | succ n ih =>
    obtain ⟨p, h1, h2, h3⟩ := ih (fun i j a b c => hm i j a (by omega) c)
    by_cases c : p < n
    · exact ⟨p, by omega, h2, fun i a b => by
        by_cases d : i < n
        · exact h3 i a d
        · obtain rfl : i = n := by omega
          exact hm p i a (by omega) (h3 p (Nat.le_refl _) c)⟩
    · obtain rfl : p = n := by omega
      cases hf : f p with
      | true => exact ⟨p, by omega, h2, fun i a b => by rw [show i = p by omega]; exact hf⟩
      | false => exact ⟨p + 1, by omega, fun i a => by
          by_cases d : i < p
          · exact h2 i d
          · rw [show i = p by omega]
            exact hf, fun i a b => absurd a (by omega)⟩
/-- The live items are a rear part. -/
theorem live_drop {now wd : Int} {its : List Itm} (h : Ord its now) : ∃ p, p ≤ its.length ∧ liveI now wd its = its.drop p ∧ (∀ i, i < p → ¬ now - wd < (itmAt its i).t) ∧ ∀ i, p ≤ i → i < its.length → now - wd < (itmAt its i).t := by
  obtain ⟨p, h1, h2, h3⟩ := first_live (f := fun i => decide (now - wd < (itmAt its i).t)) its.length (fun i j a b c => by
    have c := of_decide_eq_true c
    have := h.up i j a b
    exact decide_eq_true (by omega))
  have h2' : ∀ i, i < p → ¬ now - wd < (itmAt its i).t := fun i hi => of_decide_eq_false (h2 i hi)
  have h3' : ∀ i, p ≤ i → i < its.length → now - wd < (itmAt its i).t := fun i a b => of_decide_eq_true (h3 i a b)
  refine ⟨p, h1, ?_, h2', h3'⟩
  unfold liveI
  exact filter_drop its p h1 (fun i hi => decide_eq_false (fun a => h2' i hi a.1)) (fun i a b => decide_eq_true ⟨h3' i a b, h.now i b⟩)
/-- An aggregate of items. -/
def AggIs (agg : Int) (l : List Itm) (n : Int) : Prop :=
  (agg = 1 → n = l.length) ∧ (agg = 2 → n = isum l) ∧ (agg = 3 → n = isq l) ∧ (agg = 4 → (l = [] ∧ n = 0) ∨ ∃ lo hi, IsMin l lo ∧ IsMax l hi ∧ n = hi - lo)
theorem agg_nil {agg n : Int} (ha : 1 ≤ agg ∧ agg ≤ 4) (h : AggIs agg [] n) : n = 0 := by
  obtain ⟨h1, h2, h3, h4⟩ := h
  have c : agg = 1 ∨ agg = 2 ∨ agg = 3 ∨ agg = 4 := by omega
  rcases c with c | c | c | c
  · simpa using h1 c
  · simpa [isum] using h2 c
  · simpa [isq] using h3 c
  · rcases h4 c with ⟨_, h⟩ | ⟨_, _, ⟨⟨x, hx, _⟩, _⟩, _⟩
    · exact h
    · simp at hx
theorem agg_mk {agg n : Int} {m : Mk} {l : List Itm} (ha : 1 ≤ agg ∧ agg ≤ 4) (hm : MkIs m l) (hb : -4096 ≤ m.lo ∧ m.hi ≤ 4096 ∧ m.lo ≤ m.hi) (h : AggIs agg l n) : ofV agg m = n := by
  obtain ⟨h1, h2, h3, h4⟩ := h
  have c : agg = 1 ∨ agg = 2 ∨ agg = 3 ∨ agg = 4 := by omega
  rcases c with c | c | c | c
  · have := h1 c
    subst c
    rw [this, ← hm.n]; simp [ofV]
  · have := h2 c
    subst c
    rw [this, ← hm.s]; simp [ofV]
  · have := h3 c
    subst c
    rw [this, ← hm.q]; simp [ofV]
  · have h5 := h4 c
    clear h4 h1 h2 h3
    subst c
    rcases h5 with ⟨e, _⟩ | ⟨lo, hi, a, b, e⟩
    · obtain ⟨⟨x, hx, _⟩, _⟩ := hm.lo
      rw [e] at hx
      simp at hx
    · have e1 := a.unique hm.lo
      have e2 := b.unique hm.hi
      simp only [ofV]
      simp
      omega
/-- Values that a law plays with. -/
def ValsOK (agg : Int) (l : List Itm) : Prop := ∀ x ∈ l, leastV agg ≤ x.v ∧ x.v ≤ 4096
theorem isum_nonneg : ∀ l : List Itm, (∀ x ∈ l, 0 ≤ x.v) → 0 ≤ isum l
  | [], _ => Int.le_refl _
  | x :: l, h => by
    rw [isum]
    have := h x (by simp)
    have := isum_nonneg l (fun y hy => h y (by simp [hy]))
    omega
theorem isq_nonneg : ∀ l : List Itm, 0 ≤ isq l
  | [] => Int.le_refl _
  | x :: l => by
    rw [isq]
    have := sq_nonneg x.v
    have := isq_nonneg l
    omega
/-- An aggregate of a rear part is at most that of the whole. -/
theorem agg_mono {agg n n' : Int} {a b : List Itm} (ha : 1 ≤ agg ∧ agg ≤ 4) (hv : ValsOK agg a) (h : AggIs agg b n) (h' : AggIs agg (a ++ b) n') : n ≤ n' := by
  obtain ⟨h1, h2, h3, h4⟩ := h
  obtain ⟨g1, g2, g3, g4⟩ := h'
  have c : agg = 1 ∨ agg = 2 ∨ agg = 3 ∨ agg = 4 := by omega
  rcases c with c | c | c | c
  · have e1 := h1 c
    have e2 := g1 c
    rw [List.length_append] at e2
    omega
  · have e1 := h2 c
    have e2 := g2 c
    rw [isum_append] at e2
    have := isum_nonneg a (fun x hx => by have := (hv x hx).1; unfold leastV at this; rw [if_pos (.inl c)] at this; exact this)
    omega
  · have e1 := h3 c
    have e2 := g3 c
    rw [isq_append] at e2
    have := isq_nonneg a
    omega
  · rcases h4 c with ⟨e, e0⟩ | ⟨lo, hi, p1, p2, e⟩
    · rcases g4 c with ⟨_, f0⟩ | ⟨lo', hi', ⟨⟨x, hx, hxe⟩, _⟩, ⟨_, q2⟩, f⟩
      · omega
      · have := q2 x hx
        omega
    · rcases g4 c with ⟨f, _⟩ | ⟨lo', hi', ⟨_, q1⟩, ⟨_, q2⟩, f⟩
      · obtain ⟨⟨x, hx, _⟩, _⟩ := p1
        have : x ∈ a ++ b := by simp [hx]
        rw [f] at this
        simp at this
      · obtain ⟨⟨x, hx, ex⟩, _⟩ := p1
        obtain ⟨⟨y, hy, ey⟩, _⟩ := p2
        have := q1 x (by simp [hx])
        have := q2 y (by simp [hy])
        omega
/-- The bounds of an answer. -/
def askLo (agg now wd : Int) (l : List Mk) : Int :=
  if l = [] then 0 else if now - wd < (mkAt l 0).t then ofV agg (mkAt l 0) else ofV agg (mkAt l 1)
def askHi (agg now wd : Int) (l : List Mk) : Int :=
  if l = [] then 0 else if now - wd < (mkAt l 0).t then ofV agg (mkAt l 0) else if (mkAt l 1).seq = (mkAt l 0).seq + 1 then ofV agg (mkAt l 1) else ofV agg (mkAt l 0)
theorem askLo_nil {agg now wd : Int} : askLo agg now wd [] = 0 := by unfold askLo; rw [if_pos rfl]
theorem askHi_nil {agg now wd : Int} : askHi agg now wd [] = 0 := by unfold askHi; rw [if_pos rfl]
theorem askLo_cons {agg now wd : Int} (a : Mk) (r : List Mk) : askLo agg now wd (a :: r) = if now - wd < a.t then ofV agg a else ofV agg (mkAt r 0) := by
  unfold askLo
  rw [if_neg (List.cons_ne_nil _ _)]
  rfl
theorem askHi_cons {agg now wd : Int} (a : Mk) (r : List Mk) : askHi agg now wd (a :: r) = if now - wd < a.t then ofV agg a else if (mkAt r 0).seq = a.seq + 1 then ofV agg (mkAt r 0) else ofV agg a := by
  unfold askHi
  rw [if_neg (List.cons_ne_nil _ _)]
  rfl
theorem agg_some (agg : Int) (l : List Itm) : ∃ n, AggIs agg l n := by
  by_cases c : agg = 4
  · have ex : ∀ l : List Itm, l = [] ∨ ∃ lo hi, IsMin l lo ∧ IsMax l hi := by
      intro l
      induction l with
      | nil => exact .inl rfl
      | cons x l ih =>
        right
        rcases ih with rfl | ⟨lo, hi, ⟨⟨y, hy, ey⟩, a⟩, ⟨⟨z, hz, ez⟩, b⟩⟩
        · exact ⟨x.v, x.v, IsMin.one x, IsMax.one x⟩
        · refine ⟨min x.v lo, max x.v hi, ⟨?_, ?_⟩, ?_, ?_⟩
          · rcases Int.le_total x.v lo with c | c
            · exact ⟨x, by simp, by omega⟩
            · exact ⟨y, by simp [hy], by omega⟩
          · intro u hu
            rcases List.mem_cons.1 hu with rfl | hu
            · omega
            · have := a u hu; omega
          · rcases Int.le_total hi x.v with c | c
            · exact ⟨x, by simp, by omega⟩
            · exact ⟨z, by simp [hz], by omega⟩
          · intro u hu
            rcases List.mem_cons.1 hu with rfl | hu
            · omega
            · have := b u hu; omega
    rcases ex l with e | ⟨lo, hi, a, b⟩
    · exact ⟨0, fun h => by omega, fun h => by omega, fun h => by omega, fun _ => .inl ⟨e, rfl⟩⟩
    · exact ⟨hi - lo, fun h => by omega, fun h => by omega, fun h => by omega, fun _ => .inr ⟨lo, hi, a, b, rfl⟩⟩
  · exact ⟨if agg = 1 then l.length else if agg = 2 then isum l else isq l, fun h => by rw [if_pos h], fun h => by rw [if_neg (by omega), if_pos h], fun h => by rw [if_neg (by omega), if_neg (by omega)], fun h => absurd h c⟩
/-- The answer of a histogram of items. -/
theorem ask_true {agg wd k cap now seq n : Int} {l : List Mk} {its : List Itm} (hv : smValid agg wd k cap now seq l) (h : HistOf l seq now wd its) (hok : ValsOK agg its) (hn : AggIs agg (liveI now wd its) n) :
    askLo agg now wd l ≤ n ∧ n ≤ askHi agg now wd l ∧ k * (askHi agg now wd l - askLo agg now wd l) ≤ n := by
  obtain ⟨⟨ha, g2, g3, g4, g5, g6, g7, g8, g9⟩, hm, hs⟩ := hv
  obtain ⟨hq, hV⟩ := mvalid_iff.1 hm
  obtain ⟨far, gap⟩ := smAt_iff.1 hs
  obtain ⟨p, hp, el, lt, ge⟩ := live_drop (wd := wd) h.ord
  rw [el] at hn
  have n0 : ∀ {x : Int} {l : List Itm}, ValsOK agg l → AggIs agg l x → 0 ≤ x := fun {x l} hl hx => by
    have := agg_mono (a := l) (b := []) (n := 0) (n' := x) ha hl ⟨fun _ => rfl, fun _ => rfl, fun _ => rfl, fun _ => .inl ⟨rfl, rfl⟩⟩ (by simpa using hx)
    exact this
  have vd : ∀ q, ValsOK agg (its.drop q) := fun q x hx => hok x (List.mem_of_mem_drop hx)
  have bd : ∀ m ∈ l, -4096 ≤ m.lo ∧ m.hi ≤ 4096 ∧ m.lo ≤ m.hi := fun m hmm => by
    have := hV.one m hmm
    have lg := leastV_ge agg
    exact ⟨by have := this.2.2.2.2.2.2.1; omega, this.2.2.2.2.2.2.2.1, this.2.2.2.2.2.2.2.2.1⟩
  cases l with
  | nil =>
    rw [askLo_nil, askHi_nil]
    have : p = its.length := by
      rcases Nat.lt_or_ge p its.length with c | c
      · have := h.gone p c (fun e => absurd rfl e)
        have := ge p (Nat.le_refl _) c
        omega
      · omega
    subst this
    rw [List.drop_length] at hn
    have := agg_nil ha hn
    subst this
    omega
  | cons a r =>
    obtain ⟨a1, a2, a3, a4⟩ := h.mks a (by simp)
    have hgone : ∀ i : Nat, i < its.length → (i : Int) < a.seq - 1 → (itmAt its i).t ≤ now - wd := fun i hi hc => h.gone i hi (fun _ => hc)
    rw [askLo_cons, askHi_cons]
    have pa : (a.seq - 1).toNat ≤ p := by
      rcases Nat.lt_or_ge p (a.seq - 1).toNat with c | c
      · have := hgone p (by omega) (by omega)
        have := ge p (Nat.le_refl _) (by omega)
        omega
      · exact c
    by_cases hl : now - wd < a.t
    · rw [if_pos hl, if_pos hl]
      have ep : p = (a.seq - 1).toNat := by
        rcases Nat.lt_or_ge (a.seq - 1).toNat p with c | c
        · exact absurd hl (by rw [a3]; exact lt _ c)
        · omega
      rw [ep] at hn
      have e := agg_mk ha a4 (bd a (by simp)) hn
      have := n0 (vd _) hn
      rw [e, Int.sub_self, Int.mul_zero]
      omega
    · rw [if_neg hl, if_neg hl]
      cases r with
      | nil => exact absurd (hV.alone a rfl) hl
      | cons b r =>
        rw [mkAt_zero]
        obtain ⟨b1, b2, b3, b4⟩ := h.mks b (by simp)
        have hbl : now - wd < b.t := hV.live b (by simp)
        have pb : p ≤ (b.seq - 1).toNat := by
          rcases Nat.lt_or_ge (b.seq - 1).toNat p with c | c
          · exact absurd hbl (by rw [b3]; exact lt _ c)
          · exact c
        have pa2 : (a.seq - 1).toNat < p := by
          rcases Nat.lt_or_ge (a.seq - 1).toNat p with c | c
          · exact c
          · have := ge (a.seq - 1).toNat c (by omega)
            rw [← a3] at this
            exact absurd this hl
        obtain ⟨nb, hnb⟩ := agg_some agg (its.drop (b.seq - 1).toNat)
        obtain ⟨na, hna⟩ := agg_some agg (its.drop (a.seq - 1).toNat)
        have eb := agg_mk ha b4 (bd b (by simp)) hnb
        have ea := agg_mk ha a4 (bd a (by simp)) hna
        have split : ∀ i j, i ≤ j → its.drop i = (its.drop i).take (j - i) ++ its.drop j := fun i j hij => by
          rw [show its.drop j = (its.drop i).drop (j - i) by rw [List.drop_drop]; congr 1; omega, List.take_append_drop]
        have m1 : nb ≤ n := by
          rw [split p _ pb] at hn
          exact agg_mono ha (fun x hx => vd p x (List.mem_of_mem_take hx)) hnb hn
        have m2 : n ≤ na := by
          rw [split _ p pa] at hna
          exact agg_mono ha (fun x hx => vd (a.seq - 1).toNat x (List.mem_of_mem_take hx)) hn hna
        have hnn := n0 (vd _) hn
        rw [eb, ea]
        by_cases hsq : b.seq = a.seq + 1
        · rw [if_pos hsq]
          have ep : p = (b.seq - 1).toNat := by omega
          rw [ep] at hn
          have e := agg_mk ha b4 (bd b (by simp)) hn
          rw [eb] at e
          rw [Int.sub_self, Int.mul_zero]
          omega
        · rw [if_neg hsq]
          have tw : twoP a b := List.rel_of_pairwise_cons hV.two (by simp)
          have hne := gap 0 (by simp) (by rw [mkAt_succ, mkAt_zero, mkAt_zero]; have := tw.1; omega)
          rw [mkAt_succ, mkAt_zero, mkAt_zero] at hne
          unfold nearP at hne
          rw [ea, eb, Int.add_mul, Int.one_mul] at hne
          rw [Int.mul_sub]
          omega
theorem ask_le {agg wd k cap now seq : Int} {l : List Mk} (hv : smValid agg wd k cap now seq l) : 0 ≤ askLo agg now wd l ∧ askLo agg now wd l ≤ askHi agg now wd l ∧ askHi agg now wd l ≤ 1099511627776 := by
  obtain ⟨⟨ha, g2, g3, g4, g5, g6, g7, g8, g9⟩, hm, _⟩ := hv
  obtain ⟨hq, hV⟩ := mvalid_iff.1 hm
  cases l with
  | nil => rw [askLo_nil, askHi_nil]; omega
  | cons a r =>
    have oa := ofV_bound (hV.one a (by simp)) (by omega)
    rw [askLo_cons, askHi_cons]
    by_cases hl : now - wd < a.t
    · rw [if_pos hl, if_pos hl]
      omega
    · rw [if_neg hl, if_neg hl]
      cases r with
      | nil => exact absurd (hV.alone a rfl) hl
      | cons b r =>
        rw [mkAt_zero]
        have ob := ofV_bound (hV.one b (by simp)) (by omega)
        have tw : twoP a b := List.rel_of_pairwise_cons hV.two (by simp)
        split
        · omega
        · have hab : ofV agg b ≤ ofV agg a := by
            obtain ⟨t1, t2, t3, t4, p1, p2, p3, p4, p5⟩ := tw
            have e1 := (hV.one a (by simp)).2.2.1
            have e2 := (hV.one b (by simp)).2.2.1
            have a7 := (hV.one a (by simp)).2.2.2.2.2.2.1
            have a8 := (hV.one a (by simp)).2.2.2.2.2.2.2.1
            have a9 := (hV.one a (by simp)).2.2.2.2.2.2.2.2.1
            have b9 := (hV.one b (by simp)).2.2.2.2.2.2.2.2.1
            have lg := leastV_ge agg
            have c : agg = 1 ∨ agg = 2 ∨ agg = 3 ∨ agg = 4 := by omega
            rcases c with c | c | c | c
            · subst c; simp [ofV]; omega
            · subst c
              have hl0 : leastV 2 = 0 := by decide
              have : 0 ≤ (a.n - b.n) * a.lo := Int.mul_nonneg (by omega) (by omega)
              simp [ofV]; omega
            · subst c; simp [ofV]; omega
            · subst c; simp only [ofV]; simp; omega
          omega
theorem bitLen_gt (x : Nat) (hx : x < 18446744073709551616) : x < 2 ^ Lib.bitLen x := by
  induction x using Nat.strongRecOn with
  | _ x ih =>
    by_cases h : x = 0
    · subst h; decide
    · have i := ih (x / 2) (by omega) (by omega)
      rw [bits_step h hx, Nat.pow_succ]
      omega
/-- Every other mark loses a part: k steps halve. -/
theorem halved {k : Nat} (hk : 1 ≤ k) {x : Nat → Int} {n : Nat} (h0 : ∀ j, j ≤ n → 0 ≤ x j) (h : ∀ j, j < n → (k + 1) * x (j + 1) < k * x j) : ∀ j, j + k ≤ n → 2 * x (j + k) < x j := by
  have mono : ∀ d j, j + d ≤ n → x (j + d) ≤ x j := by
    intro d
    induction d with
    | zero => intro j _; exact Int.le_refl _
    | succ d ih =>
      intro j hj
      have a := ih j (by omega)
      have b := h (j + d) (by omega)
      have c := h0 (j + d + 1) (by omega)
      rw [Int.add_mul, Int.one_mul] at b
      have : (k : Int) * x (j + d + 1) < k * x (j + d) := by omega
      have := Int.lt_of_mul_lt_mul_left this (by omega)
      rw [← Nat.add_assoc]
      omega
  have sum : ∀ d j, j + d ≤ n → 1 ≤ d → (d : Int) * x (j + d) < k * (x j - x (j + d)) := by
    intro d
    induction d with
    | zero => intro j _ h; omega
    | succ d ih =>
      intro j hj _
      have b := h (j + d) (by omega)
      rw [Int.add_mul, Int.one_mul] at b
      have e : j + (d + 1) = j + d + 1 := by omega
      rw [e]
      by_cases hd : d = 0
      · subst hd
        simp only [Nat.add_zero] at b ⊢
        rw [Int.mul_sub]
        have : ((0 + 1 : Nat) : Int) = 1 := rfl
        rw [this, Int.one_mul]
        omega
      · have a := ih j (by omega) (by omega)
        have m := mono 1 (j + d) (by omega)
        have m2 : (d : Int) * x (j + d + 1) ≤ d * x (j + d) := Int.mul_le_mul_of_nonneg_left m (by omega)
        have e2 : ((d + 1 : Nat) : Int) * x (j + d + 1) = d * x (j + d + 1) + x (j + d + 1) := by rw [Int.natCast_succ, Int.add_mul, Int.one_mul]
        rw [Int.mul_sub] at a ⊢
        omega
  intro j hj
  have := sum k j hj hk
  have := Int.lt_of_mul_lt_mul_left this (by omega)
  omega
theorem halved_pow {k : Nat} (hk : 1 ≤ k) {x : Nat → Int} {n : Nat} (h0 : ∀ j, j ≤ n → 0 ≤ x j) (h : ∀ j, j < n → (k + 1) * x (j + 1) < k * x j) : ∀ b, k * b ≤ n → 2 ^ b * x (k * b) ≤ x 0
  | 0, _ => by simp
  | b + 1, hb => by
    rw [Nat.mul_succ] at hb ⊢
    have ih := halved_pow hk h0 h b (by omega)
    have h1 := halved hk h0 h (k * b) hb
    have h2 : (2 : Int) ^ b * (2 * x (k * b + k)) ≤ 2 ^ b * x (k * b) := Int.mul_le_mul_of_nonneg_left (by omega) (Int.pow_nonneg (by decide))
    rw [Int.pow_succ, Int.mul_assoc]
    omega
theorem few_steps {k : Nat} (hk : 1 ≤ k) {x : Nat → Int} {n f : Nat} (hf : f < 18446744073709551616) (h0 : ∀ j, j ≤ n → 0 ≤ x j) (h : ∀ j, j < n → (k + 1) * x (j + 1) < k * x j) (hx : x 0 ≤ f) : n ≤ k * Lib.bitLen f := by
  rcases Nat.lt_or_ge (k * Lib.bitLen f) n with c | c
  · exfalso
    have h1 := halved_pow hk h0 h (Lib.bitLen f) (by omega)
    have h2 := bitLen_gt f hf
    generalize Lib.bitLen f = b at *
    have h3 : ((2 ^ b : Nat) : Int) * x (k * b) ≤ x 0 := by rw [Int.natCast_pow]; exact h1
    have h4 := h0 (k * b) (by omega)
    have h5 : x (k * b) = 0 := by
      rcases Int.lt_or_le 0 (x (k * b)) with g | g
      · have : ((2 ^ b : Nat) : Int) * 1 ≤ ((2 ^ b : Nat) : Int) * x (k * b) := Int.mul_le_mul_of_nonneg_left (by omega) (by omega)
        omega
      · omega
    have h6 := h (k * b) c
    have h7 := h0 (k * b + 1) (by omega)
    rw [h5, Int.mul_zero] at h6
    have : 0 ≤ ((k : Int) + 1) * x (k * b + 1) := Int.mul_nonneg (by omega) h7
    omega
  · exact c
/-- The greatest aggregate. -/
def topF (agg cap : Int) : Int := if agg = 2 then cap * 4096 else if agg = 3 then cap * 16777216 else if agg = 4 then 8192 else cap
def mostS (agg k cap : Int) : Int := if (1 ≤ agg ∧ agg ≤ 4) ∧ 1 ≤ k ∧ k ≤ 64 ∧ 1 ≤ cap ∧ cap ≤ 65536 then 2 * k * (Lib.bitLen (topF agg cap).toNat : Nat) + 2 else 0
theorem topF_pos {agg cap : Int} (h : 1 ≤ cap ∧ cap ≤ 65536) : 1 ≤ topF agg cap ∧ topF agg cap ≤ 1099511627776 := by
  unfold topF
  split
  · omega
  · split
    · omega
    · split <;> omega
theorem ofV_top {agg seq cap now w : Int} {m : Mk} (ha : 1 ≤ agg ∧ agg ≤ 4) (h : oneP seq cap now w (leastV agg) m) (hc : cap ≤ 65536) : ofV agg m ≤ topF agg cap := by
  obtain ⟨h1, h2, h3, h4, h5, h6, h7, h8, h9, p1, p2, p3, p4, p5⟩ := h
  have hn : 0 ≤ m.n := by omega
  have lg := leastV_ge agg
  have c : agg = 1 ∨ agg = 2 ∨ agg = 3 ∨ agg = 4 := by omega
  rcases c with c | c | c | c
  · subst c; simp [ofV, topF]; omega
  · subst c
    have b1 : m.n * m.hi ≤ cap * 4096 := by
      rcases Int.le_total 0 m.hi with g | g
      · exact Int.mul_le_mul h4 h8 g (by omega)
      · have : m.n * m.hi ≤ 0 := Int.mul_nonpos_of_nonneg_of_nonpos hn g
        omega
    simp [ofV, topF]; omega
  · subst c; simp [ofV, topF]; omega
  · subst c; simp only [ofV, topF]; simp; omega
theorem few_marks {agg wd k cap now seq : Int} {l : List Mk} (hv : smValid agg wd k cap now seq l) : (l.length : Int) ≤ mostS agg k cap := by
  obtain ⟨⟨ha, g2, g3, g4, g5, g6, g7, g8, g9⟩, hm, hs⟩ := hv
  obtain ⟨hq, hV⟩ := mvalid_iff.1 hm
  obtain ⟨far, gap⟩ := smAt_iff.1 hs
  have tp := topF_pos (agg := agg) ⟨g6, g7⟩
  unfold mostS
  rw [if_pos ⟨ha, g4, g5, g6, g7⟩]
  obtain ⟨kn, rfl⟩ : ∃ kn : Nat, k = (kn : Int) := ⟨k.toNat, by omega⟩
  by_cases hl : l.length ≤ 2
  · have : 0 ≤ 2 * (kn : Int) * ((Lib.bitLen (topF agg cap).toNat : Nat) : Int) := Int.mul_nonneg (by omega) (by omega)
    omega
  · have hfs := few_steps (k := kn) (by omega) (x := fun j => ofV agg (mkAt l (2 * j))) (n := (l.length - 1) / 2) (f := (topF agg cap).toNat) (by omega) (fun j hj => (ofV_bound (hV.one _ (mkAt_mem (by omega))) (by omega)).1) (fun j hj => ?_) ?_
    · have e : ((2 * (kn : Int)) * ((Lib.bitLen (topF agg cap).toNat : Nat) : Int)) = ((2 * (kn * Lib.bitLen (topF agg cap).toNat) : Nat) : Int) := by
        rw [Int.natCast_mul, Int.natCast_mul, Int.mul_assoc]; rfl
      rw [e]
      omega
    · have := far (2 * j) (by omega)
      unfold nearP at this
      show ((kn : Int) + 1) * ofV agg (mkAt l (2 * (j + 1))) < kn * ofV agg (mkAt l (2 * j))
      rw [show 2 * (j + 1) = 2 * j + 2 by omega]
      omega
    · have := ofV_top ha (hV.one _ (mkAt_mem (i := 2 * 0) (by omega))) (by omega)
      show ofV agg (mkAt l (2 * 0)) ≤ _
      omega
end Go.Proofs.Ythknkdjpfanlnaa
end
section
/- Smooth histograms: the bound of the number of marks; the law of new states, walked. -/
set_option linter.unusedVariables false
set_option linter.unusedSimpArgs false
set_option linter.unusedSectionVars false
set_option linter.unnecessarySimpa false
namespace Go.Proofs.Ythknkdjpfanlnaa
open Go.RowKit
theorem psmost_1 (k cap : Int) (w : World) (h : 1 ≤ k ∧ k ≤ 64 ∧ 1 ≤ cap ∧ cap ≤ 65536) : Calls Try.prog 26 #[.int .i64 1, .int .i64 k, .int .i64 cap] w fun e w' => e = .returned (.int .i64 (mostS 1 k cap)) ∧ w' = w := by
  rw [show mostS 1 k cap = 2 * k * (Lib.bitLen (cap : Int).toNat : Nat) + 2 by unfold mostS; rw [if_pos ⟨by decide, h⟩]; rfl]
  have hb : (((cap : Int).toNat : Nat) : Int) = cap := by omega
  have PB := fun w => nbits (cap : Int).toNat (by omega) w
  rw [hb] at PB
  have bb : Lib.bitLen (cap : Int).toNat ≤ 64 := bits_le 64 _
  generalize Lib.bitLen (cap : Int).toNat = b at PB bb ⊢
  replace PB := Lib.hid PB
  have PG := fun w => pgoodS 1 1 k cap 0 w
  rw [decide_eq_true (show smGood 1 1 k cap 0 from ⟨by decide, by omega, by omega, h.1, h.2.1, h.2.2.1, h.2.2.2, by omega, by omega⟩)] at PG
  replace PG := Lib.hid PG
  have mm : 0 ≤ 2 * k * (b : Int) ∧ 2 * k * (b : Int) ≤ 128 * 64 := ⟨Int.mul_nonneg (by omega) (by omega), Int.mul_le_mul (by omega) (by omega) (by omega) (by decide)⟩
  have w1 : IntKind.i64.wrap (2 * k) = 2 * k := IntWalk.i64_in _ (by omega)
  have w2 : IntKind.i64.wrap (2 * k * (b : Int)) = 2 * k * (b : Int) := IntWalk.i64_in _ (by omega)
  have w3 : IntKind.i64.wrap (2 * k * (b : Int) + 2) = 2 * k * (b : Int) + 2 := IntWalk.i64_in _ (by omega)
  clear h hb mm bb
  go_enter Try.func26, Try.ntmps26
  go_wp2_with (first | (go_at_call 36; with_reducible refine (PG.out _).mono ?_; rintro e w9 ⟨rfl, h9⟩; obtain rfl := h9.symm) | (go_at_call 58; with_reducible refine (PB.out _).mono ?_; rintro e w9 ⟨rfl, h9⟩; obtain rfl := h9.symm))
  go_ret
  exact ⟨rfl, rfl⟩
theorem psmost_2 (k cap : Int) (w : World) (h : 1 ≤ k ∧ k ≤ 64 ∧ 1 ≤ cap ∧ cap ≤ 65536) : Calls Try.prog 26 #[.int .i64 2, .int .i64 k, .int .i64 cap] w fun e w' => e = .returned (.int .i64 (mostS 2 k cap)) ∧ w' = w := by
  rw [show mostS 2 k cap = 2 * k * (Lib.bitLen (cap * 4096 : Int).toNat : Nat) + 2 by unfold mostS; rw [if_pos ⟨by decide, h⟩]; rfl]
  have hb : (((cap * 4096 : Int).toNat : Nat) : Int) = cap * 4096 := by omega
  have PB := fun w => nbits (cap * 4096 : Int).toNat (by omega) w
  rw [hb] at PB
  have bb : Lib.bitLen (cap * 4096 : Int).toNat ≤ 64 := bits_le 64 _
  generalize Lib.bitLen (cap * 4096 : Int).toNat = b at PB bb ⊢
  replace PB := Lib.hid PB
  have PG := fun w => pgoodS 2 1 k cap 0 w
  rw [decide_eq_true (show smGood 2 1 k cap 0 from ⟨by decide, by omega, by omega, h.1, h.2.1, h.2.2.1, h.2.2.2, by omega, by omega⟩)] at PG
  replace PG := Lib.hid PG
  have mm : 0 ≤ 2 * k * (b : Int) ∧ 2 * k * (b : Int) ≤ 128 * 64 := ⟨Int.mul_nonneg (by omega) (by omega), Int.mul_le_mul (by omega) (by omega) (by omega) (by decide)⟩
  have w1 : IntKind.i64.wrap (2 * k) = 2 * k := IntWalk.i64_in _ (by omega)
  have w2 : IntKind.i64.wrap (2 * k * (b : Int)) = 2 * k * (b : Int) := IntWalk.i64_in _ (by omega)
  have w3 : IntKind.i64.wrap (2 * k * (b : Int) + 2) = 2 * k * (b : Int) + 2 := IntWalk.i64_in _ (by omega)
  have wt : IntKind.i64.wrap (cap * 4096) = cap * 4096 := IntWalk.i64_in _ (by omega)
  clear h hb mm bb
  go_enter Try.func26, Try.ntmps26
  go_wp2_with (first | (go_at_call 36; with_reducible refine (PG.out _).mono ?_; rintro e w9 ⟨rfl, h9⟩; obtain rfl := h9.symm) | (go_at_call 58; with_reducible refine (PB.out _).mono ?_; rintro e w9 ⟨rfl, h9⟩; obtain rfl := h9.symm))
  go_ret
  exact ⟨rfl, rfl⟩
theorem psmost_3 (k cap : Int) (w : World) (h : 1 ≤ k ∧ k ≤ 64 ∧ 1 ≤ cap ∧ cap ≤ 65536) : Calls Try.prog 26 #[.int .i64 3, .int .i64 k, .int .i64 cap] w fun e w' => e = .returned (.int .i64 (mostS 3 k cap)) ∧ w' = w := by
  rw [show mostS 3 k cap = 2 * k * (Lib.bitLen (cap * 16777216 : Int).toNat : Nat) + 2 by unfold mostS; rw [if_pos ⟨by decide, h⟩]; rfl]
  have hb : (((cap * 16777216 : Int).toNat : Nat) : Int) = cap * 16777216 := by omega
  have PB := fun w => nbits (cap * 16777216 : Int).toNat (by omega) w
  rw [hb] at PB
  have bb : Lib.bitLen (cap * 16777216 : Int).toNat ≤ 64 := bits_le 64 _
  generalize Lib.bitLen (cap * 16777216 : Int).toNat = b at PB bb ⊢
  replace PB := Lib.hid PB
  have PG := fun w => pgoodS 3 1 k cap 0 w
  rw [decide_eq_true (show smGood 3 1 k cap 0 from ⟨by decide, by omega, by omega, h.1, h.2.1, h.2.2.1, h.2.2.2, by omega, by omega⟩)] at PG
  replace PG := Lib.hid PG
  have mm : 0 ≤ 2 * k * (b : Int) ∧ 2 * k * (b : Int) ≤ 128 * 64 := ⟨Int.mul_nonneg (by omega) (by omega), Int.mul_le_mul (by omega) (by omega) (by omega) (by decide)⟩
  have w1 : IntKind.i64.wrap (2 * k) = 2 * k := IntWalk.i64_in _ (by omega)
  have w2 : IntKind.i64.wrap (2 * k * (b : Int)) = 2 * k * (b : Int) := IntWalk.i64_in _ (by omega)
  have w3 : IntKind.i64.wrap (2 * k * (b : Int) + 2) = 2 * k * (b : Int) + 2 := IntWalk.i64_in _ (by omega)
  have wt0 : IntKind.i64.wrap (cap * 4096) = cap * 4096 := IntWalk.i64_in _ (by omega)
  have wt1 : IntKind.i64.wrap (cap * 4096 * 4096) = cap * 16777216 := by rw [IntWalk.i64_in _ (by omega)]; omega
  have wt : IntKind.i64.wrap (cap * 16777216) = cap * 16777216 := IntWalk.i64_in _ (by omega)
  clear h hb mm bb
  go_enter Try.func26, Try.ntmps26
  go_wp2_with (first | (go_at_call 36; with_reducible refine (PG.out _).mono ?_; rintro e w9 ⟨rfl, h9⟩; obtain rfl := h9.symm) | (go_at_call 58; with_reducible refine (PB.out _).mono ?_; rintro e w9 ⟨rfl, h9⟩; obtain rfl := h9.symm))
  go_ret
  exact ⟨rfl, rfl⟩
theorem psmost_4 (k cap : Int) (w : World) (h : 1 ≤ k ∧ k ≤ 64 ∧ 1 ≤ cap ∧ cap ≤ 65536) : Calls Try.prog 26 #[.int .i64 4, .int .i64 k, .int .i64 cap] w fun e w' => e = .returned (.int .i64 (mostS 4 k cap)) ∧ w' = w := by
  rw [show mostS 4 k cap = 2 * k * (Lib.bitLen (8192 : Int).toNat : Nat) + 2 by unfold mostS; rw [if_pos ⟨by decide, h⟩]; rfl]
  have hb : (((8192 : Int).toNat : Nat) : Int) = 8192 := by omega
  have PB := fun w => nbits (8192 : Int).toNat (by omega) w
  rw [hb] at PB
  have bb : Lib.bitLen (8192 : Int).toNat ≤ 64 := bits_le 64 _
  generalize Lib.bitLen (8192 : Int).toNat = b at PB bb ⊢
  replace PB := Lib.hid PB
  have PG := fun w => pgoodS 4 1 k cap 0 w
  rw [decide_eq_true (show smGood 4 1 k cap 0 from ⟨by decide, by omega, by omega, h.1, h.2.1, h.2.2.1, h.2.2.2, by omega, by omega⟩)] at PG
  replace PG := Lib.hid PG
  have mm : 0 ≤ 2 * k * (b : Int) ∧ 2 * k * (b : Int) ≤ 128 * 64 := ⟨Int.mul_nonneg (by omega) (by omega), Int.mul_le_mul (by omega) (by omega) (by omega) (by decide)⟩
  have w1 : IntKind.i64.wrap (2 * k) = 2 * k := IntWalk.i64_in _ (by omega)
  have w2 : IntKind.i64.wrap (2 * k * (b : Int)) = 2 * k * (b : Int) := IntWalk.i64_in _ (by omega)
  have w3 : IntKind.i64.wrap (2 * k * (b : Int) + 2) = 2 * k * (b : Int) + 2 := IntWalk.i64_in _ (by omega)
  clear h hb mm bb
  go_enter Try.func26, Try.ntmps26
  go_wp2_with (first | (go_at_call 36; with_reducible refine (PG.out _).mono ?_; rintro e w9 ⟨rfl, h9⟩; obtain rfl := h9.symm) | (go_at_call 58; with_reducible refine (PB.out _).mono ?_; rintro e w9 ⟨rfl, h9⟩; obtain rfl := h9.symm))
  go_ret
  exact ⟨rfl, rfl⟩
theorem rsmost_1 (k cap : Int) (w : World) (h : 1 ≤ k ∧ k ≤ 64 ∧ 1 ≤ cap ∧ cap ≤ 65536) : Calls Try.prog 27 #[.int .i64 1, .int .i64 k, .int .i64 cap] w fun e w' => e = .returned (.int .i64 (mostS 1 k cap)) ∧ w' = w := by
  rw [show mostS 1 k cap = 2 * k * (Lib.bitLen (cap : Int).toNat : Nat) + 2 by unfold mostS; rw [if_pos ⟨by decide, h⟩]; rfl]
  have hb : (((cap : Int).toNat : Nat) : Int) = cap := by omega
  have PB := fun w => rbits (cap : Int).toNat (by omega) w
  rw [hb] at PB
  have bb : Lib.bitLen (cap : Int).toNat ≤ 64 := bits_le 64 _
  generalize Lib.bitLen (cap : Int).toNat = b at PB bb ⊢
  replace PB := Lib.hid PB
  have PG := fun w => rmayk k w
  rw [decide_eq_true ⟨h.1, h.2.1⟩] at PG
  replace PG := Lib.hid PG
  have PA := fun w => rmayaggD 1 w
  rw [decide_eq_true (by decide)] at PA
  replace PA := Lib.hid PA
  have t0 : ¬ cap < 1 := by omega
  have t1 : ¬ (65536 : Int) < cap := by omega
  have mm : 0 ≤ 2 * k * (b : Int) ∧ 2 * k * (b : Int) ≤ 128 * 64 := ⟨Int.mul_nonneg (by omega) (by omega), Int.mul_le_mul (by omega) (by omega) (by omega) (by decide)⟩
  have w1 : IntKind.i64.wrap (2 * k) = 2 * k := IntWalk.i64_in _ (by omega)
  have w2 : IntKind.i64.wrap (2 * k * (b : Int)) = 2 * k * (b : Int) := IntWalk.i64_in _ (by omega)
  have w3 : IntKind.i64.wrap (2 * k * (b : Int) + 2) = 2 * k * (b : Int) + 2 := IntWalk.i64_in _ (by omega)
  clear h hb mm bb
  go_enter Try.func27, Try.ntmps27
  go_wp2_with (first | (go_at_call 42; with_reducible refine (PG.out _).mono ?_; rintro e w9 ⟨rfl, h9⟩; obtain rfl := h9.symm) | (go_at_call 40; with_reducible refine (PA.out _).mono ?_; rintro e w9 ⟨rfl, h9⟩; obtain rfl := h9.symm) | (go_at_call 59; with_reducible refine (PB.out _).mono ?_; rintro e w9 ⟨rfl, h9⟩; obtain rfl := h9.symm))
  go_ret
  exact ⟨rfl, rfl⟩
theorem rsmost_2 (k cap : Int) (w : World) (h : 1 ≤ k ∧ k ≤ 64 ∧ 1 ≤ cap ∧ cap ≤ 65536) : Calls Try.prog 27 #[.int .i64 2, .int .i64 k, .int .i64 cap] w fun e w' => e = .returned (.int .i64 (mostS 2 k cap)) ∧ w' = w := by
  rw [show mostS 2 k cap = 2 * k * (Lib.bitLen (cap * 4096 : Int).toNat : Nat) + 2 by unfold mostS; rw [if_pos ⟨by decide, h⟩]; rfl]
  have hb : (((cap * 4096 : Int).toNat : Nat) : Int) = cap * 4096 := by omega
  have PB := fun w => rbits (cap * 4096 : Int).toNat (by omega) w
  rw [hb] at PB
  have bb : Lib.bitLen (cap * 4096 : Int).toNat ≤ 64 := bits_le 64 _
  generalize Lib.bitLen (cap * 4096 : Int).toNat = b at PB bb ⊢
  replace PB := Lib.hid PB
  have PG := fun w => rmayk k w
  rw [decide_eq_true ⟨h.1, h.2.1⟩] at PG
  replace PG := Lib.hid PG
  have PA := fun w => rmayaggD 2 w
  rw [decide_eq_true (by decide)] at PA
  replace PA := Lib.hid PA
  have t0 : ¬ cap < 1 := by omega
  have t1 : ¬ (65536 : Int) < cap := by omega
  have mm : 0 ≤ 2 * k * (b : Int) ∧ 2 * k * (b : Int) ≤ 128 * 64 := ⟨Int.mul_nonneg (by omega) (by omega), Int.mul_le_mul (by omega) (by omega) (by omega) (by decide)⟩
  have w1 : IntKind.i64.wrap (2 * k) = 2 * k := IntWalk.i64_in _ (by omega)
  have w2 : IntKind.i64.wrap (2 * k * (b : Int)) = 2 * k * (b : Int) := IntWalk.i64_in _ (by omega)
  have w3 : IntKind.i64.wrap (2 * k * (b : Int) + 2) = 2 * k * (b : Int) + 2 := IntWalk.i64_in _ (by omega)
  have wt : IntKind.i64.wrap (cap * 4096) = cap * 4096 := IntWalk.i64_in _ (by omega)
  clear h hb mm bb
  go_enter Try.func27, Try.ntmps27
  go_wp2_with (first | (go_at_call 42; with_reducible refine (PG.out _).mono ?_; rintro e w9 ⟨rfl, h9⟩; obtain rfl := h9.symm) | (go_at_call 40; with_reducible refine (PA.out _).mono ?_; rintro e w9 ⟨rfl, h9⟩; obtain rfl := h9.symm) | (go_at_call 59; with_reducible refine (PB.out _).mono ?_; rintro e w9 ⟨rfl, h9⟩; obtain rfl := h9.symm))
  go_ret
  exact ⟨rfl, rfl⟩
theorem rsmost_3 (k cap : Int) (w : World) (h : 1 ≤ k ∧ k ≤ 64 ∧ 1 ≤ cap ∧ cap ≤ 65536) : Calls Try.prog 27 #[.int .i64 3, .int .i64 k, .int .i64 cap] w fun e w' => e = .returned (.int .i64 (mostS 3 k cap)) ∧ w' = w := by
  rw [show mostS 3 k cap = 2 * k * (Lib.bitLen (cap * 16777216 : Int).toNat : Nat) + 2 by unfold mostS; rw [if_pos ⟨by decide, h⟩]; rfl]
  have hb : (((cap * 16777216 : Int).toNat : Nat) : Int) = cap * 16777216 := by omega
  have PB := fun w => rbits (cap * 16777216 : Int).toNat (by omega) w
  rw [hb] at PB
  have bb : Lib.bitLen (cap * 16777216 : Int).toNat ≤ 64 := bits_le 64 _
  generalize Lib.bitLen (cap * 16777216 : Int).toNat = b at PB bb ⊢
  replace PB := Lib.hid PB
  have PG := fun w => rmayk k w
  rw [decide_eq_true ⟨h.1, h.2.1⟩] at PG
  replace PG := Lib.hid PG
  have PA := fun w => rmayaggD 3 w
  rw [decide_eq_true (by decide)] at PA
  replace PA := Lib.hid PA
  have t0 : ¬ cap < 1 := by omega
  have t1 : ¬ (65536 : Int) < cap := by omega
  have mm : 0 ≤ 2 * k * (b : Int) ∧ 2 * k * (b : Int) ≤ 128 * 64 := ⟨Int.mul_nonneg (by omega) (by omega), Int.mul_le_mul (by omega) (by omega) (by omega) (by decide)⟩
  have w1 : IntKind.i64.wrap (2 * k) = 2 * k := IntWalk.i64_in _ (by omega)
  have w2 : IntKind.i64.wrap (2 * k * (b : Int)) = 2 * k * (b : Int) := IntWalk.i64_in _ (by omega)
  have w3 : IntKind.i64.wrap (2 * k * (b : Int) + 2) = 2 * k * (b : Int) + 2 := IntWalk.i64_in _ (by omega)
  have wt0 : IntKind.i64.wrap (cap * 4096) = cap * 4096 := IntWalk.i64_in _ (by omega)
  have wt1 : IntKind.i64.wrap (cap * 4096 * 4096) = cap * 16777216 := by rw [IntWalk.i64_in _ (by omega)]; omega
  have wt : IntKind.i64.wrap (cap * 16777216) = cap * 16777216 := IntWalk.i64_in _ (by omega)
  clear h hb mm bb
  go_enter Try.func27, Try.ntmps27
  go_wp2_with (first | (go_at_call 42; with_reducible refine (PG.out _).mono ?_; rintro e w9 ⟨rfl, h9⟩; obtain rfl := h9.symm) | (go_at_call 40; with_reducible refine (PA.out _).mono ?_; rintro e w9 ⟨rfl, h9⟩; obtain rfl := h9.symm) | (go_at_call 59; with_reducible refine (PB.out _).mono ?_; rintro e w9 ⟨rfl, h9⟩; obtain rfl := h9.symm))
  go_ret
  exact ⟨rfl, rfl⟩
theorem rsmost_4 (k cap : Int) (w : World) (h : 1 ≤ k ∧ k ≤ 64 ∧ 1 ≤ cap ∧ cap ≤ 65536) : Calls Try.prog 27 #[.int .i64 4, .int .i64 k, .int .i64 cap] w fun e w' => e = .returned (.int .i64 (mostS 4 k cap)) ∧ w' = w := by
  rw [show mostS 4 k cap = 2 * k * (Lib.bitLen (8192 : Int).toNat : Nat) + 2 by unfold mostS; rw [if_pos ⟨by decide, h⟩]; rfl]
  have hb : (((8192 : Int).toNat : Nat) : Int) = 8192 := by omega
  have PB := fun w => rbits (8192 : Int).toNat (by omega) w
  rw [hb] at PB
  have bb : Lib.bitLen (8192 : Int).toNat ≤ 64 := bits_le 64 _
  generalize Lib.bitLen (8192 : Int).toNat = b at PB bb ⊢
  replace PB := Lib.hid PB
  have PG := fun w => rmayk k w
  rw [decide_eq_true ⟨h.1, h.2.1⟩] at PG
  replace PG := Lib.hid PG
  have PA := fun w => rmayaggD 4 w
  rw [decide_eq_true (by decide)] at PA
  replace PA := Lib.hid PA
  have t0 : ¬ cap < 1 := by omega
  have t1 : ¬ (65536 : Int) < cap := by omega
  have mm : 0 ≤ 2 * k * (b : Int) ∧ 2 * k * (b : Int) ≤ 128 * 64 := ⟨Int.mul_nonneg (by omega) (by omega), Int.mul_le_mul (by omega) (by omega) (by omega) (by decide)⟩
  have w1 : IntKind.i64.wrap (2 * k) = 2 * k := IntWalk.i64_in _ (by omega)
  have w2 : IntKind.i64.wrap (2 * k * (b : Int)) = 2 * k * (b : Int) := IntWalk.i64_in _ (by omega)
  have w3 : IntKind.i64.wrap (2 * k * (b : Int) + 2) = 2 * k * (b : Int) + 2 := IntWalk.i64_in _ (by omega)
  clear h hb mm bb
  go_enter Try.func27, Try.ntmps27
  go_wp2_with (first | (go_at_call 42; with_reducible refine (PG.out _).mono ?_; rintro e w9 ⟨rfl, h9⟩; obtain rfl := h9.symm) | (go_at_call 40; with_reducible refine (PA.out _).mono ?_; rintro e w9 ⟨rfl, h9⟩; obtain rfl := h9.symm) | (go_at_call 59; with_reducible refine (PB.out _).mono ?_; rintro e w9 ⟨rfl, h9⟩; obtain rfl := h9.symm))
  go_ret
  exact ⟨rfl, rfl⟩
theorem psmost_no (agg k cap : Int) (w : World) (h : ¬ ((1 ≤ agg ∧ agg ≤ 4) ∧ 1 ≤ k ∧ k ≤ 64 ∧ 1 ≤ cap ∧ cap ≤ 65536)) : Calls Try.prog 26 #[.int .i64 agg, .int .i64 k, .int .i64 cap] w fun e w' => e = .returned (.int .i64 (mostS agg k cap)) ∧ w' = w := by
  rw [show mostS agg k cap = 0 by unfold mostS; rw [if_neg h]]
  have PG := fun w => pgoodS agg 1 k cap 0 w
  rw [decide_eq_false (show ¬ smGood agg 1 k cap 0 from fun a => h ⟨a.1, a.2.2.2.1, a.2.2.2.2.1, a.2.2.2.2.2.1, a.2.2.2.2.2.2.1⟩)] at PG
  replace PG := Lib.hid PG
  clear h
  go_enter Try.func26, Try.ntmps26
  go_wp2_with (go_at_call 36; with_reducible refine (PG.out _).mono ?_; rintro e w9 ⟨rfl, h9⟩; obtain rfl := h9.symm)
  go_ret
  exact ⟨rfl, rfl⟩
theorem rsmost_a (agg k cap : Int) (w : World) (h : ¬ (1 ≤ agg ∧ agg ≤ 4)) : Calls Try.prog 27 #[.int .i64 agg, .int .i64 k, .int .i64 cap] w fun e w' => e = .returned (.int .i64 (mostS agg k cap)) ∧ w' = w := by
  rw [show mostS agg k cap = 0 by unfold mostS; rw [if_neg (fun a => h a.1)]]
  have PA := fun w => rmayaggD agg w
  rw [decide_eq_false h] at PA
  replace PA := Lib.hid PA
  go_enter Try.func27, Try.ntmps27
  go_wp2_with (first | (go_at_call 40; with_reducible refine (PA.out _).mono ?_; rintro e w9 ⟨rfl, h9⟩; obtain rfl := h9.symm))
  go_ret
  exact ⟨rfl, rfl⟩
theorem rsmost_b (agg k cap : Int) (w : World) (hA : 1 ≤ agg ∧ agg ≤ 4) (h : ¬ (1 ≤ k ∧ k ≤ 64)) : Calls Try.prog 27 #[.int .i64 agg, .int .i64 k, .int .i64 cap] w fun e w' => e = .returned (.int .i64 (mostS agg k cap)) ∧ w' = w := by
  rw [show mostS agg k cap = 0 by unfold mostS; rw [if_neg (fun a => h ⟨a.2.1, a.2.2.1⟩)]]
  have PA := fun w => rmayaggD agg w
  rw [decide_eq_true hA] at PA
  replace PA := Lib.hid PA
  have PG := fun w => rmayk k w
  rw [decide_eq_false h] at PG
  replace PG := Lib.hid PG
  go_enter Try.func27, Try.ntmps27
  go_wp2_with (first | (go_at_call 40; with_reducible refine (PA.out _).mono ?_; rintro e w9 ⟨rfl, h9⟩; obtain rfl := h9.symm) | (go_at_call 42; with_reducible refine (PG.out _).mono ?_; rintro e w9 ⟨rfl, h9⟩; obtain rfl := h9.symm))
  go_ret
  exact ⟨rfl, rfl⟩
theorem rsmost_c (agg k cap : Int) (w : World) (hA : 1 ≤ agg ∧ agg ≤ 4) (hK : 1 ≤ k ∧ k ≤ 64) (h : cap < 1) : Calls Try.prog 27 #[.int .i64 agg, .int .i64 k, .int .i64 cap] w fun e w' => e = .returned (.int .i64 (mostS agg k cap)) ∧ w' = w := by
  rw [show mostS agg k cap = 0 by unfold mostS; rw [if_neg (fun a => by have := a.2.2.2.1; omega)]]
  have PA := fun w => rmayaggD agg w
  rw [decide_eq_true hA] at PA
  replace PA := Lib.hid PA
  have PG := fun w => rmayk k w
  rw [decide_eq_true hK] at PG
  replace PG := Lib.hid PG
  have t0 : decide (cap < 1) = true := decide_eq_true h
  go_enter Try.func27, Try.ntmps27
  go_wp2_with (first | (go_at_call 40; with_reducible refine (PA.out _).mono ?_; rintro e w9 ⟨rfl, h9⟩; obtain rfl := h9.symm) | (go_at_call 42; with_reducible refine (PG.out _).mono ?_; rintro e w9 ⟨rfl, h9⟩; obtain rfl := h9.symm))
  go_ret
  exact ⟨rfl, rfl⟩
theorem rsmost_d (agg k cap : Int) (w : World) (hA : 1 ≤ agg ∧ agg ≤ 4) (hK : 1 ≤ k ∧ k ≤ 64) (h0 : 1 ≤ cap) (h : 65536 < cap) : Calls Try.prog 27 #[.int .i64 agg, .int .i64 k, .int .i64 cap] w fun e w' => e = .returned (.int .i64 (mostS agg k cap)) ∧ w' = w := by
  rw [show mostS agg k cap = 0 by unfold mostS; rw [if_neg (fun a => by have := a.2.2.2.2; omega)]]
  have PA := fun w => rmayaggD agg w
  rw [decide_eq_true hA] at PA
  replace PA := Lib.hid PA
  have PG := fun w => rmayk k w
  rw [decide_eq_true hK] at PG
  replace PG := Lib.hid PG
  have t0 : ¬ cap < 1 := by omega
  have t1 : 65536 < cap := h
  go_enter Try.func27, Try.ntmps27
  go_wp2_with (first | (go_at_call 40; with_reducible refine (PA.out _).mono ?_; rintro e w9 ⟨rfl, h9⟩; obtain rfl := h9.symm) | (go_at_call 42; with_reducible refine (PG.out _).mono ?_; rintro e w9 ⟨rfl, h9⟩; obtain rfl := h9.symm))
  go_ret
  exact ⟨rfl, rfl⟩
theorem rsmost_no (agg k cap : Int) (w : World) (h : ¬ ((1 ≤ agg ∧ agg ≤ 4) ∧ 1 ≤ k ∧ k ≤ 64 ∧ 1 ≤ cap ∧ cap ≤ 65536)) : Calls Try.prog 27 #[.int .i64 agg, .int .i64 k, .int .i64 cap] w fun e w' => e = .returned (.int .i64 (mostS agg k cap)) ∧ w' = w := by
  by_cases hA : 1 ≤ agg ∧ agg ≤ 4
  · by_cases hK : 1 ≤ k ∧ k ≤ 64
    · by_cases h1 : cap < 1
      · exact rsmost_c agg k cap w hA hK h1
      · exact rsmost_d agg k cap w hA hK (by omega) (by omega)
    · exact rsmost_b agg k cap w hA hK
  · exact rsmost_a agg k cap w hA
theorem psmost (agg k cap : Int) (w : World) : Calls Try.prog 26 #[.int .i64 agg, .int .i64 k, .int .i64 cap] w fun e w' => e = .returned (.int .i64 (mostS agg k cap)) ∧ w' = w := by
  by_cases hA : 1 ≤ agg ∧ agg ≤ 4
  · by_cases h : 1 ≤ k ∧ k ≤ 64 ∧ 1 ≤ cap ∧ cap ≤ 65536
    · have h4 : agg = 1 ∨ agg = 2 ∨ agg = 3 ∨ agg = 4 := by omega
      rcases h4 with rfl | rfl | rfl | rfl
      · exact psmost_1 k cap w h
      · exact psmost_2 k cap w h
      · exact psmost_3 k cap w h
      · exact psmost_4 k cap w h
    · exact psmost_no agg k cap w (fun a => h a.2)
  · exact psmost_no agg k cap w (fun a => hA a.1)
theorem rsmost (agg k cap : Int) (w : World) : Calls Try.prog 27 #[.int .i64 agg, .int .i64 k, .int .i64 cap] w fun e w' => e = .returned (.int .i64 (mostS agg k cap)) ∧ w' = w := by
  by_cases hA : 1 ≤ agg ∧ agg ≤ 4
  · by_cases h : 1 ≤ k ∧ k ≤ 64 ∧ 1 ≤ cap ∧ cap ≤ 65536
    · have h4 : agg = 1 ∨ agg = 2 ∨ agg = 3 ∨ agg = 4 := by omega
      rcases h4 with rfl | rfl | rfl | rfl
      · exact rsmost_1 k cap w h
      · exact rsmost_2 k cap w h
      · exact rsmost_3 k cap w h
      · exact rsmost_4 k cap w h
    · exact rsmost_no agg k cap w (fun a => h a.2)
  · exact rsmost_no agg k cap w (fun a => hA a.1)
end Go.Proofs.Ythknkdjpfanlnaa
end
section
/- A law on statements whose order is open and whose last operations wait for all the others: the operations ahead of them are taken in whatever order, a condition S on the world holding behind each of them; the last ones stand in their own order, and S need not outlive them. -/
set_option linter.unusedVariables false
set_option linter.unusedSimpArgs false
set_option linter.unusedSectionVars false
set_option linter.unnecessarySimpa false
namespace Go.Proofs.Ythknkdjpfanlnaa
open Go.RowKit
section
variable {P : Program} {ops : Array Oper} {md : Region.Mode} {S : World → Prop} {Q : Exit → Act → World → Prop} {n g : Nat} {tail : List Oper}
/-- What is left of the operations ahead, in whatever order; then the last ones. -/
def HeadW (P : Program) (md : Region.Mode) (ops : Array Oper) (S : World → Prop) (Q : Exit → Act → World → Prop) (n g : Nat) (tail : List Oper) : Nat → Array Bool → Act → World → Prop
  | 0, listed, a, w => Region.seqB md ops g n listed = true ∧ wpList P ops Q tail a w
  | f + 1, listed, a, w => Region.ready md ops listed ≠ [] ∧ ∀ i ∈ Region.ready md ops listed, i < n ∧ wpOp P ops Q i (fun a' w' => S w' ∧ HeadW P md ops S Q n g tail f (listed.setIfInBounds i true) a' w') a w
theorem headW_any (hg : tail.length = g) (ht : ∀ j, tail[j]? = ops[n + j]?) : ∀ (f : Nat) (listed : Array Bool) (a : Act) (w : World), HeadW P md ops S Q n g tail f listed a w → wpAny P md ops Q (f + g) listed a w
  | 0, listed, a, w, h => by
    rw [Nat.zero_add]
    subst hg
    exact wpAny_of_seq tail n listed a w ht h.1 h.2
  | f + 1, listed, a, w, h => by
    rw [show f + 1 + g = (f + g) + 1 from by omega]
    exact ⟨fun h0 => absurd h0 h.1, fun i hi => wpOp_mono (fun a' w' h' => headW_any hg ht f _ a' w' h'.2) (h.2 i hi).2⟩
/-- The conditions on the statement. -/
structure PhaseOK (md : Region.Mode) (ops : Array Oper) (n : Nat) : Prop where
  sel : Region.noSelect ops = true
  sink : Region.sinkB md ops n = true
  chain : Region.chainB md ops n = true
  lt : n < ops.size
theorem headW_first (ok : PhaseOK md ops n) {i : Nat} {oi : Oper} {v : Value} (hi : ops[i]? = some oi) (hin : i < n) (hQ : ∀ c a w, Q (.panic c) (a.put oi.dst v) w → Q (.panic c) a w) :
    ∀ (f : Nat) (listed : Array Bool) (a : Act) (w : World), HeadInv md ops n listed →
      (∀ j oj, ops[j]? = some oj → j ≠ i → listed.getD j true = false → (∀ e ∈ oj.after, Region.binds md e = true → e.on ≠ i) → oi.apart ops oj = true) →
      i ∈ Region.ready md ops listed → YieldsIf P ops S oi v a → S w → HeadW P md ops S Q n g tail f (listed.setIfInBounds i true) (a.put oi.dst v) w → HeadW P md ops S Q n g tail (f + 1) listed a w := by
  have hsel := Region.noSelect_spec ok.sel
  intro f
  induction f with
  | zero =>
    intro listed a w inv _ hr hy hS H
    refine ⟨fun h0 => by rw [h0] at hr; exact absurd hr (by simp), fun j hj => ?_⟩
    have hjn : j < n := Nat.lt_of_not_le fun hle => tail_waits ok.sink ok.chain ok.lt inv _ i rfl hin (mem_ready.1 hr).1 j hle hj
    by_cases hji : j = i
    · subst hji
      exact ⟨hjn, hy.wpOp hi hS ⟨hS, H⟩⟩
    · exact absurd (seqB_ready H.1 j (ready_mono hj hji)) (by omega)
  | succ f ih =>
    intro listed a w inv hfree hr hy hS H
    refine ⟨fun h0 => by rw [h0] at hr; exact absurd hr (by simp), fun j hj => ?_⟩
    have hun := (mem_ready.1 hr).1
    have hjn : j < n := Nat.lt_of_not_le fun hle => tail_waits ok.sink ok.chain ok.lt inv _ i rfl hin hun j hle hj
    by_cases hji : j = i
    · subst hji
      exact ⟨hjn, hy.wpOp hi hS ⟨hS, H⟩⟩
    · have h1 := (H.2 j (ready_mono hj hji)).2
      obtain ⟨hjun, oj, hoj, hall⟩ := mem_ready.1 hj
      have hnot : ∀ e ∈ oj.after, Region.binds md e = true → e.on ≠ i := fun e he hb heq => by
        have h1 := hall e he hb
        rw [heq, getD_both hun] at h1
        cases h1
      have h2 := wpOp_putIf hoj (hfree j oj hoj hji hjun hnot) (fun cs b => hsel i oi cs b hi) (fun cs b => hsel j oj cs b hoj) hQ hy h1
      refine ⟨hjn, wpOp_mono (fun a' w' h3 => ⟨h3.2.1, ih (listed.setIfInBounds j true) a' w' (inv.set hj hjn) (fun k ok' hk hki hku hno => ?_) (ready_mono hr (Ne.symm hji)) h3.1 h3.2.1 ?_⟩) h2⟩
      · refine hfree k ok' hk hki ?_ hno
        by_cases hjk : j = k
        · subst hjk
          exact hjun
        · rw [getD_set_ne true hjk] at hku
          exact hku
      · rw [Array.setIfInBounds_comm _ _ hji]
        exact h3.2.2
/-- The same, where what is listed hangs together. -/
def HW (P : Program) (md : Region.Mode) (ops : Array Oper) (S : World → Prop) (Q : Exit → Act → World → Prop) (n g : Nat) (tail : List Oper) (f : Nat) (listed : Array Bool) (a : Act) (w : World) : Prop :=
  HeadInv md ops n listed → HeadW P md ops S Q n g tail f listed a w
variable {f : Nat} {listed : Array Bool} {a : Act} {w : World}
/-- An operation that gives one value in every world that meets S is taken first. -/
theorem hw_take (ok : PhaseOK md ops n) {i : Nat} {oi : Oper} (v : Value) (hi : ops[i]? = some oi) (hin : i < n) (hf : Region.free md ops listed i = true) (hr : (Region.ready md ops listed).contains i = true)
    (hQ : ∀ c a w, Q (.panic c) (a.put oi.dst v) w → Q (.panic c) a w) (hy : YieldsIf P ops S oi v a) (hS : S w) (h : HW P md ops S Q n g tail f (listed.setIfInBounds i true) (a.put oi.dst v) w) : HW P md ops S Q n g tail (f + 1) listed a w := fun inv =>
  have hr' : i ∈ Region.ready md ops listed := by simpa using hr
  headW_first ok hi hin hQ f listed a w inv (Region.free_spec hi hf) hr' hy hS (h (inv.set hr' hin))
/-- One operation alone may come up. -/
theorem hw_one {i : Nat} {oi : Oper} (hi : ops[i]? = some oi) (hin : i < n) (hr : Region.ready md ops listed = [i])
    (h : ∀ K : Act → World → Prop, (∀ a' w', S w' → HW P md ops S Q n g tail f (listed.setIfInBounds i true) a' w' → K a' w') → if Region.wanted oi (yielded ops a.tmps) = true then Oper.wp P oi a w K Q else K (a.put oi.dst undef) w) : HW P md ops S Q n g tail (f + 1) listed a w := fun inv => by
  refine ⟨by rw [hr]; simp, fun j hj => ?_⟩
  have hj' := hj
  rw [hr] at hj
  obtain rfl : j = i := by simpa using hj
  refine ⟨hin, ?_⟩
  have := h (fun a' w' => S w' ∧ HeadW P md ops S Q n g tail f (listed.setIfInBounds j true) a' w') (fun a' w' hS hh => ⟨hS, hh (inv.set hj' hin)⟩)
  unfold wpOp
  simp only [hi]
  split at this
  · rename_i hw
    simp only [hw, if_true]
    exact .inl this
  · rename_i hw
    simp only [hw]
    exact this
theorem hw_done (hB : Region.seqB md ops g n listed = true) (h : wpList P ops Q tail a w) : HW P md ops S Q n g tail 0 listed a w := fun _ => ⟨hB, h⟩
/-- The statement: n operations ahead of those that wait. -/
theorem wp_region_phase {id : Nat} {l : List Oper} (n : Nat) (S : World → Prop) (hm : P.follows .mixedOrders = true) (hsel : Region.noSelect l.toArray = true) (hs : Region.sinkB .any l.toArray n = true) (hc : Region.chainB .any l.toArray n = true) (hn : decide (n < l.toArray.size) = true)
    (h : PhaseOK .any l.toArray n → HW P .any l.toArray S Q n (l.drop n).length (l.drop n) n (Array.replicate l.toArray.size false) a w.drew) : (Code.region id l.toArray true).wp P Q a w := by
  have hn := of_decide_eq_true hn
  refine wp_region_any hm ?_
  have inv0 : HeadInv .any l.toArray n (Array.replicate l.toArray.size false) :=
    ⟨by simp, fun j oj _ hl => (by rw [getD_replicate_false] at hl; cases hl), fun t _ ht => getD_in (by simpa using ht) (getD_replicate_false _ _)⟩
  have H := headW_any (P := P) (S := S) (Q := Q) (md := .any) (ops := l.toArray) (n := n) (tail := l.drop n) rfl (fun j => by simp [List.getElem?_drop]) n _ a _ (h ⟨hsel, hs, hc, hn⟩ inv0)
  have e : n + (l.drop n).length = l.toArray.size := by
    have : n < l.length := by simpa using hn
    simp
    omega
  rw [e] at H
  exact H
end
end Go.Proofs.Ythknkdjpfanlnaa
end
section
/- Smooth histograms: a value more by the reference, walked. -/
set_option linter.unusedVariables false
set_option linter.unusedSimpArgs false
set_option linter.unusedSectionVars false
set_option linter.unnecessarySimpa false
namespace Go.Proofs.Ythknkdjpfanlnaa
open Go.RowKit
def JSpec (nr : Mk → Mk → Bool) (L : List Mk) (k J N : Nat) : Prop := (J = k ∧ ∀ e, k < e → e < N → nr (mkAt L k) (mkAt L e) = false) ∨ (k < J ∧ J < N ∧ nr (mkAt L k) (mkAt L J) = true ∧ ∀ e, J < e → e < N → nr (mkAt L k) (mkAt L e) = false)
end Go.Proofs.Ythknkdjpfanlnaa
end
section
/- Smooth histograms: the law of a value, walked. -/
set_option linter.unusedVariables false
set_option linter.unusedSimpArgs false
set_option linter.unusedSectionVars false
set_option linter.unnecessarySimpa false
namespace Go.Proofs.Ythknkdjpfanlnaa
open Go.RowKit
end Go.Proofs.Ythknkdjpfanlnaa
end
section
/- Windows, live items and extremes, walked. -/
set_option linter.unusedVariables false
set_option linter.unusedSimpArgs false
set_option linter.unusedSectionVars false
set_option linter.unnecessarySimpa false
namespace Go.Proofs.Ythknkdjpfanlnaa
open Go.RowKit
/-- The capacity that a number is turned into. -/
def mcap (c : Int) : Int := if c % 4 = 0 then 65536 else if c % 4 = 1 then 200 else 1 + c % 40
theorem mcap_bd (c : Int) : 1 ≤ mcap c ∧ mcap c ≤ 65536 := by unfold mcap; split <;> (try split) <;> omega
theorem pwindow_0 (a b c : Int) (w : World) (h : c % 4 = 0) : Calls Try.prog 20 #[.int .i64 a, .int .i64 b, .int .i64 c] w fun e w' => e = .returned (.tuple #[.int .i64 (1 + a % 25), .int .i64 (1 + b % 4), .int .i64 (mcap c)]) ∧ w' = w := by
  rw [show mcap c = 65536 by unfold mcap; rw [if_pos h]]
  have P40 := Lib.hid (fun w => pmod c 40 (by omega) (by omega) w)
  have P25 := Lib.hid (fun w => pmod a 25 (by omega) (by omega) w)
  have PK := Lib.hid (fun w => pint b 4 (by omega) (by omega) w)
  have P4 := fun w => pmod c 4 (by omega) (by omega) w
  have h1 : (c % 4 == 0) = true := by simp; omega
  have h2 : (c % 4 == 1) = false := by simp; omega
  have b40 : IntKind.i64.wrap (1 + c % 40) = 1 + c % 40 := IntWalk.i64_in _ (by omega)
  have b25 : IntKind.i64.wrap (1 + a % 25) = 1 + a % 25 := IntWalk.i64_in _ (by omega)
  have b4 : IntKind.i64.wrap (1 + b % 4) = 1 + b % 4 := IntWalk.i64_in _ (by omega)
  clear h
  generalize c % 40 = r40 at P40 b40 ⊢
  generalize a % 25 = r25 at P25 b25 ⊢
  generalize b % 4 = rk at PK b4 ⊢
  generalize c % 4 = r4 at P4 h1 h2
  replace P4 := Lib.hid P4
  go_enter Try.func20, Try.ntmps20
  go_wp2_with (first | (go_at_call 30; with_reducible refine (P40.out _).mono ?_; rintro e w9 ⟨rfl, h9⟩; obtain rfl := h9.symm) | (go_at_call 30; with_reducible refine (P4.out _).mono ?_; rintro e w9 ⟨rfl, h9⟩; obtain rfl := h9.symm) | (go_at_call 30; with_reducible refine (P25.out _).mono ?_; rintro e w9 ⟨rfl, h9⟩; obtain rfl := h9.symm) | (go_at_call 19; with_reducible refine (PK.out _).mono ?_; rintro e w9 ⟨rfl, h9⟩; obtain rfl := h9.symm))
  exact bodyPost_ret (v := .tuple #[.int .i64 (1 + r25), .int .i64 (1 + rk), .int .i64 65536]) (by simp [results, Try.results20, go_sem]) rfl ⟨rfl, rfl⟩
theorem pwindow_1 (a b c : Int) (w : World) (h : c % 4 = 1) : Calls Try.prog 20 #[.int .i64 a, .int .i64 b, .int .i64 c] w fun e w' => e = .returned (.tuple #[.int .i64 (1 + a % 25), .int .i64 (1 + b % 4), .int .i64 (mcap c)]) ∧ w' = w := by
  rw [show mcap c = 200 by unfold mcap; rw [if_neg (by omega), if_pos h]]
  have P40 := Lib.hid (fun w => pmod c 40 (by omega) (by omega) w)
  have P25 := Lib.hid (fun w => pmod a 25 (by omega) (by omega) w)
  have PK := Lib.hid (fun w => pint b 4 (by omega) (by omega) w)
  have P4 := fun w => pmod c 4 (by omega) (by omega) w
  have h1 : (c % 4 == 0) = false := by simp; omega
  have h2 : (c % 4 == 1) = true := by simp; omega
  have b40 : IntKind.i64.wrap (1 + c % 40) = 1 + c % 40 := IntWalk.i64_in _ (by omega)
  have b25 : IntKind.i64.wrap (1 + a % 25) = 1 + a % 25 := IntWalk.i64_in _ (by omega)
  have b4 : IntKind.i64.wrap (1 + b % 4) = 1 + b % 4 := IntWalk.i64_in _ (by omega)
  clear h
  generalize c % 40 = r40 at P40 b40 ⊢
  generalize a % 25 = r25 at P25 b25 ⊢
  generalize b % 4 = rk at PK b4 ⊢
  generalize c % 4 = r4 at P4 h1 h2
  replace P4 := Lib.hid P4
  go_enter Try.func20, Try.ntmps20
  go_wp2_with (first | (go_at_call 30; with_reducible refine (P40.out _).mono ?_; rintro e w9 ⟨rfl, h9⟩; obtain rfl := h9.symm) | (go_at_call 30; with_reducible refine (P4.out _).mono ?_; rintro e w9 ⟨rfl, h9⟩; obtain rfl := h9.symm) | (go_at_call 30; with_reducible refine (P25.out _).mono ?_; rintro e w9 ⟨rfl, h9⟩; obtain rfl := h9.symm) | (go_at_call 19; with_reducible refine (PK.out _).mono ?_; rintro e w9 ⟨rfl, h9⟩; obtain rfl := h9.symm))
  exact bodyPost_ret (v := .tuple #[.int .i64 (1 + r25), .int .i64 (1 + rk), .int .i64 200]) (by simp [results, Try.results20, go_sem]) rfl ⟨rfl, rfl⟩
theorem pwindow_2 (a b c : Int) (w : World) (h : ¬ (c % 4 = 0 ∨ c % 4 = 1)) : Calls Try.prog 20 #[.int .i64 a, .int .i64 b, .int .i64 c] w fun e w' => e = .returned (.tuple #[.int .i64 (1 + a % 25), .int .i64 (1 + b % 4), .int .i64 (mcap c)]) ∧ w' = w := by
  rw [show mcap c = 1 + c % 40 by unfold mcap; rw [if_neg (by omega), if_neg (by omega)]]
  have P40 := Lib.hid (fun w => pmod c 40 (by omega) (by omega) w)
  have P25 := Lib.hid (fun w => pmod a 25 (by omega) (by omega) w)
  have PK := Lib.hid (fun w => pint b 4 (by omega) (by omega) w)
  have P4 := fun w => pmod c 4 (by omega) (by omega) w
  have h1 : (c % 4 == 0) = false := by simp; omega
  have h2 : (c % 4 == 1) = false := by simp; omega
  have b40 : IntKind.i64.wrap (1 + c % 40) = 1 + c % 40 := IntWalk.i64_in _ (by omega)
  have b25 : IntKind.i64.wrap (1 + a % 25) = 1 + a % 25 := IntWalk.i64_in _ (by omega)
  have b4 : IntKind.i64.wrap (1 + b % 4) = 1 + b % 4 := IntWalk.i64_in _ (by omega)
  clear h
  generalize c % 40 = r40 at P40 b40 ⊢
  generalize a % 25 = r25 at P25 b25 ⊢
  generalize b % 4 = rk at PK b4 ⊢
  generalize c % 4 = r4 at P4 h1 h2
  replace P4 := Lib.hid P4
  go_enter Try.func20, Try.ntmps20
  go_wp2_with (first | (go_at_call 30; with_reducible refine (P40.out _).mono ?_; rintro e w9 ⟨rfl, h9⟩; obtain rfl := h9.symm) | (go_at_call 30; with_reducible refine (P4.out _).mono ?_; rintro e w9 ⟨rfl, h9⟩; obtain rfl := h9.symm) | (go_at_call 30; with_reducible refine (P25.out _).mono ?_; rintro e w9 ⟨rfl, h9⟩; obtain rfl := h9.symm) | (go_at_call 19; with_reducible refine (PK.out _).mono ?_; rintro e w9 ⟨rfl, h9⟩; obtain rfl := h9.symm))
  exact bodyPost_ret (v := .tuple #[.int .i64 (1 + r25), .int .i64 (1 + rk), .int .i64 (1 + r40)]) (by simp [results, Try.results20, go_sem]) rfl ⟨rfl, rfl⟩
theorem pwindow (a b c : Int) (w : World) : Calls Try.prog 20 #[.int .i64 a, .int .i64 b, .int .i64 c] w fun e w' => e = .returned (.tuple #[.int .i64 (1 + a % 25), .int .i64 (1 + b % 4), .int .i64 (mcap c)]) ∧ w' = w := by
  by_cases h0 : c % 4 = 0
  · exact pwindow_0 a b c w h0
  · by_cases h1 : c % 4 = 1
    · exact pwindow_1 a b c w h1
    · exact pwindow_2 a b c w (by omega)
theorem liveI_take {now wd : Int} {l : List Itm} {k : Nat} (h : k < l.length) : liveI now wd (l.take (k + 1)) = liveI now wd (l.take k) ++ (if now - wd < (itmAt l k).t ∧ (itmAt l k).t ≤ now then [itmAt l k] else []) := by
  rw [List.take_succ_eq_append_getElem h, itm_eq h]
  unfold liveI
  rw [List.filter_append]
  congr 1
  by_cases c : now - wd < (itmAt l k).t ∧ (itmAt l k).t ≤ now
  · rw [if_pos c, List.filter_cons_of_pos (by simp; omega)]; rfl
  · rw [if_neg c, List.filter_cons_of_neg (by simp; omega)]; rfl
theorem liveI_le {now wd : Int} (l : List Itm) : (liveI now wd l).length ≤ l.length := List.length_filter_le _ _
set_option maxHeartbeats 2000000 in
theorem pliveI (A : Option Addr) (m c : Nat) (l : List Itm) (now wd : Int) (w : World) (hin : Reads w w.heap.size 2 A m (icells l)) (hm : m ≤ 100000) (n0 : 0 ≤ now) (n1 : now ≤ 1099511627776) (d0 : 0 ≤ wd) (d1 : wd ≤ 1099511627776) :
    Calls Try.prog 33 #[.slice A m c, .int .i64 now, .int .i64 wd] w fun e w' => ∃ v, e = .returned v ∧ w'.ownsRow w.heap.size 40 2 v (liveI now wd l).length (icells (liveI now wd l)) ∧ Below w.heap.size w w' := by
  have HR := Lib.hid hin
  have hl := hin.itm_len
  obtain ⟨i1, hi1, iz0, iz1, iz2⟩ := info_parts info_itm
  have wnd : IntKind.i64.wrap (now - wd) = now - wd := IntWalk.i64_in _ (by omega)
  have HL := Lib.hid hl
  clear hin hl n0 n1 d0 d1
  go_enter Try.func33, Try.ntmps33
  go_wp2
  go_loopw [7, 12] (fun v i wr => ∃ k : Nat, k ≤ m ∧ i = .int .i64 (k : Nat) ∧ wr.ownsRow w.heap.size 40 2 v (liveI now wd (l.take k)).length (icells (liveI now wd (l.take k))) ∧ Below w.heap.size w wr) (fun _ i _ => m - (intOf i).toNat)
  case atStart => exact ⟨0, by omega, rfl, by rw [List.take_zero]; exact World.ownsRow_nil _ _ _ _, Below.refl _ _⟩
  case round =>
    obtain ⟨k, hk, rfl, own, hb⟩ := hrel
    by_cases hlt : k < m
    · obtain ⟨ad, rfl, hadb, hi0⟩ := HR.out.itm hlt
      obtain ⟨c0, c1⟩ := hi0.below hb (by rw [block_of_add]; exact hadb)
      have TK := liveI_take (now := now) (wd := wd) (show k < l.length by rw [HL.out]; exact hlt)
      have hq := liveI_le (now := now) (wd := wd) (l.take k)
      rw [List.length_take] at hq
      obtain ⟨q, hqq⟩ : ∃ q, (liveI now wd (l.take k)).length = q := ⟨_, rfl⟩
      rw [hqq] at own hq
      have QQ := Lib.hid hqq
      obtain ⟨tk, htk⟩ : ∃ x, (itmAt l k).t = x := ⟨_, rfl⟩
      obtain ⟨vk, hvk⟩ : ∃ x, (itmAt l k).v = x := ⟨_, rfl⟩
      rw [show itmAt l k = ⟨tk, vk⟩ by rw [← htk, ← hvk]] at TK
      rw [htk] at c0
      rw [hvk] at c1
      dsimp only at TK
      have i2 : (k : Int) < (m : Int) := by omega
      have i4 : (0 : Int) ≤ (k : Int) := by omega
      have zb := hb.size
      clear htk hvk hqq hi0
      have NX : ∀ lv : List Itm, liveI now wd (l.take (k + 1)) = lv → ∀ (x : Value) (wz : World), wz.ownsRow w.heap.size 40 2 x lv.length (icells lv) → wz.ownsRow w.heap.size 40 2 x (liveI now wd (l.take (k + 1))).length (icells (liveI now wd (l.take (k + 1)))) := fun lv e x wz h => by rw [e]; exact h
      by_cases ct : now - wd < tk
      · by_cases cn : tk ≤ now
        · rw [if_pos ⟨ct, cn⟩] at TK
          have TKh := Lib.hid TK
          clear TK
          go_upto_region 6 with (fail)
          have OWN0 := own.alloc (.cells #[.int .i64 tk, .int .i64 vk] 40)
          have T0 : Row (wr.alloc (.cells #[.int .i64 tk, .int .i64 vk] 40)) wr.heap.size 40 #[.int .i64 tk, .int .i64 vk] := row_new rfl
          replace hb := hb.alloc zb (.cells #[.int .i64 tk, .int .i64 vk] 40)
          have hlt0 := own.lt
          generalize wr.alloc (.cells #[.int .i64 tk, .int .i64 vk] 40) = w5 at OWN0 T0 hb ⊢
          generalize wr.heap.size = tb at T0 zb hlt0 ⊢
          obtain ⟨T1, T2, T3, T4⟩ := row_two T0
          have hbl := OWN0.lt
          have OWN := Lib.hid OWN0
          have zb5 := hb.size
          clear own OWN0 T0 c0 c1
          go_wp2_with (at_builtin; refine wpList_push rfl _ _ 33 rfl 40 i1 (.agg #[.int .i64 0, .int .i64 0]) 2 16 Try.underlying33 hi1 iz0 iz1 iz2 rfl (by decide) w.heap.size u7 q (icells (liveI now wd (l.take k))) rfl OWN.out #[.int .i64 tk, .int .i64 vk] rfl rfl (by intro u hu; simp at hu; rcases hu with rfl | rfl <;> rfl) (by unfold maxLen; omega) (by omega) (by omega) ?_; intro g' c4 w8 own8 hg8 hat8 hgr8)
          have L8 : w8.ownsRow w.heap.size 40 2 (.slice (some ⟨g', 0, none⟩) (q + 1) c4) (liveI now wd (l.take k) ++ [(⟨tk, vk⟩ : Itm)]).length (icells (liveI now wd (l.take k) ++ [(⟨tk, vk⟩ : Itm)])) := by
            rw [icells_append, List.length_append, QQ.out]
            exact own8.row hg8
          have L9 : Below w.heap.size w w8 := below_grown (hb.alloc zb5 _) hgr8 (fun b e => (hbl b e).1) (by simp; omega)
          clear own8 hgr8 hat8
          go_roundw
          case rel => exact ⟨k + 1, by omega, by go_num, NX _ TKh.out _ _ L8, L9⟩
          case measure => simp [intOf]; omega
        · rw [if_neg (fun h => cn h.2), List.append_nil] at TK
          have TKh := Lib.hid TK
          clear TK
          have QO := QQ.out
          go_wp2
          go_roundw
          case rel => exact ⟨k + 1, by omega, by go_num, NX _ TKh.out _ _ (by rw [QO]; exact own.alloc _), hb.alloc zb _⟩
          case measure => simp [intOf]; omega
      · rw [if_neg (fun h => ct h.1), List.append_nil] at TK
        have TKh := Lib.hid TK
        clear TK
        have QO := QQ.out
        go_wp2
        go_roundw
        case rel => exact ⟨k + 1, by omega, by go_num, NX _ TKh.out _ _ (by rw [QO]; exact own.alloc _), hb.alloc zb _⟩
        case measure => simp [intOf]; omega
    · have i2 : ¬ (k : Int) < (m : Int) := by omega
      obtain rfl : k = m := by omega
      rw [List.take_of_length_le (by rw [HL.out]; exact Nat.le_refl _)] at own
      go_wp2
      go_ret
      exact ⟨_, rfl, own, hb⟩
theorem rext_nil (A : Option Addr) (c : Nat) (g : Bool) (w : World) : Calls Try.prog 67 #[.slice A 0 c, .bool g] w fun e w' => e = .returned (.tuple #[.int .i64 0, .bool false]) ∧ Below w.heap.size w w' := by
  go_enter Try.func67, Try.ntmps67
  go_wp2
  exact bodyPost_ret (v := .tuple #[.int .i64 0, .bool false]) (by simp [results, Try.results67, go_sem]) rfl ⟨rfl, Below.refl _ _⟩
set_option maxHeartbeats 2000000 in
theorem rmin (A : Option Addr) (m c : Nat) (l : List Itm) (w : World) (hin : Reads w w.heap.size 2 A m (icells l)) (hm : m ≤ 100000) (hm0 : 0 < m) :
    Calls Try.prog 67 #[.slice A m c, .bool false] w fun e w' => ∃ v, e = .returned (.tuple #[.int .i64 v, .bool true]) ∧ IsMin l v ∧ Below w.heap.size w w' := by
  have HL := Lib.hid hin.itm_len
  obtain ⟨ad, rfl, hadb, ht0⟩ := hin.itm hm0
  have HR := Lib.hid hin
  obtain ⟨p0, p1⟩ := ht0
  have IN0 := Lib.hid (show (∃ x ∈ l, x.v = (itmAt l 0).v) from ⟨itmAt l 0, by rw [← itm_eq (by rw [HL.out]; exact hm0)]; exact List.getElem_mem _, rfl⟩)
  generalize (itmAt l 0).v = v0 at p1 IN0
  generalize (itmAt l 0).t = t0 at p0
  have p1' : w.cell? ⟨ad.block, ad.off + 1, none⟩ = some (.int .i64 v0) := p1
  have mz : ((m : Int) == 0) = false := by simp; omega
  have g0 : (0 : Int) < (m : Int) := by omega
  clear hin
  go_enter Try.func67, Try.ntmps67
  go_wp2
  go_loopw [6, 18] (fun x i wr => ∃ (k : Nat) (v : Int), k ≤ m ∧ i = .int .i64 (k : Nat) ∧ x = .int .i64 v ∧ RowKit.Hid ((∃ y ∈ l, y.v = v) ∧ ∀ j, j < k → v ≤ (itmAt l j).v) ∧ Below w.heap.size w wr) (fun _ i _ => m - (intOf i).toNat)
  case atStart => exact ⟨0, v0, by omega, rfl, rfl, Lib.hid ⟨IN0.out, fun j h => absurd h (by omega)⟩, Below.refl _ _⟩
  case round =>
    clear p0 p1 p1' IN0
    obtain ⟨k, v, hk, rfl, rfl, HV, hb⟩ := hrel
    by_cases hlt : k < m
    · obtain ⟨ad', e', hadb', hi0⟩ := HR.out.itm hlt
      obtain rfl := Option.some.inj e'
      obtain ⟨c0, c1⟩ := hi0.below hb (by rw [block_of_add]; exact hadb')
      have MEM : ∃ y ∈ l, y.v = (itmAt l k).v := ⟨itmAt l k, by rw [← itm_eq (by rw [HL.out]; exact hlt)]; exact List.getElem_mem _, rfl⟩
      have NX : ∀ vn, ((∃ y ∈ l, y.v = vn) ∧ (vn ≤ v) ∧ vn ≤ (itmAt l k).v) → RowKit.Hid ((∃ y ∈ l, y.v = vn) ∧ ∀ j, j < k + 1 → vn ≤ (itmAt l j).v) := fun vn h => Lib.hid ⟨h.1, fun j hj => by
        by_cases e : j = k
        · rw [e]; exact h.2.2
        · have := HV.out.2 j (by omega); have := h.2.1; omega⟩
      have HVV := HV.out.1
      generalize (itmAt l k).v = vk at c1 MEM NX
      generalize (itmAt l k).t = tk at c0
      have i2 : (k : Int) < (m : Int) := by omega
      have i4 : (0 : Int) ≤ (k : Int) := by omega
      have zb := hb.size
      clear hi0 e'
      by_cases ct : vk < v
      · have NH := NX vk ⟨MEM, by omega, by omega⟩
        clear NX MEM HVV
        go_wp2
        go_roundw
        case rel => exact ⟨k + 1, vk, by omega, by go_num, rfl, NH, hb.alloc zb _⟩
        case measure => simp [intOf]; omega
      · have NH := NX v ⟨HVV, by omega, by omega⟩
        clear NX MEM HVV
        go_wp2
        go_roundw
        case rel => exact ⟨k + 1, v, by omega, by go_num, rfl, NH, hb.alloc zb _⟩
        case measure => simp [intOf]; omega
    · have i2 : ¬ (k : Int) < (m : Int) := by omega
      obtain rfl : k = m := by omega
      have FIN : IsMin l v := ⟨HV.out.1, fun y hy => by
        obtain ⟨j, hj, e⟩ := List.getElem_of_mem hy
        have := HV.out.2 j (by rw [← HL.out]; exact hj)
        rw [← itm_eq hj, e] at this
        exact this⟩
      go_wp2
      exact bodyPost_ret (v := .tuple #[.int .i64 v, .bool true]) (by simp [results, Try.results67, go_sem]) rfl ⟨v, rfl, FIN, hb⟩
set_option maxHeartbeats 2000000 in
theorem rmax (A : Option Addr) (m c : Nat) (l : List Itm) (w : World) (hin : Reads w w.heap.size 2 A m (icells l)) (hm : m ≤ 100000) (hm0 : 0 < m) :
    Calls Try.prog 67 #[.slice A m c, .bool true] w fun e w' => ∃ v, e = .returned (.tuple #[.int .i64 v, .bool true]) ∧ IsMax l v ∧ Below w.heap.size w w' := by
  have HL := Lib.hid hin.itm_len
  obtain ⟨ad, rfl, hadb, ht0⟩ := hin.itm hm0
  have HR := Lib.hid hin
  obtain ⟨p0, p1⟩ := ht0
  have IN0 := Lib.hid (show (∃ x ∈ l, x.v = (itmAt l 0).v) from ⟨itmAt l 0, by rw [← itm_eq (by rw [HL.out]; exact hm0)]; exact List.getElem_mem _, rfl⟩)
  generalize (itmAt l 0).v = v0 at p1 IN0
  generalize (itmAt l 0).t = t0 at p0
  have p1' : w.cell? ⟨ad.block, ad.off + 1, none⟩ = some (.int .i64 v0) := p1
  have mz : ((m : Int) == 0) = false := by simp; omega
  have g0 : (0 : Int) < (m : Int) := by omega
  clear hin
  go_enter Try.func67, Try.ntmps67
  go_wp2
  go_loopw [6, 18] (fun x i wr => ∃ (k : Nat) (v : Int), k ≤ m ∧ i = .int .i64 (k : Nat) ∧ x = .int .i64 v ∧ RowKit.Hid ((∃ y ∈ l, y.v = v) ∧ ∀ j, j < k → (itmAt l j).v ≤ v) ∧ Below w.heap.size w wr) (fun _ i _ => m - (intOf i).toNat)
  case atStart => exact ⟨0, v0, by omega, rfl, rfl, Lib.hid ⟨IN0.out, fun j h => absurd h (by omega)⟩, Below.refl _ _⟩
  case round =>
    clear p0 p1 p1' IN0
    obtain ⟨k, v, hk, rfl, rfl, HV, hb⟩ := hrel
    by_cases hlt : k < m
    · obtain ⟨ad', e', hadb', hi0⟩ := HR.out.itm hlt
      obtain rfl := Option.some.inj e'
      obtain ⟨c0, c1⟩ := hi0.below hb (by rw [block_of_add]; exact hadb')
      have MEM : ∃ y ∈ l, y.v = (itmAt l k).v := ⟨itmAt l k, by rw [← itm_eq (by rw [HL.out]; exact hlt)]; exact List.getElem_mem _, rfl⟩
      have NX : ∀ vn, ((∃ y ∈ l, y.v = vn) ∧ (v ≤ vn) ∧ (itmAt l k).v ≤ vn) → RowKit.Hid ((∃ y ∈ l, y.v = vn) ∧ ∀ j, j < k + 1 → (itmAt l j).v ≤ vn) := fun vn h => Lib.hid ⟨h.1, fun j hj => by
        by_cases e : j = k
        · rw [e]; exact h.2.2
        · have := HV.out.2 j (by omega); have := h.2.1; omega⟩
      have HVV := HV.out.1
      generalize (itmAt l k).v = vk at c1 MEM NX
      generalize (itmAt l k).t = tk at c0
      have i2 : (k : Int) < (m : Int) := by omega
      have i4 : (0 : Int) ≤ (k : Int) := by omega
      have zb := hb.size
      clear hi0 e'
      by_cases ct : v < vk
      · have NH := NX vk ⟨MEM, by omega, by omega⟩
        clear NX MEM HVV
        go_wp2
        go_roundw
        case rel => exact ⟨k + 1, vk, by omega, by go_num, rfl, NH, hb.alloc zb _⟩
        case measure => simp [intOf]; omega
      · have NH := NX v ⟨HVV, by omega, by omega⟩
        clear NX MEM HVV
        go_wp2
        go_roundw
        case rel => exact ⟨k + 1, v, by omega, by go_num, rfl, NH, hb.alloc zb _⟩
        case measure => simp [intOf]; omega
    · have i2 : ¬ (k : Int) < (m : Int) := by omega
      obtain rfl : k = m := by omega
      have FIN : IsMax l v := ⟨HV.out.1, fun y hy => by
        obtain ⟨j, hj, e⟩ := List.getElem_of_mem hy
        have := HV.out.2 j (by rw [← HL.out]; exact hj)
        rw [← itm_eq hj, e] at this
        exact this⟩
      go_wp2
      exact bodyPost_ret (v := .tuple #[.int .i64 v, .bool true]) (by simp [results, Try.results67, go_sem]) rfl ⟨v, rfl, FIN, hb⟩
theorem pitems13_0 (A : Option Addr) (m c : Nat) (l : List Itm) (wd many : Nat) (agg : Int) (w : World) (hin : RIn A m c l w) (hw1 : 1 ≤ wd) (hw2 : wd ≤ 1048576) (hmany : many ≤ 100000) (h : agg = 2) :
    Calls Try.prog 22 #[.slice A m c, .int .i64 wd, .int .i64 many, .int .i64 agg] w (IRet many (2 * (wd : Int) + 1) (leastV agg) 4096 w) := by
  rw [show leastV agg = 0 by unfold leastV; rw [if_pos (by omega)]]
  have PI := Lib.hid (ppos A m c l wd many 4096 w (hin) hw1 hw2 hmany (by omega))
  have a2 : (agg == 2) = true := by simp; omega
  have a3 : (agg == 3) = false := by simp; omega
  clear hin h hw1 hw2 hmany
  go_enter Try.func22, Try.ntmps22
  go_wp2_with fail
  refine PI.out.mono ?_
  intro e w1 hq
  obtain ⟨v, l', last, rfl, own1, hlm, HM0, hb1⟩ := hq
  go_wp2
  go_ret
  exact ⟨v, l', last, rfl, own1, hlm, HM0, hb1⟩
theorem pitems13_1 (A : Option Addr) (m c : Nat) (l : List Itm) (wd many : Nat) (agg : Int) (w : World) (hin : RIn A m c l w) (hw1 : 1 ≤ wd) (hw2 : wd ≤ 1048576) (hmany : many ≤ 100000) (h : agg = 3) :
    Calls Try.prog 22 #[.slice A m c, .int .i64 wd, .int .i64 many, .int .i64 agg] w (IRet many (2 * (wd : Int) + 1) (leastV agg) 4096 w) := by
  rw [show leastV agg = 0 by unfold leastV; rw [if_pos (by omega)]]
  have PI := Lib.hid (ppos A m c l wd many 4096 w (hin) hw1 hw2 hmany (by omega))
  have a2 : (agg == 2) = false := by simp; omega
  have a3 : (agg == 3) = true := by simp; omega
  clear hin h hw1 hw2 hmany
  go_enter Try.func22, Try.ntmps22
  go_wp2_with fail
  refine PI.out.mono ?_
  intro e w1 hq
  obtain ⟨v, l', last, rfl, own1, hlm, HM0, hb1⟩ := hq
  go_wp2
  go_ret
  exact ⟨v, l', last, rfl, own1, hlm, HM0, hb1⟩
theorem pitems13_2 (A : Option Addr) (m c : Nat) (l : List Itm) (wd many : Nat) (agg : Int) (w : World) (hin : RIn A m c l w) (hw1 : 1 ≤ wd) (hw2 : wd ≤ 1048576) (hmany : many ≤ 100000) (h : ¬ (agg = 2 ∨ agg = 3)) :
    Calls Try.prog 22 #[.slice A m c, .int .i64 wd, .int .i64 many, .int .i64 agg] w (IRet many (2 * (wd : Int) + 1) (leastV agg) 4096 w) := by
  rw [show leastV agg = (-4096) by unfold leastV; rw [if_neg h]]
  have PI := Lib.hid (pitems A m c l wd many w hin hw1 hw2 hmany)
  have a2 : (agg == 2) = false := by simp; omega
  have a3 : (agg == 3) = false := by simp; omega
  clear hin h hw1 hw2 hmany
  go_enter Try.func22, Try.ntmps22
  go_wp2_with fail
  refine PI.out.mono ?_
  intro e w1 hq
  obtain ⟨v, l', last, rfl, own1, hlm, HM0, hb1⟩ := hq
  go_wp2
  go_ret
  exact ⟨v, l', last, rfl, own1, hlm, HM0, hb1⟩
theorem pitems13 (A : Option Addr) (m c : Nat) (l : List Itm) (wd many : Nat) (agg : Int) (w : World) (hin : RIn A m c l w) (hw1 : 1 ≤ wd) (hw2 : wd ≤ 1048576) (hmany : many ≤ 100000) :
    Calls Try.prog 22 #[.slice A m c, .int .i64 wd, .int .i64 many, .int .i64 agg] w (IRet many (2 * (wd : Int) + 1) (leastV agg) 4096 w) := by
  by_cases h0 : agg = 2
  · exact pitems13_0 A m c l wd many agg w hin hw1 hw2 hmany h0
  · by_cases h1 : agg = 3
    · exact pitems13_1 A m c l wd many agg w hin hw1 hw2 hmany h1
    · exact pitems13_2 A m c l wd many agg w hin hw1 hw2 hmany (by omega)
theorem isum_bd : ∀ l : List Itm, (∀ x ∈ l, -4096 ≤ x.v ∧ x.v ≤ 4096) → -4096 * (l.length : Int) ≤ isum l ∧ isum l ≤ 4096 * (l.length : Int)
  | [], _ => by simp [isum]
  | x :: l, h => by
    have h1 := isum_bd l (fun y hy => h y (by simp [hy]))
    have h2 := h x (by simp)
    rw [isum, List.length_cons]
    omega
theorem isq_bd : ∀ l : List Itm, (∀ x ∈ l, -4096 ≤ x.v ∧ x.v ≤ 4096) → 0 ≤ isq l ∧ isq l ≤ 16777216 * (l.length : Int)
  | [], _ => by simp [isq]
  | x :: l, h => by
    have h1 := isq_bd l (fun y hy => h y (by simp [hy]))
    have h2 := h x (by simp)
    have h3 := vv_small h2.1 h2.2
    rw [isq, List.length_cons]
    omega
theorem isum_take {l : List Itm} {k : Nat} (h : k < l.length) : isum (l.take (k + 1)) = isum (l.take k) + (itmAt l k).v := by
  rw [List.take_succ_eq_append_getElem h, itm_eq h, isum_append]
  simp [isum]
theorem isq_take {l : List Itm} {k : Nat} (h : k < l.length) : isq (l.take (k + 1)) = isq (l.take k) + (itmAt l k).v * (itmAt l k).v := by
  rw [List.take_succ_eq_append_getElem h, itm_eq h, isq_append]
  simp [isq]
/-- What the loop of 'truth' adds up. -/
def tsum (agg : Int) (l : List Itm) : Int := if agg = 1 then l.length else if agg = 2 then isum l else if agg = 3 then isq l else 0
/-- What an item adds. -/
def tone (agg v : Int) : Int := if agg = 1 then 1 else if agg = 2 then v else if agg = 3 then v * v else 0
theorem tsum_take {agg : Int} {l : List Itm} {k : Nat} (h : k < l.length) : tsum agg (l.take (k + 1)) = tsum agg (l.take k) + tone agg (itmAt l k).v := by
  unfold tsum tone
  split
  · rw [List.length_take, List.length_take]; omega
  · split
    · exact isum_take h
    · split
      · exact isq_take h
      · rfl
theorem tsum_bd {agg : Int} {l : List Itm} (h : ∀ x ∈ l, -4096 ≤ x.v ∧ x.v ≤ 4096) : -16777216 * (l.length : Int) ≤ tsum agg l ∧ tsum agg l ≤ 16777216 * (l.length : Int) := by
  have h1 := isum_bd l h
  have h2 := isq_bd l h
  unfold tsum
  split
  · omega
  · split
    · omega
    · split <;> omega
set_option maxHeartbeats 4000000 in
theorem rtruth_loop (A : Option Addr) (m c : Nat) (l : List Itm) (agg : Int) (w : World) (hin : Reads w w.heap.size 2 A m (icells l)) (hm : m ≤ 10000) (hv : ∀ x ∈ l, -4096 ≤ x.v ∧ x.v ≤ 4096) (ha : agg = 1 ∨ agg = 2 ∨ agg = 3) :
    Calls Try.prog 32 #[.slice A m c, .int .i64 agg] w fun e w' => e = .returned (.int .i64 (tsum agg l)) ∧ Below w.heap.size w w' := by
  have HL := Lib.hid hin.itm_len
  have HR := Lib.hid hin
  have HV := Lib.hid hv
  have a4 : (agg == 4) = false := by simp; omega
  have HA := Lib.hid ha
  clear hin hv ha
  go_enter Try.func32, Try.ntmps32
  go_wp2
  go_loopw [5, 14] (fun x i wr => ∃ k : Nat, k ≤ m ∧ i = .int .i64 (k : Nat) ∧ x = .int .i64 (tsum agg (l.take k)) ∧ Below w.heap.size w wr) (fun _ i _ => m - (intOf i).toNat)
  case atStart => exact ⟨0, by omega, rfl, by unfold tsum; simp [isum, isq], Below.refl _ _⟩
  case round =>
    obtain ⟨k, hk, rfl, rfl, hb⟩ := hrel
    by_cases hlt : k < m
    · obtain ⟨ad, rfl, hadb, hi0⟩ := HR.out.itm hlt
      obtain ⟨c0, c1⟩ := hi0.below hb (by rw [block_of_add]; exact hadb)
      have TK := tsum_take (agg := agg) (show k < l.length by rw [HL.out]; exact hlt)
      have BD := tsum_bd (agg := agg) (l := l.take (k + 1)) (fun x hx => HV.out x (List.mem_of_mem_take hx))
      have VB := HV.out (itmAt l k) (by rw [← itm_eq (by rw [HL.out]; exact hlt)]; exact List.getElem_mem _)
      rw [List.length_take, HL.out] at BD
      generalize tsum agg (l.take k) = s at TK ⊢
      generalize (itmAt l k).v = vk at c1 TK VB
      generalize (itmAt l k).t = tk at c0
      have i2 : (k : Int) < (m : Int) := by omega
      have i4 : (0 : Int) ≤ (k : Int) := by omega
      have zb := hb.size
      have vv := vv_small VB.1 VB.2
      have w1 : IntKind.i64.wrap (vk * vk) = vk * vk := IntWalk.i64_in _ (by omega)
      rw [TK] at BD
      have w2 : IntKind.i64.wrap (s + tone agg vk) = s + tone agg vk := IntWalk.i64_in _ (by omega)
      have TKh := Lib.hid TK
      clear TK BD hi0 VB vv
      rcases HA.out with e | e | e
      · rw [show tone agg vk = 1 by rw [e]; rfl] at w2 TKh
        have a1 : (agg == 1) = true := by simp [e]
        go_wp2
        go_roundw
        case rel => exact ⟨k + 1, by omega, by go_num, by rw [TKh.out], hb.alloc zb _⟩
        case measure => simp [intOf]; omega
      · rw [show tone agg vk = vk by rw [e]; rfl] at w2 TKh
        have a1 : (agg == 1) = false := by simp [e]
        have a2 : (agg == 2) = true := by simp [e]
        go_wp2
        go_roundw
        case rel => exact ⟨k + 1, by omega, by go_num, by rw [TKh.out], hb.alloc zb _⟩
        case measure => simp [intOf]; omega
      · rw [show tone agg vk = vk * vk by rw [e]; rfl] at w2 TKh
        have a1 : (agg == 1) = false := by simp [e]
        have a2 : (agg == 2) = false := by simp [e]
        have a3 : (agg == 3) = true := by simp [e]
        go_wp2
        go_roundw
        case rel => exact ⟨k + 1, by omega, by go_num, by rw [TKh.out], hb.alloc zb _⟩
        case measure => simp [intOf]; omega
    · have i2 : ¬ (k : Int) < (m : Int) := by omega
      obtain rfl : k = m := by omega
      rw [List.take_of_length_le (by rw [HL.out]; exact Nat.le_refl _)]
      go_wp2
      go_ret
      exact ⟨rfl, hb⟩
set_option maxHeartbeats 4000000 in
theorem rtruth_4 (A : Option Addr) (m c : Nat) (l : List Itm) (w : World) (hin : Reads w w.heap.size 2 A m (icells l)) (hm : m ≤ 10000) (hv : ∀ x ∈ l, -4096 ≤ x.v ∧ x.v ≤ 4096) :
    Calls Try.prog 32 #[.slice A m c, .int .i64 4] w fun e w' => ∃ n, e = .returned (.int .i64 n) ∧ AggIs 4 l n ∧ Below w.heap.size w w' := by
  have HL := Lib.hid hin.itm_len
  have HR := Lib.hid hin
  have HV := Lib.hid hv
  clear hin hv
  go_enter Try.func32, Try.ntmps32
  go_wp2
  go_loopw [14] (fun i wr => ∃ k : Nat, k ≤ m ∧ i = .int .i64 (k : Nat) ∧ Below w.heap.size w wr) (fun i _ => m - (intOf i).toNat)
  case atStart => exact ⟨0, by omega, rfl, Below.refl _ _⟩
  case round =>
    obtain ⟨k, hk, rfl, hb⟩ := hrel
    by_cases hlt : k < m
    · obtain ⟨ad, rfl, hadb, hi0⟩ := HR.out.itm hlt
      obtain ⟨c0, c1⟩ := hi0.below hb (by rw [block_of_add]; exact hadb)
      generalize (itmAt l k).v = vk at c1
      generalize (itmAt l k).t = tk at c0
      have i2 : (k : Int) < (m : Int) := by omega
      have i4 : (0 : Int) ≤ (k : Int) := by omega
      have zb := hb.size
      clear hi0
      go_wp2
      go_roundw
      case rel => exact ⟨k + 1, by omega, by go_num, hb.alloc zb _⟩
      case measure => simp [intOf]; omega
    · have i2 : ¬ (k : Int) < (m : Int) := by omega
      by_cases h0 : m = 0
      · subst h0
        have hl : l = [] := List.eq_nil_of_length_eq_zero HL.out
        go_wp2_with fail
        refine (rext_nil _ _ _ _).mono ?_
        rintro e w1 ⟨rfl, hb1⟩
        go_wp2_with fail
        refine (rext_nil _ _ _ _).mono ?_
        rintro e w2 ⟨rfl, hb2⟩
        go_wp2
        go_ret
        exact ⟨0, rfl, ⟨fun h => by omega, fun h => by omega, fun h => by omega, fun _ => .inl ⟨hl, rfl⟩⟩, (hb.trans (hb1.mono hb.size)).trans (hb2.mono (Nat.le_trans hb.size hb1.size))⟩
      · have PN := Lib.hid (fun w' (b : Below w.heap.size w w') => rmin A m c l w' ((HR.out.below b).more b.size) (by omega) (by omega))
        have PX := Lib.hid (fun w' (b : Below w.heap.size w w') => rmax A m c l w' ((HR.out.below b).more b.size) (by omega) (by omega))
        go_wp2_with fail
        refine (PN.out _ hb).mono ?_
        rintro e w1 ⟨x, rfl, hx, hb1⟩
        replace hb := hb.trans (hb1.mono hb.size)
        clear hb1
        have xb : -4096 ≤ x ∧ x ≤ 4096 := by
          obtain ⟨y, hy, rfl⟩ := hx.1
          exact HV.out y hy
        have HX := Lib.hid hx
        clear hx
        go_wp2_with fail
        refine (PX.out _ hb).mono ?_
        rintro e w2 ⟨y, rfl, hy, hb2⟩
        replace hb := hb.trans (hb2.mono hb.size)
        clear hb2
        have yb : -4096 ≤ y ∧ y ≤ 4096 := by
          obtain ⟨z, hz, rfl⟩ := hy.1
          exact HV.out z hz
        have HY := Lib.hid hy
        clear hy
        have wyx : IntKind.i64.wrap (y - x) = y - x := IntWalk.i64_in _ (by omega)
        go_wp2
        go_ret
        exact ⟨y - x, rfl, ⟨fun h => by omega, fun h => by omega, fun h => by omega, fun _ => .inr ⟨x, y, HX.out, HY.out, rfl⟩⟩, hb⟩
theorem rtruth (A : Option Addr) (m c : Nat) (l : List Itm) (agg : Int) (w : World) (hin : Reads w w.heap.size 2 A m (icells l)) (hm : m ≤ 10000) (hv : ∀ x ∈ l, -4096 ≤ x.v ∧ x.v ≤ 4096) (ha : 1 ≤ agg ∧ agg ≤ 4) :
    Calls Try.prog 32 #[.slice A m c, .int .i64 agg] w fun e w' => ∃ n, e = .returned (.int .i64 n) ∧ AggIs agg l n ∧ Below w.heap.size w w' := by
  by_cases h4 : agg = 4
  · subst h4
    exact rtruth_4 A m c l w hin hm hv
  · refine (rtruth_loop A m c l agg w hin hm hv (by omega)).mono ?_
    rintro e w' ⟨rfl, hb⟩
    refine ⟨_, rfl, ⟨fun h => ?_, fun h => ?_, fun h => ?_, fun h => absurd h h4⟩, hb⟩
    · subst h; rfl
    · subst h; rfl
    · subst h; rfl
end Go.Proofs.Ythknkdjpfanlnaa
end
section
/- Smooth histograms: words for the laws that play a stream. -/
set_option linter.unusedVariables false
set_option linter.unusedSimpArgs false
set_option linter.unusedSectionVars false
set_option linter.unnecessarySimpa false
namespace Go.Proofs.Ythknkdjpfanlnaa
open Go.RowKit
theorem row_seven_set {w : World} {b : Nat} {t : TypeId} {x0 x1 x2 x3 x4 x5 x6 : Value} (h : Row w b t #[x0, x1, x2, x3, x4, x5, x6]) (u0 u1 u2 u3 u4 u5 u6 : Value) : Row (((((((w.setCell ⟨b, 0, none⟩ u0).setCell ⟨b, 1, none⟩ u1).setCell ⟨b, 2, none⟩ u2).setCell ⟨b, 3, none⟩ u3).setCell ⟨b, 4, none⟩ u4).setCell ⟨b, 5, none⟩ u5).setCell ⟨b, 6, none⟩ u6) b t #[u0, u1, u2, u3, u4, u5, u6] := by
  have h0 : Row (w.setCell ⟨b, 0, none⟩ u0) b t #[u0, x1, x2, x3, x4, x5, x6] := row_set h 0 u0
  have h1 : Row ((w.setCell ⟨b, 0, none⟩ u0).setCell ⟨b, 1, none⟩ u1) b t #[u0, u1, x2, x3, x4, x5, x6] := row_set h0 1 u1
  have h2 : Row (((w.setCell ⟨b, 0, none⟩ u0).setCell ⟨b, 1, none⟩ u1).setCell ⟨b, 2, none⟩ u2) b t #[u0, u1, u2, x3, x4, x5, x6] := row_set h1 2 u2
  have h3 : Row ((((w.setCell ⟨b, 0, none⟩ u0).setCell ⟨b, 1, none⟩ u1).setCell ⟨b, 2, none⟩ u2).setCell ⟨b, 3, none⟩ u3) b t #[u0, u1, u2, u3, x4, x5, x6] := row_set h2 3 u3
  have h4 : Row (((((w.setCell ⟨b, 0, none⟩ u0).setCell ⟨b, 1, none⟩ u1).setCell ⟨b, 2, none⟩ u2).setCell ⟨b, 3, none⟩ u3).setCell ⟨b, 4, none⟩ u4) b t #[u0, u1, u2, u3, u4, x5, x6] := row_set h3 4 u4
  have h5 : Row ((((((w.setCell ⟨b, 0, none⟩ u0).setCell ⟨b, 1, none⟩ u1).setCell ⟨b, 2, none⟩ u2).setCell ⟨b, 3, none⟩ u3).setCell ⟨b, 4, none⟩ u4).setCell ⟨b, 5, none⟩ u5) b t #[u0, u1, u2, u3, u4, u5, x6] := row_set h4 5 u5
  have h6 : Row (((((((w.setCell ⟨b, 0, none⟩ u0).setCell ⟨b, 1, none⟩ u1).setCell ⟨b, 2, none⟩ u2).setCell ⟨b, 3, none⟩ u3).setCell ⟨b, 4, none⟩ u4).setCell ⟨b, 5, none⟩ u5).setCell ⟨b, 6, none⟩ u6) b t #[u0, u1, u2, u3, u4, u5, u6] := row_set h5 6 u6
  exact h6
theorem row_seven_other {w : World} {b b' : Nat} {t : TypeId} {cs : Array Value} (h : Row w b' t cs) (hne : b' ≠ b) (u0 u1 u2 u3 u4 u5 u6 : Value) : Row (((((((w.setCell ⟨b, 0, none⟩ u0).setCell ⟨b, 1, none⟩ u1).setCell ⟨b, 2, none⟩ u2).setCell ⟨b, 3, none⟩ u3).setCell ⟨b, 4, none⟩ u4).setCell ⟨b, 5, none⟩ u5).setCell ⟨b, 6, none⟩ u6) b' t cs := row_other (row_other (row_other (row_other (row_other (row_other (row_other (h) hne u0) hne u1) hne u2) hne u3) hne u4) hne u5) hne u6
theorem below_seven {B b : Nat} {w0 w : World} (h : Below B w0 w) (hb : B ≤ b) (u0 u1 u2 u3 u4 u5 u6 : Value) : Below B w0 (((((((w.setCell ⟨b, 0, none⟩ u0).setCell ⟨b, 1, none⟩ u1).setCell ⟨b, 2, none⟩ u2).setCell ⟨b, 3, none⟩ u3).setCell ⟨b, 4, none⟩ u4).setCell ⟨b, 5, none⟩ u5).setCell ⟨b, 6, none⟩ u6) := (((((((h.setCell (p := ⟨b, 0, none⟩) hb u0).setCell (p := ⟨b, 1, none⟩) hb u1).setCell (p := ⟨b, 2, none⟩) hb u2).setCell (p := ⟨b, 3, none⟩) hb u3).setCell (p := ⟨b, 4, none⟩) hb u4).setCell (p := ⟨b, 5, none⟩) hb u5).setCell (p := ⟨b, 6, none⟩) hb u6)
theorem size_seven {b : Nat} {w : World} (u0 u1 u2 u3 u4 u5 u6 : Value) : (((((((w.setCell ⟨b, 0, none⟩ u0).setCell ⟨b, 1, none⟩ u1).setCell ⟨b, 2, none⟩ u2).setCell ⟨b, 3, none⟩ u3).setCell ⟨b, 4, none⟩ u4).setCell ⟨b, 5, none⟩ u5).setCell ⟨b, 6, none⟩ u6).heap.size = w.heap.size := by simp only [size_setCell]
theorem MIn.other {A : Option Addr} {m c : Nat} {l : List Mk} {w : World} (h : MIn A m c l w) {p : Addr} (hp : ∀ a, A = some a → a.block ≠ p.block) (v : Value) : MIn A m c l (w.setCell p v) :=
  h.keep (by rw [size_setCell]; exact Nat.le_refl _) (fun a e => Below.heap_setCell w p v a.block (hp a e))
theorem MIn.seven {A : Option Addr} {m c b : Nat} {l : List Mk} {w : World} (h : MIn A m c l w) (hp : ∀ a, A = some a → a.block ≠ b) (u0 u1 u2 u3 u4 u5 u6 : Value) : MIn A m c l (((((((w.setCell ⟨b, 0, none⟩ u0).setCell ⟨b, 1, none⟩ u1).setCell ⟨b, 2, none⟩ u2).setCell ⟨b, 3, none⟩ u3).setCell ⟨b, 4, none⟩ u4).setCell ⟨b, 5, none⟩ u5).setCell ⟨b, 6, none⟩ u6) := (((((((h.other (p := ⟨b, 0, none⟩) hp u0).other (p := ⟨b, 1, none⟩) hp u1).other (p := ⟨b, 2, none⟩) hp u2).other (p := ⟨b, 3, none⟩) hp u3).other (p := ⟨b, 4, none⟩) hp u4).other (p := ⟨b, 5, none⟩) hp u5).other (p := ⟨b, 6, none⟩) hp u6)
/-- Items of the law's own. -/
def LIn (A : Option Addr) (n : Nat) (l : List Itm) (w : World) : Prop := Reads w w.heap.size 2 A n (icells l)
theorem LIn.below {A : Option Addr} {n : Nat} {l : List Itm} {w w' : World} (h : LIn A n l w) (hb : Below w.heap.size w w') : LIn A n l w' := (Reads.below h hb).more hb.size
theorem LIn.other {A : Option Addr} {n : Nat} {l : List Itm} {w : World} (h : LIn A n l w) {p : Addr} (hp : ∀ a, A = some a → a.block ≠ p.block) (v : Value) : LIn A n l (w.setCell p v) := by
  refine ⟨h.1, fun hn => ?_⟩
  obtain ⟨ad, e, hb, hc⟩ := h.2 hn
  exact ⟨ad, e, by rw [size_setCell]; exact hb, fun j u hu => (World.cell?_of_block (by rw [block_of_add]; exact Below.heap_setCell w p v ad.block (hp ad e))).trans (hc j u hu)⟩
theorem LIn.seven {A : Option Addr} {n b : Nat} {l : List Itm} {w : World} (h : LIn A n l w) (hp : ∀ a, A = some a → a.block ≠ b) (u0 u1 u2 u3 u4 u5 u6 : Value) : LIn A n l (((((((w.setCell ⟨b, 0, none⟩ u0).setCell ⟨b, 1, none⟩ u1).setCell ⟨b, 2, none⟩ u2).setCell ⟨b, 3, none⟩ u3).setCell ⟨b, 4, none⟩ u4).setCell ⟨b, 5, none⟩ u5).setCell ⟨b, 6, none⟩ u6) := (((((((h.other (p := ⟨b, 0, none⟩) hp u0).other (p := ⟨b, 1, none⟩) hp u1).other (p := ⟨b, 2, none⟩) hp u2).other (p := ⟨b, 3, none⟩) hp u3).other (p := ⟨b, 4, none⟩) hp u4).other (p := ⟨b, 5, none⟩) hp u5).other (p := ⟨b, 6, none⟩) hp u6)
theorem LIn.item {A : Option Addr} {n i : Nat} {l : List Itm} {w : World} (h : LIn A n l w) (hi : i < n) : ∃ ad, A = some ad ∧ ad.block < w.heap.size ∧ ItmCells w (ad.add (i * 2)) (itmAt l i) := Reads.itm h hi
theorem dropM_len (now w : Int) (l : List Mk) : (dropM now w l).length ≤ l.length := by
  obtain ⟨k, _, e⟩ := dropM_suffix now w l
  rw [e, List.length_drop]
  omega
/-- What becomes of a valid state by a value. -/
theorem smAdd_cases {agg wd k cap now seq v : Int} {l : List Mk} (h : smValid agg wd k cap now seq l) (h0 : leastV agg ≤ v ∧ v ≤ 4096) :
    (¬ smFull cap seq l ∧ smAdd agg wd k cap now seq l v = ⟨agg, wd, k, cap, now, seq + 1, prune (nearB agg k) (incl l (seq + 1) now v), 0⟩ ∧ smValid agg wd k cap now (seq + 1) (prune (nearB agg k) (incl l (seq + 1) now v)) ∧ (prune (nearB agg k) (incl l (seq + 1) now v)).length ≤ l.length + 1) ∨ smAdd agg wd k cap now seq l v = smZero 5 := by
  by_cases hf : smFull cap seq l
  · exact .inr (smAdd_c (smvalE_yes h) (by omega) hf)
  · refine .inl ⟨hf, smAdd_d (smvalE_yes h) (by omega) hf, smAdd_valid h (by omega) hf, ?_⟩
    have := prune_len (nearB agg k) _ (incl l (seq + 1) now v) (Nat.le_refl _)
    rw [incl_len] at this
    exact this
end Go.Proofs.Ythknkdjpfanlnaa
end
section
/- Intervals of integers, walked (out of AskB). -/
set_option linter.unusedVariables false
set_option linter.unusedSimpArgs false
set_option linter.unusedSectionVars false
set_option linter.unnecessarySimpa false
namespace Go.Proofs.Ythknkdjpfanlnaa
open Go.RowKit
theorem and_xor (a : Nat) : ∀ b, 2 * (a &&& b) + (a ^^^ b) = a + b := by
  induction a using Nat.strongRecOn with
  | _ a ih =>
    intro b
    by_cases h : a = 0
    · subst h; simp
    · have i := ih (a / 2) (by omega) (b / 2)
      have h1 := Nat.and_div_two (a := a) (b := b)
      have h2 := Nat.xor_div_two (a := a) (b := b)
      have h3 := Nat.and_mod_two_eq_one (a := a) (b := b)
      have h4 := Nat.xor_mod_two_eq_one (a := a) (b := b)
      rw [← h1, ← h2] at i
      generalize (a &&& b) = x at *
      generalize (a ^^^ b) = y at *
      omega
theorem i64_small (n : Int) (h0 : 0 ≤ n) (h1 : n < 2 ^ 62) : IntKind.i64.wrap n = n := IntWalk.i64_in _ (by omega)
theorem bits_xor (a b : Nat) (ha : a < 2 ^ 62) (hb : b < 2 ^ 62) : bits .xor .i64 a b = ((a ^^^ b : Nat) : Int) := by
  have ha' : a % 2 ^ IntKind.i64.bits = a := Nat.mod_eq_of_lt (Nat.lt_of_lt_of_le ha (by decide))
  have hb' : b % 2 ^ IntKind.i64.bits = b := Nat.mod_eq_of_lt (Nat.lt_of_lt_of_le hb (by decide))
  simp only [bits, BitVec.ofInt_natCast, BitVec.toNat_xor, BitVec.toNat_ofNat, ha', hb']
  exact i64_small _ (Int.natCast_nonneg _) (by exact_mod_cast Nat.xor_lt_two_pow ha hb)
theorem mid_is {lo hi : Nat} (h : hi ≤ 4398046511104) (h2 : lo ≤ hi) : ∃ x y : Nat, bits .and .i64 (lo : Int) (hi : Int) = (x : Int) ∧ bits .xor .i64 (lo : Int) (hi : Int) = (y : Int) ∧ (x : Int) + (y : Int) / 2 = ((lo + hi) / 2 : Nat) := by
  refine ⟨lo &&& hi, lo ^^^ hi, (bits_nat .i64 62 (by decide) i64_small lo hi (by omega) (by omega)).1, bits_xor lo hi (by omega) (by omega), ?_⟩
  have := and_xor lo hi
  omega
theorem pratio (n : Int) (w : World) : Calls Try.prog 61 #[.int .i64 n] w fun e w' => e = .returned (.agg #[.int .i64 n, .int .i64 1]) ∧ Below w.heap.size w w' := by
  go_enter Try.func61, Try.ntmps61
  go_wp2
  exact bodyPost_ret (v := .agg #[.int .i64 n, .int .i64 1]) (by simp [results, Try.results61, go_sem]) rfl ⟨rfl, by (repeat (first | exact Below.refl _ _ | refine Below.setCell ?_ (by first | (simp; done) | (simp; omega) | omega) _ | refine Below.alloc ?_ (by first | (simp; done) | (simp; omega) | omega) _ | refine Below.drew ?_ | refine Below.trans ?_ (Below.mono (by assumption) (by first | (simp; done) | (simp; omega) | omega))))⟩
theorem rratio (n : Int) (w : World) : Calls Try.prog 31 #[.int .i64 n] w fun e w' => e = .returned (.agg #[.int .i64 n, .int .i64 1]) ∧ Below w.heap.size w w' := by
  go_enter Try.func31, Try.ntmps31
  go_wp2
  exact bodyPost_ret (v := .agg #[.int .i64 n, .int .i64 1]) (by simp [results, Try.results31, go_sem]) rfl ⟨rfl, by (repeat (first | exact Below.refl _ _ | refine Below.setCell ?_ (by first | (simp; done) | (simp; omega) | omega) _ | refine Below.alloc ?_ (by first | (simp; done) | (simp; omega) | omega) _ | refine Below.drew ?_ | refine Below.trans ?_ (Below.mono (by assumption) (by first | (simp; done) | (simp; omega) | omega))))⟩
theorem below_six {B b : Nat} {w0 w : World} (h : Below B w0 w) (hb : B ≤ b) (u0 u1 u2 u3 u4 u5 : Value) : Below B w0 ((((((w.setCell ⟨b, 0, none⟩ u0).setCell ⟨b, 1, none⟩ u1).setCell ⟨b, 2, none⟩ u2).setCell ⟨b, 3, none⟩ u3).setCell ⟨b, 4, none⟩ u4).setCell ⟨b, 5, none⟩ u5) :=
  (((((h.setCell (p := ⟨b, 0, none⟩) hb u0).setCell (p := ⟨b, 1, none⟩) hb u1).setCell (p := ⟨b, 2, none⟩) hb u2).setCell (p := ⟨b, 3, none⟩) hb u3).setCell (p := ⟨b, 4, none⟩) hb u4).setCell (p := ⟨b, 5, none⟩) hb u5
theorem pwhole (lo hi : Nat) (h : lo ≤ hi) (hB : hi ≤ 4398046511104) (w : World) : Calls Try.prog 63 #[.int .i64 lo, .int .i64 hi] w fun e w' => e = .returned (.tuple #[.agg #[.int .i64 lo, .int .i64 1, .int .i64 ((lo + hi) / 2 : Nat), .int .i64 1, .int .i64 hi, .int .i64 1], .bool true]) ∧ Below w.heap.size w w' := by
  have h1 : ¬ (hi : Int) < (lo : Int) := by omega
  obtain ⟨x, y, e1, e2, e3⟩ := mid_is hB h
  have e4 : wrap64 ((x : Int) + (y : Int) / 2) = ((lo + hi) / 2 : Nat) := by rw [e3]; exact IntWalk.wrap64_in _ (by omega)
  generalize (lo + hi) / 2 = md at e3 e4 ⊢
  clear e3
  have P1 := Lib.hid (fun w => pratio (lo : Int) w)
  have P2 := Lib.hid (fun w => pratio (md : Int) w)
  have P3 := Lib.hid (fun w => pratio (hi : Int) w)
  go_enter Try.func63, Try.ntmps63
  go_wp2_with fail
  refine (P1.out _).mono ?_
  rintro e w1 ⟨rfl, hb1⟩
  have r : Row w1 w.heap.size 50 #[.int .i64 0, .int .i64 0, .int .i64 0, .int .i64 0, .int .i64 0, .int .i64 0] := row_call (row_new rfl) hb1
  have o : Below w.heap.size w w1 := ((Below.refl _ _).alloc (Nat.le_refl _) _).trans (hb1.mono (by simp))
  clear hb1
  go_wp2_with fail
  refine (P2.out _).mono ?_
  rintro e w2 ⟨rfl, hb2⟩
  replace r := row_call r hb2
  replace o := o.trans (hb2.mono o.size)
  clear hb2
  go_wp2_with fail
  refine (P3.out _).mono ?_
  rintro e w3 ⟨rfl, hb3⟩
  replace r := row_call r hb3
  replace o := o.trans (hb3.mono o.size)
  clear hb3
  obtain ⟨R0, R1, R2, R3, R4, R5, Rf0, Rf1, Rf2, Rf3, Rf4, Rf5⟩ := row_six r
  go_wp2
  exact bodyPost_ret (v := .tuple #[.agg #[.int .i64 lo, .int .i64 1, .int .i64 md, .int .i64 1, .int .i64 hi, .int .i64 1], .bool true]) (by simp [results, Try.results63, go_sem, R0, R1, R2, R3, R4, R5]) rfl ⟨rfl, below_six o (Nat.le_refl _) _ _ _ _ _ _⟩
end Go.Proofs.Ythknkdjpfanlnaa
end
