/- Smooth histograms: the answer, walked. -/
import Derived.Test.YthknkdjpfanlnaaSmG
import Derived.Test.YthknkdjpfanlnaaBnV
import Derived.Test.YthknkdjpfanlnaaMathSmT
set_option linter.unusedVariables false
set_option linter.unusedSimpArgs false
set_option linter.unusedSectionVars false
set_option linter.unnecessarySimpa false
namespace Go.Proofs.Ythknkdjpfanlnaa
open Go.RowKit
/-- The answer: an interval, and an error. -/
def askV (ve lo hi : Int) : Value := if ve = 0 then .tuple #[.agg #[.int .i64 lo, .int .i64 1, .int .i64 ((lo + hi) / 2), .int .i64 1, .int .i64 hi, .int .i64 1], .int .i64 0] else .tuple #[.agg #[.int .i64 0, .int .i64 0, .int .i64 0, .int .i64 0, .int .i64 0, .int .i64 0], .int .i64 ve]
theorem rwholeN (n : Nat) (hn : n < 9223372036854775808) (w : World) : Calls Try.prog 64 #[.int .i64 (n : Nat)] w fun e w' => e = .returned (.agg #[.int .i64 (n : Nat), .int .i64 1, .int .i64 (n : Nat), .int .i64 1, .int .i64 (n : Nat), .int .i64 1]) ∧ Below w.heap.size w w' := by
  have P1 := Lib.hid (fun w => rratio (n : Int) w)
  have P2 := Lib.hid (fun w => rexactR n 1 w hn (by omega) (by omega) (Nat.gcd_one_right n))
  clear hn
  go_enter Try.func64, Try.ntmps64
  go_wp2_with fail
  have R : Row (w.alloc (.cells #[.int .i64 0, .int .i64 0, .int .i64 0, .int .i64 0, .int .i64 0, .int .i64 0] 50)) w.heap.size 50 #[.int .i64 0, .int .i64 0, .int .i64 0, .int .i64 0, .int .i64 0, .int .i64 0] := row_new rfl
  have o : Below w.heap.size w (w.alloc (.cells #[.int .i64 0, .int .i64 0, .int .i64 0, .int .i64 0, .int .i64 0, .int .i64 0] 50)) := by (repeat (first | exact Below.refl _ _ | refine Below.setCell ?_ (by first | (simp; done) | (simp; omega) | omega) _ | refine Below.alloc ?_ (by first | (simp; done) | (simp; omega) | omega) _ | refine Below.drew ?_ | refine Below.trans ?_ (Below.mono (by assumption) (by first | (simp; done) | (simp; omega) | omega))))
  generalize (w.alloc (.cells #[.int .i64 0, .int .i64 0, .int .i64 0, .int .i64 0, .int .i64 0, .int .i64 0] 50)) = w1 at R o ⊢
  refine (P1.out _).mono ?_
  rintro e w2 ⟨rfl, hb2⟩
  replace R := row_call R hb2
  replace o := o.trans (hb2.mono o.size)
  clear hb2
  go_wp2_with fail
  refine (P2.out _).mono ?_
  rintro e w3 ⟨rfl, hb3⟩
  replace R := row_call R hb3
  replace o := o.trans (hb3.mono o.size)
  clear hb3
  obtain ⟨R0, R1, R2, R3, R4, R5, Rf0, Rf1, Rf2, Rf3, Rf4, Rf5⟩ := row_six R
  go_wp2
  exact bodyPost_ret (v := .agg #[.int .i64 (n : Nat), .int .i64 1, .int .i64 (n : Nat), .int .i64 1, .int .i64 (n : Nat), .int .i64 1]) (by simp [results, Try.results64, go_sem, R0, R1, R2, R3, R4, R5]) rfl ⟨rfl, below_six o (by omega) _ _ _ _ _ _⟩
theorem pexI (x : Int) (w : World) (h0 : 0 ≤ x) (h1 : x ≤ 1099511627776) : Calls Try.prog 60 #[.agg #[.int .i64 x, .int .i64 1]] w fun e w' => e = .returned (.agg #[.int .i64 x, .int .i64 1, .int .i64 x, .int .i64 1, .int .i64 x, .int .i64 1]) ∧ Below w.heap.size w w' := by
  obtain ⟨n, rfl⟩ : ∃ n : Nat, x = (n : Int) := ⟨x.toNat, by omega⟩
  exact pexactR n 1 w (by omega) (by omega) (by omega) (Nat.gcd_one_right n)
theorem rexI (x : Int) (w : World) (h0 : 0 ≤ x) (h1 : x ≤ 1099511627776) : Calls Try.prog 64 #[.int .i64 x] w fun e w' => e = .returned (.agg #[.int .i64 x, .int .i64 1, .int .i64 x, .int .i64 1, .int .i64 x, .int .i64 1]) ∧ Below w.heap.size w w' := by
  obtain ⟨n, rfl⟩ : ∃ n : Nat, x = (n : Int) := ⟨x.toNat, by omega⟩
  exact rwholeN n (by omega) w
theorem pwhI (x y : Int) (w : World) (h0 : 0 ≤ x) (hxy : x ≤ y) (h1 : y ≤ 1099511627776) : Calls Try.prog 63 #[.int .i64 x, .int .i64 y] w fun e w' => e = .returned (.tuple #[.agg #[.int .i64 x, .int .i64 1, .int .i64 ((x + y) / 2), .int .i64 1, .int .i64 y, .int .i64 1], .bool true]) ∧ Below w.heap.size w w' := by
  obtain ⟨n, rfl⟩ : ∃ n : Nat, x = (n : Int) := ⟨x.toNat, by omega⟩
  obtain ⟨k, rfl⟩ : ∃ k : Nat, y = (k : Int) := ⟨y.toNat, by omega⟩
  rw [show ((n : Int) + (k : Int)) / 2 = (((n + k) / 2 : Nat) : Int) by omega]
  exact pwhole n k (by omega) (by omega) w
theorem rwhI (x y : Int) (w : World) (h0 : 0 ≤ x) (hxy : x ≤ y) (h1 : y ≤ 1099511627776) : Calls Try.prog 66 #[.int .i64 x, .int .i64 y] w fun e w' => e = .returned (.tuple #[.agg #[.int .i64 x, .int .i64 1, .int .i64 ((x + y) / 2), .int .i64 1, .int .i64 y, .int .i64 1], .bool true]) ∧ Below w.heap.size w w' := by
  obtain ⟨n, rfl⟩ : ∃ n : Nat, x = (n : Int) := ⟨x.toNat, by omega⟩
  obtain ⟨k, rfl⟩ : ∃ k : Nat, y = (k : Int) := ⟨y.toNat, by omega⟩
  rw [show ((n : Int) + (k : Int)) / 2 = (((n + k) / 2 : Nat) : Int) by omega]
  exact rwhole n k (by omega) (by omega) w
set_option maxRecDepth 100000 in
theorem psmask_a (A : Option Addr) (m c : Nat) (l : List Mk) (agg wd k cap now seq : Int) (w : World) (hin : MIn A m c l w) (sB : I64 seq) (hv : smvalE agg wd k cap now seq l = 2) : Calls Try.prog 28 #[.agg #[.int .i64 agg, .int .i64 wd, .int .i64 k, .int .i64 cap, .int .i64 now, .int .i64 seq, .slice A m c]] w fun e w' => e = .returned (askV (smvalE agg wd k cap now seq l) (askLo agg now wd l) (askHi agg now wd l)) ∧ Below w.heap.size w w' := by
  rw [show askV (smvalE agg wd k cap now seq l) (askLo agg now wd l) (askHi agg now wd l) = .tuple #[.agg #[.int .i64 0, .int .i64 0, .int .i64 0, .int .i64 0, .int .i64 0, .int .i64 0], .int .i64 2] by unfold askV; rw [hv]; rfl]
  have P := fun w' (hb : Below w.heap.size w w') => pvalS A m c l agg wd k cap now seq w' (hin.below hb) sB
  rw [hv] at P
  replace P := Lib.hid P
  clear hv hin sB
  go_enter Try.func28, Try.ntmps28
  go_wp2_with (first | (go_at_call 12; with_reducible refine (P.out _ (by (repeat (first | exact Below.refl _ _ | refine Below.setCell ?_ (by first | (simp; done) | (simp; omega) | omega) _ | refine Below.alloc ?_ (by first | (simp; done) | (simp; omega) | omega) _ | refine Below.drew ?_ | refine Below.trans ?_ (Below.mono (by assumption) (by first | (simp; done) | (simp; omega) | omega)))))).mono ?_; rintro e w1 ⟨rfl, hb1⟩; have hz1 := hb1.size; (try simp at hz1); have o1 : Below w.heap.size w w1 := (by (repeat (first | exact Below.refl _ _ | refine Below.setCell ?_ (by first | (simp; done) | (simp; omega) | omega) _ | refine Below.alloc ?_ (by first | (simp; done) | (simp; omega) | omega) _ | refine Below.drew ?_ | refine Below.trans ?_ (Below.mono (by assumption) (by first | (simp; done) | (simp; omega) | omega))))); have q1_0 : w.heap.size < w1.heap.size := (by omega); have r1_0 : Row w1 (w.heap.size) 24 #[.int .i64 agg, .int .i64 wd, .int .i64 k, .int .i64 cap, .int .i64 now, .int .i64 seq, .slice A m c] := row_call (by (repeat (first | assumption | (refine row_new ?_; (first | (simp; done) | omega)) | refine row_alloc ?_ _ | refine row_drew ?_ | refine row_call ?_ (by assumption)))) hb1; obtain ⟨c1_0a, c1_0b, c1_0c, c1_0d, c1_0e, c1_0f, c1_0g, f1_0a, f1_0b, f1_0c, f1_0d, f1_0e, f1_0f, f1_0g⟩ := row_seven r1_0; have q1_1 : w.heap.size + 1 < w1.heap.size := (by omega); have r1_1 : Row w1 (w.heap.size + 1) 50 #[.int .i64 0, .int .i64 0, .int .i64 0, .int .i64 0, .int .i64 0, .int .i64 0] := row_call (by (repeat (first | assumption | (refine row_new ?_; (first | (simp; done) | omega)) | refine row_alloc ?_ _ | refine row_drew ?_ | refine row_call ?_ (by assumption)))) hb1; obtain ⟨c1_1a, c1_1b, c1_1c, c1_1d, c1_1e, c1_1f, f1_1a, f1_1b, f1_1c, f1_1d, f1_1e, f1_1f⟩ := row_six r1_1))
  exact bodyPost_ret (v := .tuple #[.agg #[.int .i64 0, .int .i64 0, .int .i64 0, .int .i64 0, .int .i64 0, .int .i64 0], .int .i64 2]) (by simp [results, Try.results28, go_sem, List.getElem?_toArray, c1_1a, c1_1b, c1_1c, c1_1d, c1_1e, c1_1f]) rfl ⟨rfl, below_six o1 (by omega) _ _ _ _ _ _⟩
set_option maxRecDepth 100000 in
theorem psmask_z (A : Option Addr) (c : Nat) (l : List Mk) (agg wd k cap now seq : Int) (w : World) (hin : MIn A 0 c l w) (sB : I64 seq) (hv : smvalE agg wd k cap now seq l = 0) : Calls Try.prog 28 #[.agg #[.int .i64 agg, .int .i64 wd, .int .i64 k, .int .i64 cap, .int .i64 now, .int .i64 seq, .slice A 0 c]] w fun e w' => e = .returned (askV (smvalE agg wd k cap now seq l) (askLo agg now wd l) (askHi agg now wd l)) ∧ Below w.heap.size w w' := by
  have hl : l = [] := List.eq_nil_of_length_eq_zero hin.len
  rw [show askV (smvalE agg wd k cap now seq l) (askLo agg now wd l) (askHi agg now wd l) = .tuple #[.agg #[.int .i64 0, .int .i64 1, .int .i64 0, .int .i64 1, .int .i64 0, .int .i64 1], .int .i64 0] by rw [hv, hl, askLo_nil, askHi_nil]; rfl]
  have P := fun w' (hb : Below w.heap.size w w') => pvalS A 0 c l agg wd k cap now seq w' (hin.below hb) sB
  rw [hv] at P
  replace P := Lib.hid P
  have PE := Lib.hid (fun w => pexI 0 w (by omega) (by omega))
  clear hv hin sB hl
  go_enter Try.func28, Try.ntmps28
  go_upto_region 5 with (first | (go_at_call 12; with_reducible refine (P.out _ (by (repeat (first | exact Below.refl _ _ | refine Below.setCell ?_ (by first | (simp; done) | (simp; omega) | omega) _ | refine Below.alloc ?_ (by first | (simp; done) | (simp; omega) | omega) _ | refine Below.drew ?_ | refine Below.trans ?_ (Below.mono (by assumption) (by first | (simp; done) | (simp; omega) | omega)))))).mono ?_; rintro e w1 ⟨rfl, hb1⟩; have hz1 := hb1.size; (try simp at hz1); have o1 : Below w.heap.size w w1 := (by (repeat (first | exact Below.refl _ _ | refine Below.setCell ?_ (by first | (simp; done) | (simp; omega) | omega) _ | refine Below.alloc ?_ (by first | (simp; done) | (simp; omega) | omega) _ | refine Below.drew ?_ | refine Below.trans ?_ (Below.mono (by assumption) (by first | (simp; done) | (simp; omega) | omega))))); have q1_0 : w.heap.size < w1.heap.size := (by omega); have r1_0 : Row w1 (w.heap.size) 24 #[.int .i64 agg, .int .i64 wd, .int .i64 k, .int .i64 cap, .int .i64 now, .int .i64 seq, .slice A 0 c] := row_call (by (repeat (first | assumption | (refine row_new ?_; (first | (simp; done) | omega)) | refine row_alloc ?_ _ | refine row_drew ?_ | refine row_call ?_ (by assumption)))) hb1; obtain ⟨c1_0a, c1_0b, c1_0c, c1_0d, c1_0e, c1_0f, c1_0g, f1_0a, f1_0b, f1_0c, f1_0d, f1_0e, f1_0f, f1_0g⟩ := row_seven r1_0; have q1_1 : w.heap.size + 1 < w1.heap.size := (by omega); have r1_1 : Row w1 (w.heap.size + 1) 50 #[.int .i64 0, .int .i64 0, .int .i64 0, .int .i64 0, .int .i64 0, .int .i64 0] := row_call (by (repeat (first | assumption | (refine row_new ?_; (first | (simp; done) | omega)) | refine row_alloc ?_ _ | refine row_drew ?_ | refine row_call ?_ (by assumption)))) hb1; obtain ⟨c1_1a, c1_1b, c1_1c, c1_1d, c1_1e, c1_1f, f1_1a, f1_1b, f1_1c, f1_1d, f1_1e, f1_1f⟩ := row_six r1_1))
  have R := r1_1
  have o := o1
  clear r1_1 r1_0 o1 c1_1a c1_1b c1_1c c1_1d c1_1e c1_1f
  go_wp2_with fail
  refine (pratio 0 _).mono ?_
  rintro e w5 ⟨rfl, hb5⟩
  replace R := row_call R hb5
  replace o := o.trans (hb5.mono o.size)
  clear hb5
  go_wp2_with fail
  refine (PE.out _).mono ?_
  rintro e w6 ⟨rfl, hb6⟩
  replace R := row_call R hb6
  replace o := o.trans (hb6.mono o.size)
  clear hb6
  obtain ⟨R0, R1, R2, R3, R4, R5, Rf0, Rf1, Rf2, Rf3, Rf4, Rf5⟩ := row_six R
  go_wp2
  exact bodyPost_ret (v := .tuple #[.agg #[.int .i64 0, .int .i64 1, .int .i64 0, .int .i64 1, .int .i64 0, .int .i64 1], .int .i64 0]) (by simp [results, Try.results28, go_sem, List.getElem?_toArray, R0, R1, R2, R3, R4, R5]) rfl ⟨rfl, below_six o (by omega) _ _ _ _ _ _⟩
set_option maxRecDepth 100000 in
set_option maxHeartbeats 2000000 in
theorem psmask_f (A : Option Addr) (m c : Nat) (l : List Mk) (agg wd k cap now seq : Int) (w : World) (hin : MIn A m c l w) (sB : I64 seq) (hv : smvalE agg wd k cap now seq l = 0) (hm0 : 0 < m) (hlv : now - wd < (mkAt l 0).t) : Calls Try.prog 28 #[.agg #[.int .i64 agg, .int .i64 wd, .int .i64 k, .int .i64 cap, .int .i64 now, .int .i64 seq, .slice A m c]] w fun e w' => e = .returned (askV (smvalE agg wd k cap now seq l) (askLo agg now wd l) (askHi agg now wd l)) ∧ Below w.heap.size w w' := by
  obtain ⟨hG, hMV, _⟩ := of_smvalE hv
  obtain ⟨⟨a0, a1⟩, d0, d1, k0, k1, c0, c1, n0, n1⟩ := hG
  have hVL := (mvalid_iff.1 hMV).2
  have hl := hin.len
  have hne : l ≠ [] := fun e => by rw [e] at hl; simp at hl; omega
  have e1 : askLo agg now wd l = ofV agg (mkAt l 0) := by unfold askLo; rw [if_neg hne, if_pos hlv]
  have e2 : askHi agg now wd l = ofV agg (mkAt l 0) := by unfold askHi; rw [if_neg hne, if_pos hlv]
  rw [e1, e2, hv]
  have o1a := hVL.one _ (mkAt_mem (l := l) (i := 0) (by omega))
  have PX := fun w => pofm agg (mkAt l 0) w (hin.mB 0)
  have bx := ofV_bound o1a c1
  have PL := fun w => plive now wd (mkAt l 0).t w n0 n1 d0 d1 o1a.2.2.2.2.1 o1a.2.2.2.2.2.1
  clear e1 e2
  obtain ⟨x, hx⟩ : ∃ x, ofV agg (mkAt l 0) = x := ⟨_, rfl⟩
  rw [hx] at PX bx
  try rw [hx]
  obtain ⟨ad, rfl, hadb, ht0⟩ := hin.reads.mk (i := 0) hm0
  have ht0 : MkCells w ad (mkAt l 0) := ht0
  generalize mkAt l 0 = ma at ht0 PX PL hlv o1a
  obtain ⟨sq, tk, n, s, q, lo, hi⟩ := ma
  dsimp only at PX PL hlv
  rw [decide_eq_true hlv] at PL
  replace PX := Lib.hid PX
  replace PL := Lib.hid PL
  rw [show askV 0 x x = .tuple #[.agg #[.int .i64 x, .int .i64 1, .int .i64 x, .int .i64 1, .int .i64 x, .int .i64 1], .int .i64 0] by unfold askV; rw [if_pos rfl, show (x + x) / 2 = x by omega]]
  have PE := Lib.hid (fun w => pexI x w bx.1 bx.2)
  have P := fun w' (hb : Below w.heap.size w w') => pvalS (some ad) m c l agg wd k cap now seq w' (hin.below hb) sB
  rw [hv] at P
  replace P := Lib.hid P
  clear hv hin sB hx hlv o1a hMV hVL hne bx hl
  go_enter Try.func28, Try.ntmps28
  go_upto_region 6 with (first | (go_at_call 12; with_reducible refine (P.out _ (by (repeat (first | exact Below.refl _ _ | refine Below.setCell ?_ (by first | (simp; done) | (simp; omega) | omega) _ | refine Below.alloc ?_ (by first | (simp; done) | (simp; omega) | omega) _ | refine Below.drew ?_ | refine Below.trans ?_ (Below.mono (by assumption) (by first | (simp; done) | (simp; omega) | omega)))))).mono ?_; rintro e w1 ⟨rfl, hb1⟩; have hz1 := hb1.size; (try simp at hz1); have o1 : Below w.heap.size w w1 := (by (repeat (first | exact Below.refl _ _ | refine Below.setCell ?_ (by first | (simp; done) | (simp; omega) | omega) _ | refine Below.alloc ?_ (by first | (simp; done) | (simp; omega) | omega) _ | refine Below.drew ?_ | refine Below.trans ?_ (Below.mono (by assumption) (by first | (simp; done) | (simp; omega) | omega))))); have q1_0 : w.heap.size < w1.heap.size := (by omega); have r1_0 : Row w1 (w.heap.size) 24 #[.int .i64 agg, .int .i64 wd, .int .i64 k, .int .i64 cap, .int .i64 now, .int .i64 seq, .slice (some ad) m c] := row_call (by (repeat (first | assumption | (refine row_new ?_; (first | (simp; done) | omega)) | refine row_alloc ?_ _ | refine row_drew ?_ | refine row_call ?_ (by assumption)))) hb1; obtain ⟨c1_0a, c1_0b, c1_0c, c1_0d, c1_0e, c1_0f, c1_0g, f1_0a, f1_0b, f1_0c, f1_0d, f1_0e, f1_0f, f1_0g⟩ := row_seven r1_0; have q1_1 : w.heap.size + 1 < w1.heap.size := (by omega); have r1_1 : Row w1 (w.heap.size + 1) 50 #[.int .i64 0, .int .i64 0, .int .i64 0, .int .i64 0, .int .i64 0, .int .i64 0] := row_call (by (repeat (first | assumption | (refine row_new ?_; (first | (simp; done) | omega)) | refine row_alloc ?_ _ | refine row_drew ?_ | refine row_call ?_ (by assumption)))) hb1; obtain ⟨c1_1a, c1_1b, c1_1c, c1_1d, c1_1e, c1_1f, f1_1a, f1_1b, f1_1c, f1_1d, f1_1e, f1_1f⟩ := row_six r1_1))
  have R := r1_1
  have o := o1
  obtain ⟨q0, q1, q2, q3, q4, q5, q6⟩ := ht0.below o1 hadb
  dsimp only at q0 q1 q2 q3 q4 q5 q6
  have g0 : (0 : Int) < (m : Int) := by omega
  have mz : ((m : Int) == 0) = false := by simp; omega
  go_upto_region 7 with (fail)
  have Fr : Row (w1.alloc (.cells #[.int .i64 sq, .int .i64 tk, .int .i64 n, .int .i64 s, .int .i64 q, .int .i64 lo, .int .i64 hi] 43)) w1.heap.size 43 #[.int .i64 sq, .int .i64 tk, .int .i64 n, .int .i64 s, .int .i64 q, .int .i64 lo, .int .i64 hi] := row_new rfl
  replace R := row_alloc R (.cells #[.int .i64 sq, .int .i64 tk, .int .i64 n, .int .i64 s, .int .i64 q, .int .i64 lo, .int .i64 hi] 43)
  have X := row_alloc r1_0 (.cells #[.int .i64 sq, .int .i64 tk, .int .i64 n, .int .i64 s, .int .i64 q, .int .i64 lo, .int .i64 hi] 43)
  replace o := o.alloc o.size (.cells #[.int .i64 sq, .int .i64 tk, .int .i64 n, .int .i64 s, .int .i64 q, .int .i64 lo, .int .i64 hi] 43)
  generalize (w1.alloc (.cells #[.int .i64 sq, .int .i64 tk, .int .i64 n, .int .i64 s, .int .i64 q, .int .i64 lo, .int .i64 hi] 43)) = w2 at Fr R X o ⊢
  generalize w1.heap.size = fb at Fr ⊢
  clear q0 q1 q2 q3 q4 q5 q6 r1_0 r1_1 o1 ht0 c1_0a c1_0b c1_0c c1_0d c1_0e c1_0f c1_0g f1_0a f1_0b f1_0c f1_0d f1_0e f1_0f f1_0g c1_1a c1_1b c1_1c c1_1d c1_1e c1_1f f1_1a f1_1b f1_1c f1_1d f1_1e f1_1f
  obtain ⟨X0, X1, X2, X3, X4, X5, X6, Xf0, Xf1, Xf2, Xf3, Xf4, Xf5, Xf6⟩ := row_seven X
  obtain ⟨F0, F1, F2, F3, F4, F5, F6, Ff0, Ff1, Ff2, Ff3, Ff4, Ff5, Ff6⟩ := row_seven Fr
  go_upto_region 8 with (go_at_call 62; with_reducible refine (PL.out _).mono ?_; rintro e w9 ⟨rfl, h9⟩; obtain rfl := h9.symm)
  go_wp2_with fail
  refine (PX.out _).mono ?_
  rintro e w4 ⟨rfl, hb4⟩
  replace R := row_call R hb4
  replace o := o.trans (hb4.mono o.size)
  clear hb4 X X0 X1 X2 X3 X4 X5 X6 Xf0 Xf1 Xf2 Xf3 Xf4 Xf5 Xf6 Fr F0 F1 F2 F3 F4 F5 F6 Ff0 Ff1 Ff2 Ff3 Ff4 Ff5 Ff6
  go_wp2_with fail
  refine (pratio x _).mono ?_
  rintro e w5 ⟨rfl, hb5⟩
  replace R := row_call R hb5
  replace o := o.trans (hb5.mono o.size)
  clear hb5
  go_wp2_with fail
  refine (PE.out _).mono ?_
  rintro e w6 ⟨rfl, hb6⟩
  replace R := row_call R hb6
  replace o := o.trans (hb6.mono o.size)
  clear hb6
  obtain ⟨R0, R1, R2, R3, R4, R5, Rf0, Rf1, Rf2, Rf3, Rf4, Rf5⟩ := row_six R
  go_wp2
  exact bodyPost_ret (v := .tuple #[.agg #[.int .i64 x, .int .i64 1, .int .i64 x, .int .i64 1, .int .i64 x, .int .i64 1], .int .i64 0]) (by simp [results, Try.results28, go_sem, List.getElem?_toArray, R0, R1, R2, R3, R4, R5]) rfl ⟨rfl, below_six o (by omega) _ _ _ _ _ _⟩
set_option maxRecDepth 100000 in
set_option maxHeartbeats 2000000 in
theorem psmask_g (A : Option Addr) (m c : Nat) (l : List Mk) (agg wd k cap now seq : Int) (w : World) (hin : MIn A m c l w) (sB : I64 seq) (hv : smvalE agg wd k cap now seq l = 0) (hm0 : 0 < m) (hlv : ¬ now - wd < (mkAt l 0).t) (hnx : (mkAt l 1).seq = (mkAt l 0).seq + 1) : Calls Try.prog 28 #[.agg #[.int .i64 agg, .int .i64 wd, .int .i64 k, .int .i64 cap, .int .i64 now, .int .i64 seq, .slice A m c]] w fun e w' => e = .returned (askV (smvalE agg wd k cap now seq l) (askLo agg now wd l) (askHi agg now wd l)) ∧ Below w.heap.size w w' := by
  have hle := ask_le (of_smvalE hv)
  obtain ⟨hG, hMV, _⟩ := of_smvalE hv
  obtain ⟨⟨a0, a1⟩, d0, d1, k0, k1, c0, c1, n0, n1⟩ := hG
  have hVL := (mvalid_iff.1 hMV).2
  have hl := hin.len
  have hne : l ≠ [] := fun e => by rw [e] at hl; simp at hl; omega
  have hm1 : 1 < m := by
    apply Nat.lt_of_not_le; intro hc
    obtain ⟨a, rfl⟩ : ∃ a, l = [a] := List.length_eq_one_iff.1 (by omega)
    exact hlv (hVL.alone a rfl)
  have e1 : askLo agg now wd l = ofV agg (mkAt l 1) := by unfold askLo; rw [if_neg hne, if_neg hlv]
  have e2 : askHi agg now wd l = ofV agg (mkAt l 1) := by unfold askHi; rw [if_neg hne, if_neg hlv, if_pos hnx]
  rw [e1, e2] at hle
  rw [e1, e2, hv]
  have o1a := hVL.one _ (mkAt_mem (l := l) (i := 0) (by omega))
  have PX := fun w => pofm agg (mkAt l 0) w (hin.mB 0)
  have bx := ofV_bound o1a c1
  have PL := fun w => plive now wd (mkAt l 0).t w n0 n1 d0 d1 o1a.2.2.2.2.1 o1a.2.2.2.2.2.1
  have o1b := hVL.one _ (mkAt_mem (l := l) (i := 1) (by omega))
  have PY := fun w => pofm agg (mkAt l 1) w (hin.mB 1)
  have bY := ofV_bound o1b c1
  clear e1 e2
  obtain ⟨y, hy⟩ : ∃ y, ofV agg (mkAt l 1) = y := ⟨_, rfl⟩
  rw [hy] at PY bY hle
  rw [hy]
  obtain ⟨ad', e', hadb', ht1⟩ := hin.reads.mk (i := 1) hm1
  obtain ⟨x, hx⟩ : ∃ x, ofV agg (mkAt l 0) = x := ⟨_, rfl⟩
  rw [hx] at PX bx
  try rw [hx]
  obtain ⟨ad, rfl, hadb, ht0⟩ := hin.reads.mk (i := 0) hm0
  have ht0 : MkCells w ad (mkAt l 0) := ht0
  generalize mkAt l 0 = ma at ht0 PX PL hlv o1a hnx
  obtain ⟨sq, tk, n, s, q, lo, hi⟩ := ma
  dsimp only at PX PL hlv hnx
  rw [decide_eq_false hlv] at PL
  replace PX := Lib.hid PX
  replace PL := Lib.hid PL
  obtain rfl := Option.some.inj e'
  have ht1 : MkCells w (ad.add (1 * 7)) (mkAt l 1) := ht1
  generalize mkAt l 1 = mb at ht1 PY hnx o1b
  obtain ⟨osq, otk, on, os, oq, olo, ohi⟩ := mb
  dsimp only at PY hnx
  have hsq1 := o1a.1
  have hsq2 := o1a.2.1
  dsimp only at hsq1 hsq2
  have wsq : IntKind.i64.wrap (sq + 1) = sq + 1 := IntWalk.i64_in _ (by have := (mvalid_iff.1 hMV).1.2; omega)
  have tsq : (osq == sq + 1) = true := by simp; omega
  replace PY := Lib.hid PY
  rw [show askV 0 y y = .tuple #[.agg #[.int .i64 y, .int .i64 1, .int .i64 y, .int .i64 1, .int .i64 y, .int .i64 1], .int .i64 0] by unfold askV; rw [if_pos rfl, show (y + y) / 2 = y by omega]]
  have PE := Lib.hid (fun w => pexI y w bY.1 bY.2)
  have P := fun w' (hb : Below w.heap.size w w') => pvalS (some ad) m c l agg wd k cap now seq w' (hin.below hb) sB
  rw [hv] at P
  replace P := Lib.hid P
  clear hv hin sB hx hy hlv o1a o1b hMV hVL hne bx bY hl hle hnx e' hsq1 hsq2
  go_enter Try.func28, Try.ntmps28
  go_upto_region 6 with (first | (go_at_call 12; with_reducible refine (P.out _ (by (repeat (first | exact Below.refl _ _ | refine Below.setCell ?_ (by first | (simp; done) | (simp; omega) | omega) _ | refine Below.alloc ?_ (by first | (simp; done) | (simp; omega) | omega) _ | refine Below.drew ?_ | refine Below.trans ?_ (Below.mono (by assumption) (by first | (simp; done) | (simp; omega) | omega)))))).mono ?_; rintro e w1 ⟨rfl, hb1⟩; have hz1 := hb1.size; (try simp at hz1); have o1 : Below w.heap.size w w1 := (by (repeat (first | exact Below.refl _ _ | refine Below.setCell ?_ (by first | (simp; done) | (simp; omega) | omega) _ | refine Below.alloc ?_ (by first | (simp; done) | (simp; omega) | omega) _ | refine Below.drew ?_ | refine Below.trans ?_ (Below.mono (by assumption) (by first | (simp; done) | (simp; omega) | omega))))); have q1_0 : w.heap.size < w1.heap.size := (by omega); have r1_0 : Row w1 (w.heap.size) 24 #[.int .i64 agg, .int .i64 wd, .int .i64 k, .int .i64 cap, .int .i64 now, .int .i64 seq, .slice (some ad) m c] := row_call (by (repeat (first | assumption | (refine row_new ?_; (first | (simp; done) | omega)) | refine row_alloc ?_ _ | refine row_drew ?_ | refine row_call ?_ (by assumption)))) hb1; obtain ⟨c1_0a, c1_0b, c1_0c, c1_0d, c1_0e, c1_0f, c1_0g, f1_0a, f1_0b, f1_0c, f1_0d, f1_0e, f1_0f, f1_0g⟩ := row_seven r1_0; have q1_1 : w.heap.size + 1 < w1.heap.size := (by omega); have r1_1 : Row w1 (w.heap.size + 1) 50 #[.int .i64 0, .int .i64 0, .int .i64 0, .int .i64 0, .int .i64 0, .int .i64 0] := row_call (by (repeat (first | assumption | (refine row_new ?_; (first | (simp; done) | omega)) | refine row_alloc ?_ _ | refine row_drew ?_ | refine row_call ?_ (by assumption)))) hb1; obtain ⟨c1_1a, c1_1b, c1_1c, c1_1d, c1_1e, c1_1f, f1_1a, f1_1b, f1_1c, f1_1d, f1_1e, f1_1f⟩ := row_six r1_1))
  have R := r1_1
  have o := o1
  obtain ⟨q0, q1, q2, q3, q4, q5, q6⟩ := ht0.below o1 hadb
  dsimp only at q0 q1 q2 q3 q4 q5 q6
  have g0 : (0 : Int) < (m : Int) := by omega
  have mz : ((m : Int) == 0) = false := by simp; omega
  go_upto_region 7 with (fail)
  have Fr : Row (w1.alloc (.cells #[.int .i64 sq, .int .i64 tk, .int .i64 n, .int .i64 s, .int .i64 q, .int .i64 lo, .int .i64 hi] 43)) w1.heap.size 43 #[.int .i64 sq, .int .i64 tk, .int .i64 n, .int .i64 s, .int .i64 q, .int .i64 lo, .int .i64 hi] := row_new rfl
  replace R := row_alloc R (.cells #[.int .i64 sq, .int .i64 tk, .int .i64 n, .int .i64 s, .int .i64 q, .int .i64 lo, .int .i64 hi] 43)
  have X := row_alloc r1_0 (.cells #[.int .i64 sq, .int .i64 tk, .int .i64 n, .int .i64 s, .int .i64 q, .int .i64 lo, .int .i64 hi] 43)
  replace o := o.alloc o.size (.cells #[.int .i64 sq, .int .i64 tk, .int .i64 n, .int .i64 s, .int .i64 q, .int .i64 lo, .int .i64 hi] 43)
  generalize (w1.alloc (.cells #[.int .i64 sq, .int .i64 tk, .int .i64 n, .int .i64 s, .int .i64 q, .int .i64 lo, .int .i64 hi] 43)) = w2 at Fr R X o ⊢
  generalize w1.heap.size = fb at Fr ⊢
  clear q0 q1 q2 q3 q4 q5 q6 r1_0 r1_1 o1 ht0 c1_0a c1_0b c1_0c c1_0d c1_0e c1_0f c1_0g f1_0a f1_0b f1_0c f1_0d f1_0e f1_0f f1_0g c1_1a c1_1b c1_1c c1_1d c1_1e c1_1f f1_1a f1_1b f1_1c f1_1d f1_1e f1_1f
  obtain ⟨X0, X1, X2, X3, X4, X5, X6, Xf0, Xf1, Xf2, Xf3, Xf4, Xf5, Xf6⟩ := row_seven X
  obtain ⟨F0, F1, F2, F3, F4, F5, F6, Ff0, Ff1, Ff2, Ff3, Ff4, Ff5, Ff6⟩ := row_seven Fr
  go_upto_region 9 with (go_at_call 62; with_reducible refine (PL.out _).mono ?_; rintro e w9 ⟨rfl, h9⟩; obtain rfl := h9.symm)
  clear PL
  obtain ⟨s0, s1, s2, s3, s4, s5, s6⟩ := ht1.below o hadb'
  dsimp only at s0 s1 s2 s3 s4 s5 s6
  replace s0 : w2.cell? ⟨ad.block, ad.off + 7, none⟩ = some (.int .i64 osq) := s0
  replace s1 : w2.cell? ⟨ad.block, ad.off + 7 + 1, none⟩ = some (.int .i64 otk) := s1
  replace s2 : w2.cell? ⟨ad.block, ad.off + 7 + 2, none⟩ = some (.int .i64 on) := s2
  replace s3 : w2.cell? ⟨ad.block, ad.off + 7 + 3, none⟩ = some (.int .i64 os) := s3
  replace s4 : w2.cell? ⟨ad.block, ad.off + 7 + 4, none⟩ = some (.int .i64 oq) := s4
  replace s5 : w2.cell? ⟨ad.block, ad.off + 7 + 5, none⟩ = some (.int .i64 olo) := s5
  replace s6 : w2.cell? ⟨ad.block, ad.off + 7 + 6, none⟩ = some (.int .i64 ohi) := s6
  have g1 : (1 : Int) < (m : Int) := by omega
  go_upto_region 10 with (fail)
  have Sr : Row (w2.alloc (.cells #[.int .i64 osq, .int .i64 otk, .int .i64 on, .int .i64 os, .int .i64 oq, .int .i64 olo, .int .i64 ohi] 43)) w2.heap.size 43 #[.int .i64 osq, .int .i64 otk, .int .i64 on, .int .i64 os, .int .i64 oq, .int .i64 olo, .int .i64 ohi] := row_new rfl
  replace R := row_alloc R (.cells #[.int .i64 osq, .int .i64 otk, .int .i64 on, .int .i64 os, .int .i64 oq, .int .i64 olo, .int .i64 ohi] 43)
  replace X := row_alloc X (.cells #[.int .i64 osq, .int .i64 otk, .int .i64 on, .int .i64 os, .int .i64 oq, .int .i64 olo, .int .i64 ohi] 43)
  replace Fr := row_alloc Fr (.cells #[.int .i64 osq, .int .i64 otk, .int .i64 on, .int .i64 os, .int .i64 oq, .int .i64 olo, .int .i64 ohi] 43)
  replace o := o.alloc o.size (.cells #[.int .i64 osq, .int .i64 otk, .int .i64 on, .int .i64 os, .int .i64 oq, .int .i64 olo, .int .i64 ohi] 43)
  generalize (w2.alloc (.cells #[.int .i64 osq, .int .i64 otk, .int .i64 on, .int .i64 os, .int .i64 oq, .int .i64 olo, .int .i64 ohi] 43)) = w3 at Fr R X Sr o ⊢
  generalize w2.heap.size = gb at Sr ⊢
  clear s0 s1 s2 s3 s4 s5 s6 ht1 X0 X1 X2 X3 X4 X5 X6 Xf0 Xf1 Xf2 Xf3 Xf4 Xf5 Xf6 F0 F1 F2 F3 F4 F5 F6 Ff0 Ff1 Ff2 Ff3 Ff4 Ff5 Ff6
  obtain ⟨X0, X1, X2, X3, X4, X5, X6, Xf0, Xf1, Xf2, Xf3, Xf4, Xf5, Xf6⟩ := row_seven X
  obtain ⟨F0, F1, F2, F3, F4, F5, F6, Ff0, Ff1, Ff2, Ff3, Ff4, Ff5, Ff6⟩ := row_seven Fr
  obtain ⟨S0, S1, S2, S3, S4, S5, S6, Sf0, Sf1, Sf2, Sf3, Sf4, Sf5, Sf6⟩ := row_seven Sr
  go_wp2_with fail
  refine (PY.out _).mono ?_
  rintro e w4 ⟨rfl, hb4⟩
  replace R := row_call R hb4
  replace o := o.trans (hb4.mono o.size)
  clear hb4
  go_wp2_with fail
  refine (pratio y _).mono ?_
  rintro e w5 ⟨rfl, hb5⟩
  replace R := row_call R hb5
  replace o := o.trans (hb5.mono o.size)
  clear hb5
  go_wp2_with fail
  refine (PE.out _).mono ?_
  rintro e w6 ⟨rfl, hb6⟩
  replace R := row_call R hb6
  replace o := o.trans (hb6.mono o.size)
  clear hb6
  obtain ⟨R0, R1, R2, R3, R4, R5, Rf0, Rf1, Rf2, Rf3, Rf4, Rf5⟩ := row_six R
  go_wp2
  exact bodyPost_ret (v := .tuple #[.agg #[.int .i64 y, .int .i64 1, .int .i64 y, .int .i64 1, .int .i64 y, .int .i64 1], .int .i64 0]) (by simp [results, Try.results28, go_sem, List.getElem?_toArray, R0, R1, R2, R3, R4, R5]) rfl ⟨rfl, below_six o (by omega) _ _ _ _ _ _⟩
set_option maxRecDepth 100000 in
set_option maxHeartbeats 2000000 in
theorem psmask_h (A : Option Addr) (m c : Nat) (l : List Mk) (agg wd k cap now seq : Int) (w : World) (hin : MIn A m c l w) (sB : I64 seq) (hv : smvalE agg wd k cap now seq l = 0) (hm0 : 0 < m) (hlv : ¬ now - wd < (mkAt l 0).t) (hnx : ¬ (mkAt l 1).seq = (mkAt l 0).seq + 1) : Calls Try.prog 28 #[.agg #[.int .i64 agg, .int .i64 wd, .int .i64 k, .int .i64 cap, .int .i64 now, .int .i64 seq, .slice A m c]] w fun e w' => e = .returned (askV (smvalE agg wd k cap now seq l) (askLo agg now wd l) (askHi agg now wd l)) ∧ Below w.heap.size w w' := by
  have hle := ask_le (of_smvalE hv)
  obtain ⟨hG, hMV, _⟩ := of_smvalE hv
  obtain ⟨⟨a0, a1⟩, d0, d1, k0, k1, c0, c1, n0, n1⟩ := hG
  have hVL := (mvalid_iff.1 hMV).2
  have hl := hin.len
  have hne : l ≠ [] := fun e => by rw [e] at hl; simp at hl; omega
  have hm1 : 1 < m := by
    apply Nat.lt_of_not_le; intro hc
    obtain ⟨a, rfl⟩ : ∃ a, l = [a] := List.length_eq_one_iff.1 (by omega)
    exact hlv (hVL.alone a rfl)
  have e1 : askLo agg now wd l = ofV agg (mkAt l 1) := by unfold askLo; rw [if_neg hne, if_neg hlv]
  have e2 : askHi agg now wd l = ofV agg (mkAt l 0) := by unfold askHi; rw [if_neg hne, if_neg hlv, if_neg hnx]
  rw [e1, e2] at hle
  rw [e1, e2, hv]
  have o1a := hVL.one _ (mkAt_mem (l := l) (i := 0) (by omega))
  have PX := fun w => pofm agg (mkAt l 0) w (hin.mB 0)
  have bx := ofV_bound o1a c1
  have PL := fun w => plive now wd (mkAt l 0).t w n0 n1 d0 d1 o1a.2.2.2.2.1 o1a.2.2.2.2.2.1
  have o1b := hVL.one _ (mkAt_mem (l := l) (i := 1) (by omega))
  have PY := fun w => pofm agg (mkAt l 1) w (hin.mB 1)
  have bY := ofV_bound o1b c1
  clear e1 e2
  obtain ⟨y, hy⟩ : ∃ y, ofV agg (mkAt l 1) = y := ⟨_, rfl⟩
  rw [hy] at PY bY hle
  rw [hy]
  obtain ⟨ad', e', hadb', ht1⟩ := hin.reads.mk (i := 1) hm1
  obtain ⟨x, hx⟩ : ∃ x, ofV agg (mkAt l 0) = x := ⟨_, rfl⟩
  rw [hx] at PX bx
  try rw [hx]
  obtain ⟨ad, rfl, hadb, ht0⟩ := hin.reads.mk (i := 0) hm0
  have ht0 : MkCells w ad (mkAt l 0) := ht0
  generalize mkAt l 0 = ma at ht0 PX PL hlv o1a hnx
  obtain ⟨sq, tk, n, s, q, lo, hi⟩ := ma
  dsimp only at PX PL hlv hnx
  rw [decide_eq_false hlv] at PL
  replace PX := Lib.hid PX
  replace PL := Lib.hid PL
  obtain rfl := Option.some.inj e'
  have ht1 : MkCells w (ad.add (1 * 7)) (mkAt l 1) := ht1
  generalize mkAt l 1 = mb at ht1 PY hnx o1b
  obtain ⟨osq, otk, on, os, oq, olo, ohi⟩ := mb
  dsimp only at PY hnx
  have hsq1 := o1a.1
  have hsq2 := o1a.2.1
  dsimp only at hsq1 hsq2
  have wsq : IntKind.i64.wrap (sq + 1) = sq + 1 := IntWalk.i64_in _ (by have := (mvalid_iff.1 hMV).1.2; omega)
  have tsq : (osq == sq + 1) = false := by simp; omega
  replace PY := Lib.hid PY
  rw [show askV 0 y x = .tuple #[.agg #[.int .i64 y, .int .i64 1, .int .i64 ((y + x) / 2), .int .i64 1, .int .i64 x, .int .i64 1], .int .i64 0] by unfold askV; rw [if_pos rfl]]
  have PE := Lib.hid (fun w => pwhI y x w hle.1 (by rw [hx] at hle; exact hle.2.1) bx.2)
  generalize (y + x) / 2 = md at PE ⊢
  have P := fun w' (hb : Below w.heap.size w w') => pvalS (some ad) m c l agg wd k cap now seq w' (hin.below hb) sB
  rw [hv] at P
  replace P := Lib.hid P
  clear hv hin sB hx hy hlv o1a o1b hMV hVL hne bx bY hl hle hnx e' hsq1 hsq2
  go_enter Try.func28, Try.ntmps28
  go_upto_region 6 with (first | (go_at_call 12; with_reducible refine (P.out _ (by (repeat (first | exact Below.refl _ _ | refine Below.setCell ?_ (by first | (simp; done) | (simp; omega) | omega) _ | refine Below.alloc ?_ (by first | (simp; done) | (simp; omega) | omega) _ | refine Below.drew ?_ | refine Below.trans ?_ (Below.mono (by assumption) (by first | (simp; done) | (simp; omega) | omega)))))).mono ?_; rintro e w1 ⟨rfl, hb1⟩; have hz1 := hb1.size; (try simp at hz1); have o1 : Below w.heap.size w w1 := (by (repeat (first | exact Below.refl _ _ | refine Below.setCell ?_ (by first | (simp; done) | (simp; omega) | omega) _ | refine Below.alloc ?_ (by first | (simp; done) | (simp; omega) | omega) _ | refine Below.drew ?_ | refine Below.trans ?_ (Below.mono (by assumption) (by first | (simp; done) | (simp; omega) | omega))))); have q1_0 : w.heap.size < w1.heap.size := (by omega); have r1_0 : Row w1 (w.heap.size) 24 #[.int .i64 agg, .int .i64 wd, .int .i64 k, .int .i64 cap, .int .i64 now, .int .i64 seq, .slice (some ad) m c] := row_call (by (repeat (first | assumption | (refine row_new ?_; (first | (simp; done) | omega)) | refine row_alloc ?_ _ | refine row_drew ?_ | refine row_call ?_ (by assumption)))) hb1; obtain ⟨c1_0a, c1_0b, c1_0c, c1_0d, c1_0e, c1_0f, c1_0g, f1_0a, f1_0b, f1_0c, f1_0d, f1_0e, f1_0f, f1_0g⟩ := row_seven r1_0; have q1_1 : w.heap.size + 1 < w1.heap.size := (by omega); have r1_1 : Row w1 (w.heap.size + 1) 50 #[.int .i64 0, .int .i64 0, .int .i64 0, .int .i64 0, .int .i64 0, .int .i64 0] := row_call (by (repeat (first | assumption | (refine row_new ?_; (first | (simp; done) | omega)) | refine row_alloc ?_ _ | refine row_drew ?_ | refine row_call ?_ (by assumption)))) hb1; obtain ⟨c1_1a, c1_1b, c1_1c, c1_1d, c1_1e, c1_1f, f1_1a, f1_1b, f1_1c, f1_1d, f1_1e, f1_1f⟩ := row_six r1_1))
  have R := r1_1
  have o := o1
  obtain ⟨q0, q1, q2, q3, q4, q5, q6⟩ := ht0.below o1 hadb
  dsimp only at q0 q1 q2 q3 q4 q5 q6
  have g0 : (0 : Int) < (m : Int) := by omega
  have mz : ((m : Int) == 0) = false := by simp; omega
  go_upto_region 7 with (fail)
  have Fr : Row (w1.alloc (.cells #[.int .i64 sq, .int .i64 tk, .int .i64 n, .int .i64 s, .int .i64 q, .int .i64 lo, .int .i64 hi] 43)) w1.heap.size 43 #[.int .i64 sq, .int .i64 tk, .int .i64 n, .int .i64 s, .int .i64 q, .int .i64 lo, .int .i64 hi] := row_new rfl
  replace R := row_alloc R (.cells #[.int .i64 sq, .int .i64 tk, .int .i64 n, .int .i64 s, .int .i64 q, .int .i64 lo, .int .i64 hi] 43)
  have X := row_alloc r1_0 (.cells #[.int .i64 sq, .int .i64 tk, .int .i64 n, .int .i64 s, .int .i64 q, .int .i64 lo, .int .i64 hi] 43)
  replace o := o.alloc o.size (.cells #[.int .i64 sq, .int .i64 tk, .int .i64 n, .int .i64 s, .int .i64 q, .int .i64 lo, .int .i64 hi] 43)
  generalize (w1.alloc (.cells #[.int .i64 sq, .int .i64 tk, .int .i64 n, .int .i64 s, .int .i64 q, .int .i64 lo, .int .i64 hi] 43)) = w2 at Fr R X o ⊢
  generalize w1.heap.size = fb at Fr ⊢
  clear q0 q1 q2 q3 q4 q5 q6 r1_0 r1_1 o1 ht0 c1_0a c1_0b c1_0c c1_0d c1_0e c1_0f c1_0g f1_0a f1_0b f1_0c f1_0d f1_0e f1_0f f1_0g c1_1a c1_1b c1_1c c1_1d c1_1e c1_1f f1_1a f1_1b f1_1c f1_1d f1_1e f1_1f
  obtain ⟨X0, X1, X2, X3, X4, X5, X6, Xf0, Xf1, Xf2, Xf3, Xf4, Xf5, Xf6⟩ := row_seven X
  obtain ⟨F0, F1, F2, F3, F4, F5, F6, Ff0, Ff1, Ff2, Ff3, Ff4, Ff5, Ff6⟩ := row_seven Fr
  go_upto_region 9 with (go_at_call 62; with_reducible refine (PL.out _).mono ?_; rintro e w9 ⟨rfl, h9⟩; obtain rfl := h9.symm)
  clear PL
  obtain ⟨s0, s1, s2, s3, s4, s5, s6⟩ := ht1.below o hadb'
  dsimp only at s0 s1 s2 s3 s4 s5 s6
  replace s0 : w2.cell? ⟨ad.block, ad.off + 7, none⟩ = some (.int .i64 osq) := s0
  replace s1 : w2.cell? ⟨ad.block, ad.off + 7 + 1, none⟩ = some (.int .i64 otk) := s1
  replace s2 : w2.cell? ⟨ad.block, ad.off + 7 + 2, none⟩ = some (.int .i64 on) := s2
  replace s3 : w2.cell? ⟨ad.block, ad.off + 7 + 3, none⟩ = some (.int .i64 os) := s3
  replace s4 : w2.cell? ⟨ad.block, ad.off + 7 + 4, none⟩ = some (.int .i64 oq) := s4
  replace s5 : w2.cell? ⟨ad.block, ad.off + 7 + 5, none⟩ = some (.int .i64 olo) := s5
  replace s6 : w2.cell? ⟨ad.block, ad.off + 7 + 6, none⟩ = some (.int .i64 ohi) := s6
  have g1 : (1 : Int) < (m : Int) := by omega
  go_upto_region 10 with (fail)
  have Sr : Row (w2.alloc (.cells #[.int .i64 osq, .int .i64 otk, .int .i64 on, .int .i64 os, .int .i64 oq, .int .i64 olo, .int .i64 ohi] 43)) w2.heap.size 43 #[.int .i64 osq, .int .i64 otk, .int .i64 on, .int .i64 os, .int .i64 oq, .int .i64 olo, .int .i64 ohi] := row_new rfl
  replace R := row_alloc R (.cells #[.int .i64 osq, .int .i64 otk, .int .i64 on, .int .i64 os, .int .i64 oq, .int .i64 olo, .int .i64 ohi] 43)
  replace X := row_alloc X (.cells #[.int .i64 osq, .int .i64 otk, .int .i64 on, .int .i64 os, .int .i64 oq, .int .i64 olo, .int .i64 ohi] 43)
  replace Fr := row_alloc Fr (.cells #[.int .i64 osq, .int .i64 otk, .int .i64 on, .int .i64 os, .int .i64 oq, .int .i64 olo, .int .i64 ohi] 43)
  replace o := o.alloc o.size (.cells #[.int .i64 osq, .int .i64 otk, .int .i64 on, .int .i64 os, .int .i64 oq, .int .i64 olo, .int .i64 ohi] 43)
  generalize (w2.alloc (.cells #[.int .i64 osq, .int .i64 otk, .int .i64 on, .int .i64 os, .int .i64 oq, .int .i64 olo, .int .i64 ohi] 43)) = w3 at Fr R X Sr o ⊢
  generalize w2.heap.size = gb at Sr ⊢
  clear s0 s1 s2 s3 s4 s5 s6 ht1 X0 X1 X2 X3 X4 X5 X6 Xf0 Xf1 Xf2 Xf3 Xf4 Xf5 Xf6 F0 F1 F2 F3 F4 F5 F6 Ff0 Ff1 Ff2 Ff3 Ff4 Ff5 Ff6
  obtain ⟨X0, X1, X2, X3, X4, X5, X6, Xf0, Xf1, Xf2, Xf3, Xf4, Xf5, Xf6⟩ := row_seven X
  obtain ⟨F0, F1, F2, F3, F4, F5, F6, Ff0, Ff1, Ff2, Ff3, Ff4, Ff5, Ff6⟩ := row_seven Fr
  obtain ⟨S0, S1, S2, S3, S4, S5, S6, Sf0, Sf1, Sf2, Sf3, Sf4, Sf5, Sf6⟩ := row_seven Sr
  go_upto_region 12 with (fail)
  refine wp_region_free1 [0, 1, 2, 3, 4, 5, 6, 7, 8, 9, 11, 10] [11] [0, 1, 2, 3, 4, 5, 6, 7, 8, 9, 10, 12] (12, 50, #[.int .i64 0, .int .i64 0, .int .i64 0, .int .i64 0, .int .i64 0, .int .i64 0]) 7 13 (fun w' => Row w' (fb) 43 #[.int .i64 sq, .int .i64 tk, .int .i64 n, .int .i64 s, .int .i64 q, .int .i64 lo, .int .i64 hi] ∧ Row w' (gb) 43 #[.int .i64 osq, .int .i64 otk, .int .i64 on, .int .i64 os, .int .i64 oq, .int .i64 olo, .int .i64 ohi] ∧ Row w' (w.heap.size) 24 #[.int .i64 agg, .int .i64 wd, .int .i64 k, .int .i64 cap, .int .i64 now, .int .i64 seq, .slice (some ad) m c] ∧ Row w' (w.heap.size + 1) 50 #[.int .i64 0, .int .i64 0, .int .i64 0, .int .i64 0, .int .i64 0, .int .i64 0] ∧ Below w.heap.size w w') (by kernel_rfl) (by kernel_rfl) ⟨_, _, rfl, rfl, rfl, fun ρ w' => by go_simp⟩ rfl (by simp) (fun _ h => ⟨row_alloc h.1 _, row_alloc h.2.1 _, row_alloc h.2.2.1 _, row_alloc h.2.2.2.1 _, h.2.2.2.2.alloc h.2.2.2.2.size _⟩) (fun _ _ d _ _ h => by cases d <;> exact h) ?_ ?_
  · exact ⟨Fr, Sr, X, R, o.drew⟩
  (refine plan_val ?_ rfl rfl rfl (fun w' hS => ?_) ?_; rotate_left; (obtain ⟨F0, F1, F2, F3, F4, F5, F6, Ff0, Ff1, Ff2, Ff3, Ff4, Ff5, Ff6⟩ := row_seven hS.1; obtain ⟨S0, S1, S2, S3, S4, S5, S6, Sf0, Sf1, Sf2, Sf3, Sf4, Sf5, Sf6⟩ := row_seven hS.2.1; obtain ⟨X0, X1, X2, X3, X4, X5, X6, Xf0, Xf1, Xf2, Xf3, Xf4, Xf5, Xf6⟩ := row_seven hS.2.2.1; go_simp; try with_reducible rfl); simp only [Act.put, List.setIfInBounds_toArray, List.set_cons_zero, List.set_cons_succ])
  (refine plan_pure ?_ rfl rfl (fun w' => ?_) ?_; rotate_left; (go_simp; try with_reducible rfl); simp only [Act.put, List.setIfInBounds_toArray, List.set_cons_zero, List.set_cons_succ])
  (refine plan_val ?_ rfl rfl rfl (fun w' hS => ?_) ?_; rotate_left; (obtain ⟨F0, F1, F2, F3, F4, F5, F6, Ff0, Ff1, Ff2, Ff3, Ff4, Ff5, Ff6⟩ := row_seven hS.1; obtain ⟨S0, S1, S2, S3, S4, S5, S6, Sf0, Sf1, Sf2, Sf3, Sf4, Sf5, Sf6⟩ := row_seven hS.2.1; obtain ⟨X0, X1, X2, X3, X4, X5, X6, Xf0, Xf1, Xf2, Xf3, Xf4, Xf5, Xf6⟩ := row_seven hS.2.2.1; go_simp; try with_reducible rfl); simp only [Act.put, List.setIfInBounds_toArray, List.set_cons_zero, List.set_cons_succ])
  refine plan_call (.int .i64 y) 24 #[.agg #[.int .i64 osq, .int .i64 otk, .int .i64 on, .int .i64 os, .int .i64 oq, .int .i64 olo, .int .i64 ohi], .int .i64 agg] rfl rfl rfl (fun _ _ h hb => ⟨row_call h.1 hb, row_call h.2.1 hb, row_call h.2.2.1 hb, row_call h.2.2.2.1 hb, h.2.2.2.2.trans (hb.mono h.2.2.2.2.size)⟩) (fun w' hS => by obtain ⟨F0, F1, F2, F3, F4, F5, F6, Ff0, Ff1, Ff2, Ff3, Ff4, Ff5, Ff6⟩ := row_seven hS.1; obtain ⟨S0, S1, S2, S3, S4, S5, S6, Sf0, Sf1, Sf2, Sf3, Sf4, Sf5, Sf6⟩ := row_seven hS.2.1; obtain ⟨X0, X1, X2, X3, X4, X5, X6, Xf0, Xf1, Xf2, Xf3, Xf4, Xf5, Xf6⟩ := row_seven hS.2.2.1; go_simp) (fun w' hS => PY.out w') ?_
  simp only [Act.put, List.setIfInBounds_toArray, List.set_cons_zero, List.set_cons_succ]
  (refine plan_val ?_ rfl rfl rfl (fun w' hS => ?_) ?_; rotate_left; (obtain ⟨F0, F1, F2, F3, F4, F5, F6, Ff0, Ff1, Ff2, Ff3, Ff4, Ff5, Ff6⟩ := row_seven hS.1; obtain ⟨S0, S1, S2, S3, S4, S5, S6, Sf0, Sf1, Sf2, Sf3, Sf4, Sf5, Sf6⟩ := row_seven hS.2.1; obtain ⟨X0, X1, X2, X3, X4, X5, X6, Xf0, Xf1, Xf2, Xf3, Xf4, Xf5, Xf6⟩ := row_seven hS.2.2.1; go_simp; try with_reducible rfl); simp only [Act.put, List.setIfInBounds_toArray, List.set_cons_zero, List.set_cons_succ])
  (refine plan_pure ?_ rfl rfl (fun w' => ?_) ?_; rotate_left; (go_simp; try with_reducible rfl); simp only [Act.put, List.setIfInBounds_toArray, List.set_cons_zero, List.set_cons_succ])
  (refine plan_val ?_ rfl rfl rfl (fun w' hS => ?_) ?_; rotate_left; (obtain ⟨F0, F1, F2, F3, F4, F5, F6, Ff0, Ff1, Ff2, Ff3, Ff4, Ff5, Ff6⟩ := row_seven hS.1; obtain ⟨S0, S1, S2, S3, S4, S5, S6, Sf0, Sf1, Sf2, Sf3, Sf4, Sf5, Sf6⟩ := row_seven hS.2.1; obtain ⟨X0, X1, X2, X3, X4, X5, X6, Xf0, Xf1, Xf2, Xf3, Xf4, Xf5, Xf6⟩ := row_seven hS.2.2.1; go_simp; try with_reducible rfl); simp only [Act.put, List.setIfInBounds_toArray, List.set_cons_zero, List.set_cons_succ])
  refine plan_call (.int .i64 x) 24 #[.agg #[.int .i64 sq, .int .i64 tk, .int .i64 n, .int .i64 s, .int .i64 q, .int .i64 lo, .int .i64 hi], .int .i64 agg] rfl rfl rfl (fun _ _ h hb => ⟨row_call h.1 hb, row_call h.2.1 hb, row_call h.2.2.1 hb, row_call h.2.2.2.1 hb, h.2.2.2.2.trans (hb.mono h.2.2.2.2.size)⟩) (fun w' hS => by obtain ⟨F0, F1, F2, F3, F4, F5, F6, Ff0, Ff1, Ff2, Ff3, Ff4, Ff5, Ff6⟩ := row_seven hS.1; obtain ⟨S0, S1, S2, S3, S4, S5, S6, Sf0, Sf1, Sf2, Sf3, Sf4, Sf5, Sf6⟩ := row_seven hS.2.1; obtain ⟨X0, X1, X2, X3, X4, X5, X6, Xf0, Xf1, Xf2, Xf3, Xf4, Xf5, Xf6⟩ := row_seven hS.2.2.1; go_simp) (fun w' hS => PX.out w') ?_
  simp only [Act.put, List.setIfInBounds_toArray, List.set_cons_zero, List.set_cons_succ]
  refine plan_call (.tuple #[.agg #[.int .i64 y, .int .i64 1, .int .i64 md, .int .i64 1, .int .i64 x, .int .i64 1], .bool true]) 63 #[.int .i64 y, .int .i64 x] rfl rfl rfl (fun _ _ h hb => ⟨row_call h.1 hb, row_call h.2.1 hb, row_call h.2.2.1 hb, row_call h.2.2.2.1 hb, h.2.2.2.2.trans (hb.mono h.2.2.2.2.size)⟩) (fun w' hS => by obtain ⟨F0, F1, F2, F3, F4, F5, F6, Ff0, Ff1, Ff2, Ff3, Ff4, Ff5, Ff6⟩ := row_seven hS.1; obtain ⟨S0, S1, S2, S3, S4, S5, S6, Sf0, Sf1, Sf2, Sf3, Sf4, Sf5, Sf6⟩ := row_seven hS.2.1; obtain ⟨X0, X1, X2, X3, X4, X5, X6, Xf0, Xf1, Xf2, Xf3, Xf4, Xf5, Xf6⟩ := row_seven hS.2.2.1; go_simp) (fun w' hS => PE.out w') ?_
  simp only [Act.put, List.setIfInBounds_toArray, List.set_cons_zero, List.set_cons_succ]
  (refine plan_pure ?_ rfl rfl (fun w' => ?_) ?_; rotate_left; (go_simp; try with_reducible rfl); simp only [Act.put, List.setIfInBounds_toArray, List.set_cons_zero, List.set_cons_succ])
  (refine plan_pure ?_ rfl rfl (fun w' => ?_) ?_; rotate_left; (go_simp; try with_reducible rfl); simp only [Act.put, List.setIfInBounds_toArray, List.set_cons_zero, List.set_cons_succ])
  (refine plan_pure ?_ rfl rfl (fun w' => ?_) ?_; rotate_left; (go_simp; try with_reducible rfl); simp only [Act.put, List.setIfInBounds_toArray, List.set_cons_zero, List.set_cons_succ])
  refine plan_nil ?_
  intro ob w5 L hor hog
  simp only [List.drop_succ_cons, List.drop_zero]
  try simp only [Act.put, List.setIfInBounds_toArray, List.set_cons_zero, List.set_cons_succ]
  obtain ⟨Fr', Sr', X', R', o'⟩ := L
  clear Fr Sr X o F0 F1 F2 F3 F4 F5 F6 Ff0 Ff1 Ff2 Ff3 Ff4 Ff5 Ff6 S0 S1 S2 S3 S4 S5 S6 Sf0 Sf1 Sf2 Sf3 Sf4 Sf5 Sf6 X0 X1 X2 X3 X4 X5 X6 Xf0 Xf1 Xf2 Xf3 Xf4 Xf5 Xf6
  have hne : w.heap.size + 1 ≠ ob := by have := row_lt R; omega
  have hbo : w.heap.size ≤ ob := by have := row_lt R; omega
  obtain ⟨B0, B1, B2, B3, B4, B5, Bf0, Bf1, Bf2, Bf3, Bf4, Bf5⟩ := row_six hor
  go_upto_region 13 with (fail)
  have B' : Row ((((((w5.setCell ⟨ob, 0, none⟩ (.int .i64 y)).setCell ⟨ob, 1, none⟩ (.int .i64 1)).setCell ⟨ob, 2, none⟩ (.int .i64 md)).setCell ⟨ob, 3, none⟩ (.int .i64 1)).setCell ⟨ob, 4, none⟩ (.int .i64 x)).setCell ⟨ob, 5, none⟩ (.int .i64 1)) ob 50 #[.int .i64 y, .int .i64 1, .int .i64 md, .int .i64 1, .int .i64 x, .int .i64 1] := (row_set (row_set (row_set (row_set (row_set (row_set hor 0 (.int .i64 y)) 1 (.int .i64 1)) 2 (.int .i64 md)) 3 (.int .i64 1)) 4 (.int .i64 x)) 5 (.int .i64 1))
  replace R : Row ((((((w5.setCell ⟨ob, 0, none⟩ (.int .i64 y)).setCell ⟨ob, 1, none⟩ (.int .i64 1)).setCell ⟨ob, 2, none⟩ (.int .i64 md)).setCell ⟨ob, 3, none⟩ (.int .i64 1)).setCell ⟨ob, 4, none⟩ (.int .i64 x)).setCell ⟨ob, 5, none⟩ (.int .i64 1)) (w.heap.size + 1) 50 #[.int .i64 0, .int .i64 0, .int .i64 0, .int .i64 0, .int .i64 0, .int .i64 0] := (row_other (row_other (row_other (row_other (row_other (row_other R' hne (.int .i64 y)) hne (.int .i64 1)) hne (.int .i64 md)) hne (.int .i64 1)) hne (.int .i64 x)) hne (.int .i64 1))
  have o : Below w.heap.size w ((((((w5.setCell ⟨ob, 0, none⟩ (.int .i64 y)).setCell ⟨ob, 1, none⟩ (.int .i64 1)).setCell ⟨ob, 2, none⟩ (.int .i64 md)).setCell ⟨ob, 3, none⟩ (.int .i64 1)).setCell ⟨ob, 4, none⟩ (.int .i64 x)).setCell ⟨ob, 5, none⟩ (.int .i64 1)) := below_six o' hbo _ _ _ _ _ _
  generalize ((((((w5.setCell ⟨ob, 0, none⟩ (.int .i64 y)).setCell ⟨ob, 1, none⟩ (.int .i64 1)).setCell ⟨ob, 2, none⟩ (.int .i64 md)).setCell ⟨ob, 3, none⟩ (.int .i64 1)).setCell ⟨ob, 4, none⟩ (.int .i64 x)).setCell ⟨ob, 5, none⟩ (.int .i64 1)) = w6 at B' R o ⊢
  clear Fr' Sr' X' R' o' hor B0 B1 B2 B3 B4 B5 Bf0 Bf1 Bf2 Bf3 Bf4 Bf5
  obtain ⟨B0, B1, B2, B3, B4, B5, Bf0, Bf1, Bf2, Bf3, Bf4, Bf5⟩ := row_six B'
  obtain ⟨R0, R1, R2, R3, R4, R5, Rf0, Rf1, Rf2, Rf3, Rf4, Rf5⟩ := row_six R
  go_wp2
  exact bodyPost_ret (v := .tuple #[.agg #[.int .i64 y, .int .i64 1, .int .i64 md, .int .i64 1, .int .i64 x, .int .i64 1], .int .i64 0]) (by simp [results, Try.results28, go_sem, List.getElem?_toArray, R0, R1, R2, R3, R4, R5]) rfl ⟨rfl, below_six o (by omega) _ _ _ _ _ _⟩
theorem psmask (A : Option Addr) (m c : Nat) (l : List Mk) (agg wd k cap now seq : Int) (w : World) (hin : MIn A m c l w) (sB : I64 seq) : Calls Try.prog 28 #[.agg #[.int .i64 agg, .int .i64 wd, .int .i64 k, .int .i64 cap, .int .i64 now, .int .i64 seq, .slice A m c]] w fun e w' => e = .returned (askV (smvalE agg wd k cap now seq l) (askLo agg now wd l) (askHi agg now wd l)) ∧ Below w.heap.size w w' := by
  rcases smvalE_two (agg := agg) (wd := wd) (k := k) (cap := cap) (now := now) (seq := seq) (l := l) with hv | hv
  · by_cases m0 : m = 0
    · subst m0; exact psmask_z A c l agg wd k cap now seq w hin sB hv
    · by_cases hlv : now - wd < (mkAt l 0).t
      · exact psmask_f A m c l agg wd k cap now seq w hin sB hv (by omega) hlv
      · by_cases hnx : (mkAt l 1).seq = (mkAt l 0).seq + 1
        · exact psmask_g A m c l agg wd k cap now seq w hin sB hv (by omega) hlv hnx
        · exact psmask_h A m c l agg wd k cap now seq w hin sB hv (by omega) hlv hnx
  · exact psmask_a A m c l agg wd k cap now seq w hin sB hv
set_option maxRecDepth 100000 in
theorem rsmask_a (A : Option Addr) (m c : Nat) (l : List Mk) (agg wd k cap now seq : Int) (w : World) (hin : MIn A m c l w) (sB : I64 seq) (hv : smvalE agg wd k cap now seq l = 2) : Calls Try.prog 29 #[.agg #[.int .i64 agg, .int .i64 wd, .int .i64 k, .int .i64 cap, .int .i64 now, .int .i64 seq, .slice A m c]] w fun e w' => e = .returned (askV (smvalE agg wd k cap now seq l) (askLo agg now wd l) (askHi agg now wd l)) ∧ Below w.heap.size w w' := by
  rw [show askV (smvalE agg wd k cap now seq l) (askLo agg now wd l) (askHi agg now wd l) = .tuple #[.agg #[.int .i64 0, .int .i64 0, .int .i64 0, .int .i64 0, .int .i64 0, .int .i64 0], .int .i64 2] by unfold askV; rw [hv]; rfl]
  have P := fun w' (hb : Below w.heap.size w w') => rvalS A m c l agg wd k cap now seq w' (hin.below hb) sB
  rw [hv] at P
  replace P := Lib.hid P
  clear hv hin sB
  go_enter Try.func29, Try.ntmps29
  go_wp2_with (first | (go_at_call 13; with_reducible refine (P.out _ (by (repeat (first | exact Below.refl _ _ | refine Below.setCell ?_ (by first | (simp; done) | (simp; omega) | omega) _ | refine Below.alloc ?_ (by first | (simp; done) | (simp; omega) | omega) _ | refine Below.drew ?_ | refine Below.trans ?_ (Below.mono (by assumption) (by first | (simp; done) | (simp; omega) | omega)))))).mono ?_; rintro e w1 ⟨rfl, hb1⟩; have hz1 := hb1.size; (try simp at hz1); have o1 : Below w.heap.size w w1 := (by (repeat (first | exact Below.refl _ _ | refine Below.setCell ?_ (by first | (simp; done) | (simp; omega) | omega) _ | refine Below.alloc ?_ (by first | (simp; done) | (simp; omega) | omega) _ | refine Below.drew ?_ | refine Below.trans ?_ (Below.mono (by assumption) (by first | (simp; done) | (simp; omega) | omega))))); have q1_0 : w.heap.size < w1.heap.size := (by omega); have r1_0 : Row w1 (w.heap.size) 24 #[.int .i64 agg, .int .i64 wd, .int .i64 k, .int .i64 cap, .int .i64 now, .int .i64 seq, .slice A m c] := row_call (by (repeat (first | assumption | (refine row_new ?_; (first | (simp; done) | omega)) | refine row_alloc ?_ _ | refine row_drew ?_ | refine row_call ?_ (by assumption)))) hb1; obtain ⟨c1_0a, c1_0b, c1_0c, c1_0d, c1_0e, c1_0f, c1_0g, f1_0a, f1_0b, f1_0c, f1_0d, f1_0e, f1_0f, f1_0g⟩ := row_seven r1_0; have q1_1 : w.heap.size + 1 < w1.heap.size := (by omega); have r1_1 : Row w1 (w.heap.size + 1) 50 #[.int .i64 0, .int .i64 0, .int .i64 0, .int .i64 0, .int .i64 0, .int .i64 0] := row_call (by (repeat (first | assumption | (refine row_new ?_; (first | (simp; done) | omega)) | refine row_alloc ?_ _ | refine row_drew ?_ | refine row_call ?_ (by assumption)))) hb1; obtain ⟨c1_1a, c1_1b, c1_1c, c1_1d, c1_1e, c1_1f, f1_1a, f1_1b, f1_1c, f1_1d, f1_1e, f1_1f⟩ := row_six r1_1))
  exact bodyPost_ret (v := .tuple #[.agg #[.int .i64 0, .int .i64 0, .int .i64 0, .int .i64 0, .int .i64 0, .int .i64 0], .int .i64 2]) (by simp [results, Try.results29, go_sem, List.getElem?_toArray, c1_1a, c1_1b, c1_1c, c1_1d, c1_1e, c1_1f]) rfl ⟨rfl, below_six o1 (by omega) _ _ _ _ _ _⟩
set_option maxRecDepth 100000 in
theorem rsmask_z (A : Option Addr) (c : Nat) (l : List Mk) (agg wd k cap now seq : Int) (w : World) (hin : MIn A 0 c l w) (sB : I64 seq) (hv : smvalE agg wd k cap now seq l = 0) : Calls Try.prog 29 #[.agg #[.int .i64 agg, .int .i64 wd, .int .i64 k, .int .i64 cap, .int .i64 now, .int .i64 seq, .slice A 0 c]] w fun e w' => e = .returned (askV (smvalE agg wd k cap now seq l) (askLo agg now wd l) (askHi agg now wd l)) ∧ Below w.heap.size w w' := by
  have hl : l = [] := List.eq_nil_of_length_eq_zero hin.len
  rw [show askV (smvalE agg wd k cap now seq l) (askLo agg now wd l) (askHi agg now wd l) = .tuple #[.agg #[.int .i64 0, .int .i64 1, .int .i64 0, .int .i64 1, .int .i64 0, .int .i64 1], .int .i64 0] by rw [hv, hl, askLo_nil, askHi_nil]; rfl]
  have P := fun w' (hb : Below w.heap.size w w') => rvalS A 0 c l agg wd k cap now seq w' (hin.below hb) sB
  rw [hv] at P
  replace P := Lib.hid P
  have PE := Lib.hid (fun w => rexI 0 w (by omega) (by omega))
  clear hv hin sB hl
  go_enter Try.func29, Try.ntmps29
  go_upto_region 5 with (first | (go_at_call 13; with_reducible refine (P.out _ (by (repeat (first | exact Below.refl _ _ | refine Below.setCell ?_ (by first | (simp; done) | (simp; omega) | omega) _ | refine Below.alloc ?_ (by first | (simp; done) | (simp; omega) | omega) _ | refine Below.drew ?_ | refine Below.trans ?_ (Below.mono (by assumption) (by first | (simp; done) | (simp; omega) | omega)))))).mono ?_; rintro e w1 ⟨rfl, hb1⟩; have hz1 := hb1.size; (try simp at hz1); have o1 : Below w.heap.size w w1 := (by (repeat (first | exact Below.refl _ _ | refine Below.setCell ?_ (by first | (simp; done) | (simp; omega) | omega) _ | refine Below.alloc ?_ (by first | (simp; done) | (simp; omega) | omega) _ | refine Below.drew ?_ | refine Below.trans ?_ (Below.mono (by assumption) (by first | (simp; done) | (simp; omega) | omega))))); have q1_0 : w.heap.size < w1.heap.size := (by omega); have r1_0 : Row w1 (w.heap.size) 24 #[.int .i64 agg, .int .i64 wd, .int .i64 k, .int .i64 cap, .int .i64 now, .int .i64 seq, .slice A 0 c] := row_call (by (repeat (first | assumption | (refine row_new ?_; (first | (simp; done) | omega)) | refine row_alloc ?_ _ | refine row_drew ?_ | refine row_call ?_ (by assumption)))) hb1; obtain ⟨c1_0a, c1_0b, c1_0c, c1_0d, c1_0e, c1_0f, c1_0g, f1_0a, f1_0b, f1_0c, f1_0d, f1_0e, f1_0f, f1_0g⟩ := row_seven r1_0; have q1_1 : w.heap.size + 1 < w1.heap.size := (by omega); have r1_1 : Row w1 (w.heap.size + 1) 50 #[.int .i64 0, .int .i64 0, .int .i64 0, .int .i64 0, .int .i64 0, .int .i64 0] := row_call (by (repeat (first | assumption | (refine row_new ?_; (first | (simp; done) | omega)) | refine row_alloc ?_ _ | refine row_drew ?_ | refine row_call ?_ (by assumption)))) hb1; obtain ⟨c1_1a, c1_1b, c1_1c, c1_1d, c1_1e, c1_1f, f1_1a, f1_1b, f1_1c, f1_1d, f1_1e, f1_1f⟩ := row_six r1_1))
  have R := r1_1
  have o := o1
  clear r1_1 r1_0 o1 c1_1a c1_1b c1_1c c1_1d c1_1e c1_1f
  go_wp2_with fail
  refine (PE.out _).mono ?_
  rintro e w6 ⟨rfl, hb6⟩
  replace R := row_call R hb6
  replace o := o.trans (hb6.mono o.size)
  clear hb6
  obtain ⟨R0, R1, R2, R3, R4, R5, Rf0, Rf1, Rf2, Rf3, Rf4, Rf5⟩ := row_six R
  go_wp2
  exact bodyPost_ret (v := .tuple #[.agg #[.int .i64 0, .int .i64 1, .int .i64 0, .int .i64 1, .int .i64 0, .int .i64 1], .int .i64 0]) (by simp [results, Try.results29, go_sem, List.getElem?_toArray, R0, R1, R2, R3, R4, R5]) rfl ⟨rfl, below_six o (by omega) _ _ _ _ _ _⟩
set_option maxRecDepth 100000 in
set_option maxHeartbeats 2000000 in
theorem rsmask_f (A : Option Addr) (m c : Nat) (l : List Mk) (agg wd k cap now seq : Int) (w : World) (hin : MIn A m c l w) (sB : I64 seq) (hv : smvalE agg wd k cap now seq l = 0) (hm0 : 0 < m) (hlv : now - wd < (mkAt l 0).t) : Calls Try.prog 29 #[.agg #[.int .i64 agg, .int .i64 wd, .int .i64 k, .int .i64 cap, .int .i64 now, .int .i64 seq, .slice A m c]] w fun e w' => e = .returned (askV (smvalE agg wd k cap now seq l) (askLo agg now wd l) (askHi agg now wd l)) ∧ Below w.heap.size w w' := by
  obtain ⟨hG, hMV, _⟩ := of_smvalE hv
  obtain ⟨⟨a0, a1⟩, d0, d1, k0, k1, c0, c1, n0, n1⟩ := hG
  have hVL := (mvalid_iff.1 hMV).2
  have hl := hin.len
  have hne : l ≠ [] := fun e => by rw [e] at hl; simp at hl; omega
  have e1 : askLo agg now wd l = ofV agg (mkAt l 0) := by unfold askLo; rw [if_neg hne, if_pos hlv]
  have e2 : askHi agg now wd l = ofV agg (mkAt l 0) := by unfold askHi; rw [if_neg hne, if_pos hlv]
  rw [e1, e2, hv]
  have o1a := hVL.one _ (mkAt_mem (l := l) (i := 0) (by omega))
  have PX := fun w => rofm agg (mkAt l 0) w (hin.mB 0)
  have bx := ofV_bound o1a c1
  have PL := fun w => rlive now wd (mkAt l 0).t w n0 n1 d0 d1 o1a.2.2.2.2.1 o1a.2.2.2.2.2.1
  clear e1 e2
  obtain ⟨x, hx⟩ : ∃ x, ofV agg (mkAt l 0) = x := ⟨_, rfl⟩
  rw [hx] at PX bx
  try rw [hx]
  obtain ⟨ad, rfl, hadb, ht0⟩ := hin.reads.mk (i := 0) hm0
  have ht0 : MkCells w ad (mkAt l 0) := ht0
  generalize mkAt l 0 = ma at ht0 PX PL hlv o1a
  obtain ⟨sq, tk, n, s, q, lo, hi⟩ := ma
  dsimp only at PX PL hlv
  rw [decide_eq_true hlv] at PL
  replace PX := Lib.hid PX
  replace PL := Lib.hid PL
  rw [show askV 0 x x = .tuple #[.agg #[.int .i64 x, .int .i64 1, .int .i64 x, .int .i64 1, .int .i64 x, .int .i64 1], .int .i64 0] by unfold askV; rw [if_pos rfl, show (x + x) / 2 = x by omega]]
  have PE := Lib.hid (fun w => rexI x w bx.1 bx.2)
  have P := fun w' (hb : Below w.heap.size w w') => rvalS (some ad) m c l agg wd k cap now seq w' (hin.below hb) sB
  rw [hv] at P
  replace P := Lib.hid P
  clear hv hin sB hx hlv o1a hMV hVL hne bx hl
  go_enter Try.func29, Try.ntmps29
  go_upto_region 6 with (first | (go_at_call 13; with_reducible refine (P.out _ (by (repeat (first | exact Below.refl _ _ | refine Below.setCell ?_ (by first | (simp; done) | (simp; omega) | omega) _ | refine Below.alloc ?_ (by first | (simp; done) | (simp; omega) | omega) _ | refine Below.drew ?_ | refine Below.trans ?_ (Below.mono (by assumption) (by first | (simp; done) | (simp; omega) | omega)))))).mono ?_; rintro e w1 ⟨rfl, hb1⟩; have hz1 := hb1.size; (try simp at hz1); have o1 : Below w.heap.size w w1 := (by (repeat (first | exact Below.refl _ _ | refine Below.setCell ?_ (by first | (simp; done) | (simp; omega) | omega) _ | refine Below.alloc ?_ (by first | (simp; done) | (simp; omega) | omega) _ | refine Below.drew ?_ | refine Below.trans ?_ (Below.mono (by assumption) (by first | (simp; done) | (simp; omega) | omega))))); have q1_0 : w.heap.size < w1.heap.size := (by omega); have r1_0 : Row w1 (w.heap.size) 24 #[.int .i64 agg, .int .i64 wd, .int .i64 k, .int .i64 cap, .int .i64 now, .int .i64 seq, .slice (some ad) m c] := row_call (by (repeat (first | assumption | (refine row_new ?_; (first | (simp; done) | omega)) | refine row_alloc ?_ _ | refine row_drew ?_ | refine row_call ?_ (by assumption)))) hb1; obtain ⟨c1_0a, c1_0b, c1_0c, c1_0d, c1_0e, c1_0f, c1_0g, f1_0a, f1_0b, f1_0c, f1_0d, f1_0e, f1_0f, f1_0g⟩ := row_seven r1_0; have q1_1 : w.heap.size + 1 < w1.heap.size := (by omega); have r1_1 : Row w1 (w.heap.size + 1) 50 #[.int .i64 0, .int .i64 0, .int .i64 0, .int .i64 0, .int .i64 0, .int .i64 0] := row_call (by (repeat (first | assumption | (refine row_new ?_; (first | (simp; done) | omega)) | refine row_alloc ?_ _ | refine row_drew ?_ | refine row_call ?_ (by assumption)))) hb1; obtain ⟨c1_1a, c1_1b, c1_1c, c1_1d, c1_1e, c1_1f, f1_1a, f1_1b, f1_1c, f1_1d, f1_1e, f1_1f⟩ := row_six r1_1))
  have R := r1_1
  have o := o1
  obtain ⟨q0, q1, q2, q3, q4, q5, q6⟩ := ht0.below o1 hadb
  dsimp only at q0 q1 q2 q3 q4 q5 q6
  have g0 : (0 : Int) < (m : Int) := by omega
  have mz : ((m : Int) == 0) = false := by simp; omega
  go_upto_region 7 with (fail)
  have Fr : Row (w1.alloc (.cells #[.int .i64 sq, .int .i64 tk, .int .i64 n, .int .i64 s, .int .i64 q, .int .i64 lo, .int .i64 hi] 43)) w1.heap.size 43 #[.int .i64 sq, .int .i64 tk, .int .i64 n, .int .i64 s, .int .i64 q, .int .i64 lo, .int .i64 hi] := row_new rfl
  replace R := row_alloc R (.cells #[.int .i64 sq, .int .i64 tk, .int .i64 n, .int .i64 s, .int .i64 q, .int .i64 lo, .int .i64 hi] 43)
  have X := row_alloc r1_0 (.cells #[.int .i64 sq, .int .i64 tk, .int .i64 n, .int .i64 s, .int .i64 q, .int .i64 lo, .int .i64 hi] 43)
  replace o := o.alloc o.size (.cells #[.int .i64 sq, .int .i64 tk, .int .i64 n, .int .i64 s, .int .i64 q, .int .i64 lo, .int .i64 hi] 43)
  generalize (w1.alloc (.cells #[.int .i64 sq, .int .i64 tk, .int .i64 n, .int .i64 s, .int .i64 q, .int .i64 lo, .int .i64 hi] 43)) = w2 at Fr R X o ⊢
  generalize w1.heap.size = fb at Fr ⊢
  clear q0 q1 q2 q3 q4 q5 q6 r1_0 r1_1 o1 ht0 c1_0a c1_0b c1_0c c1_0d c1_0e c1_0f c1_0g f1_0a f1_0b f1_0c f1_0d f1_0e f1_0f f1_0g c1_1a c1_1b c1_1c c1_1d c1_1e c1_1f f1_1a f1_1b f1_1c f1_1d f1_1e f1_1f
  obtain ⟨X0, X1, X2, X3, X4, X5, X6, Xf0, Xf1, Xf2, Xf3, Xf4, Xf5, Xf6⟩ := row_seven X
  obtain ⟨F0, F1, F2, F3, F4, F5, F6, Ff0, Ff1, Ff2, Ff3, Ff4, Ff5, Ff6⟩ := row_seven Fr
  go_upto_region 8 with (go_at_call 65; with_reducible refine (PL.out _).mono ?_; rintro e w9 ⟨rfl, h9⟩; obtain rfl := h9.symm)
  go_wp2_with fail
  refine (PX.out _).mono ?_
  rintro e w4 ⟨rfl, hb4⟩
  replace R := row_call R hb4
  replace o := o.trans (hb4.mono o.size)
  clear hb4 X X0 X1 X2 X3 X4 X5 X6 Xf0 Xf1 Xf2 Xf3 Xf4 Xf5 Xf6 Fr F0 F1 F2 F3 F4 F5 F6 Ff0 Ff1 Ff2 Ff3 Ff4 Ff5 Ff6
  go_wp2_with fail
  refine (PE.out _).mono ?_
  rintro e w6 ⟨rfl, hb6⟩
  replace R := row_call R hb6
  replace o := o.trans (hb6.mono o.size)
  clear hb6
  obtain ⟨R0, R1, R2, R3, R4, R5, Rf0, Rf1, Rf2, Rf3, Rf4, Rf5⟩ := row_six R
  go_wp2
  exact bodyPost_ret (v := .tuple #[.agg #[.int .i64 x, .int .i64 1, .int .i64 x, .int .i64 1, .int .i64 x, .int .i64 1], .int .i64 0]) (by simp [results, Try.results29, go_sem, List.getElem?_toArray, R0, R1, R2, R3, R4, R5]) rfl ⟨rfl, below_six o (by omega) _ _ _ _ _ _⟩
set_option maxRecDepth 100000 in
set_option maxHeartbeats 2000000 in
theorem rsmask_g (A : Option Addr) (m c : Nat) (l : List Mk) (agg wd k cap now seq : Int) (w : World) (hin : MIn A m c l w) (sB : I64 seq) (hv : smvalE agg wd k cap now seq l = 0) (hm0 : 0 < m) (hlv : ¬ now - wd < (mkAt l 0).t) (hnx : (mkAt l 1).seq = (mkAt l 0).seq + 1) : Calls Try.prog 29 #[.agg #[.int .i64 agg, .int .i64 wd, .int .i64 k, .int .i64 cap, .int .i64 now, .int .i64 seq, .slice A m c]] w fun e w' => e = .returned (askV (smvalE agg wd k cap now seq l) (askLo agg now wd l) (askHi agg now wd l)) ∧ Below w.heap.size w w' := by
  have hle := ask_le (of_smvalE hv)
  obtain ⟨hG, hMV, _⟩ := of_smvalE hv
  obtain ⟨⟨a0, a1⟩, d0, d1, k0, k1, c0, c1, n0, n1⟩ := hG
  have hVL := (mvalid_iff.1 hMV).2
  have hl := hin.len
  have hne : l ≠ [] := fun e => by rw [e] at hl; simp at hl; omega
  have hm1 : 1 < m := by
    apply Nat.lt_of_not_le; intro hc
    obtain ⟨a, rfl⟩ : ∃ a, l = [a] := List.length_eq_one_iff.1 (by omega)
    exact hlv (hVL.alone a rfl)
  have e1 : askLo agg now wd l = ofV agg (mkAt l 1) := by unfold askLo; rw [if_neg hne, if_neg hlv]
  have e2 : askHi agg now wd l = ofV agg (mkAt l 1) := by unfold askHi; rw [if_neg hne, if_neg hlv, if_pos hnx]
  rw [e1, e2] at hle
  rw [e1, e2, hv]
  have o1a := hVL.one _ (mkAt_mem (l := l) (i := 0) (by omega))
  have PX := fun w => rofm agg (mkAt l 0) w (hin.mB 0)
  have bx := ofV_bound o1a c1
  have PL := fun w => rlive now wd (mkAt l 0).t w n0 n1 d0 d1 o1a.2.2.2.2.1 o1a.2.2.2.2.2.1
  have o1b := hVL.one _ (mkAt_mem (l := l) (i := 1) (by omega))
  have PY := fun w => rofm agg (mkAt l 1) w (hin.mB 1)
  have bY := ofV_bound o1b c1
  clear e1 e2
  obtain ⟨y, hy⟩ : ∃ y, ofV agg (mkAt l 1) = y := ⟨_, rfl⟩
  rw [hy] at PY bY hle
  rw [hy]
  obtain ⟨ad', e', hadb', ht1⟩ := hin.reads.mk (i := 1) hm1
  obtain ⟨x, hx⟩ : ∃ x, ofV agg (mkAt l 0) = x := ⟨_, rfl⟩
  rw [hx] at PX bx
  try rw [hx]
  obtain ⟨ad, rfl, hadb, ht0⟩ := hin.reads.mk (i := 0) hm0
  have ht0 : MkCells w ad (mkAt l 0) := ht0
  generalize mkAt l 0 = ma at ht0 PX PL hlv o1a hnx
  obtain ⟨sq, tk, n, s, q, lo, hi⟩ := ma
  dsimp only at PX PL hlv hnx
  rw [decide_eq_false hlv] at PL
  replace PX := Lib.hid PX
  replace PL := Lib.hid PL
  obtain rfl := Option.some.inj e'
  have ht1 : MkCells w (ad.add (1 * 7)) (mkAt l 1) := ht1
  generalize mkAt l 1 = mb at ht1 PY hnx o1b
  obtain ⟨osq, otk, on, os, oq, olo, ohi⟩ := mb
  dsimp only at PY hnx
  have hsq1 := o1a.1
  have hsq2 := o1a.2.1
  dsimp only at hsq1 hsq2
  have wsq : IntKind.i64.wrap (sq + 1) = sq + 1 := IntWalk.i64_in _ (by have := (mvalid_iff.1 hMV).1.2; omega)
  have tsq : (osq == sq + 1) = true := by simp; omega
  replace PY := Lib.hid PY
  rw [show askV 0 y y = .tuple #[.agg #[.int .i64 y, .int .i64 1, .int .i64 y, .int .i64 1, .int .i64 y, .int .i64 1], .int .i64 0] by unfold askV; rw [if_pos rfl, show (y + y) / 2 = y by omega]]
  have PE := Lib.hid (fun w => rexI y w bY.1 bY.2)
  have P := fun w' (hb : Below w.heap.size w w') => rvalS (some ad) m c l agg wd k cap now seq w' (hin.below hb) sB
  rw [hv] at P
  replace P := Lib.hid P
  clear hv hin sB hx hy hlv o1a o1b hMV hVL hne bx bY hl hle hnx e' hsq1 hsq2
  go_enter Try.func29, Try.ntmps29
  go_upto_region 6 with (first | (go_at_call 13; with_reducible refine (P.out _ (by (repeat (first | exact Below.refl _ _ | refine Below.setCell ?_ (by first | (simp; done) | (simp; omega) | omega) _ | refine Below.alloc ?_ (by first | (simp; done) | (simp; omega) | omega) _ | refine Below.drew ?_ | refine Below.trans ?_ (Below.mono (by assumption) (by first | (simp; done) | (simp; omega) | omega)))))).mono ?_; rintro e w1 ⟨rfl, hb1⟩; have hz1 := hb1.size; (try simp at hz1); have o1 : Below w.heap.size w w1 := (by (repeat (first | exact Below.refl _ _ | refine Below.setCell ?_ (by first | (simp; done) | (simp; omega) | omega) _ | refine Below.alloc ?_ (by first | (simp; done) | (simp; omega) | omega) _ | refine Below.drew ?_ | refine Below.trans ?_ (Below.mono (by assumption) (by first | (simp; done) | (simp; omega) | omega))))); have q1_0 : w.heap.size < w1.heap.size := (by omega); have r1_0 : Row w1 (w.heap.size) 24 #[.int .i64 agg, .int .i64 wd, .int .i64 k, .int .i64 cap, .int .i64 now, .int .i64 seq, .slice (some ad) m c] := row_call (by (repeat (first | assumption | (refine row_new ?_; (first | (simp; done) | omega)) | refine row_alloc ?_ _ | refine row_drew ?_ | refine row_call ?_ (by assumption)))) hb1; obtain ⟨c1_0a, c1_0b, c1_0c, c1_0d, c1_0e, c1_0f, c1_0g, f1_0a, f1_0b, f1_0c, f1_0d, f1_0e, f1_0f, f1_0g⟩ := row_seven r1_0; have q1_1 : w.heap.size + 1 < w1.heap.size := (by omega); have r1_1 : Row w1 (w.heap.size + 1) 50 #[.int .i64 0, .int .i64 0, .int .i64 0, .int .i64 0, .int .i64 0, .int .i64 0] := row_call (by (repeat (first | assumption | (refine row_new ?_; (first | (simp; done) | omega)) | refine row_alloc ?_ _ | refine row_drew ?_ | refine row_call ?_ (by assumption)))) hb1; obtain ⟨c1_1a, c1_1b, c1_1c, c1_1d, c1_1e, c1_1f, f1_1a, f1_1b, f1_1c, f1_1d, f1_1e, f1_1f⟩ := row_six r1_1))
  have R := r1_1
  have o := o1
  obtain ⟨q0, q1, q2, q3, q4, q5, q6⟩ := ht0.below o1 hadb
  dsimp only at q0 q1 q2 q3 q4 q5 q6
  have g0 : (0 : Int) < (m : Int) := by omega
  have mz : ((m : Int) == 0) = false := by simp; omega
  go_upto_region 7 with (fail)
  have Fr : Row (w1.alloc (.cells #[.int .i64 sq, .int .i64 tk, .int .i64 n, .int .i64 s, .int .i64 q, .int .i64 lo, .int .i64 hi] 43)) w1.heap.size 43 #[.int .i64 sq, .int .i64 tk, .int .i64 n, .int .i64 s, .int .i64 q, .int .i64 lo, .int .i64 hi] := row_new rfl
  replace R := row_alloc R (.cells #[.int .i64 sq, .int .i64 tk, .int .i64 n, .int .i64 s, .int .i64 q, .int .i64 lo, .int .i64 hi] 43)
  have X := row_alloc r1_0 (.cells #[.int .i64 sq, .int .i64 tk, .int .i64 n, .int .i64 s, .int .i64 q, .int .i64 lo, .int .i64 hi] 43)
  replace o := o.alloc o.size (.cells #[.int .i64 sq, .int .i64 tk, .int .i64 n, .int .i64 s, .int .i64 q, .int .i64 lo, .int .i64 hi] 43)
  generalize (w1.alloc (.cells #[.int .i64 sq, .int .i64 tk, .int .i64 n, .int .i64 s, .int .i64 q, .int .i64 lo, .int .i64 hi] 43)) = w2 at Fr R X o ⊢
  generalize w1.heap.size = fb at Fr ⊢
  clear q0 q1 q2 q3 q4 q5 q6 r1_0 r1_1 o1 ht0 c1_0a c1_0b c1_0c c1_0d c1_0e c1_0f c1_0g f1_0a f1_0b f1_0c f1_0d f1_0e f1_0f f1_0g c1_1a c1_1b c1_1c c1_1d c1_1e c1_1f f1_1a f1_1b f1_1c f1_1d f1_1e f1_1f
  obtain ⟨X0, X1, X2, X3, X4, X5, X6, Xf0, Xf1, Xf2, Xf3, Xf4, Xf5, Xf6⟩ := row_seven X
  obtain ⟨F0, F1, F2, F3, F4, F5, F6, Ff0, Ff1, Ff2, Ff3, Ff4, Ff5, Ff6⟩ := row_seven Fr
  go_upto_region 9 with (go_at_call 65; with_reducible refine (PL.out _).mono ?_; rintro e w9 ⟨rfl, h9⟩; obtain rfl := h9.symm)
  clear PL
  obtain ⟨s0, s1, s2, s3, s4, s5, s6⟩ := ht1.below o hadb'
  dsimp only at s0 s1 s2 s3 s4 s5 s6
  replace s0 : w2.cell? ⟨ad.block, ad.off + 7, none⟩ = some (.int .i64 osq) := s0
  replace s1 : w2.cell? ⟨ad.block, ad.off + 7 + 1, none⟩ = some (.int .i64 otk) := s1
  replace s2 : w2.cell? ⟨ad.block, ad.off + 7 + 2, none⟩ = some (.int .i64 on) := s2
  replace s3 : w2.cell? ⟨ad.block, ad.off + 7 + 3, none⟩ = some (.int .i64 os) := s3
  replace s4 : w2.cell? ⟨ad.block, ad.off + 7 + 4, none⟩ = some (.int .i64 oq) := s4
  replace s5 : w2.cell? ⟨ad.block, ad.off + 7 + 5, none⟩ = some (.int .i64 olo) := s5
  replace s6 : w2.cell? ⟨ad.block, ad.off + 7 + 6, none⟩ = some (.int .i64 ohi) := s6
  have g1 : (1 : Int) < (m : Int) := by omega
  go_upto_region 10 with (fail)
  have Sr : Row (w2.alloc (.cells #[.int .i64 osq, .int .i64 otk, .int .i64 on, .int .i64 os, .int .i64 oq, .int .i64 olo, .int .i64 ohi] 43)) w2.heap.size 43 #[.int .i64 osq, .int .i64 otk, .int .i64 on, .int .i64 os, .int .i64 oq, .int .i64 olo, .int .i64 ohi] := row_new rfl
  replace R := row_alloc R (.cells #[.int .i64 osq, .int .i64 otk, .int .i64 on, .int .i64 os, .int .i64 oq, .int .i64 olo, .int .i64 ohi] 43)
  replace X := row_alloc X (.cells #[.int .i64 osq, .int .i64 otk, .int .i64 on, .int .i64 os, .int .i64 oq, .int .i64 olo, .int .i64 ohi] 43)
  replace Fr := row_alloc Fr (.cells #[.int .i64 osq, .int .i64 otk, .int .i64 on, .int .i64 os, .int .i64 oq, .int .i64 olo, .int .i64 ohi] 43)
  replace o := o.alloc o.size (.cells #[.int .i64 osq, .int .i64 otk, .int .i64 on, .int .i64 os, .int .i64 oq, .int .i64 olo, .int .i64 ohi] 43)
  generalize (w2.alloc (.cells #[.int .i64 osq, .int .i64 otk, .int .i64 on, .int .i64 os, .int .i64 oq, .int .i64 olo, .int .i64 ohi] 43)) = w3 at Fr R X Sr o ⊢
  generalize w2.heap.size = gb at Sr ⊢
  clear s0 s1 s2 s3 s4 s5 s6 ht1 X0 X1 X2 X3 X4 X5 X6 Xf0 Xf1 Xf2 Xf3 Xf4 Xf5 Xf6 F0 F1 F2 F3 F4 F5 F6 Ff0 Ff1 Ff2 Ff3 Ff4 Ff5 Ff6
  obtain ⟨X0, X1, X2, X3, X4, X5, X6, Xf0, Xf1, Xf2, Xf3, Xf4, Xf5, Xf6⟩ := row_seven X
  obtain ⟨F0, F1, F2, F3, F4, F5, F6, Ff0, Ff1, Ff2, Ff3, Ff4, Ff5, Ff6⟩ := row_seven Fr
  obtain ⟨S0, S1, S2, S3, S4, S5, S6, Sf0, Sf1, Sf2, Sf3, Sf4, Sf5, Sf6⟩ := row_seven Sr
  go_wp2_with fail
  refine (PY.out _).mono ?_
  rintro e w4 ⟨rfl, hb4⟩
  replace R := row_call R hb4
  replace o := o.trans (hb4.mono o.size)
  clear hb4
  go_wp2_with fail
  refine (PE.out _).mono ?_
  rintro e w6 ⟨rfl, hb6⟩
  replace R := row_call R hb6
  replace o := o.trans (hb6.mono o.size)
  clear hb6
  obtain ⟨R0, R1, R2, R3, R4, R5, Rf0, Rf1, Rf2, Rf3, Rf4, Rf5⟩ := row_six R
  go_wp2
  exact bodyPost_ret (v := .tuple #[.agg #[.int .i64 y, .int .i64 1, .int .i64 y, .int .i64 1, .int .i64 y, .int .i64 1], .int .i64 0]) (by simp [results, Try.results29, go_sem, List.getElem?_toArray, R0, R1, R2, R3, R4, R5]) rfl ⟨rfl, below_six o (by omega) _ _ _ _ _ _⟩
set_option maxRecDepth 100000 in
set_option maxHeartbeats 2000000 in
theorem rsmask_h (A : Option Addr) (m c : Nat) (l : List Mk) (agg wd k cap now seq : Int) (w : World) (hin : MIn A m c l w) (sB : I64 seq) (hv : smvalE agg wd k cap now seq l = 0) (hm0 : 0 < m) (hlv : ¬ now - wd < (mkAt l 0).t) (hnx : ¬ (mkAt l 1).seq = (mkAt l 0).seq + 1) : Calls Try.prog 29 #[.agg #[.int .i64 agg, .int .i64 wd, .int .i64 k, .int .i64 cap, .int .i64 now, .int .i64 seq, .slice A m c]] w fun e w' => e = .returned (askV (smvalE agg wd k cap now seq l) (askLo agg now wd l) (askHi agg now wd l)) ∧ Below w.heap.size w w' := by
  have hle := ask_le (of_smvalE hv)
  obtain ⟨hG, hMV, _⟩ := of_smvalE hv
  obtain ⟨⟨a0, a1⟩, d0, d1, k0, k1, c0, c1, n0, n1⟩ := hG
  have hVL := (mvalid_iff.1 hMV).2
  have hl := hin.len
  have hne : l ≠ [] := fun e => by rw [e] at hl; simp at hl; omega
  have hm1 : 1 < m := by
    apply Nat.lt_of_not_le; intro hc
    obtain ⟨a, rfl⟩ : ∃ a, l = [a] := List.length_eq_one_iff.1 (by omega)
    exact hlv (hVL.alone a rfl)
  have e1 : askLo agg now wd l = ofV agg (mkAt l 1) := by unfold askLo; rw [if_neg hne, if_neg hlv]
  have e2 : askHi agg now wd l = ofV agg (mkAt l 0) := by unfold askHi; rw [if_neg hne, if_neg hlv, if_neg hnx]
  rw [e1, e2] at hle
  rw [e1, e2, hv]
  have o1a := hVL.one _ (mkAt_mem (l := l) (i := 0) (by omega))
  have PX := fun w => rofm agg (mkAt l 0) w (hin.mB 0)
  have bx := ofV_bound o1a c1
  have PL := fun w => rlive now wd (mkAt l 0).t w n0 n1 d0 d1 o1a.2.2.2.2.1 o1a.2.2.2.2.2.1
  have o1b := hVL.one _ (mkAt_mem (l := l) (i := 1) (by omega))
  have PY := fun w => rofm agg (mkAt l 1) w (hin.mB 1)
  have bY := ofV_bound o1b c1
  clear e1 e2
  obtain ⟨y, hy⟩ : ∃ y, ofV agg (mkAt l 1) = y := ⟨_, rfl⟩
  rw [hy] at PY bY hle
  rw [hy]
  obtain ⟨ad', e', hadb', ht1⟩ := hin.reads.mk (i := 1) hm1
  obtain ⟨x, hx⟩ : ∃ x, ofV agg (mkAt l 0) = x := ⟨_, rfl⟩
  rw [hx] at PX bx
  try rw [hx]
  obtain ⟨ad, rfl, hadb, ht0⟩ := hin.reads.mk (i := 0) hm0
  have ht0 : MkCells w ad (mkAt l 0) := ht0
  generalize mkAt l 0 = ma at ht0 PX PL hlv o1a hnx
  obtain ⟨sq, tk, n, s, q, lo, hi⟩ := ma
  dsimp only at PX PL hlv hnx
  rw [decide_eq_false hlv] at PL
  replace PX := Lib.hid PX
  replace PL := Lib.hid PL
  obtain rfl := Option.some.inj e'
  have ht1 : MkCells w (ad.add (1 * 7)) (mkAt l 1) := ht1
  generalize mkAt l 1 = mb at ht1 PY hnx o1b
  obtain ⟨osq, otk, on, os, oq, olo, ohi⟩ := mb
  dsimp only at PY hnx
  have hsq1 := o1a.1
  have hsq2 := o1a.2.1
  dsimp only at hsq1 hsq2
  have wsq : IntKind.i64.wrap (sq + 1) = sq + 1 := IntWalk.i64_in _ (by have := (mvalid_iff.1 hMV).1.2; omega)
  have tsq : (osq == sq + 1) = false := by simp; omega
  replace PY := Lib.hid PY
  rw [show askV 0 y x = .tuple #[.agg #[.int .i64 y, .int .i64 1, .int .i64 ((y + x) / 2), .int .i64 1, .int .i64 x, .int .i64 1], .int .i64 0] by unfold askV; rw [if_pos rfl]]
  have PE := Lib.hid (fun w => rwhI y x w hle.1 (by rw [hx] at hle; exact hle.2.1) bx.2)
  generalize (y + x) / 2 = md at PE ⊢
  have P := fun w' (hb : Below w.heap.size w w') => rvalS (some ad) m c l agg wd k cap now seq w' (hin.below hb) sB
  rw [hv] at P
  replace P := Lib.hid P
  clear hv hin sB hx hy hlv o1a o1b hMV hVL hne bx bY hl hle hnx e' hsq1 hsq2
  go_enter Try.func29, Try.ntmps29
  go_upto_region 6 with (first | (go_at_call 13; with_reducible refine (P.out _ (by (repeat (first | exact Below.refl _ _ | refine Below.setCell ?_ (by first | (simp; done) | (simp; omega) | omega) _ | refine Below.alloc ?_ (by first | (simp; done) | (simp; omega) | omega) _ | refine Below.drew ?_ | refine Below.trans ?_ (Below.mono (by assumption) (by first | (simp; done) | (simp; omega) | omega)))))).mono ?_; rintro e w1 ⟨rfl, hb1⟩; have hz1 := hb1.size; (try simp at hz1); have o1 : Below w.heap.size w w1 := (by (repeat (first | exact Below.refl _ _ | refine Below.setCell ?_ (by first | (simp; done) | (simp; omega) | omega) _ | refine Below.alloc ?_ (by first | (simp; done) | (simp; omega) | omega) _ | refine Below.drew ?_ | refine Below.trans ?_ (Below.mono (by assumption) (by first | (simp; done) | (simp; omega) | omega))))); have q1_0 : w.heap.size < w1.heap.size := (by omega); have r1_0 : Row w1 (w.heap.size) 24 #[.int .i64 agg, .int .i64 wd, .int .i64 k, .int .i64 cap, .int .i64 now, .int .i64 seq, .slice (some ad) m c] := row_call (by (repeat (first | assumption | (refine row_new ?_; (first | (simp; done) | omega)) | refine row_alloc ?_ _ | refine row_drew ?_ | refine row_call ?_ (by assumption)))) hb1; obtain ⟨c1_0a, c1_0b, c1_0c, c1_0d, c1_0e, c1_0f, c1_0g, f1_0a, f1_0b, f1_0c, f1_0d, f1_0e, f1_0f, f1_0g⟩ := row_seven r1_0; have q1_1 : w.heap.size + 1 < w1.heap.size := (by omega); have r1_1 : Row w1 (w.heap.size + 1) 50 #[.int .i64 0, .int .i64 0, .int .i64 0, .int .i64 0, .int .i64 0, .int .i64 0] := row_call (by (repeat (first | assumption | (refine row_new ?_; (first | (simp; done) | omega)) | refine row_alloc ?_ _ | refine row_drew ?_ | refine row_call ?_ (by assumption)))) hb1; obtain ⟨c1_1a, c1_1b, c1_1c, c1_1d, c1_1e, c1_1f, f1_1a, f1_1b, f1_1c, f1_1d, f1_1e, f1_1f⟩ := row_six r1_1))
  have R := r1_1
  have o := o1
  obtain ⟨q0, q1, q2, q3, q4, q5, q6⟩ := ht0.below o1 hadb
  dsimp only at q0 q1 q2 q3 q4 q5 q6
  have g0 : (0 : Int) < (m : Int) := by omega
  have mz : ((m : Int) == 0) = false := by simp; omega
  go_upto_region 7 with (fail)
  have Fr : Row (w1.alloc (.cells #[.int .i64 sq, .int .i64 tk, .int .i64 n, .int .i64 s, .int .i64 q, .int .i64 lo, .int .i64 hi] 43)) w1.heap.size 43 #[.int .i64 sq, .int .i64 tk, .int .i64 n, .int .i64 s, .int .i64 q, .int .i64 lo, .int .i64 hi] := row_new rfl
  replace R := row_alloc R (.cells #[.int .i64 sq, .int .i64 tk, .int .i64 n, .int .i64 s, .int .i64 q, .int .i64 lo, .int .i64 hi] 43)
  have X := row_alloc r1_0 (.cells #[.int .i64 sq, .int .i64 tk, .int .i64 n, .int .i64 s, .int .i64 q, .int .i64 lo, .int .i64 hi] 43)
  replace o := o.alloc o.size (.cells #[.int .i64 sq, .int .i64 tk, .int .i64 n, .int .i64 s, .int .i64 q, .int .i64 lo, .int .i64 hi] 43)
  generalize (w1.alloc (.cells #[.int .i64 sq, .int .i64 tk, .int .i64 n, .int .i64 s, .int .i64 q, .int .i64 lo, .int .i64 hi] 43)) = w2 at Fr R X o ⊢
  generalize w1.heap.size = fb at Fr ⊢
  clear q0 q1 q2 q3 q4 q5 q6 r1_0 r1_1 o1 ht0 c1_0a c1_0b c1_0c c1_0d c1_0e c1_0f c1_0g f1_0a f1_0b f1_0c f1_0d f1_0e f1_0f f1_0g c1_1a c1_1b c1_1c c1_1d c1_1e c1_1f f1_1a f1_1b f1_1c f1_1d f1_1e f1_1f
  obtain ⟨X0, X1, X2, X3, X4, X5, X6, Xf0, Xf1, Xf2, Xf3, Xf4, Xf5, Xf6⟩ := row_seven X
  obtain ⟨F0, F1, F2, F3, F4, F5, F6, Ff0, Ff1, Ff2, Ff3, Ff4, Ff5, Ff6⟩ := row_seven Fr
  go_upto_region 9 with (go_at_call 65; with_reducible refine (PL.out _).mono ?_; rintro e w9 ⟨rfl, h9⟩; obtain rfl := h9.symm)
  clear PL
  obtain ⟨s0, s1, s2, s3, s4, s5, s6⟩ := ht1.below o hadb'
  dsimp only at s0 s1 s2 s3 s4 s5 s6
  replace s0 : w2.cell? ⟨ad.block, ad.off + 7, none⟩ = some (.int .i64 osq) := s0
  replace s1 : w2.cell? ⟨ad.block, ad.off + 7 + 1, none⟩ = some (.int .i64 otk) := s1
  replace s2 : w2.cell? ⟨ad.block, ad.off + 7 + 2, none⟩ = some (.int .i64 on) := s2
  replace s3 : w2.cell? ⟨ad.block, ad.off + 7 + 3, none⟩ = some (.int .i64 os) := s3
  replace s4 : w2.cell? ⟨ad.block, ad.off + 7 + 4, none⟩ = some (.int .i64 oq) := s4
  replace s5 : w2.cell? ⟨ad.block, ad.off + 7 + 5, none⟩ = some (.int .i64 olo) := s5
  replace s6 : w2.cell? ⟨ad.block, ad.off + 7 + 6, none⟩ = some (.int .i64 ohi) := s6
  have g1 : (1 : Int) < (m : Int) := by omega
  go_upto_region 10 with (fail)
  have Sr : Row (w2.alloc (.cells #[.int .i64 osq, .int .i64 otk, .int .i64 on, .int .i64 os, .int .i64 oq, .int .i64 olo, .int .i64 ohi] 43)) w2.heap.size 43 #[.int .i64 osq, .int .i64 otk, .int .i64 on, .int .i64 os, .int .i64 oq, .int .i64 olo, .int .i64 ohi] := row_new rfl
  replace R := row_alloc R (.cells #[.int .i64 osq, .int .i64 otk, .int .i64 on, .int .i64 os, .int .i64 oq, .int .i64 olo, .int .i64 ohi] 43)
  replace X := row_alloc X (.cells #[.int .i64 osq, .int .i64 otk, .int .i64 on, .int .i64 os, .int .i64 oq, .int .i64 olo, .int .i64 ohi] 43)
  replace Fr := row_alloc Fr (.cells #[.int .i64 osq, .int .i64 otk, .int .i64 on, .int .i64 os, .int .i64 oq, .int .i64 olo, .int .i64 ohi] 43)
  replace o := o.alloc o.size (.cells #[.int .i64 osq, .int .i64 otk, .int .i64 on, .int .i64 os, .int .i64 oq, .int .i64 olo, .int .i64 ohi] 43)
  generalize (w2.alloc (.cells #[.int .i64 osq, .int .i64 otk, .int .i64 on, .int .i64 os, .int .i64 oq, .int .i64 olo, .int .i64 ohi] 43)) = w3 at Fr R X Sr o ⊢
  generalize w2.heap.size = gb at Sr ⊢
  clear s0 s1 s2 s3 s4 s5 s6 ht1 X0 X1 X2 X3 X4 X5 X6 Xf0 Xf1 Xf2 Xf3 Xf4 Xf5 Xf6 F0 F1 F2 F3 F4 F5 F6 Ff0 Ff1 Ff2 Ff3 Ff4 Ff5 Ff6
  obtain ⟨X0, X1, X2, X3, X4, X5, X6, Xf0, Xf1, Xf2, Xf3, Xf4, Xf5, Xf6⟩ := row_seven X
  obtain ⟨F0, F1, F2, F3, F4, F5, F6, Ff0, Ff1, Ff2, Ff3, Ff4, Ff5, Ff6⟩ := row_seven Fr
  obtain ⟨S0, S1, S2, S3, S4, S5, S6, Sf0, Sf1, Sf2, Sf3, Sf4, Sf5, Sf6⟩ := row_seven Sr
  go_upto_region 12 with (fail)
  refine wp_region_free1 [0, 1, 2, 3, 4, 5, 6, 7, 8, 9, 11, 10] [11] [0, 1, 2, 3, 4, 5, 6, 7, 8, 9, 10, 12] (12, 50, #[.int .i64 0, .int .i64 0, .int .i64 0, .int .i64 0, .int .i64 0, .int .i64 0]) 7 13 (fun w' => Row w' (fb) 43 #[.int .i64 sq, .int .i64 tk, .int .i64 n, .int .i64 s, .int .i64 q, .int .i64 lo, .int .i64 hi] ∧ Row w' (gb) 43 #[.int .i64 osq, .int .i64 otk, .int .i64 on, .int .i64 os, .int .i64 oq, .int .i64 olo, .int .i64 ohi] ∧ Row w' (w.heap.size) 24 #[.int .i64 agg, .int .i64 wd, .int .i64 k, .int .i64 cap, .int .i64 now, .int .i64 seq, .slice (some ad) m c] ∧ Row w' (w.heap.size + 1) 50 #[.int .i64 0, .int .i64 0, .int .i64 0, .int .i64 0, .int .i64 0, .int .i64 0] ∧ Below w.heap.size w w') (by kernel_rfl) (by kernel_rfl) ⟨_, _, rfl, rfl, rfl, fun ρ w' => by go_simp⟩ rfl (by simp) (fun _ h => ⟨row_alloc h.1 _, row_alloc h.2.1 _, row_alloc h.2.2.1 _, row_alloc h.2.2.2.1 _, h.2.2.2.2.alloc h.2.2.2.2.size _⟩) (fun _ _ d _ _ h => by cases d <;> exact h) ?_ ?_
  · exact ⟨Fr, Sr, X, R, o.drew⟩
  (refine plan_val ?_ rfl rfl rfl (fun w' hS => ?_) ?_; rotate_left; (obtain ⟨F0, F1, F2, F3, F4, F5, F6, Ff0, Ff1, Ff2, Ff3, Ff4, Ff5, Ff6⟩ := row_seven hS.1; obtain ⟨S0, S1, S2, S3, S4, S5, S6, Sf0, Sf1, Sf2, Sf3, Sf4, Sf5, Sf6⟩ := row_seven hS.2.1; obtain ⟨X0, X1, X2, X3, X4, X5, X6, Xf0, Xf1, Xf2, Xf3, Xf4, Xf5, Xf6⟩ := row_seven hS.2.2.1; go_simp; try with_reducible rfl); simp only [Act.put, List.setIfInBounds_toArray, List.set_cons_zero, List.set_cons_succ])
  (refine plan_pure ?_ rfl rfl (fun w' => ?_) ?_; rotate_left; (go_simp; try with_reducible rfl); simp only [Act.put, List.setIfInBounds_toArray, List.set_cons_zero, List.set_cons_succ])
  (refine plan_val ?_ rfl rfl rfl (fun w' hS => ?_) ?_; rotate_left; (obtain ⟨F0, F1, F2, F3, F4, F5, F6, Ff0, Ff1, Ff2, Ff3, Ff4, Ff5, Ff6⟩ := row_seven hS.1; obtain ⟨S0, S1, S2, S3, S4, S5, S6, Sf0, Sf1, Sf2, Sf3, Sf4, Sf5, Sf6⟩ := row_seven hS.2.1; obtain ⟨X0, X1, X2, X3, X4, X5, X6, Xf0, Xf1, Xf2, Xf3, Xf4, Xf5, Xf6⟩ := row_seven hS.2.2.1; go_simp; try with_reducible rfl); simp only [Act.put, List.setIfInBounds_toArray, List.set_cons_zero, List.set_cons_succ])
  refine plan_call (.int .i64 y) 25 #[.agg #[.int .i64 osq, .int .i64 otk, .int .i64 on, .int .i64 os, .int .i64 oq, .int .i64 olo, .int .i64 ohi], .int .i64 agg] rfl rfl rfl (fun _ _ h hb => ⟨row_call h.1 hb, row_call h.2.1 hb, row_call h.2.2.1 hb, row_call h.2.2.2.1 hb, h.2.2.2.2.trans (hb.mono h.2.2.2.2.size)⟩) (fun w' hS => by obtain ⟨F0, F1, F2, F3, F4, F5, F6, Ff0, Ff1, Ff2, Ff3, Ff4, Ff5, Ff6⟩ := row_seven hS.1; obtain ⟨S0, S1, S2, S3, S4, S5, S6, Sf0, Sf1, Sf2, Sf3, Sf4, Sf5, Sf6⟩ := row_seven hS.2.1; obtain ⟨X0, X1, X2, X3, X4, X5, X6, Xf0, Xf1, Xf2, Xf3, Xf4, Xf5, Xf6⟩ := row_seven hS.2.2.1; go_simp) (fun w' hS => PY.out w') ?_
  simp only [Act.put, List.setIfInBounds_toArray, List.set_cons_zero, List.set_cons_succ]
  (refine plan_val ?_ rfl rfl rfl (fun w' hS => ?_) ?_; rotate_left; (obtain ⟨F0, F1, F2, F3, F4, F5, F6, Ff0, Ff1, Ff2, Ff3, Ff4, Ff5, Ff6⟩ := row_seven hS.1; obtain ⟨S0, S1, S2, S3, S4, S5, S6, Sf0, Sf1, Sf2, Sf3, Sf4, Sf5, Sf6⟩ := row_seven hS.2.1; obtain ⟨X0, X1, X2, X3, X4, X5, X6, Xf0, Xf1, Xf2, Xf3, Xf4, Xf5, Xf6⟩ := row_seven hS.2.2.1; go_simp; try with_reducible rfl); simp only [Act.put, List.setIfInBounds_toArray, List.set_cons_zero, List.set_cons_succ])
  (refine plan_pure ?_ rfl rfl (fun w' => ?_) ?_; rotate_left; (go_simp; try with_reducible rfl); simp only [Act.put, List.setIfInBounds_toArray, List.set_cons_zero, List.set_cons_succ])
  (refine plan_val ?_ rfl rfl rfl (fun w' hS => ?_) ?_; rotate_left; (obtain ⟨F0, F1, F2, F3, F4, F5, F6, Ff0, Ff1, Ff2, Ff3, Ff4, Ff5, Ff6⟩ := row_seven hS.1; obtain ⟨S0, S1, S2, S3, S4, S5, S6, Sf0, Sf1, Sf2, Sf3, Sf4, Sf5, Sf6⟩ := row_seven hS.2.1; obtain ⟨X0, X1, X2, X3, X4, X5, X6, Xf0, Xf1, Xf2, Xf3, Xf4, Xf5, Xf6⟩ := row_seven hS.2.2.1; go_simp; try with_reducible rfl); simp only [Act.put, List.setIfInBounds_toArray, List.set_cons_zero, List.set_cons_succ])
  refine plan_call (.int .i64 x) 25 #[.agg #[.int .i64 sq, .int .i64 tk, .int .i64 n, .int .i64 s, .int .i64 q, .int .i64 lo, .int .i64 hi], .int .i64 agg] rfl rfl rfl (fun _ _ h hb => ⟨row_call h.1 hb, row_call h.2.1 hb, row_call h.2.2.1 hb, row_call h.2.2.2.1 hb, h.2.2.2.2.trans (hb.mono h.2.2.2.2.size)⟩) (fun w' hS => by obtain ⟨F0, F1, F2, F3, F4, F5, F6, Ff0, Ff1, Ff2, Ff3, Ff4, Ff5, Ff6⟩ := row_seven hS.1; obtain ⟨S0, S1, S2, S3, S4, S5, S6, Sf0, Sf1, Sf2, Sf3, Sf4, Sf5, Sf6⟩ := row_seven hS.2.1; obtain ⟨X0, X1, X2, X3, X4, X5, X6, Xf0, Xf1, Xf2, Xf3, Xf4, Xf5, Xf6⟩ := row_seven hS.2.2.1; go_simp) (fun w' hS => PX.out w') ?_
  simp only [Act.put, List.setIfInBounds_toArray, List.set_cons_zero, List.set_cons_succ]
  refine plan_call (.tuple #[.agg #[.int .i64 y, .int .i64 1, .int .i64 md, .int .i64 1, .int .i64 x, .int .i64 1], .bool true]) 66 #[.int .i64 y, .int .i64 x] rfl rfl rfl (fun _ _ h hb => ⟨row_call h.1 hb, row_call h.2.1 hb, row_call h.2.2.1 hb, row_call h.2.2.2.1 hb, h.2.2.2.2.trans (hb.mono h.2.2.2.2.size)⟩) (fun w' hS => by obtain ⟨F0, F1, F2, F3, F4, F5, F6, Ff0, Ff1, Ff2, Ff3, Ff4, Ff5, Ff6⟩ := row_seven hS.1; obtain ⟨S0, S1, S2, S3, S4, S5, S6, Sf0, Sf1, Sf2, Sf3, Sf4, Sf5, Sf6⟩ := row_seven hS.2.1; obtain ⟨X0, X1, X2, X3, X4, X5, X6, Xf0, Xf1, Xf2, Xf3, Xf4, Xf5, Xf6⟩ := row_seven hS.2.2.1; go_simp) (fun w' hS => PE.out w') ?_
  simp only [Act.put, List.setIfInBounds_toArray, List.set_cons_zero, List.set_cons_succ]
  (refine plan_pure ?_ rfl rfl (fun w' => ?_) ?_; rotate_left; (go_simp; try with_reducible rfl); simp only [Act.put, List.setIfInBounds_toArray, List.set_cons_zero, List.set_cons_succ])
  (refine plan_pure ?_ rfl rfl (fun w' => ?_) ?_; rotate_left; (go_simp; try with_reducible rfl); simp only [Act.put, List.setIfInBounds_toArray, List.set_cons_zero, List.set_cons_succ])
  (refine plan_pure ?_ rfl rfl (fun w' => ?_) ?_; rotate_left; (go_simp; try with_reducible rfl); simp only [Act.put, List.setIfInBounds_toArray, List.set_cons_zero, List.set_cons_succ])
  refine plan_nil ?_
  intro ob w5 L hor hog
  simp only [List.drop_succ_cons, List.drop_zero]
  try simp only [Act.put, List.setIfInBounds_toArray, List.set_cons_zero, List.set_cons_succ]
  obtain ⟨Fr', Sr', X', R', o'⟩ := L
  clear Fr Sr X o F0 F1 F2 F3 F4 F5 F6 Ff0 Ff1 Ff2 Ff3 Ff4 Ff5 Ff6 S0 S1 S2 S3 S4 S5 S6 Sf0 Sf1 Sf2 Sf3 Sf4 Sf5 Sf6 X0 X1 X2 X3 X4 X5 X6 Xf0 Xf1 Xf2 Xf3 Xf4 Xf5 Xf6
  have hne : w.heap.size + 1 ≠ ob := by have := row_lt R; omega
  have hbo : w.heap.size ≤ ob := by have := row_lt R; omega
  obtain ⟨B0, B1, B2, B3, B4, B5, Bf0, Bf1, Bf2, Bf3, Bf4, Bf5⟩ := row_six hor
  go_upto_region 13 with (fail)
  have B' : Row ((((((w5.setCell ⟨ob, 0, none⟩ (.int .i64 y)).setCell ⟨ob, 1, none⟩ (.int .i64 1)).setCell ⟨ob, 2, none⟩ (.int .i64 md)).setCell ⟨ob, 3, none⟩ (.int .i64 1)).setCell ⟨ob, 4, none⟩ (.int .i64 x)).setCell ⟨ob, 5, none⟩ (.int .i64 1)) ob 50 #[.int .i64 y, .int .i64 1, .int .i64 md, .int .i64 1, .int .i64 x, .int .i64 1] := (row_set (row_set (row_set (row_set (row_set (row_set hor 0 (.int .i64 y)) 1 (.int .i64 1)) 2 (.int .i64 md)) 3 (.int .i64 1)) 4 (.int .i64 x)) 5 (.int .i64 1))
  replace R : Row ((((((w5.setCell ⟨ob, 0, none⟩ (.int .i64 y)).setCell ⟨ob, 1, none⟩ (.int .i64 1)).setCell ⟨ob, 2, none⟩ (.int .i64 md)).setCell ⟨ob, 3, none⟩ (.int .i64 1)).setCell ⟨ob, 4, none⟩ (.int .i64 x)).setCell ⟨ob, 5, none⟩ (.int .i64 1)) (w.heap.size + 1) 50 #[.int .i64 0, .int .i64 0, .int .i64 0, .int .i64 0, .int .i64 0, .int .i64 0] := (row_other (row_other (row_other (row_other (row_other (row_other R' hne (.int .i64 y)) hne (.int .i64 1)) hne (.int .i64 md)) hne (.int .i64 1)) hne (.int .i64 x)) hne (.int .i64 1))
  have o : Below w.heap.size w ((((((w5.setCell ⟨ob, 0, none⟩ (.int .i64 y)).setCell ⟨ob, 1, none⟩ (.int .i64 1)).setCell ⟨ob, 2, none⟩ (.int .i64 md)).setCell ⟨ob, 3, none⟩ (.int .i64 1)).setCell ⟨ob, 4, none⟩ (.int .i64 x)).setCell ⟨ob, 5, none⟩ (.int .i64 1)) := below_six o' hbo _ _ _ _ _ _
  generalize ((((((w5.setCell ⟨ob, 0, none⟩ (.int .i64 y)).setCell ⟨ob, 1, none⟩ (.int .i64 1)).setCell ⟨ob, 2, none⟩ (.int .i64 md)).setCell ⟨ob, 3, none⟩ (.int .i64 1)).setCell ⟨ob, 4, none⟩ (.int .i64 x)).setCell ⟨ob, 5, none⟩ (.int .i64 1)) = w6 at B' R o ⊢
  clear Fr' Sr' X' R' o' hor B0 B1 B2 B3 B4 B5 Bf0 Bf1 Bf2 Bf3 Bf4 Bf5
  obtain ⟨B0, B1, B2, B3, B4, B5, Bf0, Bf1, Bf2, Bf3, Bf4, Bf5⟩ := row_six B'
  obtain ⟨R0, R1, R2, R3, R4, R5, Rf0, Rf1, Rf2, Rf3, Rf4, Rf5⟩ := row_six R
  go_wp2
  exact bodyPost_ret (v := .tuple #[.agg #[.int .i64 y, .int .i64 1, .int .i64 md, .int .i64 1, .int .i64 x, .int .i64 1], .int .i64 0]) (by simp [results, Try.results29, go_sem, List.getElem?_toArray, R0, R1, R2, R3, R4, R5]) rfl ⟨rfl, below_six o (by omega) _ _ _ _ _ _⟩
theorem rsmask (A : Option Addr) (m c : Nat) (l : List Mk) (agg wd k cap now seq : Int) (w : World) (hin : MIn A m c l w) (sB : I64 seq) : Calls Try.prog 29 #[.agg #[.int .i64 agg, .int .i64 wd, .int .i64 k, .int .i64 cap, .int .i64 now, .int .i64 seq, .slice A m c]] w fun e w' => e = .returned (askV (smvalE agg wd k cap now seq l) (askLo agg now wd l) (askHi agg now wd l)) ∧ Below w.heap.size w w' := by
  rcases smvalE_two (agg := agg) (wd := wd) (k := k) (cap := cap) (now := now) (seq := seq) (l := l) with hv | hv
  · by_cases m0 : m = 0
    · subst m0; exact rsmask_z A c l agg wd k cap now seq w hin sB hv
    · by_cases hlv : now - wd < (mkAt l 0).t
      · exact rsmask_f A m c l agg wd k cap now seq w hin sB hv (by omega) hlv
      · by_cases hnx : (mkAt l 1).seq = (mkAt l 0).seq + 1
        · exact rsmask_g A m c l agg wd k cap now seq w hin sB hv (by omega) hlv hnx
        · exact rsmask_h A m c l agg wd k cap now seq w hin sB hv (by omega) hlv hnx
  · exact rsmask_a A m c l agg wd k cap now seq w hin sB hv
end Go.Proofs.Ythknkdjpfanlnaa
