/- Summaries of a stream: merging two, walked. -/
import Derived.Test.YtdibjlphcmjnoaaSumG
import Derived.Test.YtdibjlphcmjnoaaMathSum5
import Derived.Test.YtdibjlphcmjnoaaSumC2
import Derived.OwnWalk
set_option linter.unusedVariables false
set_option linter.unusedSimpArgs false
set_option linter.unusedSectionVars false
set_option linter.unnecessarySimpa false
namespace Go.Proofs.Ytdibjlphcmjnoaa
open Go.RowKit
theorem orow_keep {w w' : World} {base : Nat} {e : TypeId} {size : Nat} {v : Value} {n : Nat} {xs : List Value} (h : w.ownsRow base e size v n xs) (hg : ∀ g, v.ownBlock = some g → w'.heap[g]? = w.heap[g]?) : w'.ownsRow base e size v n xs := by
  refine ⟨h.1, ?_⟩
  rcases h.2 with hn | ⟨g, cap, cur, rfl, hb, hgg, rest⟩
  · exact .inl hn
  · exact .inr ⟨g, cap, cur, rfl, hb, by rw [hg g rfl]; exact hgg, rest⟩
theorem orow_other {w : World} {base : Nat} {e : TypeId} {size : Nat} {v : Value} {n : Nat} {xs : List Value} (h : w.ownsRow base e size v n xs) {p : Addr} (hne : v.ownBlock ≠ some p.block) (u : Value) : (w.setCell p u).ownsRow base e size v n xs :=
  orow_keep h fun g he => Below.heap_setCell w p u g (fun x => hne (x ▸ he))
theorem orow_new {w : World} {base : Nat} {e : TypeId} {size : Nat} {v : Value} {n b : Nat} {xs : List Value} (h : w.ownsRow base e size v n xs) (hb : w.heap.size ≤ b) : v.ownBlock ≠ some b := fun e => by
  have := (h.lt b e).2
  omega
theorem orow_old {w : World} {base : Nat} {e : TypeId} {size : Nat} {v : Value} {n b : Nat} {xs : List Value} (h : w.ownsRow base e size v n xs) (hb : b < base) : v.ownBlock ≠ some b := fun e => by
  have := (h.lt b e).1
  omega
theorem orow_forms {w : World} {base : Nat} {e : TypeId} {size : Nat} {v : Value} {n : Nat} {xs : List Value} (h : w.ownsRow base e size v n xs) :
    ∃ A c, v = .slice A n c ∧ Reads w w.heap.size size A n xs ∧ n ≤ c ∧ c ≤ maxLen ∧ ∀ a, A = some a → base ≤ a.block ∧ a.block < w.heap.size := by
  rcases h.2 with ⟨rfl, rfl⟩ | ⟨g, cap, cur, rfl, hb, hgg, h1, h2, _⟩
  · exact ⟨none, 0, rfl, Reads.of_own h, Nat.le_refl _, Nat.zero_le _, fun a e => by cases e⟩
  · exact ⟨_, cap, rfl, Reads.of_own h, h1, h2, fun a e => by cases e; exact h.lt _ rfl⟩
set_option maxRecDepth 100000 in
theorem pmerge_bad (k cap n : Int) (A : Option Addr) (m c : Nat) (ts : List Tup) (k' cap' n' : Int) (A' : Option Addr) (m' c' : Nat) (ts' : List Tup) (w : World) (hin : SIn k cap n A m c ts w) (hin' : SIn k' cap' n' A' m' c' ts' w) (hv : svalE k cap n ts = 2) : Calls Try.prog 23 #[.agg #[.int .i64 k, .int .i64 cap, .int .i64 n, .slice A m c], .agg #[.int .i64 k', .int .i64 cap', .int .i64 n', .slice A' m' c']] w fun e w' => SRet (smerge k cap n ts k' cap' n' ts') w e w' := by
  rw [smerge_bad hv]
  have P1 := fun w1 (hb : Below w.heap.size w w1) => psval k cap n A m c ts w1 (hin.below hb)
  rw [hv] at P1
  have P1 := Lib.hid P1
  clear hv hin hin'
  go_enter Try.func23, Try.ntmps23
  go_wp2_with (first | (go_at_call 19; with_reducible refine (P1.out _ (by (repeat (first | exact Below.refl _ _ | refine Below.setCell ?_ (by first | (simp; done) | (simp; omega) | omega) _ | refine Below.alloc ?_ (by first | (simp; done) | (simp; omega) | omega) _ | refine Below.drew ?_ | refine Below.trans ?_ (Below.mono (by assumption) (by first | (simp; done) | (simp; omega) | omega)))))).mono ?_; rintro e w1 ⟨rfl, hb1⟩; have hz1 := hb1.size; (try simp at hz1); have o1 : Below w.heap.size w w1 := (by (repeat (first | exact Below.refl _ _ | refine Below.setCell ?_ (by first | (simp; done) | (simp; omega) | omega) _ | refine Below.alloc ?_ (by first | (simp; done) | (simp; omega) | omega) _ | refine Below.drew ?_ | refine Below.trans ?_ (Below.mono (by assumption) (by first | (simp; done) | (simp; omega) | omega))))); have q1_0 : w.heap.size < w1.heap.size := (by omega); have r1_0 : Row w1 (w.heap.size) 24 #[.int .i64 k, .int .i64 cap, .int .i64 n, .slice A m c] := row_call (by (repeat (first | assumption | (refine row_new ?_; (first | (simp; done) | omega)) | refine row_alloc ?_ _ | refine row_drew ?_ | refine row_call ?_ (by assumption)))) hb1; obtain ⟨c1_0a, c1_0b, c1_0c, c1_0d, f1_0a, f1_0b, f1_0c, f1_0d⟩ := row_four r1_0; have q1_1 : w.heap.size + 1 < w1.heap.size := (by omega); have r1_1 : Row w1 (w.heap.size + 1) 24 #[.int .i64 k', .int .i64 cap', .int .i64 n', .slice A' m' c'] := row_call (by (repeat (first | assumption | (refine row_new ?_; (first | (simp; done) | omega)) | refine row_alloc ?_ _ | refine row_drew ?_ | refine row_call ?_ (by assumption)))) hb1; obtain ⟨c1_1a, c1_1b, c1_1c, c1_1d, f1_1a, f1_1b, f1_1c, f1_1d⟩ := row_four r1_1; have q1_2 : w.heap.size + 2 < w1.heap.size := (by omega); have r1_2 : Row w1 (w.heap.size + 2) 24 #[.int .i64 0, .int .i64 0, .int .i64 0, .slice none 0 0] := row_call (by (repeat (first | assumption | (refine row_new ?_; (first | (simp; done) | omega)) | refine row_alloc ?_ _ | refine row_drew ?_ | refine row_call ?_ (by assumption)))) hb1; obtain ⟨c1_2a, c1_2b, c1_2c, c1_2d, f1_2a, f1_2b, f1_2c, f1_2d⟩ := row_four r1_2))
  exact bodyPost_ret (v := .tuple #[.agg #[.int .i64 0, .int .i64 0, .int .i64 0, .slice none 0 0], .int .i64 2]) (by simp [results, Try.results23, go_sem, c1_2a, c1_2b, c1_2c, c1_2d]) rfl (sret_zero (by (repeat (first | exact Below.refl _ _ | refine Below.setCell ?_ (by first | (simp; done) | (simp; omega) | omega) _ | refine Below.alloc ?_ (by first | (simp; done) | (simp; omega) | omega) _ | refine Below.drew ?_ | refine Below.trans ?_ (Below.mono (by assumption) (by first | (simp; done) | (simp; omega) | omega))))))
set_option maxRecDepth 100000 in
theorem pmerge_bad2 (k cap n : Int) (A : Option Addr) (m c : Nat) (ts : List Tup) (k' cap' n' : Int) (A' : Option Addr) (m' c' : Nat) (ts' : List Tup) (w : World) (hin : SIn k cap n A m c ts w) (hin' : SIn k' cap' n' A' m' c' ts' w) (hv : svalE k cap n ts = 0) (hv' : svalE k' cap' n' ts' = 2) : Calls Try.prog 23 #[.agg #[.int .i64 k, .int .i64 cap, .int .i64 n, .slice A m c], .agg #[.int .i64 k', .int .i64 cap', .int .i64 n', .slice A' m' c']] w fun e w' => SRet (smerge k cap n ts k' cap' n' ts') w e w' := by
  rw [smerge_bad' hv hv']
  have P1 := fun w1 (hb : Below w.heap.size w w1) => psval k cap n A m c ts w1 (hin.below hb)
  rw [hv] at P1
  have P1 := Lib.hid P1
  have P2 := fun w1 (hb : Below w.heap.size w w1) => psval k' cap' n' A' m' c' ts' w1 (hin'.below hb)
  rw [hv'] at P2
  have P2 := Lib.hid P2
  clear hv hv' hin hin'
  go_enter Try.func23, Try.ntmps23
  go_wp2_with (first | (go_at_call 19; with_reducible refine (P1.out _ (by (repeat (first | exact Below.refl _ _ | refine Below.setCell ?_ (by first | (simp; done) | (simp; omega) | omega) _ | refine Below.alloc ?_ (by first | (simp; done) | (simp; omega) | omega) _ | refine Below.drew ?_ | refine Below.trans ?_ (Below.mono (by assumption) (by first | (simp; done) | (simp; omega) | omega)))))).mono ?_; rintro e w1 ⟨rfl, hb1⟩; have hz1 := hb1.size; (try simp at hz1); have o1 : Below w.heap.size w w1 := (by (repeat (first | exact Below.refl _ _ | refine Below.setCell ?_ (by first | (simp; done) | (simp; omega) | omega) _ | refine Below.alloc ?_ (by first | (simp; done) | (simp; omega) | omega) _ | refine Below.drew ?_ | refine Below.trans ?_ (Below.mono (by assumption) (by first | (simp; done) | (simp; omega) | omega))))); have q1_0 : w.heap.size < w1.heap.size := (by omega); have r1_0 : Row w1 (w.heap.size) 24 #[.int .i64 k, .int .i64 cap, .int .i64 n, .slice A m c] := row_call (by (repeat (first | assumption | (refine row_new ?_; (first | (simp; done) | omega)) | refine row_alloc ?_ _ | refine row_drew ?_ | refine row_call ?_ (by assumption)))) hb1; obtain ⟨c1_0a, c1_0b, c1_0c, c1_0d, f1_0a, f1_0b, f1_0c, f1_0d⟩ := row_four r1_0; have q1_1 : w.heap.size + 1 < w1.heap.size := (by omega); have r1_1 : Row w1 (w.heap.size + 1) 24 #[.int .i64 k', .int .i64 cap', .int .i64 n', .slice A' m' c'] := row_call (by (repeat (first | assumption | (refine row_new ?_; (first | (simp; done) | omega)) | refine row_alloc ?_ _ | refine row_drew ?_ | refine row_call ?_ (by assumption)))) hb1; obtain ⟨c1_1a, c1_1b, c1_1c, c1_1d, f1_1a, f1_1b, f1_1c, f1_1d⟩ := row_four r1_1; have q1_2 : w.heap.size + 2 < w1.heap.size := (by omega); have r1_2 : Row w1 (w.heap.size + 2) 24 #[.int .i64 0, .int .i64 0, .int .i64 0, .slice none 0 0] := row_call (by (repeat (first | assumption | (refine row_new ?_; (first | (simp; done) | omega)) | refine row_alloc ?_ _ | refine row_drew ?_ | refine row_call ?_ (by assumption)))) hb1; obtain ⟨c1_2a, c1_2b, c1_2c, c1_2d, f1_2a, f1_2b, f1_2c, f1_2d⟩ := row_four r1_2) | (go_at_call 19; with_reducible refine (P2.out _ (by exact o1)).mono ?_; rintro e w2 ⟨rfl, hb2⟩; have hz2 := hb2.size; (try simp at hz2); have o2 : Below w.heap.size w w2 := (by (repeat (first | exact Below.refl _ _ | refine Below.setCell ?_ (by first | (simp; done) | (simp; omega) | omega) _ | refine Below.alloc ?_ (by first | (simp; done) | (simp; omega) | omega) _ | refine Below.drew ?_ | refine Below.trans ?_ (Below.mono (by assumption) (by first | (simp; done) | (simp; omega) | omega))))); have q2_0 : w.heap.size < w2.heap.size := (by omega); have r2_0 : Row w2 (w.heap.size) 24 #[.int .i64 k, .int .i64 cap, .int .i64 n, .slice A m c] := row_call (by (repeat (first | assumption | (refine row_new ?_; (first | (simp; done) | omega)) | refine row_alloc ?_ _ | refine row_drew ?_ | refine row_call ?_ (by assumption)))) hb2; obtain ⟨c2_0a, c2_0b, c2_0c, c2_0d, f2_0a, f2_0b, f2_0c, f2_0d⟩ := row_four r2_0; have q2_1 : w.heap.size + 1 < w2.heap.size := (by omega); have r2_1 : Row w2 (w.heap.size + 1) 24 #[.int .i64 k', .int .i64 cap', .int .i64 n', .slice A' m' c'] := row_call (by (repeat (first | assumption | (refine row_new ?_; (first | (simp; done) | omega)) | refine row_alloc ?_ _ | refine row_drew ?_ | refine row_call ?_ (by assumption)))) hb2; obtain ⟨c2_1a, c2_1b, c2_1c, c2_1d, f2_1a, f2_1b, f2_1c, f2_1d⟩ := row_four r2_1; have q2_2 : w.heap.size + 2 < w2.heap.size := (by omega); have r2_2 : Row w2 (w.heap.size + 2) 24 #[.int .i64 0, .int .i64 0, .int .i64 0, .slice none 0 0] := row_call (by (repeat (first | assumption | (refine row_new ?_; (first | (simp; done) | omega)) | refine row_alloc ?_ _ | refine row_drew ?_ | refine row_call ?_ (by assumption)))) hb2; obtain ⟨c2_2a, c2_2b, c2_2c, c2_2d, f2_2a, f2_2b, f2_2c, f2_2d⟩ := row_four r2_2))
  exact bodyPost_ret (v := .tuple #[.agg #[.int .i64 0, .int .i64 0, .int .i64 0, .slice none 0 0], .int .i64 2]) (by simp [results, Try.results23, go_sem, c2_2a, c2_2b, c2_2c, c2_2d]) rfl (sret_zero (by (repeat (first | exact Below.refl _ _ | refine Below.setCell ?_ (by first | (simp; done) | (simp; omega) | omega) _ | refine Below.alloc ?_ (by first | (simp; done) | (simp; omega) | omega) _ | refine Below.drew ?_ | refine Below.trans ?_ (Below.mono (by assumption) (by first | (simp; done) | (simp; omega) | omega))))))
set_option maxRecDepth 100000 in
theorem pmerge_k (k cap n : Int) (A : Option Addr) (m c : Nat) (ts : List Tup) (k' cap' n' : Int) (A' : Option Addr) (m' c' : Nat) (ts' : List Tup) (w : World) (hin : SIn k cap n A m c ts w) (hin' : SIn k' cap' n' A' m' c' ts' w) (hv : svalE k cap n ts = 0) (hv' : svalE k' cap' n' ts' = 0) (hk : k ≠ k') : Calls Try.prog 23 #[.agg #[.int .i64 k, .int .i64 cap, .int .i64 n, .slice A m c], .agg #[.int .i64 k', .int .i64 cap', .int .i64 n', .slice A' m' c']] w fun e w' => SRet (smerge k cap n ts k' cap' n' ts') w e w' := by
  rw [smerge_k hv hv' hk]
  have P1 := fun w1 (hb : Below w.heap.size w w1) => psval k cap n A m c ts w1 (hin.below hb)
  rw [hv] at P1
  have P1 := Lib.hid P1
  have P2 := fun w1 (hb : Below w.heap.size w w1) => psval k' cap' n' A' m' c' ts' w1 (hin'.below hb)
  rw [hv'] at P2
  have P2 := Lib.hid P2
  have kk : (k != k') = true := by simpa using hk
  clear hv hv' hin hin' hk
  go_enter Try.func23, Try.ntmps23
  go_wp2_with (first | (go_at_call 19; with_reducible refine (P1.out _ (by (repeat (first | exact Below.refl _ _ | refine Below.setCell ?_ (by first | (simp; done) | (simp; omega) | omega) _ | refine Below.alloc ?_ (by first | (simp; done) | (simp; omega) | omega) _ | refine Below.drew ?_ | refine Below.trans ?_ (Below.mono (by assumption) (by first | (simp; done) | (simp; omega) | omega)))))).mono ?_; rintro e w1 ⟨rfl, hb1⟩; have hz1 := hb1.size; (try simp at hz1); have o1 : Below w.heap.size w w1 := (by (repeat (first | exact Below.refl _ _ | refine Below.setCell ?_ (by first | (simp; done) | (simp; omega) | omega) _ | refine Below.alloc ?_ (by first | (simp; done) | (simp; omega) | omega) _ | refine Below.drew ?_ | refine Below.trans ?_ (Below.mono (by assumption) (by first | (simp; done) | (simp; omega) | omega))))); have q1_0 : w.heap.size < w1.heap.size := (by omega); have r1_0 : Row w1 (w.heap.size) 24 #[.int .i64 k, .int .i64 cap, .int .i64 n, .slice A m c] := row_call (by (repeat (first | assumption | (refine row_new ?_; (first | (simp; done) | omega)) | refine row_alloc ?_ _ | refine row_drew ?_ | refine row_call ?_ (by assumption)))) hb1; obtain ⟨c1_0a, c1_0b, c1_0c, c1_0d, f1_0a, f1_0b, f1_0c, f1_0d⟩ := row_four r1_0; have q1_1 : w.heap.size + 1 < w1.heap.size := (by omega); have r1_1 : Row w1 (w.heap.size + 1) 24 #[.int .i64 k', .int .i64 cap', .int .i64 n', .slice A' m' c'] := row_call (by (repeat (first | assumption | (refine row_new ?_; (first | (simp; done) | omega)) | refine row_alloc ?_ _ | refine row_drew ?_ | refine row_call ?_ (by assumption)))) hb1; obtain ⟨c1_1a, c1_1b, c1_1c, c1_1d, f1_1a, f1_1b, f1_1c, f1_1d⟩ := row_four r1_1; have q1_2 : w.heap.size + 2 < w1.heap.size := (by omega); have r1_2 : Row w1 (w.heap.size + 2) 24 #[.int .i64 0, .int .i64 0, .int .i64 0, .slice none 0 0] := row_call (by (repeat (first | assumption | (refine row_new ?_; (first | (simp; done) | omega)) | refine row_alloc ?_ _ | refine row_drew ?_ | refine row_call ?_ (by assumption)))) hb1; obtain ⟨c1_2a, c1_2b, c1_2c, c1_2d, f1_2a, f1_2b, f1_2c, f1_2d⟩ := row_four r1_2) | (go_at_call 19; with_reducible refine (P2.out _ (by exact o1)).mono ?_; rintro e w2 ⟨rfl, hb2⟩; have hz2 := hb2.size; (try simp at hz2); have o2 : Below w.heap.size w w2 := (by (repeat (first | exact Below.refl _ _ | refine Below.setCell ?_ (by first | (simp; done) | (simp; omega) | omega) _ | refine Below.alloc ?_ (by first | (simp; done) | (simp; omega) | omega) _ | refine Below.drew ?_ | refine Below.trans ?_ (Below.mono (by assumption) (by first | (simp; done) | (simp; omega) | omega))))); have q2_0 : w.heap.size < w2.heap.size := (by omega); have r2_0 : Row w2 (w.heap.size) 24 #[.int .i64 k, .int .i64 cap, .int .i64 n, .slice A m c] := row_call (by (repeat (first | assumption | (refine row_new ?_; (first | (simp; done) | omega)) | refine row_alloc ?_ _ | refine row_drew ?_ | refine row_call ?_ (by assumption)))) hb2; obtain ⟨c2_0a, c2_0b, c2_0c, c2_0d, f2_0a, f2_0b, f2_0c, f2_0d⟩ := row_four r2_0; have q2_1 : w.heap.size + 1 < w2.heap.size := (by omega); have r2_1 : Row w2 (w.heap.size + 1) 24 #[.int .i64 k', .int .i64 cap', .int .i64 n', .slice A' m' c'] := row_call (by (repeat (first | assumption | (refine row_new ?_; (first | (simp; done) | omega)) | refine row_alloc ?_ _ | refine row_drew ?_ | refine row_call ?_ (by assumption)))) hb2; obtain ⟨c2_1a, c2_1b, c2_1c, c2_1d, f2_1a, f2_1b, f2_1c, f2_1d⟩ := row_four r2_1; have q2_2 : w.heap.size + 2 < w2.heap.size := (by omega); have r2_2 : Row w2 (w.heap.size + 2) 24 #[.int .i64 0, .int .i64 0, .int .i64 0, .slice none 0 0] := row_call (by (repeat (first | assumption | (refine row_new ?_; (first | (simp; done) | omega)) | refine row_alloc ?_ _ | refine row_drew ?_ | refine row_call ?_ (by assumption)))) hb2; obtain ⟨c2_2a, c2_2b, c2_2c, c2_2d, f2_2a, f2_2b, f2_2c, f2_2d⟩ := row_four r2_2))
  exact bodyPost_ret (v := .tuple #[.agg #[.int .i64 0, .int .i64 0, .int .i64 0, .slice none 0 0], .int .i64 1]) (by simp [results, Try.results23, go_sem, c2_2a, c2_2b, c2_2c, c2_2d]) rfl (sret_zero (by (repeat (first | exact Below.refl _ _ | refine Below.setCell ?_ (by first | (simp; done) | (simp; omega) | omega) _ | refine Below.alloc ?_ (by first | (simp; done) | (simp; omega) | omega) _ | refine Below.drew ?_ | refine Below.trans ?_ (Below.mono (by assumption) (by first | (simp; done) | (simp; omega) | omega))))))
set_option maxRecDepth 100000 in
theorem pmerge_full (k cap n : Int) (A : Option Addr) (m c : Nat) (ts : List Tup) (k' cap' n' : Int) (A' : Option Addr) (m' c' : Nat) (ts' : List Tup) (w : World) (hin : SIn k cap n A m c ts w) (hin' : SIn k' cap' n' A' m' c' ts' w) (hv : svalE k cap n ts = 0) (hv' : svalE k' cap' n' ts' = 0) (hk : k = k') (h2 : 1099511627776 < n + n') : Calls Try.prog 23 #[.agg #[.int .i64 k, .int .i64 cap, .int .i64 n, .slice A m c], .agg #[.int .i64 k', .int .i64 cap', .int .i64 n', .slice A' m' c']] w fun e w' => SRet (smerge k cap n ts k' cap' n' ts') w e w' := by
  rw [smerge_full hv hv' hk h2]
  have P1 := fun w1 (hb : Below w.heap.size w w1) => psval k cap n A m c ts w1 (hin.below hb)
  rw [hv] at P1
  have P1 := Lib.hid P1
  have P2 := fun w1 (hb : Below w.heap.size w w1) => psval k' cap' n' A' m' c' ts' w1 (hin'.below hb)
  rw [hv'] at P2
  have P2 := Lib.hid P2
  obtain ⟨_, _, _, _, n0, n1, _, _, _⟩ := of_svalE hv
  obtain ⟨_, _, _, _, n0', n1', _, _, _⟩ := of_svalE hv'
  have wn : IntKind.i64.wrap (1099511627776 - n') = 1099511627776 - n' := IntWalk.i64_in _ (by omega)
  have tn : 1099511627776 - n' < n := by omega
  have kk : (k != k') = false := by simp [hk]
  clear hv hv' hin hin' hk
  go_enter Try.func23, Try.ntmps23
  go_wp2_with (first | (go_at_call 19; with_reducible refine (P1.out _ (by (repeat (first | exact Below.refl _ _ | refine Below.setCell ?_ (by first | (simp; done) | (simp; omega) | omega) _ | refine Below.alloc ?_ (by first | (simp; done) | (simp; omega) | omega) _ | refine Below.drew ?_ | refine Below.trans ?_ (Below.mono (by assumption) (by first | (simp; done) | (simp; omega) | omega)))))).mono ?_; rintro e w1 ⟨rfl, hb1⟩; have hz1 := hb1.size; (try simp at hz1); have o1 : Below w.heap.size w w1 := (by (repeat (first | exact Below.refl _ _ | refine Below.setCell ?_ (by first | (simp; done) | (simp; omega) | omega) _ | refine Below.alloc ?_ (by first | (simp; done) | (simp; omega) | omega) _ | refine Below.drew ?_ | refine Below.trans ?_ (Below.mono (by assumption) (by first | (simp; done) | (simp; omega) | omega))))); have q1_0 : w.heap.size < w1.heap.size := (by omega); have r1_0 : Row w1 (w.heap.size) 24 #[.int .i64 k, .int .i64 cap, .int .i64 n, .slice A m c] := row_call (by (repeat (first | assumption | (refine row_new ?_; (first | (simp; done) | omega)) | refine row_alloc ?_ _ | refine row_drew ?_ | refine row_call ?_ (by assumption)))) hb1; obtain ⟨c1_0a, c1_0b, c1_0c, c1_0d, f1_0a, f1_0b, f1_0c, f1_0d⟩ := row_four r1_0; have q1_1 : w.heap.size + 1 < w1.heap.size := (by omega); have r1_1 : Row w1 (w.heap.size + 1) 24 #[.int .i64 k', .int .i64 cap', .int .i64 n', .slice A' m' c'] := row_call (by (repeat (first | assumption | (refine row_new ?_; (first | (simp; done) | omega)) | refine row_alloc ?_ _ | refine row_drew ?_ | refine row_call ?_ (by assumption)))) hb1; obtain ⟨c1_1a, c1_1b, c1_1c, c1_1d, f1_1a, f1_1b, f1_1c, f1_1d⟩ := row_four r1_1; have q1_2 : w.heap.size + 2 < w1.heap.size := (by omega); have r1_2 : Row w1 (w.heap.size + 2) 24 #[.int .i64 0, .int .i64 0, .int .i64 0, .slice none 0 0] := row_call (by (repeat (first | assumption | (refine row_new ?_; (first | (simp; done) | omega)) | refine row_alloc ?_ _ | refine row_drew ?_ | refine row_call ?_ (by assumption)))) hb1; obtain ⟨c1_2a, c1_2b, c1_2c, c1_2d, f1_2a, f1_2b, f1_2c, f1_2d⟩ := row_four r1_2) | (go_at_call 19; with_reducible refine (P2.out _ (by exact o1)).mono ?_; rintro e w2 ⟨rfl, hb2⟩; have hz2 := hb2.size; (try simp at hz2); have o2 : Below w.heap.size w w2 := (by (repeat (first | exact Below.refl _ _ | refine Below.setCell ?_ (by first | (simp; done) | (simp; omega) | omega) _ | refine Below.alloc ?_ (by first | (simp; done) | (simp; omega) | omega) _ | refine Below.drew ?_ | refine Below.trans ?_ (Below.mono (by assumption) (by first | (simp; done) | (simp; omega) | omega))))); have q2_0 : w.heap.size < w2.heap.size := (by omega); have r2_0 : Row w2 (w.heap.size) 24 #[.int .i64 k, .int .i64 cap, .int .i64 n, .slice A m c] := row_call (by (repeat (first | assumption | (refine row_new ?_; (first | (simp; done) | omega)) | refine row_alloc ?_ _ | refine row_drew ?_ | refine row_call ?_ (by assumption)))) hb2; obtain ⟨c2_0a, c2_0b, c2_0c, c2_0d, f2_0a, f2_0b, f2_0c, f2_0d⟩ := row_four r2_0; have q2_1 : w.heap.size + 1 < w2.heap.size := (by omega); have r2_1 : Row w2 (w.heap.size + 1) 24 #[.int .i64 k', .int .i64 cap', .int .i64 n', .slice A' m' c'] := row_call (by (repeat (first | assumption | (refine row_new ?_; (first | (simp; done) | omega)) | refine row_alloc ?_ _ | refine row_drew ?_ | refine row_call ?_ (by assumption)))) hb2; obtain ⟨c2_1a, c2_1b, c2_1c, c2_1d, f2_1a, f2_1b, f2_1c, f2_1d⟩ := row_four r2_1; have q2_2 : w.heap.size + 2 < w2.heap.size := (by omega); have r2_2 : Row w2 (w.heap.size + 2) 24 #[.int .i64 0, .int .i64 0, .int .i64 0, .slice none 0 0] := row_call (by (repeat (first | assumption | (refine row_new ?_; (first | (simp; done) | omega)) | refine row_alloc ?_ _ | refine row_drew ?_ | refine row_call ?_ (by assumption)))) hb2; obtain ⟨c2_2a, c2_2b, c2_2c, c2_2d, f2_2a, f2_2b, f2_2c, f2_2d⟩ := row_four r2_2))
  exact bodyPost_ret (v := .tuple #[.agg #[.int .i64 0, .int .i64 0, .int .i64 0, .slice none 0 0], .int .i64 5]) (by simp [results, Try.results23, go_sem, c2_2a, c2_2b, c2_2c, c2_2d]) rfl (sret_zero (by (repeat (first | exact Below.refl _ _ | refine Below.setCell ?_ (by first | (simp; done) | (simp; omega) | omega) _ | refine Below.alloc ?_ (by first | (simp; done) | (simp; omega) | omega) _ | refine Below.drew ?_ | refine Below.trans ?_ (Below.mono (by assumption) (by first | (simp; done) | (simp; omega) | omega))))))
theorem tcs {w : World} {a : Addr} {v g d : Int} (h : TupCells w a ⟨v, g, d⟩) : w.cell? a = some (.int .i64 v) ∧ w.cell? ⟨a.block, a.off + 1, none⟩ = some (.int .i64 g) ∧ w.cell? ⟨a.block, a.off + 2, none⟩ = some (.int .i64 d) := h
set_option maxRecDepth 100000 in
set_option maxHeartbeats 8000000 in
theorem pmerge_ok (k cap n : Int) (A : Option Addr) (m c : Nat) (ts : List Tup) (cap' n' : Int) (A' : Option Addr) (m' c' : Nat) (ts' : List Tup) (w : World) (hin : SIn k cap n A m c ts w) (hin' : SIn k cap' n' A' m' c' ts' w) (hv : svalE k cap n ts = 0) (hv' : svalE k cap' n' ts' = 0) (hn : n + n' ≤ 1099511627776) : Calls Try.prog 23 #[.agg #[.int .i64 k, .int .i64 cap, .int .i64 n, .slice A m c], .agg #[.int .i64 k, .int .i64 cap', .int .i64 n', .slice A' m' c']] w fun e w' => SRet (smerge k cap n ts k cap' n' ts') w e w' := by
  rw [smerge_ok hv hv' rfl hn]
  have HR := Lib.hid hin
  have HR' := Lib.hid hin'
  have hl := hin.len
  have hl' := hin'.len
  obtain ⟨k0, k1, cp0, cp1, n0, n1, mc, _, _⟩ := of_svalE hv
  obtain ⟨_, _, cp0', cp1', n0', n1', mc', _, _⟩ := of_svalE hv'
  rw [hl] at mc
  rw [hl'] at mc'
  have P1 := fun w1 (hb : Below w.heap.size w w1) => psval k cap n A m c ts w1 (hin.below hb)
  rw [hv] at P1
  have P1 := Lib.hid P1
  have P2 := fun w1 (hb : Below w.heap.size w w1) => psval k cap' n' A' m' c' ts' w1 (hin'.below hb)
  rw [hv'] at P2
  have P2 := Lib.hid P2
  have TVA := Lib.hid (fun i (h : i < m) => sval_TV hv i (by rw [hl]; exact h))
  have TVB := Lib.hid (fun i (h : i < m') => sval_TV hv' i (by rw [hl']; exact h))
  have TBM := Lib.hid (smrg_TB hv hv')
  have ASA := Lib.hid (sval_asc hv)
  have ASB := Lib.hid (sval_asc hv')
  have HL := Lib.hid hl
  have HL' := Lib.hid hl'
  have mB : m ≤ 65536 := by omega
  have mB' : m' ≤ 65536 := by omega
  have wn : IntKind.i64.wrap (1099511627776 - n') = 1099511627776 - n' := IntWalk.i64_in _ (by omega)
  have wn2 : IntKind.i64.wrap (n + n') = n + n' := IntWalk.i64_in _ (by omega)
  have tn : ¬ 1099511627776 - n' < n := by omega
  obtain ⟨CM, hCM⟩ : ∃ q, max cap cap' = q := ⟨_, rfl⟩
  have HMX : RowKit.Hid ((if cap < cap' then cap' else cap) = CM) := Lib.hid (by rw [← hCM]; split <;> omega)
  have cm0 : 2 ≤ CM := by omega
  have cm1 : CM ≤ 65536 := by omega
  have cm2 : (m : Int) ≤ CM := by omega
  rw [hCM]
  have HCM := Lib.hid hCM
  generalize hres : sfit k CM (n + n') (smrg (swids ts' true ts) (swids ts false ts')) = res
  have HRES := Lib.hid hres
  obtain ⟨ii, hii, iz0, iz1, iz2⟩ := info_parts info_tup
  clear hin hin' hv hv' hl hl' hres hCM
  go_enter Try.func23, Try.ntmps23
  go_upto_region 13 with (first | (go_at_call 19; with_reducible refine (P1.out _ (by (repeat (first | exact Below.refl _ _ | refine Below.setCell ?_ (by first | (simp; done) | (simp; omega) | omega) _ | refine Below.alloc ?_ (by first | (simp; done) | (simp; omega) | omega) _ | refine Below.drew ?_ | refine Below.trans ?_ (Below.mono (by assumption) (by first | (simp; done) | (simp; omega) | omega)))))).mono ?_; rintro e w1 ⟨rfl, hb1⟩; have hz1 := hb1.size; (try simp at hz1); have o1 : Below w.heap.size w w1 := (by (repeat (first | exact Below.refl _ _ | refine Below.setCell ?_ (by first | (simp; done) | (simp; omega) | omega) _ | refine Below.alloc ?_ (by first | (simp; done) | (simp; omega) | omega) _ | refine Below.drew ?_ | refine Below.trans ?_ (Below.mono (by assumption) (by first | (simp; done) | (simp; omega) | omega))))); have q1_0 : w.heap.size < w1.heap.size := (by omega); have r1_0 : Row w1 (w.heap.size) 24 #[.int .i64 k, .int .i64 cap, .int .i64 n, .slice A m c] := row_call (by (repeat (first | assumption | (refine row_new ?_; (first | (simp; done) | omega)) | refine row_alloc ?_ _ | refine row_drew ?_ | refine row_call ?_ (by assumption)))) hb1; obtain ⟨c1_0a, c1_0b, c1_0c, c1_0d, f1_0a, f1_0b, f1_0c, f1_0d⟩ := row_four r1_0; have q1_1 : w.heap.size + 1 < w1.heap.size := (by omega); have r1_1 : Row w1 (w.heap.size + 1) 24 #[.int .i64 k, .int .i64 cap', .int .i64 n', .slice A' m' c'] := row_call (by (repeat (first | assumption | (refine row_new ?_; (first | (simp; done) | omega)) | refine row_alloc ?_ _ | refine row_drew ?_ | refine row_call ?_ (by assumption)))) hb1; obtain ⟨c1_1a, c1_1b, c1_1c, c1_1d, f1_1a, f1_1b, f1_1c, f1_1d⟩ := row_four r1_1; have q1_2 : w.heap.size + 2 < w1.heap.size := (by omega); have r1_2 : Row w1 (w.heap.size + 2) 24 #[.int .i64 0, .int .i64 0, .int .i64 0, .slice none 0 0] := row_call (by (repeat (first | assumption | (refine row_new ?_; (first | (simp; done) | omega)) | refine row_alloc ?_ _ | refine row_drew ?_ | refine row_call ?_ (by assumption)))) hb1; obtain ⟨c1_2a, c1_2b, c1_2c, c1_2d, f1_2a, f1_2b, f1_2c, f1_2d⟩ := row_four r1_2) | (go_at_call 19; with_reducible refine (P2.out _ (by exact o1)).mono ?_; rintro e w2 ⟨rfl, hb2⟩; have hz2 := hb2.size; (try simp at hz2); have o2 : Below w.heap.size w w2 := (by (repeat (first | exact Below.refl _ _ | refine Below.setCell ?_ (by first | (simp; done) | (simp; omega) | omega) _ | refine Below.alloc ?_ (by first | (simp; done) | (simp; omega) | omega) _ | refine Below.drew ?_ | refine Below.trans ?_ (Below.mono (by assumption) (by first | (simp; done) | (simp; omega) | omega))))); have q2_0 : w.heap.size < w2.heap.size := (by omega); have r2_0 : Row w2 (w.heap.size) 24 #[.int .i64 k, .int .i64 cap, .int .i64 n, .slice A m c] := row_call (by (repeat (first | assumption | (refine row_new ?_; (first | (simp; done) | omega)) | refine row_alloc ?_ _ | refine row_drew ?_ | refine row_call ?_ (by assumption)))) hb2; obtain ⟨c2_0a, c2_0b, c2_0c, c2_0d, f2_0a, f2_0b, f2_0c, f2_0d⟩ := row_four r2_0; have q2_1 : w.heap.size + 1 < w2.heap.size := (by omega); have r2_1 : Row w2 (w.heap.size + 1) 24 #[.int .i64 k, .int .i64 cap', .int .i64 n', .slice A' m' c'] := row_call (by (repeat (first | assumption | (refine row_new ?_; (first | (simp; done) | omega)) | refine row_alloc ?_ _ | refine row_drew ?_ | refine row_call ?_ (by assumption)))) hb2; obtain ⟨c2_1a, c2_1b, c2_1c, c2_1d, f2_1a, f2_1b, f2_1c, f2_1d⟩ := row_four r2_1; have q2_2 : w.heap.size + 2 < w2.heap.size := (by omega); have r2_2 : Row w2 (w.heap.size + 2) 24 #[.int .i64 0, .int .i64 0, .int .i64 0, .slice none 0 0] := row_call (by (repeat (first | assumption | (refine row_new ?_; (first | (simp; done) | omega)) | refine row_alloc ?_ _ | refine row_drew ?_ | refine row_call ?_ (by assumption)))) hb2; obtain ⟨c2_2a, c2_2b, c2_2c, c2_2d, f2_2a, f2_2b, f2_2c, f2_2d⟩ := row_four r2_2))
  clear c1_0a c1_0b c1_0c c1_0d f1_0a f1_0b f1_0c f1_0d c1_1a c1_1b c1_1c c1_1d f1_1a f1_1b f1_1c f1_1d c1_2a c1_2b c1_2c c1_2d f1_2a f1_2b f1_2c f1_2d r1_0 r1_1 r1_2 c2_0a c2_0b c2_0c c2_0d f2_0a f2_0b f2_0c f2_0d c2_1a c2_1b c2_1c c2_1d f2_1a f2_1b f2_1c f2_1d c2_2a c2_2b c2_2c c2_2d f2_2a f2_2b f2_2c f2_2d o1 hb1 hb2 P1 P2
  go_loopw [8, 9, 10] (fun l i j wr => ∃ (a b N : Nat) (L : List Tup), a ≤ m ∧ b ≤ m' ∧ i = .int .i64 (a : Nat) ∧ j = .int .i64 (b : Nat) ∧ RowKit.Hid (N = a + b) ∧ N ≤ m + m' ∧ wr.ownsRow (w.heap.size + 3) 66 3 l N (tcells L) ∧ RowKit.Hid (SAt ts ts' a b L) ∧ Row wr (w.heap.size) 24 #[.int .i64 k, .int .i64 cap, .int .i64 n, .slice A m c] ∧ Row wr (w.heap.size + 1) 24 #[.int .i64 k, .int .i64 cap', .int .i64 n', .slice A' m' c'] ∧ Row wr (w.heap.size + 2) 24 #[.int .i64 0, .int .i64 0, .int .i64 0, .slice none 0 0] ∧ Below w.heap.size w wr) (fun _ i j _ => (m + m') - ((intOf i).toNat + (intOf j).toNat))
  case atStart => exact ⟨0, 0, 0, [], by omega, by omega, rfl, rfl, Lib.hid rfl, by omega, World.ownsRow_nil _ _ _ _, Lib.hid sat_start, r2_0, r2_1, r2_2, o2⟩
  case round =>
    clear r2_0 r2_1 r2_2 o2
    obtain ⟨a, b, N, L, ha, hb, rfl, rfl, HN, hN, own, HS, x0, y0, r0, o0⟩ := hrel
    obtain ⟨A0, A1, A2, A3, _, _, _, _⟩ := row_four x0
    obtain ⟨B0, B1, B2, B3, _, _, _, _⟩ := row_four y0
    have j2 : (0 : Int) ≤ (a : Int) := by omega
    have j3 : (0 : Int) ≤ (b : Int) := by omega
    by_cases hx : a < m
    · have i1 : (a : Int) < (m : Int) := by omega
      obtain ⟨ad, rfl, hadb, ht0⟩ := HR.out.reads.tup hx
      have hadx : (ad.add (a * 3)).block < w.heap.size := by rw [block_of_add]; exact hadb
      by_cases hy : b < m'
      · have i2 : (b : Int) < (m' : Int) := by omega
        have hNN : N + 1 ≤ m + m' := by have := HN.out; omega
        have ne : ((b : Int) == (m' : Int)) = false := by simp; omega
        obtain ⟨ad', rfl, hadb', ht1⟩ := HR'.out.reads.tup hy
        have hady : (ad'.add (b * 3)).block < w.heap.size := by rw [block_of_add]; exact hadb'
        by_cases hv : (tupAt ts a).v ≤ (tupAt ts' b).v
        · skip
          have ST := sat_x ASA.out HS.out (by rw [HL.out]; exact hx) (by rw [HL'.out]; exact hy) hv
          have tva := TVA.out a (by omega)
          have tvb := TVB.out b (by omega)
          generalize tupAt ts a = xt at ht0 ST tva hv
          obtain ⟨xv, xg, xd⟩ := xt
          generalize tupAt ts' b = yt at ht1 ST tvb hv
          obtain ⟨yv, yg, yd⟩ := yt
          unfold TV at tva tvb
          dsimp only at ST tva tvb hv
          have HTA := Lib.hid ht0
          clear ht0
          have HTB := Lib.hid ht1
          clear ht1
          have wa : IntKind.i64.wrap (yg + yd) = yg + yd := IntWalk.i64_in _ (by omega)
          have wb : IntKind.i64.wrap (yg + yd - 1) = yg + yd - 1 := IntWalk.i64_in _ (by omega)
          have wc : IntKind.i64.wrap (xd + (yg + yd - 1)) = xd + (yg + yd - 1) := IntWalk.i64_in _ (by omega)
          have HS2 := Lib.hid ST
          clear ST tva tvb
          go_upto_region 14 with (fail)
          have LL : Row wr (w.heap.size) 24 #[.int .i64 k, .int .i64 cap, .int .i64 n, .slice (some ad) m c] ∧ Row wr (w.heap.size + 1) 24 #[.int .i64 k, .int .i64 cap', .int .i64 n', .slice (some ad') m' c'] ∧ Row wr (w.heap.size + 2) 24 #[.int .i64 0, .int .i64 0, .int .i64 0, .slice none 0 0] ∧ World.ownsRow wr (w.heap.size + 3) 66 3 u8 N (tcells L) ∧ Below w.heap.size w wr := ⟨x0, y0, r0, own, o0⟩
          clear A0 A1 A2 A3 B0 B1 B2 B3 x0 y0 r0 own o0
          refine wp_region_free0 [0, 1, 2, 3, 4, 5, 6, 7, 8, 9, 10, 11, 12, 13, 14, 15, 16, 17, 18, 19, 20, 21, 22, 23, 24, 25] [] [0, 1, 2, 3, 4, 5, 6, 7, 8, 9, 10, 11, 12, 13, 14, 15, 16, 17, 18, 19, 20, 21, 22, 23, 24, 25] 26 (fun w' => Row w' (w.heap.size) 24 #[.int .i64 k, .int .i64 cap, .int .i64 n, .slice (some ad) m c] ∧ Row w' (w.heap.size + 1) 24 #[.int .i64 k, .int .i64 cap', .int .i64 n', .slice (some ad') m' c'] ∧ Row w' (w.heap.size + 2) 24 #[.int .i64 0, .int .i64 0, .int .i64 0, .slice none 0 0] ∧ World.ownsRow w' (w.heap.size + 3) 66 3 u8 N (tcells L) ∧ Below w.heap.size w w') (by kernel_rfl) (by kernel_rfl) (fun _ _ d _ _ h => by cases d <;> exact h) ?_ ?_
          · exact ⟨LL.1, LL.2.1, LL.2.2.1, LL.2.2.2.1, LL.2.2.2.2.drew⟩
          (refine plan_pure ?_ rfl rfl (fun w' => ?_) ?_; rotate_left; (go_simp; try with_reducible rfl); simp only [Act.put, List.setIfInBounds_toArray, List.set_cons_zero, List.set_cons_succ])
          (refine plan_pure ?_ rfl rfl (fun w' => ?_) ?_; rotate_left; (go_simp; try with_reducible rfl); simp only [Act.put, List.setIfInBounds_toArray, List.set_cons_zero, List.set_cons_succ])
          (refine plan_val ?_ rfl rfl rfl (fun w' hS => ?_) ?_; rotate_left; (obtain ⟨A0, A1, A2, A3, _, _, _, _⟩ := row_four hS.1; obtain ⟨B0, B1, B2, B3, _, _, _, _⟩ := row_four hS.2.1; obtain ⟨p0, p1, p2⟩ := tcs (HTA.out.below hS.2.2.2.2 hadx); obtain ⟨q0, q1, q2⟩ := tcs (HTB.out.below hS.2.2.2.2 hady); go_simp; try with_reducible rfl); simp only [Act.put, List.setIfInBounds_toArray, List.set_cons_zero, List.set_cons_succ])
          (refine plan_val ?_ rfl rfl rfl (fun w' hS => ?_) ?_; rotate_left; (obtain ⟨A0, A1, A2, A3, _, _, _, _⟩ := row_four hS.1; obtain ⟨B0, B1, B2, B3, _, _, _, _⟩ := row_four hS.2.1; obtain ⟨p0, p1, p2⟩ := tcs (HTA.out.below hS.2.2.2.2 hadx); obtain ⟨q0, q1, q2⟩ := tcs (HTB.out.below hS.2.2.2.2 hady); go_simp; try with_reducible rfl); simp only [Act.put, List.setIfInBounds_toArray, List.set_cons_zero, List.set_cons_succ])
          (refine plan_pure ?_ rfl rfl (fun w' => ?_) ?_; rotate_left; (go_simp; try with_reducible rfl); simp only [Act.put, List.setIfInBounds_toArray, List.set_cons_zero, List.set_cons_succ])
          (refine plan_pure ?_ rfl rfl (fun w' => ?_) ?_; rotate_left; (go_simp; try with_reducible rfl); simp only [Act.put, List.setIfInBounds_toArray, List.set_cons_zero, List.set_cons_succ])
          (refine plan_pure ?_ rfl rfl (fun w' => ?_) ?_; rotate_left; (go_simp; try with_reducible rfl); simp only [Act.put, List.setIfInBounds_toArray, List.set_cons_zero, List.set_cons_succ])
          (refine plan_pure ?_ rfl rfl (fun w' => ?_) ?_; rotate_left; (go_simp; try with_reducible rfl); simp only [Act.put, List.setIfInBounds_toArray, List.set_cons_zero, List.set_cons_succ])
          (refine plan_val ?_ rfl rfl rfl (fun w' hS => ?_) ?_; rotate_left; (obtain ⟨A0, A1, A2, A3, _, _, _, _⟩ := row_four hS.1; obtain ⟨B0, B1, B2, B3, _, _, _, _⟩ := row_four hS.2.1; obtain ⟨p0, p1, p2⟩ := tcs (HTA.out.below hS.2.2.2.2 hadx); obtain ⟨q0, q1, q2⟩ := tcs (HTB.out.below hS.2.2.2.2 hady); go_simp; try with_reducible rfl); simp only [Act.put, List.setIfInBounds_toArray, List.set_cons_zero, List.set_cons_succ])
          (refine plan_val ?_ rfl rfl rfl (fun w' hS => ?_) ?_; rotate_left; (obtain ⟨A0, A1, A2, A3, _, _, _, _⟩ := row_four hS.1; obtain ⟨B0, B1, B2, B3, _, _, _, _⟩ := row_four hS.2.1; obtain ⟨p0, p1, p2⟩ := tcs (HTA.out.below hS.2.2.2.2 hadx); obtain ⟨q0, q1, q2⟩ := tcs (HTB.out.below hS.2.2.2.2 hady); go_simp; try with_reducible rfl); simp only [Act.put, List.setIfInBounds_toArray, List.set_cons_zero, List.set_cons_succ])
          (refine plan_pure ?_ rfl rfl (fun w' => ?_) ?_; rotate_left; (go_simp; try with_reducible rfl); simp only [Act.put, List.setIfInBounds_toArray, List.set_cons_zero, List.set_cons_succ])
          (refine plan_pure ?_ rfl rfl (fun w' => ?_) ?_; rotate_left; (go_simp; try with_reducible rfl); simp only [Act.put, List.setIfInBounds_toArray, List.set_cons_zero, List.set_cons_succ])
          (refine plan_pure ?_ rfl rfl (fun w' => ?_) ?_; rotate_left; (go_simp; try with_reducible rfl); simp only [Act.put, List.setIfInBounds_toArray, List.set_cons_zero, List.set_cons_succ])
          (refine plan_val ?_ rfl rfl rfl (fun w' hS => ?_) ?_; rotate_left; (obtain ⟨A0, A1, A2, A3, _, _, _, _⟩ := row_four hS.1; obtain ⟨B0, B1, B2, B3, _, _, _, _⟩ := row_four hS.2.1; obtain ⟨p0, p1, p2⟩ := tcs (HTA.out.below hS.2.2.2.2 hadx); obtain ⟨q0, q1, q2⟩ := tcs (HTB.out.below hS.2.2.2.2 hady); go_simp; try with_reducible rfl); simp only [Act.put, List.setIfInBounds_toArray, List.set_cons_zero, List.set_cons_succ])
          (refine plan_pure ?_ rfl rfl (fun w' => ?_) ?_; rotate_left; (go_simp; try with_reducible rfl); simp only [Act.put, List.setIfInBounds_toArray, List.set_cons_zero, List.set_cons_succ])
          (refine plan_pure ?_ rfl rfl (fun w' => ?_) ?_; rotate_left; (go_simp; try with_reducible rfl); simp only [Act.put, List.setIfInBounds_toArray, List.set_cons_zero, List.set_cons_succ])
          (refine plan_pure ?_ rfl rfl (fun w' => ?_) ?_; rotate_left; (go_simp; try with_reducible rfl); simp only [Act.put, List.setIfInBounds_toArray, List.set_cons_zero, List.set_cons_succ])
          (refine plan_val ?_ rfl rfl rfl (fun w' hS => ?_) ?_; rotate_left; (obtain ⟨A0, A1, A2, A3, _, _, _, _⟩ := row_four hS.1; obtain ⟨B0, B1, B2, B3, _, _, _, _⟩ := row_four hS.2.1; obtain ⟨p0, p1, p2⟩ := tcs (HTA.out.below hS.2.2.2.2 hadx); obtain ⟨q0, q1, q2⟩ := tcs (HTB.out.below hS.2.2.2.2 hady); go_simp; try with_reducible rfl); simp only [Act.put, List.setIfInBounds_toArray, List.set_cons_zero, List.set_cons_succ])
          (refine plan_pure ?_ rfl rfl (fun w' => ?_) ?_; rotate_left; (go_simp; try with_reducible rfl); simp only [Act.put, List.setIfInBounds_toArray, List.set_cons_zero, List.set_cons_succ])
          (refine plan_val ?_ rfl rfl rfl (fun w' hS => ?_) ?_; rotate_left; (obtain ⟨A0, A1, A2, A3, _, _, _, _⟩ := row_four hS.1; obtain ⟨B0, B1, B2, B3, _, _, _, _⟩ := row_four hS.2.1; obtain ⟨p0, p1, p2⟩ := tcs (HTA.out.below hS.2.2.2.2 hadx); obtain ⟨q0, q1, q2⟩ := tcs (HTB.out.below hS.2.2.2.2 hady); go_simp; try with_reducible rfl); simp only [Act.put, List.setIfInBounds_toArray, List.set_cons_zero, List.set_cons_succ])
          (refine plan_pure ?_ rfl rfl (fun w' => ?_) ?_; rotate_left; (go_simp; try with_reducible rfl); simp only [Act.put, List.setIfInBounds_toArray, List.set_cons_zero, List.set_cons_succ])
          (refine plan_pure ?_ rfl rfl (fun w' => ?_) ?_; rotate_left; (go_simp; try with_reducible rfl); simp only [Act.put, List.setIfInBounds_toArray, List.set_cons_zero, List.set_cons_succ])
          (refine plan_pure ?_ rfl rfl (fun w' => ?_) ?_; rotate_left; (go_simp; try with_reducible rfl); simp only [Act.put, List.setIfInBounds_toArray, List.set_cons_zero, List.set_cons_succ])
          (refine plan_val ?_ rfl rfl rfl (fun w' hS => ?_) ?_; rotate_left; (obtain ⟨A0, A1, A2, A3, _, _, _, _⟩ := row_four hS.1; obtain ⟨B0, B1, B2, B3, _, _, _, _⟩ := row_four hS.2.1; obtain ⟨p0, p1, p2⟩ := tcs (HTA.out.below hS.2.2.2.2 hadx); obtain ⟨q0, q1, q2⟩ := tcs (HTB.out.below hS.2.2.2.2 hady); go_simp; try with_reducible rfl); simp only [Act.put, List.setIfInBounds_toArray, List.set_cons_zero, List.set_cons_succ])
          (refine plan_pure ?_ rfl rfl (fun w' => ?_) ?_; rotate_left; (go_simp; try with_reducible rfl); simp only [Act.put, List.setIfInBounds_toArray, List.set_cons_zero, List.set_cons_succ])
          (refine plan_pure ?_ rfl rfl (fun w' => ?_) ?_; rotate_left; (go_simp; try with_reducible rfl); simp only [Act.put, List.setIfInBounds_toArray, List.set_cons_zero, List.set_cons_succ])
          refine plan_nil ?_
          intro w3 L3
          simp only [List.drop_succ_cons, List.drop_zero]
          try simp only [Act.put, List.setIfInBounds_toArray, List.set_cons_zero, List.set_cons_succ]
          clear LL
          obtain ⟨x3, y3, r3, own3, o3⟩ := L3
          obtain ⟨A0, A1, A2, A3, _, _, _, _⟩ := row_four x3
          obtain ⟨B0, B1, B2, B3, _, _, _, _⟩ := row_four y3
          obtain ⟨p0, p1, p2⟩ := tcs (HTA.out.below o3 hadx)
          obtain ⟨q0, q1, q2⟩ := tcs (HTB.out.below o3 hady)
          go_upto_region 16 with (fail)
          have k1 : Row (w3.alloc (.cells #[.int .i64 xv, .int .i64 xg, .int .i64 xd] 66)) w3.heap.size 66 #[.int .i64 xv, .int .i64 xg, .int .i64 xd] := row_new rfl
          have x4 := row_alloc x3 (.cells #[.int .i64 xv, .int .i64 xg, .int .i64 xd] 66)
          have y4 := row_alloc y3 (.cells #[.int .i64 xv, .int .i64 xg, .int .i64 xd] 66)
          have r4 := row_alloc r3 (.cells #[.int .i64 xv, .int .i64 xg, .int .i64 xd] 66)
          have own4 := own3.alloc (.cells #[.int .i64 xv, .int .i64 xg, .int .i64 xd] 66)
          have o4 := o3.alloc o3.size (.cells #[.int .i64 xv, .int .i64 xg, .int .i64 xd] 66)
          have nt : u8.ownBlock ≠ some w3.heap.size := orow_new own3 (Nat.le_refl _)
          have zt : w.heap.size + 2 < w3.heap.size := row_lt r3
          generalize w3.alloc (.cells #[.int .i64 xv, .int .i64 xg, .int .i64 xd] 66) = w4 at k1 x4 y4 r4 own4 o4 ⊢
          generalize w3.heap.size = tb at k1 nt zt ⊢
          clear x3 y3 r3 own3 o3 A0 A1 A2 A3 B0 B1 B2 B3 p0 p1 p2 q0 q1 q2
          obtain ⟨A0, A1, A2, A3, _, _, _, _⟩ := row_four x4
          obtain ⟨B0, B1, B2, B3, _, _, _, _⟩ := row_four y4
          go_upto_region 17 with (fail)
          clear A0 A1 A2 A3 B0 B1 B2 B3
          have LM : Row w4 tb 66 #[.int .i64 xv, .int .i64 xg, .int .i64 xd] ∧ Row w4 (w.heap.size) 24 #[.int .i64 k, .int .i64 cap, .int .i64 n, .slice (some ad) m c] ∧ Row w4 (w.heap.size + 1) 24 #[.int .i64 k, .int .i64 cap', .int .i64 n', .slice (some ad') m' c'] ∧ Row w4 (w.heap.size + 2) 24 #[.int .i64 0, .int .i64 0, .int .i64 0, .slice none 0 0] ∧ World.ownsRow w4 (w.heap.size + 3) 66 3 u8 N (tcells L) ∧ Below w.heap.size w w4 := ⟨k1, x4, y4, r4, own4, o4⟩
          clear k1 x4 y4 r4 own4 o4
          refine wp_region_free0 [0, 1, 2, 3, 4, 5, 6, 7, 8, 9, 10, 11, 12, 13, 14, 15, 16, 17] [] [0, 1, 2, 3, 4, 5, 6, 7, 8, 9, 10, 11, 12, 13, 14, 15, 16, 17] 18 (fun w' => Row w' tb 66 #[.int .i64 xv, .int .i64 xg, .int .i64 xd] ∧ Row w' (w.heap.size) 24 #[.int .i64 k, .int .i64 cap, .int .i64 n, .slice (some ad) m c] ∧ Row w' (w.heap.size + 1) 24 #[.int .i64 k, .int .i64 cap', .int .i64 n', .slice (some ad') m' c'] ∧ Row w' (w.heap.size + 2) 24 #[.int .i64 0, .int .i64 0, .int .i64 0, .slice none 0 0] ∧ World.ownsRow w' (w.heap.size + 3) 66 3 u8 N (tcells L) ∧ Below w.heap.size w w') (by kernel_rfl) (by kernel_rfl) (fun _ _ d _ _ h => by cases d <;> exact h) ?_ ?_
          · exact ⟨LM.1, LM.2.1, LM.2.2.1, LM.2.2.2.1, LM.2.2.2.2.1, LM.2.2.2.2.2.drew⟩
          (refine plan_pure ?_ rfl rfl (fun w' => ?_) ?_; rotate_left; (go_simp; try with_reducible rfl); simp only [Act.put, List.setIfInBounds_toArray, List.set_cons_zero, List.set_cons_succ])
          (refine plan_val ?_ rfl rfl rfl (fun w' hS => ?_) ?_; rotate_left; (obtain ⟨T0, T1, T2, _, _, _⟩ := row_three hS.1; obtain ⟨A0, A1, A2, A3, _, _, _, _⟩ := row_four hS.2.1; obtain ⟨B0, B1, B2, B3, _, _, _, _⟩ := row_four hS.2.2.1; obtain ⟨q0, q1, q2⟩ := tcs (HTB.out.below hS.2.2.2.2.2 hady); go_simp; try with_reducible rfl); simp only [Act.put, List.setIfInBounds_toArray, List.set_cons_zero, List.set_cons_succ])
          (refine plan_pure ?_ rfl rfl (fun w' => ?_) ?_; rotate_left; (go_simp; try with_reducible rfl); simp only [Act.put, List.setIfInBounds_toArray, List.set_cons_zero, List.set_cons_succ])
          (refine plan_val ?_ rfl rfl rfl (fun w' hS => ?_) ?_; rotate_left; (obtain ⟨T0, T1, T2, _, _, _⟩ := row_three hS.1; obtain ⟨A0, A1, A2, A3, _, _, _, _⟩ := row_four hS.2.1; obtain ⟨B0, B1, B2, B3, _, _, _, _⟩ := row_four hS.2.2.1; obtain ⟨q0, q1, q2⟩ := tcs (HTB.out.below hS.2.2.2.2.2 hady); go_simp; try with_reducible rfl); simp only [Act.put, List.setIfInBounds_toArray, List.set_cons_zero, List.set_cons_succ])
          (refine plan_pure ?_ rfl rfl (fun w' => ?_) ?_; rotate_left; (go_simp; try with_reducible rfl); simp only [Act.put, List.setIfInBounds_toArray, List.set_cons_zero, List.set_cons_succ])
          (refine plan_pure ?_ rfl rfl (fun w' => ?_) ?_; rotate_left; (go_simp; try with_reducible rfl); simp only [Act.put, List.setIfInBounds_toArray, List.set_cons_zero, List.set_cons_succ])
          (refine plan_pure ?_ rfl rfl (fun w' => ?_) ?_; rotate_left; (go_simp; try with_reducible rfl); simp only [Act.put, List.setIfInBounds_toArray, List.set_cons_zero, List.set_cons_succ])
          (refine plan_val ?_ rfl rfl rfl (fun w' hS => ?_) ?_; rotate_left; (obtain ⟨T0, T1, T2, _, _, _⟩ := row_three hS.1; obtain ⟨A0, A1, A2, A3, _, _, _, _⟩ := row_four hS.2.1; obtain ⟨B0, B1, B2, B3, _, _, _, _⟩ := row_four hS.2.2.1; obtain ⟨q0, q1, q2⟩ := tcs (HTB.out.below hS.2.2.2.2.2 hady); go_simp; try with_reducible rfl); simp only [Act.put, List.setIfInBounds_toArray, List.set_cons_zero, List.set_cons_succ])
          (refine plan_pure ?_ rfl rfl (fun w' => ?_) ?_; rotate_left; (go_simp; try with_reducible rfl); simp only [Act.put, List.setIfInBounds_toArray, List.set_cons_zero, List.set_cons_succ])
          (refine plan_val ?_ rfl rfl rfl (fun w' hS => ?_) ?_; rotate_left; (obtain ⟨T0, T1, T2, _, _, _⟩ := row_three hS.1; obtain ⟨A0, A1, A2, A3, _, _, _, _⟩ := row_four hS.2.1; obtain ⟨B0, B1, B2, B3, _, _, _, _⟩ := row_four hS.2.2.1; obtain ⟨q0, q1, q2⟩ := tcs (HTB.out.below hS.2.2.2.2.2 hady); go_simp; try with_reducible rfl); simp only [Act.put, List.setIfInBounds_toArray, List.set_cons_zero, List.set_cons_succ])
          (refine plan_pure ?_ rfl rfl (fun w' => ?_) ?_; rotate_left; (go_simp; try with_reducible rfl); simp only [Act.put, List.setIfInBounds_toArray, List.set_cons_zero, List.set_cons_succ])
          (refine plan_pure ?_ rfl rfl (fun w' => ?_) ?_; rotate_left; (go_simp; try with_reducible rfl); simp only [Act.put, List.setIfInBounds_toArray, List.set_cons_zero, List.set_cons_succ])
          (refine plan_pure ?_ rfl rfl (fun w' => ?_) ?_; rotate_left; (go_simp; try with_reducible rfl); simp only [Act.put, List.setIfInBounds_toArray, List.set_cons_zero, List.set_cons_succ])
          (refine plan_val ?_ rfl rfl rfl (fun w' hS => ?_) ?_; rotate_left; (obtain ⟨T0, T1, T2, _, _, _⟩ := row_three hS.1; obtain ⟨A0, A1, A2, A3, _, _, _, _⟩ := row_four hS.2.1; obtain ⟨B0, B1, B2, B3, _, _, _, _⟩ := row_four hS.2.2.1; obtain ⟨q0, q1, q2⟩ := tcs (HTB.out.below hS.2.2.2.2.2 hady); go_simp; try with_reducible rfl); simp only [Act.put, List.setIfInBounds_toArray, List.set_cons_zero, List.set_cons_succ])
          (refine plan_pure ?_ rfl rfl (fun w' => ?_) ?_; rotate_left; (go_simp; try with_reducible rfl); simp only [Act.put, List.setIfInBounds_toArray, List.set_cons_zero, List.set_cons_succ])
          (refine plan_pure ?_ rfl rfl (fun w' => ?_) ?_; rotate_left; (go_simp; try with_reducible rfl); simp only [Act.put, List.setIfInBounds_toArray, List.set_cons_zero, List.set_cons_succ])
          (refine plan_pure ?_ rfl rfl (fun w' => ?_) ?_; rotate_left; (go_simp; try with_reducible rfl); simp only [Act.put, List.setIfInBounds_toArray, List.set_cons_zero, List.set_cons_succ])
          (refine plan_pure ?_ rfl rfl (fun w' => ?_) ?_; rotate_left; (go_simp; try with_reducible rfl); simp only [Act.put, List.setIfInBounds_toArray, List.set_cons_zero, List.set_cons_succ])
          refine plan_nil ?_
          intro w5 L5
          simp only [List.drop_succ_cons, List.drop_zero]
          try simp only [Act.put, List.setIfInBounds_toArray, List.set_cons_zero, List.set_cons_succ]
          clear LM
          obtain ⟨k5, x5, y5, r5, own5, o5⟩ := L5
          obtain ⟨T0, T1, T2, T3, T4, T5⟩ := row_three k5
          go_upto_region 18 with (fail)
          have k6 : Row (w5.setCell ⟨tb, 2, none⟩ (.int .i64 (xd + (yg + yd - 1)))) tb 66 #[.int .i64 xv, .int .i64 xg, .int .i64 (xd + (yg + yd - 1))] := row_set k5 2 _
          have x6 := row_other (p := ⟨tb, 2, none⟩) x5 (by simp; omega) (.int .i64 (xd + (yg + yd - 1)))
          have y6 := row_other (p := ⟨tb, 2, none⟩) y5 (by simp; omega) (.int .i64 (xd + (yg + yd - 1)))
          have r6 := row_other (p := ⟨tb, 2, none⟩) r5 (by simp; omega) (.int .i64 (xd + (yg + yd - 1)))
          have own6 := orow_other (p := ⟨tb, 2, none⟩) own5 nt (.int .i64 (xd + (yg + yd - 1)))
          have o6 := o5.setCell (p := ⟨tb, 2, none⟩) (by simp; omega) (.int .i64 (xd + (yg + yd - 1)))
          generalize w5.setCell ⟨tb, 2, none⟩ (.int .i64 (xd + (yg + yd - 1))) = w6 at k6 x6 y6 r6 own6 o6 ⊢
          clear k5 x5 y5 r5 own5 o5 T0 T1 T2 T3 T4 T5
          obtain ⟨T0, T1, T2, _, _, _⟩ := row_three k6
          have hbl := own6.lt
          have OWN := Lib.hid own6
          have zb := o6.size
          have zq := row_lt r6
          clear own6
          go_wp2_with (first | (at_builtin; refine wpList_push rfl _ _ 22 rfl 66 ii (.agg #[.int .i64 0, .int .i64 0, .int .i64 0]) 3 24 Try.underlying22 hii iz0 iz1 iz2 rfl (by decide) (w.heap.size + 3) u8 N (tcells L) rfl OWN.out #[.int .i64 xv, .int .i64 xg, .int .i64 (xd + (yg + yd - 1))] rfl rfl (by simp [Value.oneCell']) (by unfold maxLen; omega) (by omega) (by omega) ?_; intro g' c4 w8 own8 hg8 hat8 hgr8))
          have L8 : w8.ownsRow (w.heap.size + 3) 66 3 (.slice (some ⟨g', 0, none⟩) (N + 1) c4) (N + 1) (tcells (L ++ [(⟨xv, xg, (xd + (yg + yd - 1))⟩ : Tup)])) := by
            rw [tcells_append]
            exact own8.row hg8
          have x8 := row_grown (row_alloc x6 (.cells #[.int .i64 xv, .int .i64 xg, .int .i64 (xd + (yg + yd - 1))] 66)) hgr8 (fun e => by have := (hbl _ e).1; omega)
          have y8 := row_grown (row_alloc y6 (.cells #[.int .i64 xv, .int .i64 xg, .int .i64 (xd + (yg + yd - 1))] 66)) hgr8 (fun e => by have := (hbl _ e).1; omega)
          have r8 := row_grown (row_alloc r6 (.cells #[.int .i64 xv, .int .i64 xg, .int .i64 (xd + (yg + yd - 1))] 66)) hgr8 (fun e => by have := (hbl _ e).1; omega)
          have o8 := below_grown (o6.alloc zb (.cells #[.int .i64 xv, .int .i64 xg, .int .i64 (xd + (yg + yd - 1))] 66)) hgr8 (fun b e => by have := (hbl b e).1; omega) (by simp; omega)
          clear own8 hgr8 hat8
          go_roundw
          case rel => exact ⟨a + 1, b, N + 1, L ++ [(⟨xv, xg, (xd + (yg + yd - 1))⟩ : Tup)], by omega, by omega, by go_num, rfl, Lib.hid (by rw [HN.out]; omega), by omega, L8, HS2, x8, y8, r8, o8⟩
          case measure => simp [intOf]; omega
        · have hv := Int.not_le.1 hv
          have ST := sat_y ASB.out HS.out (by rw [HL.out]; exact hx) (by rw [HL'.out]; exact hy) hv
          have tva := TVA.out a (by omega)
          have tvb := TVB.out b (by omega)
          generalize tupAt ts a = xt at ht0 ST tva hv
          obtain ⟨xv, xg, xd⟩ := xt
          generalize tupAt ts' b = yt at ht1 ST tvb hv
          obtain ⟨yv, yg, yd⟩ := yt
          unfold TV at tva tvb
          dsimp only at ST tva tvb hv
          have HTA := Lib.hid ht0
          clear ht0
          have HTB := Lib.hid ht1
          clear ht1
          have wa : IntKind.i64.wrap (xg + xd) = xg + xd := IntWalk.i64_in _ (by omega)
          have wb : IntKind.i64.wrap (xg + xd - 1) = xg + xd - 1 := IntWalk.i64_in _ (by omega)
          have wc : IntKind.i64.wrap (yd + (xg + xd - 1)) = yd + (xg + xd - 1) := IntWalk.i64_in _ (by omega)
          have HS2 := Lib.hid ST
          clear ST tva tvb
          have hv' : ¬ xv ≤ yv := by omega
          clear hv
          go_upto_region 14 with (fail)
          have LL : Row wr (w.heap.size) 24 #[.int .i64 k, .int .i64 cap, .int .i64 n, .slice (some ad) m c] ∧ Row wr (w.heap.size + 1) 24 #[.int .i64 k, .int .i64 cap', .int .i64 n', .slice (some ad') m' c'] ∧ Row wr (w.heap.size + 2) 24 #[.int .i64 0, .int .i64 0, .int .i64 0, .slice none 0 0] ∧ World.ownsRow wr (w.heap.size + 3) 66 3 u8 N (tcells L) ∧ Below w.heap.size w wr := ⟨x0, y0, r0, own, o0⟩
          clear A0 A1 A2 A3 B0 B1 B2 B3 x0 y0 r0 own o0
          refine wp_region_free0 [0, 1, 2, 3, 4, 5, 6, 7, 8, 9, 10, 11, 12, 13, 14, 15, 16, 17, 18, 19, 20, 21, 22, 23, 24, 25] [] [0, 1, 2, 3, 4, 5, 6, 7, 8, 9, 10, 11, 12, 13, 14, 15, 16, 17, 18, 19, 20, 21, 22, 23, 24, 25] 26 (fun w' => Row w' (w.heap.size) 24 #[.int .i64 k, .int .i64 cap, .int .i64 n, .slice (some ad) m c] ∧ Row w' (w.heap.size + 1) 24 #[.int .i64 k, .int .i64 cap', .int .i64 n', .slice (some ad') m' c'] ∧ Row w' (w.heap.size + 2) 24 #[.int .i64 0, .int .i64 0, .int .i64 0, .slice none 0 0] ∧ World.ownsRow w' (w.heap.size + 3) 66 3 u8 N (tcells L) ∧ Below w.heap.size w w') (by kernel_rfl) (by kernel_rfl) (fun _ _ d _ _ h => by cases d <;> exact h) ?_ ?_
          · exact ⟨LL.1, LL.2.1, LL.2.2.1, LL.2.2.2.1, LL.2.2.2.2.drew⟩
          (refine plan_pure ?_ rfl rfl (fun w' => ?_) ?_; rotate_left; (go_simp; try with_reducible rfl); simp only [Act.put, List.setIfInBounds_toArray, List.set_cons_zero, List.set_cons_succ])
          (refine plan_pure ?_ rfl rfl (fun w' => ?_) ?_; rotate_left; (go_simp; try with_reducible rfl); simp only [Act.put, List.setIfInBounds_toArray, List.set_cons_zero, List.set_cons_succ])
          (refine plan_val ?_ rfl rfl rfl (fun w' hS => ?_) ?_; rotate_left; (obtain ⟨A0, A1, A2, A3, _, _, _, _⟩ := row_four hS.1; obtain ⟨B0, B1, B2, B3, _, _, _, _⟩ := row_four hS.2.1; obtain ⟨p0, p1, p2⟩ := tcs (HTA.out.below hS.2.2.2.2 hadx); obtain ⟨q0, q1, q2⟩ := tcs (HTB.out.below hS.2.2.2.2 hady); go_simp; try with_reducible rfl); simp only [Act.put, List.setIfInBounds_toArray, List.set_cons_zero, List.set_cons_succ])
          (refine plan_val ?_ rfl rfl rfl (fun w' hS => ?_) ?_; rotate_left; (obtain ⟨A0, A1, A2, A3, _, _, _, _⟩ := row_four hS.1; obtain ⟨B0, B1, B2, B3, _, _, _, _⟩ := row_four hS.2.1; obtain ⟨p0, p1, p2⟩ := tcs (HTA.out.below hS.2.2.2.2 hadx); obtain ⟨q0, q1, q2⟩ := tcs (HTB.out.below hS.2.2.2.2 hady); go_simp; try with_reducible rfl); simp only [Act.put, List.setIfInBounds_toArray, List.set_cons_zero, List.set_cons_succ])
          (refine plan_pure ?_ rfl rfl (fun w' => ?_) ?_; rotate_left; (go_simp; try with_reducible rfl); simp only [Act.put, List.setIfInBounds_toArray, List.set_cons_zero, List.set_cons_succ])
          (refine plan_pure ?_ rfl rfl (fun w' => ?_) ?_; rotate_left; (go_simp; try with_reducible rfl); simp only [Act.put, List.setIfInBounds_toArray, List.set_cons_zero, List.set_cons_succ])
          (refine plan_pure ?_ rfl rfl (fun w' => ?_) ?_; rotate_left; (go_simp; try with_reducible rfl); simp only [Act.put, List.setIfInBounds_toArray, List.set_cons_zero, List.set_cons_succ])
          (refine plan_pure ?_ rfl rfl (fun w' => ?_) ?_; rotate_left; (go_simp; try with_reducible rfl); simp only [Act.put, List.setIfInBounds_toArray, List.set_cons_zero, List.set_cons_succ])
          (refine plan_val ?_ rfl rfl rfl (fun w' hS => ?_) ?_; rotate_left; (obtain ⟨A0, A1, A2, A3, _, _, _, _⟩ := row_four hS.1; obtain ⟨B0, B1, B2, B3, _, _, _, _⟩ := row_four hS.2.1; obtain ⟨p0, p1, p2⟩ := tcs (HTA.out.below hS.2.2.2.2 hadx); obtain ⟨q0, q1, q2⟩ := tcs (HTB.out.below hS.2.2.2.2 hady); go_simp; try with_reducible rfl); simp only [Act.put, List.setIfInBounds_toArray, List.set_cons_zero, List.set_cons_succ])
          (refine plan_val ?_ rfl rfl rfl (fun w' hS => ?_) ?_; rotate_left; (obtain ⟨A0, A1, A2, A3, _, _, _, _⟩ := row_four hS.1; obtain ⟨B0, B1, B2, B3, _, _, _, _⟩ := row_four hS.2.1; obtain ⟨p0, p1, p2⟩ := tcs (HTA.out.below hS.2.2.2.2 hadx); obtain ⟨q0, q1, q2⟩ := tcs (HTB.out.below hS.2.2.2.2 hady); go_simp; try with_reducible rfl); simp only [Act.put, List.setIfInBounds_toArray, List.set_cons_zero, List.set_cons_succ])
          (refine plan_pure ?_ rfl rfl (fun w' => ?_) ?_; rotate_left; (go_simp; try with_reducible rfl); simp only [Act.put, List.setIfInBounds_toArray, List.set_cons_zero, List.set_cons_succ])
          (refine plan_pure ?_ rfl rfl (fun w' => ?_) ?_; rotate_left; (go_simp; try with_reducible rfl); simp only [Act.put, List.setIfInBounds_toArray, List.set_cons_zero, List.set_cons_succ])
          (refine plan_pure ?_ rfl rfl (fun w' => ?_) ?_; rotate_left; (go_simp; try with_reducible rfl); simp only [Act.put, List.setIfInBounds_toArray, List.set_cons_zero, List.set_cons_succ])
          (refine plan_val ?_ rfl rfl rfl (fun w' hS => ?_) ?_; rotate_left; (obtain ⟨A0, A1, A2, A3, _, _, _, _⟩ := row_four hS.1; obtain ⟨B0, B1, B2, B3, _, _, _, _⟩ := row_four hS.2.1; obtain ⟨p0, p1, p2⟩ := tcs (HTA.out.below hS.2.2.2.2 hadx); obtain ⟨q0, q1, q2⟩ := tcs (HTB.out.below hS.2.2.2.2 hady); go_simp; try with_reducible rfl); simp only [Act.put, List.setIfInBounds_toArray, List.set_cons_zero, List.set_cons_succ])
          (refine plan_pure ?_ rfl rfl (fun w' => ?_) ?_; rotate_left; (go_simp; try with_reducible rfl); simp only [Act.put, List.setIfInBounds_toArray, List.set_cons_zero, List.set_cons_succ])
          (refine plan_pure ?_ rfl rfl (fun w' => ?_) ?_; rotate_left; (go_simp; try with_reducible rfl); simp only [Act.put, List.setIfInBounds_toArray, List.set_cons_zero, List.set_cons_succ])
          (refine plan_pure ?_ rfl rfl (fun w' => ?_) ?_; rotate_left; (go_simp; try with_reducible rfl); simp only [Act.put, List.setIfInBounds_toArray, List.set_cons_zero, List.set_cons_succ])
          (refine plan_val ?_ rfl rfl rfl (fun w' hS => ?_) ?_; rotate_left; (obtain ⟨A0, A1, A2, A3, _, _, _, _⟩ := row_four hS.1; obtain ⟨B0, B1, B2, B3, _, _, _, _⟩ := row_four hS.2.1; obtain ⟨p0, p1, p2⟩ := tcs (HTA.out.below hS.2.2.2.2 hadx); obtain ⟨q0, q1, q2⟩ := tcs (HTB.out.below hS.2.2.2.2 hady); go_simp; try with_reducible rfl); simp only [Act.put, List.setIfInBounds_toArray, List.set_cons_zero, List.set_cons_succ])
          (refine plan_pure ?_ rfl rfl (fun w' => ?_) ?_; rotate_left; (go_simp; try with_reducible rfl); simp only [Act.put, List.setIfInBounds_toArray, List.set_cons_zero, List.set_cons_succ])
          (refine plan_val ?_ rfl rfl rfl (fun w' hS => ?_) ?_; rotate_left; (obtain ⟨A0, A1, A2, A3, _, _, _, _⟩ := row_four hS.1; obtain ⟨B0, B1, B2, B3, _, _, _, _⟩ := row_four hS.2.1; obtain ⟨p0, p1, p2⟩ := tcs (HTA.out.below hS.2.2.2.2 hadx); obtain ⟨q0, q1, q2⟩ := tcs (HTB.out.below hS.2.2.2.2 hady); go_simp; try with_reducible rfl); simp only [Act.put, List.setIfInBounds_toArray, List.set_cons_zero, List.set_cons_succ])
          (refine plan_pure ?_ rfl rfl (fun w' => ?_) ?_; rotate_left; (go_simp; try with_reducible rfl); simp only [Act.put, List.setIfInBounds_toArray, List.set_cons_zero, List.set_cons_succ])
          (refine plan_pure ?_ rfl rfl (fun w' => ?_) ?_; rotate_left; (go_simp; try with_reducible rfl); simp only [Act.put, List.setIfInBounds_toArray, List.set_cons_zero, List.set_cons_succ])
          (refine plan_pure ?_ rfl rfl (fun w' => ?_) ?_; rotate_left; (go_simp; try with_reducible rfl); simp only [Act.put, List.setIfInBounds_toArray, List.set_cons_zero, List.set_cons_succ])
          (refine plan_val ?_ rfl rfl rfl (fun w' hS => ?_) ?_; rotate_left; (obtain ⟨A0, A1, A2, A3, _, _, _, _⟩ := row_four hS.1; obtain ⟨B0, B1, B2, B3, _, _, _, _⟩ := row_four hS.2.1; obtain ⟨p0, p1, p2⟩ := tcs (HTA.out.below hS.2.2.2.2 hadx); obtain ⟨q0, q1, q2⟩ := tcs (HTB.out.below hS.2.2.2.2 hady); go_simp; try with_reducible rfl); simp only [Act.put, List.setIfInBounds_toArray, List.set_cons_zero, List.set_cons_succ])
          (refine plan_pure ?_ rfl rfl (fun w' => ?_) ?_; rotate_left; (go_simp; try with_reducible rfl); simp only [Act.put, List.setIfInBounds_toArray, List.set_cons_zero, List.set_cons_succ])
          (refine plan_pure ?_ rfl rfl (fun w' => ?_) ?_; rotate_left; (go_simp; try with_reducible rfl); simp only [Act.put, List.setIfInBounds_toArray, List.set_cons_zero, List.set_cons_succ])
          refine plan_nil ?_
          intro w3 L3
          simp only [List.drop_succ_cons, List.drop_zero]
          try simp only [Act.put, List.setIfInBounds_toArray, List.set_cons_zero, List.set_cons_succ]
          clear LL
          obtain ⟨x3, y3, r3, own3, o3⟩ := L3
          obtain ⟨A0, A1, A2, A3, _, _, _, _⟩ := row_four x3
          obtain ⟨B0, B1, B2, B3, _, _, _, _⟩ := row_four y3
          obtain ⟨p0, p1, p2⟩ := tcs (HTA.out.below o3 hadx)
          obtain ⟨q0, q1, q2⟩ := tcs (HTB.out.below o3 hady)
          go_upto_region 21 with (fail)
          have k1 : Row (w3.alloc (.cells #[.int .i64 yv, .int .i64 yg, .int .i64 yd] 66)) w3.heap.size 66 #[.int .i64 yv, .int .i64 yg, .int .i64 yd] := row_new rfl
          have x4 := row_alloc x3 (.cells #[.int .i64 yv, .int .i64 yg, .int .i64 yd] 66)
          have y4 := row_alloc y3 (.cells #[.int .i64 yv, .int .i64 yg, .int .i64 yd] 66)
          have r4 := row_alloc r3 (.cells #[.int .i64 yv, .int .i64 yg, .int .i64 yd] 66)
          have own4 := own3.alloc (.cells #[.int .i64 yv, .int .i64 yg, .int .i64 yd] 66)
          have o4 := o3.alloc o3.size (.cells #[.int .i64 yv, .int .i64 yg, .int .i64 yd] 66)
          have nt : u8.ownBlock ≠ some w3.heap.size := orow_new own3 (Nat.le_refl _)
          have zt : w.heap.size + 2 < w3.heap.size := row_lt r3
          generalize w3.alloc (.cells #[.int .i64 yv, .int .i64 yg, .int .i64 yd] 66) = w4 at k1 x4 y4 r4 own4 o4 ⊢
          generalize w3.heap.size = tb at k1 nt zt ⊢
          clear x3 y3 r3 own3 o3 A0 A1 A2 A3 B0 B1 B2 B3 p0 p1 p2 q0 q1 q2
          obtain ⟨A0, A1, A2, A3, _, _, _, _⟩ := row_four x4
          obtain ⟨B0, B1, B2, B3, _, _, _, _⟩ := row_four y4
          go_upto_region 22 with (fail)
          clear A0 A1 A2 A3 B0 B1 B2 B3
          have LM : Row w4 tb 66 #[.int .i64 yv, .int .i64 yg, .int .i64 yd] ∧ Row w4 (w.heap.size) 24 #[.int .i64 k, .int .i64 cap, .int .i64 n, .slice (some ad) m c] ∧ Row w4 (w.heap.size + 1) 24 #[.int .i64 k, .int .i64 cap', .int .i64 n', .slice (some ad') m' c'] ∧ Row w4 (w.heap.size + 2) 24 #[.int .i64 0, .int .i64 0, .int .i64 0, .slice none 0 0] ∧ World.ownsRow w4 (w.heap.size + 3) 66 3 u8 N (tcells L) ∧ Below w.heap.size w w4 := ⟨k1, x4, y4, r4, own4, o4⟩
          clear k1 x4 y4 r4 own4 o4
          refine wp_region_free0 [0, 1, 2, 3, 4, 5, 6, 7, 8, 9, 10, 11, 12, 13, 14, 15, 16, 17] [] [0, 1, 2, 3, 4, 5, 6, 7, 8, 9, 10, 11, 12, 13, 14, 15, 16, 17] 18 (fun w' => Row w' tb 66 #[.int .i64 yv, .int .i64 yg, .int .i64 yd] ∧ Row w' (w.heap.size) 24 #[.int .i64 k, .int .i64 cap, .int .i64 n, .slice (some ad) m c] ∧ Row w' (w.heap.size + 1) 24 #[.int .i64 k, .int .i64 cap', .int .i64 n', .slice (some ad') m' c'] ∧ Row w' (w.heap.size + 2) 24 #[.int .i64 0, .int .i64 0, .int .i64 0, .slice none 0 0] ∧ World.ownsRow w' (w.heap.size + 3) 66 3 u8 N (tcells L) ∧ Below w.heap.size w w') (by kernel_rfl) (by kernel_rfl) (fun _ _ d _ _ h => by cases d <;> exact h) ?_ ?_
          · exact ⟨LM.1, LM.2.1, LM.2.2.1, LM.2.2.2.1, LM.2.2.2.2.1, LM.2.2.2.2.2.drew⟩
          (refine plan_pure ?_ rfl rfl (fun w' => ?_) ?_; rotate_left; (go_simp; try with_reducible rfl); simp only [Act.put, List.setIfInBounds_toArray, List.set_cons_zero, List.set_cons_succ])
          (refine plan_val ?_ rfl rfl rfl (fun w' hS => ?_) ?_; rotate_left; (obtain ⟨T0, T1, T2, _, _, _⟩ := row_three hS.1; obtain ⟨A0, A1, A2, A3, _, _, _, _⟩ := row_four hS.2.1; obtain ⟨B0, B1, B2, B3, _, _, _, _⟩ := row_four hS.2.2.1; obtain ⟨p0, p1, p2⟩ := tcs (HTA.out.below hS.2.2.2.2.2 hadx); go_simp; try with_reducible rfl); simp only [Act.put, List.setIfInBounds_toArray, List.set_cons_zero, List.set_cons_succ])
          (refine plan_pure ?_ rfl rfl (fun w' => ?_) ?_; rotate_left; (go_simp; try with_reducible rfl); simp only [Act.put, List.setIfInBounds_toArray, List.set_cons_zero, List.set_cons_succ])
          (refine plan_val ?_ rfl rfl rfl (fun w' hS => ?_) ?_; rotate_left; (obtain ⟨T0, T1, T2, _, _, _⟩ := row_three hS.1; obtain ⟨A0, A1, A2, A3, _, _, _, _⟩ := row_four hS.2.1; obtain ⟨B0, B1, B2, B3, _, _, _, _⟩ := row_four hS.2.2.1; obtain ⟨p0, p1, p2⟩ := tcs (HTA.out.below hS.2.2.2.2.2 hadx); go_simp; try with_reducible rfl); simp only [Act.put, List.setIfInBounds_toArray, List.set_cons_zero, List.set_cons_succ])
          (refine plan_pure ?_ rfl rfl (fun w' => ?_) ?_; rotate_left; (go_simp; try with_reducible rfl); simp only [Act.put, List.setIfInBounds_toArray, List.set_cons_zero, List.set_cons_succ])
          (refine plan_pure ?_ rfl rfl (fun w' => ?_) ?_; rotate_left; (go_simp; try with_reducible rfl); simp only [Act.put, List.setIfInBounds_toArray, List.set_cons_zero, List.set_cons_succ])
          (refine plan_pure ?_ rfl rfl (fun w' => ?_) ?_; rotate_left; (go_simp; try with_reducible rfl); simp only [Act.put, List.setIfInBounds_toArray, List.set_cons_zero, List.set_cons_succ])
          (refine plan_val ?_ rfl rfl rfl (fun w' hS => ?_) ?_; rotate_left; (obtain ⟨T0, T1, T2, _, _, _⟩ := row_three hS.1; obtain ⟨A0, A1, A2, A3, _, _, _, _⟩ := row_four hS.2.1; obtain ⟨B0, B1, B2, B3, _, _, _, _⟩ := row_four hS.2.2.1; obtain ⟨p0, p1, p2⟩ := tcs (HTA.out.below hS.2.2.2.2.2 hadx); go_simp; try with_reducible rfl); simp only [Act.put, List.setIfInBounds_toArray, List.set_cons_zero, List.set_cons_succ])
          (refine plan_pure ?_ rfl rfl (fun w' => ?_) ?_; rotate_left; (go_simp; try with_reducible rfl); simp only [Act.put, List.setIfInBounds_toArray, List.set_cons_zero, List.set_cons_succ])
          (refine plan_val ?_ rfl rfl rfl (fun w' hS => ?_) ?_; rotate_left; (obtain ⟨T0, T1, T2, _, _, _⟩ := row_three hS.1; obtain ⟨A0, A1, A2, A3, _, _, _, _⟩ := row_four hS.2.1; obtain ⟨B0, B1, B2, B3, _, _, _, _⟩ := row_four hS.2.2.1; obtain ⟨p0, p1, p2⟩ := tcs (HTA.out.below hS.2.2.2.2.2 hadx); go_simp; try with_reducible rfl); simp only [Act.put, List.setIfInBounds_toArray, List.set_cons_zero, List.set_cons_succ])
          (refine plan_pure ?_ rfl rfl (fun w' => ?_) ?_; rotate_left; (go_simp; try with_reducible rfl); simp only [Act.put, List.setIfInBounds_toArray, List.set_cons_zero, List.set_cons_succ])
          (refine plan_pure ?_ rfl rfl (fun w' => ?_) ?_; rotate_left; (go_simp; try with_reducible rfl); simp only [Act.put, List.setIfInBounds_toArray, List.set_cons_zero, List.set_cons_succ])
          (refine plan_pure ?_ rfl rfl (fun w' => ?_) ?_; rotate_left; (go_simp; try with_reducible rfl); simp only [Act.put, List.setIfInBounds_toArray, List.set_cons_zero, List.set_cons_succ])
          (refine plan_val ?_ rfl rfl rfl (fun w' hS => ?_) ?_; rotate_left; (obtain ⟨T0, T1, T2, _, _, _⟩ := row_three hS.1; obtain ⟨A0, A1, A2, A3, _, _, _, _⟩ := row_four hS.2.1; obtain ⟨B0, B1, B2, B3, _, _, _, _⟩ := row_four hS.2.2.1; obtain ⟨p0, p1, p2⟩ := tcs (HTA.out.below hS.2.2.2.2.2 hadx); go_simp; try with_reducible rfl); simp only [Act.put, List.setIfInBounds_toArray, List.set_cons_zero, List.set_cons_succ])
          (refine plan_pure ?_ rfl rfl (fun w' => ?_) ?_; rotate_left; (go_simp; try with_reducible rfl); simp only [Act.put, List.setIfInBounds_toArray, List.set_cons_zero, List.set_cons_succ])
          (refine plan_pure ?_ rfl rfl (fun w' => ?_) ?_; rotate_left; (go_simp; try with_reducible rfl); simp only [Act.put, List.setIfInBounds_toArray, List.set_cons_zero, List.set_cons_succ])
          (refine plan_pure ?_ rfl rfl (fun w' => ?_) ?_; rotate_left; (go_simp; try with_reducible rfl); simp only [Act.put, List.setIfInBounds_toArray, List.set_cons_zero, List.set_cons_succ])
          (refine plan_pure ?_ rfl rfl (fun w' => ?_) ?_; rotate_left; (go_simp; try with_reducible rfl); simp only [Act.put, List.setIfInBounds_toArray, List.set_cons_zero, List.set_cons_succ])
          refine plan_nil ?_
          intro w5 L5
          simp only [List.drop_succ_cons, List.drop_zero]
          try simp only [Act.put, List.setIfInBounds_toArray, List.set_cons_zero, List.set_cons_succ]
          clear LM
          obtain ⟨k5, x5, y5, r5, own5, o5⟩ := L5
          obtain ⟨T0, T1, T2, T3, T4, T5⟩ := row_three k5
          go_upto_region 23 with (fail)
          have k6 : Row (w5.setCell ⟨tb, 2, none⟩ (.int .i64 (yd + (xg + xd - 1)))) tb 66 #[.int .i64 yv, .int .i64 yg, .int .i64 (yd + (xg + xd - 1))] := row_set k5 2 _
          have x6 := row_other (p := ⟨tb, 2, none⟩) x5 (by simp; omega) (.int .i64 (yd + (xg + xd - 1)))
          have y6 := row_other (p := ⟨tb, 2, none⟩) y5 (by simp; omega) (.int .i64 (yd + (xg + xd - 1)))
          have r6 := row_other (p := ⟨tb, 2, none⟩) r5 (by simp; omega) (.int .i64 (yd + (xg + xd - 1)))
          have own6 := orow_other (p := ⟨tb, 2, none⟩) own5 nt (.int .i64 (yd + (xg + xd - 1)))
          have o6 := o5.setCell (p := ⟨tb, 2, none⟩) (by simp; omega) (.int .i64 (yd + (xg + xd - 1)))
          generalize w5.setCell ⟨tb, 2, none⟩ (.int .i64 (yd + (xg + xd - 1))) = w6 at k6 x6 y6 r6 own6 o6 ⊢
          clear k5 x5 y5 r5 own5 o5 T0 T1 T2 T3 T4 T5
          obtain ⟨T0, T1, T2, _, _, _⟩ := row_three k6
          have hbl := own6.lt
          have OWN := Lib.hid own6
          have zb := o6.size
          have zq := row_lt r6
          clear own6
          go_wp2_with (first | (at_builtin; refine wpList_push rfl _ _ 22 rfl 66 ii (.agg #[.int .i64 0, .int .i64 0, .int .i64 0]) 3 24 Try.underlying22 hii iz0 iz1 iz2 rfl (by decide) (w.heap.size + 3) u8 N (tcells L) rfl OWN.out #[.int .i64 yv, .int .i64 yg, .int .i64 (yd + (xg + xd - 1))] rfl rfl (by simp [Value.oneCell']) (by unfold maxLen; omega) (by omega) (by omega) ?_; intro g' c4 w8 own8 hg8 hat8 hgr8))
          have L8 : w8.ownsRow (w.heap.size + 3) 66 3 (.slice (some ⟨g', 0, none⟩) (N + 1) c4) (N + 1) (tcells (L ++ [(⟨yv, yg, (yd + (xg + xd - 1))⟩ : Tup)])) := by
            rw [tcells_append]
            exact own8.row hg8
          have x8 := row_grown (row_alloc x6 (.cells #[.int .i64 yv, .int .i64 yg, .int .i64 (yd + (xg + xd - 1))] 66)) hgr8 (fun e => by have := (hbl _ e).1; omega)
          have y8 := row_grown (row_alloc y6 (.cells #[.int .i64 yv, .int .i64 yg, .int .i64 (yd + (xg + xd - 1))] 66)) hgr8 (fun e => by have := (hbl _ e).1; omega)
          have r8 := row_grown (row_alloc r6 (.cells #[.int .i64 yv, .int .i64 yg, .int .i64 (yd + (xg + xd - 1))] 66)) hgr8 (fun e => by have := (hbl _ e).1; omega)
          have o8 := below_grown (o6.alloc zb (.cells #[.int .i64 yv, .int .i64 yg, .int .i64 (yd + (xg + xd - 1))] 66)) hgr8 (fun b e => by have := (hbl b e).1; omega) (by simp; omega)
          clear own8 hgr8 hat8
          go_roundw
          case rel => exact ⟨a, b + 1, N + 1, L ++ [(⟨yv, yg, (yd + (xg + xd - 1))⟩ : Tup)], by omega, by omega, rfl, by go_num, Lib.hid (by rw [HN.out]; omega), by omega, L8, HS2, x8, y8, r8, o8⟩
          case measure => simp [intOf]; omega
      · have hNN : N + 1 ≤ m + m' := by have := HN.out; omega
        have eb : m' = b := by omega
        have EB := Lib.hid eb
        have ne : ((b : Int) == (m' : Int)) = true := by simp; omega
        have nlt : ¬ (b : Int) < (m' : Int) := by omega
        clear eb
        have ST := sat_xe ASA.out (by rw [HL'.out, EB.out]; exact HS.out) (by rw [HL.out]; exact hx)
        have tva := TVA.out a (by omega)
        rw [HL'.out, EB.out] at ST
        generalize tupAt ts a = xt at ht0 ST tva
        obtain ⟨xv, xg, xd⟩ := xt
        unfold TV at tva 
        dsimp only at ST tva 
        have HTA := Lib.hid ht0
        clear ht0
        have HS2 := Lib.hid ST
        clear ST tva 
        go_upto_region 14 with (fail)
        have LL : Row wr (w.heap.size) 24 #[.int .i64 k, .int .i64 cap, .int .i64 n, .slice (some ad) m c] ∧ Row wr (w.heap.size + 1) 24 #[.int .i64 k, .int .i64 cap', .int .i64 n', .slice A' m' c'] ∧ Row wr (w.heap.size + 2) 24 #[.int .i64 0, .int .i64 0, .int .i64 0, .slice none 0 0] ∧ World.ownsRow wr (w.heap.size + 3) 66 3 u8 N (tcells L) ∧ Below w.heap.size w wr := ⟨x0, y0, r0, own, o0⟩
        clear A0 A1 A2 A3 B0 B1 B2 B3 x0 y0 r0 own o0
        refine wp_region_free0 [0, 1, 2, 3, 4, 5, 6, 7, 8, 9, 10, 11, 12, 13, 14, 15, 16, 17, 18, 19, 20, 21, 22, 23, 24, 25] [] [0, 1, 2, 3, 4, 5, 6, 7, 8, 9, 10, 11, 12, 13, 14, 15, 16, 17, 18, 19, 20, 21, 22, 23, 24, 25] 26 (fun w' => Row w' (w.heap.size) 24 #[.int .i64 k, .int .i64 cap, .int .i64 n, .slice (some ad) m c] ∧ Row w' (w.heap.size + 1) 24 #[.int .i64 k, .int .i64 cap', .int .i64 n', .slice A' m' c'] ∧ Row w' (w.heap.size + 2) 24 #[.int .i64 0, .int .i64 0, .int .i64 0, .slice none 0 0] ∧ World.ownsRow w' (w.heap.size + 3) 66 3 u8 N (tcells L) ∧ Below w.heap.size w w') (by kernel_rfl) (by kernel_rfl) (fun _ _ d _ _ h => by cases d <;> exact h) ?_ ?_
        · exact ⟨LL.1, LL.2.1, LL.2.2.1, LL.2.2.2.1, LL.2.2.2.2.drew⟩
        (refine plan_pure ?_ rfl rfl (fun w' => ?_) ?_; rotate_left; (go_simp; try with_reducible rfl); simp only [Act.put, List.setIfInBounds_toArray, List.set_cons_zero, List.set_cons_succ])
        (refine plan_pure ?_ rfl rfl (fun w' => ?_) ?_; rotate_left; (go_simp; try with_reducible rfl); simp only [Act.put, List.setIfInBounds_toArray, List.set_cons_zero, List.set_cons_succ])
        (refine plan_val ?_ rfl rfl rfl (fun w' hS => ?_) ?_; rotate_left; (obtain ⟨A0, A1, A2, A3, _, _, _, _⟩ := row_four hS.1; obtain ⟨B0, B1, B2, B3, _, _, _, _⟩ := row_four hS.2.1; obtain ⟨p0, p1, p2⟩ := tcs (HTA.out.below hS.2.2.2.2 hadx); go_simp; try with_reducible rfl); simp only [Act.put, List.setIfInBounds_toArray, List.set_cons_zero, List.set_cons_succ])
        (refine plan_val ?_ rfl rfl rfl (fun w' hS => ?_) ?_; rotate_left; (obtain ⟨A0, A1, A2, A3, _, _, _, _⟩ := row_four hS.1; obtain ⟨B0, B1, B2, B3, _, _, _, _⟩ := row_four hS.2.1; obtain ⟨p0, p1, p2⟩ := tcs (HTA.out.below hS.2.2.2.2 hadx); go_simp; try with_reducible rfl); simp only [Act.put, List.setIfInBounds_toArray, List.set_cons_zero, List.set_cons_succ])
        (refine plan_pure ?_ rfl rfl (fun w' => ?_) ?_; rotate_left; (go_simp; try with_reducible rfl); simp only [Act.put, List.setIfInBounds_toArray, List.set_cons_zero, List.set_cons_succ])
        (refine plan_pure ?_ rfl rfl (fun w' => ?_) ?_; rotate_left; (go_simp; try with_reducible rfl); simp only [Act.put, List.setIfInBounds_toArray, List.set_cons_zero, List.set_cons_succ])
        refine plan_not rfl rfl ?_
        simp only [Act.put, List.setIfInBounds_toArray, List.set_cons_zero, List.set_cons_succ]
        refine plan_not rfl rfl ?_
        simp only [Act.put, List.setIfInBounds_toArray, List.set_cons_zero, List.set_cons_succ]
        refine plan_not rfl rfl ?_
        simp only [Act.put, List.setIfInBounds_toArray, List.set_cons_zero, List.set_cons_succ]
        refine plan_not rfl rfl ?_
        simp only [Act.put, List.setIfInBounds_toArray, List.set_cons_zero, List.set_cons_succ]
        refine plan_not rfl rfl ?_
        simp only [Act.put, List.setIfInBounds_toArray, List.set_cons_zero, List.set_cons_succ]
        refine plan_not rfl rfl ?_
        simp only [Act.put, List.setIfInBounds_toArray, List.set_cons_zero, List.set_cons_succ]
        refine plan_not rfl rfl ?_
        simp only [Act.put, List.setIfInBounds_toArray, List.set_cons_zero, List.set_cons_succ]
        refine plan_not rfl rfl ?_
        simp only [Act.put, List.setIfInBounds_toArray, List.set_cons_zero, List.set_cons_succ]
        refine plan_not rfl rfl ?_
        simp only [Act.put, List.setIfInBounds_toArray, List.set_cons_zero, List.set_cons_succ]
        refine plan_not rfl rfl ?_
        simp only [Act.put, List.setIfInBounds_toArray, List.set_cons_zero, List.set_cons_succ]
        refine plan_not rfl rfl ?_
        simp only [Act.put, List.setIfInBounds_toArray, List.set_cons_zero, List.set_cons_succ]
        refine plan_not rfl rfl ?_
        simp only [Act.put, List.setIfInBounds_toArray, List.set_cons_zero, List.set_cons_succ]
        refine plan_not rfl rfl ?_
        simp only [Act.put, List.setIfInBounds_toArray, List.set_cons_zero, List.set_cons_succ]
        refine plan_not rfl rfl ?_
        simp only [Act.put, List.setIfInBounds_toArray, List.set_cons_zero, List.set_cons_succ]
        refine plan_not rfl rfl ?_
        simp only [Act.put, List.setIfInBounds_toArray, List.set_cons_zero, List.set_cons_succ]
        refine plan_not rfl rfl ?_
        simp only [Act.put, List.setIfInBounds_toArray, List.set_cons_zero, List.set_cons_succ]
        refine plan_not rfl rfl ?_
        simp only [Act.put, List.setIfInBounds_toArray, List.set_cons_zero, List.set_cons_succ]
        refine plan_not rfl rfl ?_
        simp only [Act.put, List.setIfInBounds_toArray, List.set_cons_zero, List.set_cons_succ]
        refine plan_not rfl rfl ?_
        simp only [Act.put, List.setIfInBounds_toArray, List.set_cons_zero, List.set_cons_succ]
        refine plan_not rfl rfl ?_
        simp only [Act.put, List.setIfInBounds_toArray, List.set_cons_zero, List.set_cons_succ]
        refine plan_nil ?_
        intro w3 L3
        simp only [List.drop_succ_cons, List.drop_zero]
        try simp only [Act.put, List.setIfInBounds_toArray, List.set_cons_zero, List.set_cons_succ]
        clear LL
        obtain ⟨x3, y3, r3, own3, o3⟩ := L3
        obtain ⟨A0, A1, A2, A3, _, _, _, _⟩ := row_four x3
        obtain ⟨B0, B1, B2, B3, _, _, _, _⟩ := row_four y3
        obtain ⟨p0, p1, p2⟩ := tcs (HTA.out.below o3 hadx)
        go_upto_region 16 with (fail)
        have k1 : Row (w3.alloc (.cells #[.int .i64 xv, .int .i64 xg, .int .i64 xd] 66)) w3.heap.size 66 #[.int .i64 xv, .int .i64 xg, .int .i64 xd] := row_new rfl
        have x4 := row_alloc x3 (.cells #[.int .i64 xv, .int .i64 xg, .int .i64 xd] 66)
        have y4 := row_alloc y3 (.cells #[.int .i64 xv, .int .i64 xg, .int .i64 xd] 66)
        have r4 := row_alloc r3 (.cells #[.int .i64 xv, .int .i64 xg, .int .i64 xd] 66)
        have own4 := own3.alloc (.cells #[.int .i64 xv, .int .i64 xg, .int .i64 xd] 66)
        have o4 := o3.alloc o3.size (.cells #[.int .i64 xv, .int .i64 xg, .int .i64 xd] 66)
        have nt : u8.ownBlock ≠ some w3.heap.size := orow_new own3 (Nat.le_refl _)
        have zt : w.heap.size + 2 < w3.heap.size := row_lt r3
        generalize w3.alloc (.cells #[.int .i64 xv, .int .i64 xg, .int .i64 xd] 66) = w4 at k1 x4 y4 r4 own4 o4 ⊢
        generalize w3.heap.size = tb at k1 nt zt ⊢
        clear x3 y3 r3 own3 o3 A0 A1 A2 A3 B0 B1 B2 B3 p0 p1 p2
        obtain ⟨A0, A1, A2, A3, _, _, _, _⟩ := row_four x4
        obtain ⟨B0, B1, B2, B3, _, _, _, _⟩ := row_four y4
        go_upto_region 18 with (fail)
        clear A0 A1 A2 A3 B0 B1 B2 B3
        obtain ⟨T0, T1, T2, _, _, _⟩ := row_three k1
        have hbl := own4.lt
        have OWN := Lib.hid own4
        have zb := o4.size
        have zq := row_lt r4
        clear own4
        go_wp2_with (first | (at_builtin; refine wpList_push rfl _ _ 22 rfl 66 ii (.agg #[.int .i64 0, .int .i64 0, .int .i64 0]) 3 24 Try.underlying22 hii iz0 iz1 iz2 rfl (by decide) (w.heap.size + 3) u8 N (tcells L) rfl OWN.out #[.int .i64 xv, .int .i64 xg, .int .i64 xd] rfl rfl (by simp [Value.oneCell']) (by unfold maxLen; omega) (by omega) (by omega) ?_; intro g' c4 w8 own8 hg8 hat8 hgr8))
        have L8 : w8.ownsRow (w.heap.size + 3) 66 3 (.slice (some ⟨g', 0, none⟩) (N + 1) c4) (N + 1) (tcells (L ++ [(⟨xv, xg, xd⟩ : Tup)])) := by
          rw [tcells_append]
          exact own8.row hg8
        have x8 := row_grown (row_alloc x4 (.cells #[.int .i64 xv, .int .i64 xg, .int .i64 xd] 66)) hgr8 (fun e => by have := (hbl _ e).1; omega)
        have y8 := row_grown (row_alloc y4 (.cells #[.int .i64 xv, .int .i64 xg, .int .i64 xd] 66)) hgr8 (fun e => by have := (hbl _ e).1; omega)
        have r8 := row_grown (row_alloc r4 (.cells #[.int .i64 xv, .int .i64 xg, .int .i64 xd] 66)) hgr8 (fun e => by have := (hbl _ e).1; omega)
        have o8 := below_grown (o4.alloc zb (.cells #[.int .i64 xv, .int .i64 xg, .int .i64 xd] 66)) hgr8 (fun b e => by have := (hbl b e).1; omega) (by simp; omega)
        clear own8 hgr8 hat8
        go_roundw
        case rel => exact ⟨a + 1, b, N + 1, L ++ [(⟨xv, xg, xd⟩ : Tup)], by omega, by omega, by go_num, rfl, Lib.hid (by rw [HN.out]; omega), by omega, L8, HS2, x8, y8, r8, o8⟩
        case measure => simp [intOf]; omega
    · have i1 : ¬ (a : Int) < (m : Int) := by omega
      have ea : m = a := by omega
      have EA := Lib.hid ea
      clear ea
      by_cases hy : b < m'
      · have i2 : (b : Int) < (m' : Int) := by omega
        have hNN : N + 1 ≤ m + m' := by have := HN.out; omega
        have ne : ((b : Int) == (m' : Int)) = false := by simp; omega
        obtain ⟨ad', rfl, hadb', ht1⟩ := HR'.out.reads.tup hy
        have hady : (ad'.add (b * 3)).block < w.heap.size := by rw [block_of_add]; exact hadb'
        have ST := sat_ye ASB.out (by rw [HL.out, EA.out]; exact HS.out) (by rw [HL'.out]; exact hy)
        have tvb := TVB.out b (by omega)
        rw [HL.out, EA.out] at ST
        generalize tupAt ts' b = yt at ht1 ST tvb
        obtain ⟨yv, yg, yd⟩ := yt
        unfold TV at tvb
        dsimp only at ST tvb 
        have HTB := Lib.hid ht1
        clear ht1
        have HS2 := Lib.hid ST
        clear ST tvb
        go_upto_region 14 with (fail)
        have LL : Row wr (w.heap.size) 24 #[.int .i64 k, .int .i64 cap, .int .i64 n, .slice A m c] ∧ Row wr (w.heap.size + 1) 24 #[.int .i64 k, .int .i64 cap', .int .i64 n', .slice (some ad') m' c'] ∧ Row wr (w.heap.size + 2) 24 #[.int .i64 0, .int .i64 0, .int .i64 0, .slice none 0 0] ∧ World.ownsRow wr (w.heap.size + 3) 66 3 u8 N (tcells L) ∧ Below w.heap.size w wr := ⟨x0, y0, r0, own, o0⟩
        clear A0 A1 A2 A3 B0 B1 B2 B3 x0 y0 r0 own o0
        refine wp_region_free0 [0, 1, 2, 3, 4, 5, 6, 7, 8, 9, 10, 11, 12, 13, 14, 15, 16, 17, 18, 19, 20, 21, 22, 23, 24, 25] [] [0, 1, 2, 3, 4, 5, 6, 7, 8, 9, 10, 11, 12, 13, 14, 15, 16, 17, 18, 19, 20, 21, 22, 23, 24, 25] 26 (fun w' => Row w' (w.heap.size) 24 #[.int .i64 k, .int .i64 cap, .int .i64 n, .slice A m c] ∧ Row w' (w.heap.size + 1) 24 #[.int .i64 k, .int .i64 cap', .int .i64 n', .slice (some ad') m' c'] ∧ Row w' (w.heap.size + 2) 24 #[.int .i64 0, .int .i64 0, .int .i64 0, .slice none 0 0] ∧ World.ownsRow w' (w.heap.size + 3) 66 3 u8 N (tcells L) ∧ Below w.heap.size w w') (by kernel_rfl) (by kernel_rfl) (fun _ _ d _ _ h => by cases d <;> exact h) ?_ ?_
        · exact ⟨LL.1, LL.2.1, LL.2.2.1, LL.2.2.2.1, LL.2.2.2.2.drew⟩
        (refine plan_pure ?_ rfl rfl (fun w' => ?_) ?_; rotate_left; (go_simp; try with_reducible rfl); simp only [Act.put, List.setIfInBounds_toArray, List.set_cons_zero, List.set_cons_succ])
        (refine plan_pure ?_ rfl rfl (fun w' => ?_) ?_; rotate_left; (go_simp; try with_reducible rfl); simp only [Act.put, List.setIfInBounds_toArray, List.set_cons_zero, List.set_cons_succ])
        (refine plan_val ?_ rfl rfl rfl (fun w' hS => ?_) ?_; rotate_left; (obtain ⟨A0, A1, A2, A3, _, _, _, _⟩ := row_four hS.1; obtain ⟨B0, B1, B2, B3, _, _, _, _⟩ := row_four hS.2.1; obtain ⟨q0, q1, q2⟩ := tcs (HTB.out.below hS.2.2.2.2 hady); go_simp; try with_reducible rfl); simp only [Act.put, List.setIfInBounds_toArray, List.set_cons_zero, List.set_cons_succ])
        (refine plan_val ?_ rfl rfl rfl (fun w' hS => ?_) ?_; rotate_left; (obtain ⟨A0, A1, A2, A3, _, _, _, _⟩ := row_four hS.1; obtain ⟨B0, B1, B2, B3, _, _, _, _⟩ := row_four hS.2.1; obtain ⟨q0, q1, q2⟩ := tcs (HTB.out.below hS.2.2.2.2 hady); go_simp; try with_reducible rfl); simp only [Act.put, List.setIfInBounds_toArray, List.set_cons_zero, List.set_cons_succ])
        (refine plan_pure ?_ rfl rfl (fun w' => ?_) ?_; rotate_left; (go_simp; try with_reducible rfl); simp only [Act.put, List.setIfInBounds_toArray, List.set_cons_zero, List.set_cons_succ])
        (refine plan_pure ?_ rfl rfl (fun w' => ?_) ?_; rotate_left; (go_simp; try with_reducible rfl); simp only [Act.put, List.setIfInBounds_toArray, List.set_cons_zero, List.set_cons_succ])
        (refine plan_pure ?_ rfl rfl (fun w' => ?_) ?_; rotate_left; (go_simp; try with_reducible rfl); simp only [Act.put, List.setIfInBounds_toArray, List.set_cons_zero, List.set_cons_succ])
        (refine plan_pure ?_ rfl rfl (fun w' => ?_) ?_; rotate_left; (go_simp; try with_reducible rfl); simp only [Act.put, List.setIfInBounds_toArray, List.set_cons_zero, List.set_cons_succ])
        (refine plan_val ?_ rfl rfl rfl (fun w' hS => ?_) ?_; rotate_left; (obtain ⟨A0, A1, A2, A3, _, _, _, _⟩ := row_four hS.1; obtain ⟨B0, B1, B2, B3, _, _, _, _⟩ := row_four hS.2.1; obtain ⟨q0, q1, q2⟩ := tcs (HTB.out.below hS.2.2.2.2 hady); go_simp; try with_reducible rfl); simp only [Act.put, List.setIfInBounds_toArray, List.set_cons_zero, List.set_cons_succ])
        (refine plan_val ?_ rfl rfl rfl (fun w' hS => ?_) ?_; rotate_left; (obtain ⟨A0, A1, A2, A3, _, _, _, _⟩ := row_four hS.1; obtain ⟨B0, B1, B2, B3, _, _, _, _⟩ := row_four hS.2.1; obtain ⟨q0, q1, q2⟩ := tcs (HTB.out.below hS.2.2.2.2 hady); go_simp; try with_reducible rfl); simp only [Act.put, List.setIfInBounds_toArray, List.set_cons_zero, List.set_cons_succ])
        (refine plan_pure ?_ rfl rfl (fun w' => ?_) ?_; rotate_left; (go_simp; try with_reducible rfl); simp only [Act.put, List.setIfInBounds_toArray, List.set_cons_zero, List.set_cons_succ])
        (refine plan_pure ?_ rfl rfl (fun w' => ?_) ?_; rotate_left; (go_simp; try with_reducible rfl); simp only [Act.put, List.setIfInBounds_toArray, List.set_cons_zero, List.set_cons_succ])
        refine plan_not rfl rfl ?_
        simp only [Act.put, List.setIfInBounds_toArray, List.set_cons_zero, List.set_cons_succ]
        refine plan_not rfl rfl ?_
        simp only [Act.put, List.setIfInBounds_toArray, List.set_cons_zero, List.set_cons_succ]
        refine plan_not rfl rfl ?_
        simp only [Act.put, List.setIfInBounds_toArray, List.set_cons_zero, List.set_cons_succ]
        refine plan_not rfl rfl ?_
        simp only [Act.put, List.setIfInBounds_toArray, List.set_cons_zero, List.set_cons_succ]
        refine plan_not rfl rfl ?_
        simp only [Act.put, List.setIfInBounds_toArray, List.set_cons_zero, List.set_cons_succ]
        refine plan_not rfl rfl ?_
        simp only [Act.put, List.setIfInBounds_toArray, List.set_cons_zero, List.set_cons_succ]
        refine plan_not rfl rfl ?_
        simp only [Act.put, List.setIfInBounds_toArray, List.set_cons_zero, List.set_cons_succ]
        refine plan_not rfl rfl ?_
        simp only [Act.put, List.setIfInBounds_toArray, List.set_cons_zero, List.set_cons_succ]
        refine plan_not rfl rfl ?_
        simp only [Act.put, List.setIfInBounds_toArray, List.set_cons_zero, List.set_cons_succ]
        refine plan_not rfl rfl ?_
        simp only [Act.put, List.setIfInBounds_toArray, List.set_cons_zero, List.set_cons_succ]
        refine plan_not rfl rfl ?_
        simp only [Act.put, List.setIfInBounds_toArray, List.set_cons_zero, List.set_cons_succ]
        refine plan_not rfl rfl ?_
        simp only [Act.put, List.setIfInBounds_toArray, List.set_cons_zero, List.set_cons_succ]
        refine plan_not rfl rfl ?_
        simp only [Act.put, List.setIfInBounds_toArray, List.set_cons_zero, List.set_cons_succ]
        (refine plan_pure ?_ rfl rfl (fun w' => ?_) ?_; rotate_left; (go_simp; try with_reducible rfl); simp only [Act.put, List.setIfInBounds_toArray, List.set_cons_zero, List.set_cons_succ])
        refine plan_nil ?_
        intro w3 L3
        simp only [List.drop_succ_cons, List.drop_zero]
        try simp only [Act.put, List.setIfInBounds_toArray, List.set_cons_zero, List.set_cons_succ]
        clear LL
        obtain ⟨x3, y3, r3, own3, o3⟩ := L3
        obtain ⟨A0, A1, A2, A3, _, _, _, _⟩ := row_four x3
        obtain ⟨B0, B1, B2, B3, _, _, _, _⟩ := row_four y3
        obtain ⟨q0, q1, q2⟩ := tcs (HTB.out.below o3 hady)
        go_upto_region 21 with (fail)
        have k1 : Row (w3.alloc (.cells #[.int .i64 yv, .int .i64 yg, .int .i64 yd] 66)) w3.heap.size 66 #[.int .i64 yv, .int .i64 yg, .int .i64 yd] := row_new rfl
        have x4 := row_alloc x3 (.cells #[.int .i64 yv, .int .i64 yg, .int .i64 yd] 66)
        have y4 := row_alloc y3 (.cells #[.int .i64 yv, .int .i64 yg, .int .i64 yd] 66)
        have r4 := row_alloc r3 (.cells #[.int .i64 yv, .int .i64 yg, .int .i64 yd] 66)
        have own4 := own3.alloc (.cells #[.int .i64 yv, .int .i64 yg, .int .i64 yd] 66)
        have o4 := o3.alloc o3.size (.cells #[.int .i64 yv, .int .i64 yg, .int .i64 yd] 66)
        have nt : u8.ownBlock ≠ some w3.heap.size := orow_new own3 (Nat.le_refl _)
        have zt : w.heap.size + 2 < w3.heap.size := row_lt r3
        generalize w3.alloc (.cells #[.int .i64 yv, .int .i64 yg, .int .i64 yd] 66) = w4 at k1 x4 y4 r4 own4 o4 ⊢
        generalize w3.heap.size = tb at k1 nt zt ⊢
        clear x3 y3 r3 own3 o3 A0 A1 A2 A3 B0 B1 B2 B3 q0 q1 q2
        obtain ⟨A0, A1, A2, A3, _, _, _, _⟩ := row_four x4
        obtain ⟨B0, B1, B2, B3, _, _, _, _⟩ := row_four y4
        go_upto_region 23 with (fail)
        clear A0 A1 A2 A3 B0 B1 B2 B3
        obtain ⟨T0, T1, T2, _, _, _⟩ := row_three k1
        have hbl := own4.lt
        have OWN := Lib.hid own4
        have zb := o4.size
        have zq := row_lt r4
        clear own4
        go_wp2_with (first | (at_builtin; refine wpList_push rfl _ _ 22 rfl 66 ii (.agg #[.int .i64 0, .int .i64 0, .int .i64 0]) 3 24 Try.underlying22 hii iz0 iz1 iz2 rfl (by decide) (w.heap.size + 3) u8 N (tcells L) rfl OWN.out #[.int .i64 yv, .int .i64 yg, .int .i64 yd] rfl rfl (by simp [Value.oneCell']) (by unfold maxLen; omega) (by omega) (by omega) ?_; intro g' c4 w8 own8 hg8 hat8 hgr8))
        have L8 : w8.ownsRow (w.heap.size + 3) 66 3 (.slice (some ⟨g', 0, none⟩) (N + 1) c4) (N + 1) (tcells (L ++ [(⟨yv, yg, yd⟩ : Tup)])) := by
          rw [tcells_append]
          exact own8.row hg8
        have x8 := row_grown (row_alloc x4 (.cells #[.int .i64 yv, .int .i64 yg, .int .i64 yd] 66)) hgr8 (fun e => by have := (hbl _ e).1; omega)
        have y8 := row_grown (row_alloc y4 (.cells #[.int .i64 yv, .int .i64 yg, .int .i64 yd] 66)) hgr8 (fun e => by have := (hbl _ e).1; omega)
        have r8 := row_grown (row_alloc r4 (.cells #[.int .i64 yv, .int .i64 yg, .int .i64 yd] 66)) hgr8 (fun e => by have := (hbl _ e).1; omega)
        have o8 := below_grown (o4.alloc zb (.cells #[.int .i64 yv, .int .i64 yg, .int .i64 yd] 66)) hgr8 (fun b e => by have := (hbl b e).1; omega) (by simp; omega)
        clear own8 hgr8 hat8
        go_roundw
        case rel => exact ⟨a, b + 1, N + 1, L ++ [(⟨yv, yg, yd⟩ : Tup)], by omega, by omega, rfl, by go_num, Lib.hid (by rw [HN.out]; omega), by omega, L8, HS2, x8, y8, r8, o8⟩
        case measure => simp [intOf]; omega
      · have i2 : ¬ (b : Int) < (m' : Int) := by omega
        have hE := sat_end HS.out (by rw [HL.out]; exact Nat.le_of_eq EA.out) (by rw [HL'.out]; omega)
        have TBS := TBM.out
        have hr := HRES.out
        rw [hE] at TBS hr
        have HRES2 := Lib.hid hr
        have TBS := Lib.hid TBS
        clear hE hr HRES TBM
        go_upto_region 26 with (fail)
        rw [HMX.out]
        have k1 : Row (wr.alloc (.cells #[.int .i64 k, .int .i64 CM, .int .i64 (n + n'), .slice none 0 0] 24)) wr.heap.size 24 #[.int .i64 k, .int .i64 CM, .int .i64 (n + n'), .slice none 0 0] := row_new rfl
        have r4 := row_alloc r0 (.cells #[.int .i64 k, .int .i64 CM, .int .i64 (n + n'), .slice none 0 0] 24)
        have own4 := own.alloc (.cells #[.int .i64 k, .int .i64 CM, .int .i64 (n + n'), .slice none 0 0] 24)
        have o4 := o0.alloc o0.size (.cells #[.int .i64 k, .int .i64 CM, .int .i64 (n + n'), .slice none 0 0] 24)
        have zq := row_lt r0
        have nt : u8.ownBlock ≠ some wr.heap.size := orow_new own (Nat.le_refl _)
        have zk := row_lt k1
        generalize wr.alloc (.cells #[.int .i64 k, .int .i64 CM, .int .i64 (n + n'), .slice none 0 0] 24) = w4 at k1 r4 own4 o4 zk ⊢
        generalize wr.heap.size = ob at k1 nt zq zk ⊢
        clear x0 y0 r0 own o0 A0 A1 A2 A3 B0 B1 B2 B3
        obtain ⟨A9, c9, rfl, rd9, mc9, cb9, fr9⟩ := orow_forms own4
        have fo : ∀ ad, A9 = some ad → ad.block ≠ ob := fun ad e h => nt (by rw [e]; simp [Value.ownBlock, h])
        have SI9 := Lib.hid (show SIn k CM (n + n') A9 N c9 L w4 from ⟨rd9, by omega, by omega, by omega, fun i => T64.of (TB_at (by decide) TBS.out i) (by decide), mc9, cb9⟩)
        have ll := rd9.tup_len
        have HSL2 := Lib.hid ll
        clear rd9 ll
        have NB : N ≤ 131072 := by omega
        have PM := fun w1 => pmost (n + n') k (by omega) hn k0 w1
        have M1 := smost_pos (n := n + n') (k := k)
        have M2 := smost_small (n := n + n') (k := k) (by omega) hn k0
        have F0 := Lib.hid (fun (h : (L.length : Int) ≤ CM) => sfit_short (k := k) (n := n + n') h)
        have F1 := Lib.hid (fun (h : CM < (L.length : Int)) (h2 : ((comp (smost (n + n') k) L).length : Int) ≤ CM) => sfit_comp (k := k) (n := n + n') h h2)
        have F2 := Lib.hid (fun (h : CM < (L.length : Int)) (h2 : CM < ((comp (smost (n + n') k) L).length : Int)) => sfit_full (k := k) (n := n + n') h h2)
        generalize smost (n + n') k = M at PM M1 M2 F1 F2
        have PM := Lib.hid PM
        have TBC := Lib.hid (comp_TB (m := M) (by omega) TBS.out)
        obtain ⟨D0, D1, D2, D3, D4, D5, D6, D7⟩ := row_four k1
        obtain ⟨R0, R1, R2, R3, R4, R5, R6, R7⟩ := row_four r4
        by_cases hc : (N : Int) ≤ CM
        · have E := F0.out (by rw [HSL2.out]; exact hc)
          have t1 : ¬ CM < (N : Int) := by omega
          go_wp2
          have sx := (SI9.out.other (p := ⟨ob, 3, none⟩) fo (.slice A9 N c9)).row (b := w.heap.size + 2) (fun a e => by have := (fr9 a e).1; omega) (.int .i64 k) (.int .i64 CM) (.int .i64 (n + n')) (.slice A9 N c9)
          have ob2 : Below w.heap.size w ((((((w4).setCell ⟨ob, 3, none⟩ (.slice A9 N c9)).setCell ⟨w.heap.size + 2, 0, none⟩ (.int .i64 k)).setCell ⟨w.heap.size + 2, 1, none⟩ (.int .i64 CM)).setCell ⟨w.heap.size + 2, 2, none⟩ (.int .i64 (n + n'))).setCell ⟨w.heap.size + 2, 3, none⟩ (.slice A9 N c9)) := by
            (repeat (first | exact Below.refl _ _ | refine Below.setCell ?_ (by first | (simp; done) | (simp; omega) | omega) _ | refine Below.alloc ?_ (by first | (simp; done) | (simp; omega) | omega) _ | refine Below.drew ?_ | refine Below.trans ?_ (Below.mono (by assumption) (by first | (simp; done) | (simp; omega) | omega))))
          exact bodyPost_ret (v := .tuple #[.agg #[.int .i64 k, .int .i64 CM, .int .i64 (n + n'), .slice A9 N c9], .int .i64 0]) (by simp [results, Try.results23, go_sem, D0, D1, D2, D3, R0, R1, R2, R3]) rfl (by rw [← HRES2.out, E]; exact ⟨A9, N, c9, rfl, sx, ob2, fun a e => by have := fr9 a e; exact ⟨by omega, by simp; omega⟩⟩)
        · have t1 : CM < (N : Int) := by omega
          obtain ⟨g, c2, hv, hg, hgl⟩ := own4.form (by omega)
          simp only [Value.slice.injEq] at hv
          obtain ⟨rfl, _, rfl⟩ := hv
          have ownO := (own_of_row own4).1
          have PC := Lib.hid (pcompressA M g N c9 L w4 ownO TBS.out (by omega) (by omega) (by omega))
          have ngo : g ≠ ob := fo _ rfl
          clear own4 fr9 SI9 nt fo hc
          go_upto_region 28 with (first | (go_at_call 36; refine (PM.out _).mono ?_; rintro e w10 ⟨rfl, h9⟩; obtain rfl := h9.symm) | (go_at_call 35; refine PC.out.mono ?_; rintro e w10 ⟨g9, L9, c8, rfl, own10, hg9, hq9, hba⟩))
          have k1 := row_apart k1 hba.2 (fun e => ngo e.symm)
          have r4 := row_apart r4 hba.2 (by omega)
          have o10 := o4.trans (hba.1.mono (by omega))
          have l10 := own10.tlen
          have ne2 : g9 ≠ ob := by rcases hq9 with h | h <;> omega
          clear D0 D1 D2 D3 D4 D5 D6 D7 R0 R1 R2 R3 R4 R5 R6 R7 o4 hba hq9
          obtain ⟨D0, D1, D2, D3, D4, D5, D6, D7⟩ := row_four k1
          obtain ⟨R0, R1, R2, R3, R4, R5, R6, R7⟩ := row_four r4
          have ne3 : g9 ≠ w.heap.size + 2 := by omega
          by_cases hd : (L9 : Int) ≤ CM
          · have E := F1.out (by rw [HSL2.out]; exact t1) (by rw [l10]; exact hd)
            have t2 : ¬ CM < (L9 : Int) := by omega
            generalize comp M L = cl at own10 TBC E
            go_wp2
            have ow : Own ((((((w10).setCell ⟨ob, 3, none⟩ (.slice (some ⟨g9, 0, none⟩) L9 c8)).setCell ⟨w.heap.size + 2, 0, none⟩ (.int .i64 k)).setCell ⟨w.heap.size + 2, 1, none⟩ (.int .i64 CM)).setCell ⟨w.heap.size + 2, 2, none⟩ (.int .i64 (n + n'))).setCell ⟨w.heap.size + 2, 3, none⟩ (.slice (some ⟨g9, 0, none⟩) L9 c8)) 66 3 g9 L9 c8 (tcells cl) :=
              ((((own10.other (by simp; omega) _).other (by simp; omega) _).other (by simp; omega) _).other (by simp; omega) _).other (by simp; omega) _
            have ob2 : Below w.heap.size w ((((((w10).setCell ⟨ob, 3, none⟩ (.slice (some ⟨g9, 0, none⟩) L9 c8)).setCell ⟨w.heap.size + 2, 0, none⟩ (.int .i64 k)).setCell ⟨w.heap.size + 2, 1, none⟩ (.int .i64 CM)).setCell ⟨w.heap.size + 2, 2, none⟩ (.int .i64 (n + n'))).setCell ⟨w.heap.size + 2, 3, none⟩ (.slice (some ⟨g9, 0, none⟩) L9 c8)) := by
              (repeat (first | exact Below.refl _ _ | refine Below.setCell ?_ (by first | (simp; done) | (simp; omega) | omega) _ | refine Below.alloc ?_ (by first | (simp; done) | (simp; omega) | omega) _ | refine Below.drew ?_ | refine Below.trans ?_ (Below.mono (by assumption) (by first | (simp; done) | (simp; omega) | omega))))
            exact bodyPost_ret (v := .tuple #[.agg #[.int .i64 k, .int .i64 CM, .int .i64 (n + n'), .slice (some ⟨g9, 0, none⟩) L9 c8], .int .i64 0]) (by simp [results, Try.results23, go_sem, D0, D1, D2, D3, R0, R1, R2, R3]) rfl (by rw [← HRES2.out, E]; exact sret_own ow (by omega) (by omega) (by omega) TBC.out ob2 (by omega))
          · have E := F2.out (by rw [HSL2.out]; exact t1) (by rw [l10]; omega)
            have t2 : CM < (L9 : Int) := by omega
            go_wp2
            exact bodyPost_ret (v := .tuple #[.agg #[.int .i64 0, .int .i64 0, .int .i64 0, .slice none 0 0], .int .i64 5]) (by simp [results, Try.results23, go_sem, R0, R1, R2, R3]) rfl (by rw [← HRES2.out, E]; exact sret_zero (by (repeat (first | exact Below.refl _ _ | refine Below.setCell ?_ (by first | (simp; done) | (simp; omega) | omega) _ | refine Below.alloc ?_ (by first | (simp; done) | (simp; omega) | omega) _ | refine Below.drew ?_ | refine Below.trans ?_ (Below.mono (by assumption) (by first | (simp; done) | (simp; omega) | omega))))))
theorem pmerge (k cap n : Int) (A : Option Addr) (m c : Nat) (ts : List Tup) (k' cap' n' : Int) (A' : Option Addr) (m' c' : Nat) (ts' : List Tup) (w : World) (hin : SIn k cap n A m c ts w) (hin' : SIn k' cap' n' A' m' c' ts' w) : Calls Try.prog 23 #[.agg #[.int .i64 k, .int .i64 cap, .int .i64 n, .slice A m c], .agg #[.int .i64 k', .int .i64 cap', .int .i64 n', .slice A' m' c']] w fun e w' => SRet (smerge k cap n ts k' cap' n' ts') w e w' := by
  rcases svalE_two (k := k) (cap := cap) (n := n) (ts := ts) with hv | hv
  · rcases svalE_two (k := k') (cap := cap') (n := n') (ts := ts') with hv' | hv'
    · by_cases hk : k = k'
      · by_cases h2 : 1099511627776 < n + n'
        · exact pmerge_full k cap n A m c ts k' cap' n' A' m' c' ts' w hin hin' hv hv' hk h2
        · subst hk
          exact pmerge_ok k cap n A m c ts cap' n' A' m' c' ts' w hin hin' hv hv' (by omega)
      · exact pmerge_k k cap n A m c ts k' cap' n' A' m' c' ts' w hin hin' hv hv' hk
    · exact pmerge_bad2 k cap n A m c ts k' cap' n' A' m' c' ts' w hin hin' hv hv'
  · exact pmerge_bad k cap n A m c ts k' cap' n' A' m' c' ts' w hin hin' hv
end Go.Proofs.Ytdibjlphcmjnoaa
