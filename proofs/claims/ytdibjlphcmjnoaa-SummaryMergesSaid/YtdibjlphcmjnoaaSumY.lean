/- Summaries of a stream: the reference's merging, walked. -/
import Derived.Test.YtdibjlphcmjnoaaSumX
import Derived.Test.YtdibjlphcmjnoaaSumT
import Derived.Test.YtdibjlphcmjnoaaPhase2
namespace Go.Proofs.Ytdibjlphcmjnoaa
open Go.RowKit
theorem reads_keep {w w' : World} {B size n : Nat} {A : Option Addr} {xs : List Value} (h : Reads w B size A n xs) (hk : ∀ a, A = some a → a.block < B → w'.heap[a.block]? = w.heap[a.block]?) : Reads w' B size A n xs := by
  refine ⟨h.1, fun hn => ?_⟩
  obtain ⟨ad, e, hb, hc⟩ := h.2 hn
  refine ⟨ad, e, hb, fun j u hu => ?_⟩
  have hq : (ad.add j).block = ad.block := block_of_add ..
  exact (World.cell?_of_block (w := w) (w' := w') (a := ad.add j) (by rw [hq]; exact hk ad e hb)).trans (hc j u hu)
/-- How long a slice is. -/
def lenV : Value → Nat
  | .slice _ n _ => n
  | _ => 0
theorem reads_grown {w w' : World} {B size n : Nat} {A : Option Addr} {xs : List Value} (h : Reads w B size A n xs) {r : Option Nat} (hg : w.grownBy w' r) (hr : ∀ k, r = some k → B ≤ k) (hB : B ≤ w.heap.size) : Reads w' B size A n xs :=
  reads_keep h fun a _ hb => hg.block a.block (by omega) (fun e => by have := hr _ e.symm; omega)
theorem reads_set {w : World} {B size n : Nat} {A : Option Addr} {xs : List Value} (h : Reads w B size A n xs) {p : Addr} (hp : ∀ a, A = some a → a.block ≠ p.block) (u : Value) : Reads (w.setCell p u) B size A n xs :=
  reads_keep h fun a e _ => Below.heap_setCell w p u a.block (hp a e)
theorem tup_drop {ts : List Tup} {i : Nat} : tupAt (ts.drop i) 0 = tupAt ts i := by
  unfold tupAt
  rw [List.getD_eq_getElem?_getD, List.getD_eq_getElem?_getD, List.getElem?_drop, Nat.add_zero]
theorem reads_head {w : World} {B p i : Nat} {ad : Addr} {ts : List Tup} (h : Reads w B 3 (some ad) p (tcells (ts.drop i))) (hp : 0 < p) : TupCells w ad (tupAt ts i) := by
  obtain ⟨ad', e, _, ht⟩ := h.tup (i := 0) hp
  obtain rfl : ad = ad' := by injection e
  rw [tup_drop, Nat.zero_mul] at ht
  exact ht
theorem reads_next {w : World} {B p i c : Nat} {A : Option Addr} {ts : List Tup} (h : Reads w B 3 A p (tcells (ts.drop i))) (hp : 0 < p) (hc : p ≤ c) : Reads w B 3 (if c = 1 then A else A.map (·.add (1 * 3))) (p - 1) (tcells (ts.drop (i + 1))) := by
  have h2 := h.cut (k := 1) hp hc
  rw [tcells_drop, List.drop_drop] at h2
  exact h2
theorem next_block {A : Option Addr} {c : Nat} {P : Nat → Prop} (h : ∀ a, A = some a → P a.block) : ∀ a, (if c = 1 then A else A.map (·.add (1 * 3))) = some a → P a.block := by
  intro a e
  split at e
  · exact h a e
  · cases A with
    | none => cases e
    | some b =>
      simp at e
      rw [← e, block_of_add]
      exact h b rfl
set_option maxRecDepth 100000 in
theorem rmerge_bad (k cap n : Int) (A : Option Addr) (m c : Nat) (ts : List Tup) (k' cap' n' : Int) (A' : Option Addr) (m' c' : Nat) (ts' : List Tup) (w : World) (hin : SIn k cap n A m c ts w) (hin' : SIn k' cap' n' A' m' c' ts' w) (hv : svalE k cap n ts = 2) : Calls Try.prog 24 #[.agg #[.int .i64 k, .int .i64 cap, .int .i64 n, .slice A m c], .agg #[.int .i64 k', .int .i64 cap', .int .i64 n', .slice A' m' c']] w fun e w' => SRet (smerge k cap n ts k' cap' n' ts') w e w' := by
  rw [smerge_bad hv]
  have P1 := fun w1 (hb : Below w.heap.size w w1) => rsval k cap n A m c ts w1 (hin.below hb)
  rw [hv] at P1
  have P1 := Lib.hid P1
  clear hv hin hin'
  go_enter Try.func24, Try.ntmps24
  go_wp2_with (first | (go_at_call 20; with_reducible refine (P1.out _ (by (repeat (first | exact Below.refl _ _ | refine Below.setCell ?_ (by first | (simp; done) | (simp; omega) | omega) _ | refine Below.alloc ?_ (by first | (simp; done) | (simp; omega) | omega) _ | refine Below.drew ?_ | refine Below.trans ?_ (Below.mono (by assumption) (by first | (simp; done) | (simp; omega) | omega)))))).mono ?_; rintro e w1 ⟨rfl, hb1⟩; have hz1 := hb1.size; (try simp at hz1); have o1 : Below w.heap.size w w1 := (by (repeat (first | exact Below.refl _ _ | refine Below.setCell ?_ (by first | (simp; done) | (simp; omega) | omega) _ | refine Below.alloc ?_ (by first | (simp; done) | (simp; omega) | omega) _ | refine Below.drew ?_ | refine Below.trans ?_ (Below.mono (by assumption) (by first | (simp; done) | (simp; omega) | omega))))); have q1_0 : w.heap.size < w1.heap.size := (by omega); have r1_0 : Row w1 (w.heap.size) 24 #[.int .i64 k, .int .i64 cap, .int .i64 n, .slice A m c] := row_call (by (repeat (first | assumption | (refine row_new ?_; (first | (simp; done) | omega)) | refine row_alloc ?_ _ | refine row_drew ?_ | refine row_call ?_ (by assumption)))) hb1; obtain ⟨c1_0a, c1_0b, c1_0c, c1_0d, f1_0a, f1_0b, f1_0c, f1_0d⟩ := row_four r1_0; have q1_1 : w.heap.size + 1 < w1.heap.size := (by omega); have r1_1 : Row w1 (w.heap.size + 1) 24 #[.int .i64 k', .int .i64 cap', .int .i64 n', .slice A' m' c'] := row_call (by (repeat (first | assumption | (refine row_new ?_; (first | (simp; done) | omega)) | refine row_alloc ?_ _ | refine row_drew ?_ | refine row_call ?_ (by assumption)))) hb1; obtain ⟨c1_1a, c1_1b, c1_1c, c1_1d, f1_1a, f1_1b, f1_1c, f1_1d⟩ := row_four r1_1; have q1_2 : w.heap.size + 2 < w1.heap.size := (by omega); have r1_2 : Row w1 (w.heap.size + 2) 24 #[.int .i64 0, .int .i64 0, .int .i64 0, .slice none 0 0] := row_call (by (repeat (first | assumption | (refine row_new ?_; (first | (simp; done) | omega)) | refine row_alloc ?_ _ | refine row_drew ?_ | refine row_call ?_ (by assumption)))) hb1; obtain ⟨c1_2a, c1_2b, c1_2c, c1_2d, f1_2a, f1_2b, f1_2c, f1_2d⟩ := row_four r1_2))
  exact bodyPost_ret (v := .tuple #[.agg #[.int .i64 0, .int .i64 0, .int .i64 0, .slice none 0 0], .int .i64 2]) (by simp [results, Try.results24, go_sem, c1_2a, c1_2b, c1_2c, c1_2d]) rfl (sret_zero (by (repeat (first | exact Below.refl _ _ | refine Below.setCell ?_ (by first | (simp; done) | (simp; omega) | omega) _ | refine Below.alloc ?_ (by first | (simp; done) | (simp; omega) | omega) _ | refine Below.drew ?_ | refine Below.trans ?_ (Below.mono (by assumption) (by first | (simp; done) | (simp; omega) | omega))))))
set_option maxRecDepth 100000 in
theorem rmerge_bad2 (k cap n : Int) (A : Option Addr) (m c : Nat) (ts : List Tup) (k' cap' n' : Int) (A' : Option Addr) (m' c' : Nat) (ts' : List Tup) (w : World) (hin : SIn k cap n A m c ts w) (hin' : SIn k' cap' n' A' m' c' ts' w) (hv : svalE k cap n ts = 0) (hv' : svalE k' cap' n' ts' = 2) : Calls Try.prog 24 #[.agg #[.int .i64 k, .int .i64 cap, .int .i64 n, .slice A m c], .agg #[.int .i64 k', .int .i64 cap', .int .i64 n', .slice A' m' c']] w fun e w' => SRet (smerge k cap n ts k' cap' n' ts') w e w' := by
  rw [smerge_bad' hv hv']
  have P1 := fun w1 (hb : Below w.heap.size w w1) => rsval k cap n A m c ts w1 (hin.below hb)
  rw [hv] at P1
  have P1 := Lib.hid P1
  have P2 := fun w1 (hb : Below w.heap.size w w1) => rsval k' cap' n' A' m' c' ts' w1 (hin'.below hb)
  rw [hv'] at P2
  have P2 := Lib.hid P2
  clear hv hv' hin hin'
  go_enter Try.func24, Try.ntmps24
  go_wp2_with (first | (go_at_call 20; with_reducible refine (P1.out _ (by (repeat (first | exact Below.refl _ _ | refine Below.setCell ?_ (by first | (simp; done) | (simp; omega) | omega) _ | refine Below.alloc ?_ (by first | (simp; done) | (simp; omega) | omega) _ | refine Below.drew ?_ | refine Below.trans ?_ (Below.mono (by assumption) (by first | (simp; done) | (simp; omega) | omega)))))).mono ?_; rintro e w1 ⟨rfl, hb1⟩; have hz1 := hb1.size; (try simp at hz1); have o1 : Below w.heap.size w w1 := (by (repeat (first | exact Below.refl _ _ | refine Below.setCell ?_ (by first | (simp; done) | (simp; omega) | omega) _ | refine Below.alloc ?_ (by first | (simp; done) | (simp; omega) | omega) _ | refine Below.drew ?_ | refine Below.trans ?_ (Below.mono (by assumption) (by first | (simp; done) | (simp; omega) | omega))))); have q1_0 : w.heap.size < w1.heap.size := (by omega); have r1_0 : Row w1 (w.heap.size) 24 #[.int .i64 k, .int .i64 cap, .int .i64 n, .slice A m c] := row_call (by (repeat (first | assumption | (refine row_new ?_; (first | (simp; done) | omega)) | refine row_alloc ?_ _ | refine row_drew ?_ | refine row_call ?_ (by assumption)))) hb1; obtain ⟨c1_0a, c1_0b, c1_0c, c1_0d, f1_0a, f1_0b, f1_0c, f1_0d⟩ := row_four r1_0; have q1_1 : w.heap.size + 1 < w1.heap.size := (by omega); have r1_1 : Row w1 (w.heap.size + 1) 24 #[.int .i64 k', .int .i64 cap', .int .i64 n', .slice A' m' c'] := row_call (by (repeat (first | assumption | (refine row_new ?_; (first | (simp; done) | omega)) | refine row_alloc ?_ _ | refine row_drew ?_ | refine row_call ?_ (by assumption)))) hb1; obtain ⟨c1_1a, c1_1b, c1_1c, c1_1d, f1_1a, f1_1b, f1_1c, f1_1d⟩ := row_four r1_1; have q1_2 : w.heap.size + 2 < w1.heap.size := (by omega); have r1_2 : Row w1 (w.heap.size + 2) 24 #[.int .i64 0, .int .i64 0, .int .i64 0, .slice none 0 0] := row_call (by (repeat (first | assumption | (refine row_new ?_; (first | (simp; done) | omega)) | refine row_alloc ?_ _ | refine row_drew ?_ | refine row_call ?_ (by assumption)))) hb1; obtain ⟨c1_2a, c1_2b, c1_2c, c1_2d, f1_2a, f1_2b, f1_2c, f1_2d⟩ := row_four r1_2) | (go_at_call 20; with_reducible refine (P2.out _ (by exact o1)).mono ?_; rintro e w2 ⟨rfl, hb2⟩; have hz2 := hb2.size; (try simp at hz2); have o2 : Below w.heap.size w w2 := (by (repeat (first | exact Below.refl _ _ | refine Below.setCell ?_ (by first | (simp; done) | (simp; omega) | omega) _ | refine Below.alloc ?_ (by first | (simp; done) | (simp; omega) | omega) _ | refine Below.drew ?_ | refine Below.trans ?_ (Below.mono (by assumption) (by first | (simp; done) | (simp; omega) | omega))))); have q2_0 : w.heap.size < w2.heap.size := (by omega); have r2_0 : Row w2 (w.heap.size) 24 #[.int .i64 k, .int .i64 cap, .int .i64 n, .slice A m c] := row_call (by (repeat (first | assumption | (refine row_new ?_; (first | (simp; done) | omega)) | refine row_alloc ?_ _ | refine row_drew ?_ | refine row_call ?_ (by assumption)))) hb2; obtain ⟨c2_0a, c2_0b, c2_0c, c2_0d, f2_0a, f2_0b, f2_0c, f2_0d⟩ := row_four r2_0; have q2_1 : w.heap.size + 1 < w2.heap.size := (by omega); have r2_1 : Row w2 (w.heap.size + 1) 24 #[.int .i64 k', .int .i64 cap', .int .i64 n', .slice A' m' c'] := row_call (by (repeat (first | assumption | (refine row_new ?_; (first | (simp; done) | omega)) | refine row_alloc ?_ _ | refine row_drew ?_ | refine row_call ?_ (by assumption)))) hb2; obtain ⟨c2_1a, c2_1b, c2_1c, c2_1d, f2_1a, f2_1b, f2_1c, f2_1d⟩ := row_four r2_1; have q2_2 : w.heap.size + 2 < w2.heap.size := (by omega); have r2_2 : Row w2 (w.heap.size + 2) 24 #[.int .i64 0, .int .i64 0, .int .i64 0, .slice none 0 0] := row_call (by (repeat (first | assumption | (refine row_new ?_; (first | (simp; done) | omega)) | refine row_alloc ?_ _ | refine row_drew ?_ | refine row_call ?_ (by assumption)))) hb2; obtain ⟨c2_2a, c2_2b, c2_2c, c2_2d, f2_2a, f2_2b, f2_2c, f2_2d⟩ := row_four r2_2))
  exact bodyPost_ret (v := .tuple #[.agg #[.int .i64 0, .int .i64 0, .int .i64 0, .slice none 0 0], .int .i64 2]) (by simp [results, Try.results24, go_sem, c2_2a, c2_2b, c2_2c, c2_2d]) rfl (sret_zero (by (repeat (first | exact Below.refl _ _ | refine Below.setCell ?_ (by first | (simp; done) | (simp; omega) | omega) _ | refine Below.alloc ?_ (by first | (simp; done) | (simp; omega) | omega) _ | refine Below.drew ?_ | refine Below.trans ?_ (Below.mono (by assumption) (by first | (simp; done) | (simp; omega) | omega))))))
set_option maxRecDepth 100000 in
theorem rmerge_k (k cap n : Int) (A : Option Addr) (m c : Nat) (ts : List Tup) (k' cap' n' : Int) (A' : Option Addr) (m' c' : Nat) (ts' : List Tup) (w : World) (hin : SIn k cap n A m c ts w) (hin' : SIn k' cap' n' A' m' c' ts' w) (hv : svalE k cap n ts = 0) (hv' : svalE k' cap' n' ts' = 0) (hk : k ≠ k') : Calls Try.prog 24 #[.agg #[.int .i64 k, .int .i64 cap, .int .i64 n, .slice A m c], .agg #[.int .i64 k', .int .i64 cap', .int .i64 n', .slice A' m' c']] w fun e w' => SRet (smerge k cap n ts k' cap' n' ts') w e w' := by
  rw [smerge_k hv hv' hk]
  have P1 := fun w1 (hb : Below w.heap.size w w1) => rsval k cap n A m c ts w1 (hin.below hb)
  rw [hv] at P1
  have P1 := Lib.hid P1
  have P2 := fun w1 (hb : Below w.heap.size w w1) => rsval k' cap' n' A' m' c' ts' w1 (hin'.below hb)
  rw [hv'] at P2
  have P2 := Lib.hid P2
  have kk : (k != k') = true := by simpa using hk
  clear hv hv' hin hin' hk
  go_enter Try.func24, Try.ntmps24
  go_wp2_with (first | (go_at_call 20; with_reducible refine (P1.out _ (by (repeat (first | exact Below.refl _ _ | refine Below.setCell ?_ (by first | (simp; done) | (simp; omega) | omega) _ | refine Below.alloc ?_ (by first | (simp; done) | (simp; omega) | omega) _ | refine Below.drew ?_ | refine Below.trans ?_ (Below.mono (by assumption) (by first | (simp; done) | (simp; omega) | omega)))))).mono ?_; rintro e w1 ⟨rfl, hb1⟩; have hz1 := hb1.size; (try simp at hz1); have o1 : Below w.heap.size w w1 := (by (repeat (first | exact Below.refl _ _ | refine Below.setCell ?_ (by first | (simp; done) | (simp; omega) | omega) _ | refine Below.alloc ?_ (by first | (simp; done) | (simp; omega) | omega) _ | refine Below.drew ?_ | refine Below.trans ?_ (Below.mono (by assumption) (by first | (simp; done) | (simp; omega) | omega))))); have q1_0 : w.heap.size < w1.heap.size := (by omega); have r1_0 : Row w1 (w.heap.size) 24 #[.int .i64 k, .int .i64 cap, .int .i64 n, .slice A m c] := row_call (by (repeat (first | assumption | (refine row_new ?_; (first | (simp; done) | omega)) | refine row_alloc ?_ _ | refine row_drew ?_ | refine row_call ?_ (by assumption)))) hb1; obtain ⟨c1_0a, c1_0b, c1_0c, c1_0d, f1_0a, f1_0b, f1_0c, f1_0d⟩ := row_four r1_0; have q1_1 : w.heap.size + 1 < w1.heap.size := (by omega); have r1_1 : Row w1 (w.heap.size + 1) 24 #[.int .i64 k', .int .i64 cap', .int .i64 n', .slice A' m' c'] := row_call (by (repeat (first | assumption | (refine row_new ?_; (first | (simp; done) | omega)) | refine row_alloc ?_ _ | refine row_drew ?_ | refine row_call ?_ (by assumption)))) hb1; obtain ⟨c1_1a, c1_1b, c1_1c, c1_1d, f1_1a, f1_1b, f1_1c, f1_1d⟩ := row_four r1_1; have q1_2 : w.heap.size + 2 < w1.heap.size := (by omega); have r1_2 : Row w1 (w.heap.size + 2) 24 #[.int .i64 0, .int .i64 0, .int .i64 0, .slice none 0 0] := row_call (by (repeat (first | assumption | (refine row_new ?_; (first | (simp; done) | omega)) | refine row_alloc ?_ _ | refine row_drew ?_ | refine row_call ?_ (by assumption)))) hb1; obtain ⟨c1_2a, c1_2b, c1_2c, c1_2d, f1_2a, f1_2b, f1_2c, f1_2d⟩ := row_four r1_2) | (go_at_call 20; with_reducible refine (P2.out _ (by exact o1)).mono ?_; rintro e w2 ⟨rfl, hb2⟩; have hz2 := hb2.size; (try simp at hz2); have o2 : Below w.heap.size w w2 := (by (repeat (first | exact Below.refl _ _ | refine Below.setCell ?_ (by first | (simp; done) | (simp; omega) | omega) _ | refine Below.alloc ?_ (by first | (simp; done) | (simp; omega) | omega) _ | refine Below.drew ?_ | refine Below.trans ?_ (Below.mono (by assumption) (by first | (simp; done) | (simp; omega) | omega))))); have q2_0 : w.heap.size < w2.heap.size := (by omega); have r2_0 : Row w2 (w.heap.size) 24 #[.int .i64 k, .int .i64 cap, .int .i64 n, .slice A m c] := row_call (by (repeat (first | assumption | (refine row_new ?_; (first | (simp; done) | omega)) | refine row_alloc ?_ _ | refine row_drew ?_ | refine row_call ?_ (by assumption)))) hb2; obtain ⟨c2_0a, c2_0b, c2_0c, c2_0d, f2_0a, f2_0b, f2_0c, f2_0d⟩ := row_four r2_0; have q2_1 : w.heap.size + 1 < w2.heap.size := (by omega); have r2_1 : Row w2 (w.heap.size + 1) 24 #[.int .i64 k', .int .i64 cap', .int .i64 n', .slice A' m' c'] := row_call (by (repeat (first | assumption | (refine row_new ?_; (first | (simp; done) | omega)) | refine row_alloc ?_ _ | refine row_drew ?_ | refine row_call ?_ (by assumption)))) hb2; obtain ⟨c2_1a, c2_1b, c2_1c, c2_1d, f2_1a, f2_1b, f2_1c, f2_1d⟩ := row_four r2_1; have q2_2 : w.heap.size + 2 < w2.heap.size := (by omega); have r2_2 : Row w2 (w.heap.size + 2) 24 #[.int .i64 0, .int .i64 0, .int .i64 0, .slice none 0 0] := row_call (by (repeat (first | assumption | (refine row_new ?_; (first | (simp; done) | omega)) | refine row_alloc ?_ _ | refine row_drew ?_ | refine row_call ?_ (by assumption)))) hb2; obtain ⟨c2_2a, c2_2b, c2_2c, c2_2d, f2_2a, f2_2b, f2_2c, f2_2d⟩ := row_four r2_2))
  exact bodyPost_ret (v := .tuple #[.agg #[.int .i64 0, .int .i64 0, .int .i64 0, .slice none 0 0], .int .i64 1]) (by simp [results, Try.results24, go_sem, c2_2a, c2_2b, c2_2c, c2_2d]) rfl (sret_zero (by (repeat (first | exact Below.refl _ _ | refine Below.setCell ?_ (by first | (simp; done) | (simp; omega) | omega) _ | refine Below.alloc ?_ (by first | (simp; done) | (simp; omega) | omega) _ | refine Below.drew ?_ | refine Below.trans ?_ (Below.mono (by assumption) (by first | (simp; done) | (simp; omega) | omega))))))
set_option maxRecDepth 100000 in
theorem rmerge_full (k cap n : Int) (A : Option Addr) (m c : Nat) (ts : List Tup) (k' cap' n' : Int) (A' : Option Addr) (m' c' : Nat) (ts' : List Tup) (w : World) (hin : SIn k cap n A m c ts w) (hin' : SIn k' cap' n' A' m' c' ts' w) (hv : svalE k cap n ts = 0) (hv' : svalE k' cap' n' ts' = 0) (hk : k = k') (h2 : 1099511627776 < n + n') : Calls Try.prog 24 #[.agg #[.int .i64 k, .int .i64 cap, .int .i64 n, .slice A m c], .agg #[.int .i64 k', .int .i64 cap', .int .i64 n', .slice A' m' c']] w fun e w' => SRet (smerge k cap n ts k' cap' n' ts') w e w' := by
  rw [smerge_full hv hv' hk h2]
  have P1 := fun w1 (hb : Below w.heap.size w w1) => rsval k cap n A m c ts w1 (hin.below hb)
  rw [hv] at P1
  have P1 := Lib.hid P1
  have P2 := fun w1 (hb : Below w.heap.size w w1) => rsval k' cap' n' A' m' c' ts' w1 (hin'.below hb)
  rw [hv'] at P2
  have P2 := Lib.hid P2
  obtain ⟨_, _, _, _, n0, n1, _, _, _⟩ := of_svalE hv
  obtain ⟨_, _, _, _, n0', n1', _, _, _⟩ := of_svalE hv'
  have wn : IntKind.i64.wrap (n + n') = n + n' := IntWalk.i64_in _ (by omega)
  have kk : (k != k') = false := by simp [hk]
  clear hv hv' hin hin' hk
  go_enter Try.func24, Try.ntmps24
  go_wp2_with (first | (go_at_call 20; with_reducible refine (P1.out _ (by (repeat (first | exact Below.refl _ _ | refine Below.setCell ?_ (by first | (simp; done) | (simp; omega) | omega) _ | refine Below.alloc ?_ (by first | (simp; done) | (simp; omega) | omega) _ | refine Below.drew ?_ | refine Below.trans ?_ (Below.mono (by assumption) (by first | (simp; done) | (simp; omega) | omega)))))).mono ?_; rintro e w1 ⟨rfl, hb1⟩; have hz1 := hb1.size; (try simp at hz1); have o1 : Below w.heap.size w w1 := (by (repeat (first | exact Below.refl _ _ | refine Below.setCell ?_ (by first | (simp; done) | (simp; omega) | omega) _ | refine Below.alloc ?_ (by first | (simp; done) | (simp; omega) | omega) _ | refine Below.drew ?_ | refine Below.trans ?_ (Below.mono (by assumption) (by first | (simp; done) | (simp; omega) | omega))))); have q1_0 : w.heap.size < w1.heap.size := (by omega); have r1_0 : Row w1 (w.heap.size) 24 #[.int .i64 k, .int .i64 cap, .int .i64 n, .slice A m c] := row_call (by (repeat (first | assumption | (refine row_new ?_; (first | (simp; done) | omega)) | refine row_alloc ?_ _ | refine row_drew ?_ | refine row_call ?_ (by assumption)))) hb1; obtain ⟨c1_0a, c1_0b, c1_0c, c1_0d, f1_0a, f1_0b, f1_0c, f1_0d⟩ := row_four r1_0; have q1_1 : w.heap.size + 1 < w1.heap.size := (by omega); have r1_1 : Row w1 (w.heap.size + 1) 24 #[.int .i64 k', .int .i64 cap', .int .i64 n', .slice A' m' c'] := row_call (by (repeat (first | assumption | (refine row_new ?_; (first | (simp; done) | omega)) | refine row_alloc ?_ _ | refine row_drew ?_ | refine row_call ?_ (by assumption)))) hb1; obtain ⟨c1_1a, c1_1b, c1_1c, c1_1d, f1_1a, f1_1b, f1_1c, f1_1d⟩ := row_four r1_1; have q1_2 : w.heap.size + 2 < w1.heap.size := (by omega); have r1_2 : Row w1 (w.heap.size + 2) 24 #[.int .i64 0, .int .i64 0, .int .i64 0, .slice none 0 0] := row_call (by (repeat (first | assumption | (refine row_new ?_; (first | (simp; done) | omega)) | refine row_alloc ?_ _ | refine row_drew ?_ | refine row_call ?_ (by assumption)))) hb1; obtain ⟨c1_2a, c1_2b, c1_2c, c1_2d, f1_2a, f1_2b, f1_2c, f1_2d⟩ := row_four r1_2) | (go_at_call 20; with_reducible refine (P2.out _ (by exact o1)).mono ?_; rintro e w2 ⟨rfl, hb2⟩; have hz2 := hb2.size; (try simp at hz2); have o2 : Below w.heap.size w w2 := (by (repeat (first | exact Below.refl _ _ | refine Below.setCell ?_ (by first | (simp; done) | (simp; omega) | omega) _ | refine Below.alloc ?_ (by first | (simp; done) | (simp; omega) | omega) _ | refine Below.drew ?_ | refine Below.trans ?_ (Below.mono (by assumption) (by first | (simp; done) | (simp; omega) | omega))))); have q2_0 : w.heap.size < w2.heap.size := (by omega); have r2_0 : Row w2 (w.heap.size) 24 #[.int .i64 k, .int .i64 cap, .int .i64 n, .slice A m c] := row_call (by (repeat (first | assumption | (refine row_new ?_; (first | (simp; done) | omega)) | refine row_alloc ?_ _ | refine row_drew ?_ | refine row_call ?_ (by assumption)))) hb2; obtain ⟨c2_0a, c2_0b, c2_0c, c2_0d, f2_0a, f2_0b, f2_0c, f2_0d⟩ := row_four r2_0; have q2_1 : w.heap.size + 1 < w2.heap.size := (by omega); have r2_1 : Row w2 (w.heap.size + 1) 24 #[.int .i64 k', .int .i64 cap', .int .i64 n', .slice A' m' c'] := row_call (by (repeat (first | assumption | (refine row_new ?_; (first | (simp; done) | omega)) | refine row_alloc ?_ _ | refine row_drew ?_ | refine row_call ?_ (by assumption)))) hb2; obtain ⟨c2_1a, c2_1b, c2_1c, c2_1d, f2_1a, f2_1b, f2_1c, f2_1d⟩ := row_four r2_1; have q2_2 : w.heap.size + 2 < w2.heap.size := (by omega); have r2_2 : Row w2 (w.heap.size + 2) 24 #[.int .i64 0, .int .i64 0, .int .i64 0, .slice none 0 0] := row_call (by (repeat (first | assumption | (refine row_new ?_; (first | (simp; done) | omega)) | refine row_alloc ?_ _ | refine row_drew ?_ | refine row_call ?_ (by assumption)))) hb2; obtain ⟨c2_2a, c2_2b, c2_2c, c2_2d, f2_2a, f2_2b, f2_2c, f2_2d⟩ := row_four r2_2))
  exact bodyPost_ret (v := .tuple #[.agg #[.int .i64 0, .int .i64 0, .int .i64 0, .slice none 0 0], .int .i64 5]) (by simp [results, Try.results24, go_sem, c2_2a, c2_2b, c2_2c, c2_2d]) rfl (sret_zero (by (repeat (first | exact Below.refl _ _ | refine Below.setCell ?_ (by first | (simp; done) | (simp; omega) | omega) _ | refine Below.alloc ?_ (by first | (simp; done) | (simp; omega) | omega) _ | refine Below.drew ?_ | refine Below.trans ?_ (Below.mono (by assumption) (by first | (simp; done) | (simp; omega) | omega))))))
set_option maxRecDepth 100000 in
set_option maxHeartbeats 8000000 in
theorem rmerge_ok (k cap n : Int) (A : Option Addr) (m c : Nat) (ts : List Tup) (cap' n' : Int) (A' : Option Addr) (m' c' : Nat) (ts' : List Tup) (w : World) (hin : SIn k cap n A m c ts w) (hin' : SIn k cap' n' A' m' c' ts' w) (hv : svalE k cap n ts = 0) (hv' : svalE k cap' n' ts' = 0) (hn : n + n' ≤ 1099511627776) : Calls Try.prog 24 #[.agg #[.int .i64 k, .int .i64 cap, .int .i64 n, .slice A m c], .agg #[.int .i64 k, .int .i64 cap', .int .i64 n', .slice A' m' c']] w fun e w' => SRet (smerge k cap n ts k cap' n' ts') w e w' := by
  rw [smerge_ok hv hv' rfl hn]
  have hl := hin.len
  have hl' := hin'.len
  obtain ⟨k0, k1, cp0, cp1, n0, n1, mc, _, _⟩ := of_svalE hv
  obtain ⟨_, _, cp0', cp1', n0', n1', mc', _, _⟩ := of_svalE hv'
  rw [hl] at mc
  rw [hl'] at mc'
  have P1 := fun w1 (hb : Below w.heap.size w w1) => rsval k cap n A m c ts w1 (hin.below hb)
  rw [hv] at P1
  have P1 := Lib.hid P1
  have P2 := fun w1 (hb : Below w.heap.size w w1) => rsval k cap' n' A' m' c' ts' w1 (hin'.below hb)
  rw [hv'] at P2
  have P2 := Lib.hid P2
  have TVA := fun i (h : i < m) => sval_TV hv i (by rw [hl]; exact h)
  have TVB := fun i (h : i < m') => sval_TV hv' i (by rw [hl']; exact h)
  have PW1 := Lib.hid (fun w1 (hb : Below w.heap.size w w1) => rwiden_true A m c ts A' m' c' ts' w1 (hin.below hb).reads (hin'.below hb).reads TVA TVB (by omega) (by omega))
  have PW2 := Lib.hid (fun w1 (hb : Below w.heap.size w w1) => rwiden_false A' m' c' ts' A m c ts w1 (hin'.below hb).reads (hin.below hb).reads TVB TVA (by omega) (by omega))
  have TBM := Lib.hid (smrg_TB hv hv')
  have HLX : RowKit.Hid ((swids ts' true ts).length = m) := Lib.hid (by rw [swids_len, hl])
  have HLY : RowKit.Hid ((swids ts false ts').length = m') := Lib.hid (by rw [swids_len, hl'])
  have mB : m ≤ 65536 := by omega
  have mB' : m' ≤ 65536 := by omega
  have wn2 : IntKind.i64.wrap (n + n') = n + n' := IntWalk.i64_in _ (by omega)
  have tn : ¬ 1099511627776 < n + n' := by omega
  obtain ⟨CM, hCM⟩ : ∃ q, max cap cap' = q := ⟨_, rfl⟩
  have HMX : RowKit.Hid ((if cap < cap' then cap' else cap) = CM) := Lib.hid (by rw [← hCM]; split <;> omega)
  have cm0 : 2 ≤ CM := by omega
  have cm1 : CM ≤ 65536 := by omega
  rw [hCM]
  generalize swids ts' true ts = X at PW1 TBM HLX ⊢
  generalize swids ts false ts' = Y at PW2 TBM HLY ⊢
  generalize hres : sfit k CM (n + n') (smrg X Y) = res
  have HRES := Lib.hid hres
  obtain ⟨ii, hii, iz0, iz1, iz2⟩ := info_parts info_tup
  clear hin hin' hv hv' hl hl' hres hCM TVA TVB
  go_enter Try.func24, Try.ntmps24
  go_upto_region 12 with (first | (go_at_call 20; with_reducible refine (P1.out _ (by (repeat (first | exact Below.refl _ _ | refine Below.setCell ?_ (by first | (simp; done) | (simp; omega) | omega) _ | refine Below.alloc ?_ (by first | (simp; done) | (simp; omega) | omega) _ | refine Below.drew ?_ | refine Below.trans ?_ (Below.mono (by assumption) (by first | (simp; done) | (simp; omega) | omega)))))).mono ?_; rintro e w1 ⟨rfl, hb1⟩; have hz1 := hb1.size; (try simp at hz1); have o1 : Below w.heap.size w w1 := (by (repeat (first | exact Below.refl _ _ | refine Below.setCell ?_ (by first | (simp; done) | (simp; omega) | omega) _ | refine Below.alloc ?_ (by first | (simp; done) | (simp; omega) | omega) _ | refine Below.drew ?_ | refine Below.trans ?_ (Below.mono (by assumption) (by first | (simp; done) | (simp; omega) | omega))))); have q1_0 : w.heap.size < w1.heap.size := (by omega); have r1_0 : Row w1 (w.heap.size) 24 #[.int .i64 k, .int .i64 cap, .int .i64 n, .slice A m c] := row_call (by (repeat (first | assumption | (refine row_new ?_; (first | (simp; done) | omega)) | refine row_alloc ?_ _ | refine row_drew ?_ | refine row_call ?_ (by assumption)))) hb1; obtain ⟨c1_0a, c1_0b, c1_0c, c1_0d, f1_0a, f1_0b, f1_0c, f1_0d⟩ := row_four r1_0; have q1_1 : w.heap.size + 1 < w1.heap.size := (by omega); have r1_1 : Row w1 (w.heap.size + 1) 24 #[.int .i64 k, .int .i64 cap', .int .i64 n', .slice A' m' c'] := row_call (by (repeat (first | assumption | (refine row_new ?_; (first | (simp; done) | omega)) | refine row_alloc ?_ _ | refine row_drew ?_ | refine row_call ?_ (by assumption)))) hb1; obtain ⟨c1_1a, c1_1b, c1_1c, c1_1d, f1_1a, f1_1b, f1_1c, f1_1d⟩ := row_four r1_1; have q1_2 : w.heap.size + 2 < w1.heap.size := (by omega); have r1_2 : Row w1 (w.heap.size + 2) 24 #[.int .i64 0, .int .i64 0, .int .i64 0, .slice none 0 0] := row_call (by (repeat (first | assumption | (refine row_new ?_; (first | (simp; done) | omega)) | refine row_alloc ?_ _ | refine row_drew ?_ | refine row_call ?_ (by assumption)))) hb1; obtain ⟨c1_2a, c1_2b, c1_2c, c1_2d, f1_2a, f1_2b, f1_2c, f1_2d⟩ := row_four r1_2) | (go_at_call 20; with_reducible refine (P2.out _ (by exact o1)).mono ?_; rintro e w2 ⟨rfl, hb2⟩; have hz2 := hb2.size; (try simp at hz2); have o2 : Below w.heap.size w w2 := (by (repeat (first | exact Below.refl _ _ | refine Below.setCell ?_ (by first | (simp; done) | (simp; omega) | omega) _ | refine Below.alloc ?_ (by first | (simp; done) | (simp; omega) | omega) _ | refine Below.drew ?_ | refine Below.trans ?_ (Below.mono (by assumption) (by first | (simp; done) | (simp; omega) | omega))))); have q2_0 : w.heap.size < w2.heap.size := (by omega); have r2_0 : Row w2 (w.heap.size) 24 #[.int .i64 k, .int .i64 cap, .int .i64 n, .slice A m c] := row_call (by (repeat (first | assumption | (refine row_new ?_; (first | (simp; done) | omega)) | refine row_alloc ?_ _ | refine row_drew ?_ | refine row_call ?_ (by assumption)))) hb2; obtain ⟨c2_0a, c2_0b, c2_0c, c2_0d, f2_0a, f2_0b, f2_0c, f2_0d⟩ := row_four r2_0; have q2_1 : w.heap.size + 1 < w2.heap.size := (by omega); have r2_1 : Row w2 (w.heap.size + 1) 24 #[.int .i64 k, .int .i64 cap', .int .i64 n', .slice A' m' c'] := row_call (by (repeat (first | assumption | (refine row_new ?_; (first | (simp; done) | omega)) | refine row_alloc ?_ _ | refine row_drew ?_ | refine row_call ?_ (by assumption)))) hb2; obtain ⟨c2_1a, c2_1b, c2_1c, c2_1d, f2_1a, f2_1b, f2_1c, f2_1d⟩ := row_four r2_1; have q2_2 : w.heap.size + 2 < w2.heap.size := (by omega); have r2_2 : Row w2 (w.heap.size + 2) 24 #[.int .i64 0, .int .i64 0, .int .i64 0, .slice none 0 0] := row_call (by (repeat (first | assumption | (refine row_new ?_; (first | (simp; done) | omega)) | refine row_alloc ?_ _ | refine row_drew ?_ | refine row_call ?_ (by assumption)))) hb2; obtain ⟨c2_2a, c2_2b, c2_2c, c2_2d, f2_2a, f2_2b, f2_2c, f2_2d⟩ := row_four r2_2))
  rw [HMX.out]
  clear c1_0a c1_0b c1_0c c1_0d f1_0a f1_0b f1_0c f1_0d c1_1a c1_1b c1_1c c1_1d f1_1a f1_1b f1_1c f1_1d c1_2a c1_2b c1_2c c1_2d f1_2a f1_2b f1_2c f1_2d r1_0 r1_1 r1_2 c2_0a c2_0b c2_0c c2_0d f2_0a f2_0b f2_0c f2_0d c2_1a c2_1b c2_1c c2_1d f2_1a f2_1b f2_1c f2_1d c2_2a c2_2b c2_2c c2_2d f2_2a f2_2b f2_2c f2_2d o1 hb1 hb2 P1 P2
  have u0 : Row (w2.alloc (.cells #[.int .i64 k, .int .i64 CM, .int .i64 (n + n'), .slice none 0 0] 24)) w2.heap.size 24 #[.int .i64 k, .int .i64 CM, .int .i64 (n + n'), .slice none 0 0] := row_new rfl
  have x0 := row_alloc r2_0 (.cells #[.int .i64 k, .int .i64 CM, .int .i64 (n + n'), .slice none 0 0] 24)
  have y0 := row_alloc r2_1 (.cells #[.int .i64 k, .int .i64 CM, .int .i64 (n + n'), .slice none 0 0] 24)
  have r0 := row_alloc r2_2 (.cells #[.int .i64 k, .int .i64 CM, .int .i64 (n + n'), .slice none 0 0] 24)
  have o0 := o2.alloc o2.size (.cells #[.int .i64 k, .int .i64 CM, .int .i64 (n + n'), .slice none 0 0] 24)
  have zo : w.heap.size + 2 < w2.heap.size := row_lt r2_2
  generalize w2.alloc (.cells #[.int .i64 k, .int .i64 CM, .int .i64 (n + n'), .slice none 0 0] 24) = w3 at u0 x0 y0 r0 o0 ⊢
  generalize w2.heap.size = ob at u0 zo ⊢
  have zu := row_lt u0
  clear r2_0 r2_1 r2_2 o2
  refine wp_region_phase 10 (fun w' => Row w' (w.heap.size) 24 #[.int .i64 k, .int .i64 cap, .int .i64 n, .slice A m c] ∧ Row w' (w.heap.size + 1) 24 #[.int .i64 k, .int .i64 cap', .int .i64 n', .slice A' m' c'] ∧ Row w' (w.heap.size + 2) 24 #[.int .i64 0, .int .i64 0, .int .i64 0, .slice none 0 0] ∧ Row w' ob 24 #[.int .i64 k, .int .i64 CM, .int .i64 (n + n'), .slice none 0 0] ∧ Below w.heap.size w w') (by kernel_rfl) (by kernel_rfl) (by kernel_rfl) (by kernel_rfl) (by kernel_rfl) (fun HOK => ?_)
  have HS := (⟨x0, y0, r0, u0, o0.drew⟩ : Row w3.drew (w.heap.size) 24 #[.int .i64 k, .int .i64 cap, .int .i64 n, .slice A m c] ∧ Row w3.drew (w.heap.size + 1) 24 #[.int .i64 k, .int .i64 cap', .int .i64 n', .slice A' m' c'] ∧ Row w3.drew (w.heap.size + 2) 24 #[.int .i64 0, .int .i64 0, .int .i64 0, .slice none 0 0] ∧ Row w3.drew ob 24 #[.int .i64 k, .int .i64 CM, .int .i64 (n + n'), .slice none 0 0] ∧ Below w.heap.size w w3.drew)
  (refine hw_take HOK (i := 0) ?_ rfl (by decide) (by kernel_rfl) (by kernel_rfl) (by exact fun _ _ _ h => h) (Or.inl ⟨by rfl, fun w' hS => ?_⟩) HS ?_; rotate_left; (go_simp; try with_reducible rfl); simp only [Act.put, List.setIfInBounds_toArray])
  (refine hw_take HOK (i := 1) ?_ rfl (by decide) (by kernel_rfl) (by kernel_rfl) (by exact fun _ _ _ h => h) (Or.inl ⟨by rfl, fun w' hS => ?_⟩) HS ?_; rotate_left; (obtain ⟨A0, A1, A2, A3, _, _, _, _⟩ := row_four hS.1; obtain ⟨B0, B1, B2, B3, _, _, _, _⟩ := row_four hS.2.1; go_simp; try with_reducible rfl); simp only [Act.put])
  (refine hw_take HOK (i := 2) ?_ rfl (by decide) (by kernel_rfl) (by kernel_rfl) (by exact fun _ _ _ h => h) (Or.inl ⟨by rfl, fun w' hS => ?_⟩) HS ?_; rotate_left; (go_simp; try with_reducible rfl); simp only [Act.put])
  (refine hw_take HOK (i := 3) ?_ rfl (by decide) (by kernel_rfl) (by kernel_rfl) (by exact fun _ _ _ h => h) (Or.inl ⟨by rfl, fun w' hS => ?_⟩) HS ?_; rotate_left; (obtain ⟨A0, A1, A2, A3, _, _, _, _⟩ := row_four hS.1; obtain ⟨B0, B1, B2, B3, _, _, _, _⟩ := row_four hS.2.1; go_simp; try with_reducible rfl); simp only [Act.put])
  (refine hw_take HOK (i := 5) ?_ rfl (by decide) (by kernel_rfl) (by kernel_rfl) (by exact fun _ _ _ h => h) (Or.inl ⟨by rfl, fun w' hS => ?_⟩) HS ?_; rotate_left; (go_simp; try with_reducible rfl); simp only [Act.put])
  (refine hw_take HOK (i := 6) ?_ rfl (by decide) (by kernel_rfl) (by kernel_rfl) (by exact fun _ _ _ h => h) (Or.inl ⟨by rfl, fun w' hS => ?_⟩) HS ?_; rotate_left; (obtain ⟨A0, A1, A2, A3, _, _, _, _⟩ := row_four hS.1; obtain ⟨B0, B1, B2, B3, _, _, _, _⟩ := row_four hS.2.1; go_simp; try with_reducible rfl); simp only [Act.put])
  (refine hw_take HOK (i := 7) ?_ rfl (by decide) (by kernel_rfl) (by kernel_rfl) (by exact fun _ _ _ h => h) (Or.inl ⟨by rfl, fun w' hS => ?_⟩) HS ?_; rotate_left; (go_simp; try with_reducible rfl); simp only [Act.put])
  (refine hw_take HOK (i := 8) ?_ rfl (by decide) (by kernel_rfl) (by kernel_rfl) (by exact fun _ _ _ h => h) (Or.inl ⟨by rfl, fun w' hS => ?_⟩) HS ?_; rotate_left; (obtain ⟨A0, A1, A2, A3, _, _, _, _⟩ := row_four hS.1; obtain ⟨B0, B1, B2, B3, _, _, _, _⟩ := row_four hS.2.1; go_simp; try with_reducible rfl); simp only [Act.put])
  refine hw_one (i := 4) rfl (by decide) (by kernel_rfl) (fun K hK => ?_)
  go_simp
  refine (PW1.out _ o0.drew).mono ?_
  rintro e w4 ⟨v9, rfl, own9, hb4⟩
  have x4 := row_call (row_drew x0) hb4
  have y4 := row_call (row_drew y0) hb4
  have r4 := row_call (row_drew r0) hb4
  have u4 := row_call (row_drew u0) hb4
  have o4 := o0.drew.trans (hb4.mono o0.drew.size)
  refine hK _ _ ⟨x4, y4, r4, u4, o4⟩ ?_
  clear hK K HS
  try simp only [Act.put, List.setIfInBounds_toArray, List.set_cons_zero, List.set_cons_succ]
  refine hw_one (i := 9) rfl (by decide) (by kernel_rfl) (fun K hK => ?_)
  go_simp
  refine (PW2.out _ o4).mono ?_
  rintro e w5 ⟨v10, rfl, own10, hb5⟩
  have x5 := row_call x4 hb5
  have y5 := row_call y4 hb5
  have r5 := row_call r4 hb5
  have u5 := row_call u4 hb5
  have o5 := o4.trans (hb5.mono o4.size)
  have own9 := orow_keep own9 (fun g e => hb5.block g (own9.lt g e).2)
  refine hK _ _ ⟨x5, y5, r5, u5, o5⟩ ?_
  clear hK K
  try simp only [Act.put, List.setIfInBounds_toArray, List.set_cons_zero, List.set_cons_succ]
  refine hw_done (by kernel_rfl) ?_
  simp only [List.drop_succ_cons, List.drop_zero]
  clear HOK
  have z4 : ob < w4.heap.size := by have := hb4.size; simp at this; omega
  have zu' : ob < w3.drew.heap.size := zu
  obtain ⟨A9, c9, rfl, rd9, mc9, _, fr9⟩ := orow_forms own9
  obtain ⟨A10, c10, rfl, rd10, mc10, _, fr10⟩ := orow_forms own10
  have FX0 := Lib.hid (fun a (e : A9 = some a) => (by have := (fr9 a e).1; omega : ob < a.block))
  have FY0 := Lib.hid (fun a (e : A10 = some a) => (by have := (fr10 a e).1; omega : ob < a.block))
  have z5 : ob < w5.heap.size := row_lt u5
  have RX0 := Lib.hid (show Reads w5 w5.heap.size 3 A9 m (tcells (X.drop 0)) from rd9)
  have RY0 := Lib.hid (show Reads w5 w5.heap.size 3 A10 m' (tcells (Y.drop 0)) from rd10)
  have zz : w5.heap.size ≤ w5.heap.size := Nat.le_refl _
  clear own9 own10 hb4 hb5 x4 y4 r4 u4 o4 x0 y0 r0 u0 o0 x5 y5 rd9 rd10 fr9 fr10 zu' zu z4
  generalize hzb : w5.heap.size = zb at RX0 RY0 z5
  have hz0 : zb ≤ w5.heap.size := by omega
  clear hzb zz
  go_wp2
  go_loopw [9, 10] (fun xx yy wr => ∃ (i j p q N : Nat) (Ax Ay : Option Addr) (cx cy : Nat) (lv : Value) (L : List Tup), xx = .slice Ax p cx ∧ yy = .slice Ay q cy ∧ RowKit.Hid (p + i = m) ∧ RowKit.Hid (q + j = m') ∧ RowKit.Hid (N = i + j) ∧ N + p + q ≤ m + m' ∧ RowKit.Hid (Reads wr zb 3 Ax p (tcells (X.drop i))) ∧ RowKit.Hid (Reads wr zb 3 Ay q (tcells (Y.drop j))) ∧ p ≤ cx ∧ q ≤ cy ∧ RowKit.Hid (∀ a, Ax = some a → ob < a.block) ∧ RowKit.Hid (∀ a, Ay = some a → ob < a.block) ∧ wr.ownsRow zb 66 3 lv N (tcells L) ∧ RowKit.Hid (L ++ smrg (X.drop i) (Y.drop j) = smrg X Y) ∧ Row wr ob 24 #[.int .i64 k, .int .i64 CM, .int .i64 (n + n'), lv] ∧ Row wr (w.heap.size + 2) 24 #[.int .i64 0, .int .i64 0, .int .i64 0, .slice none 0 0] ∧ Below w.heap.size w wr ∧ zb ≤ wr.heap.size) (fun xx yy _ => lenV xx + lenV yy)
  case atStart => exact ⟨0, 0, m, m', 0, A9, A10, c9, c10, .slice none 0 0, [], rfl, rfl, Lib.hid (by omega), Lib.hid (by omega), Lib.hid rfl, by omega, RX0, RY0, mc9, mc10, FX0, FY0, World.ownsRow_nil _ _ _ _, Lib.hid (by simp), u5, r5, o5, hz0⟩
  case round =>
    clear RX0 RY0 FX0 FY0 u5 r5 o5 hz0 mc9 mc10
    obtain ⟨i, j, p, q, N, Ax, Ay, cx, cy, lv, L, rfl, rfl, HP, HQ, HN, hN, RX, RY, hpc, hqc, FX, FY, own, HS, u0, r0, o0, hzb⟩ := hrel
    obtain ⟨U0, U1, U2, U3, _, _, _, _⟩ := row_four u0
    have hpm : p ≤ m := by have := HP.out; omega
    have hqm : q ≤ m' := by have := HQ.out; omega
    have wpq : IntKind.i64.wrap ((p : Int) + (q : Int)) = (p : Int) + (q : Int) := IntWalk.i64_in _ (by omega)
    by_cases hp : 0 < p
    · have i1 : (0 : Int) < (p : Int) + (q : Int) := by omega
      have i2 : (0 : Int) < (p : Int) := by omega
      have hp1 : (1 : Int) ≤ (p : Int) := by omega
      obtain ⟨ad, rfl, _⟩ := RX.out.2 hp
      by_cases hq : 0 < q
      · have ne : ((q : Int) == 0) = false := by simp; omega
        have i3 : (0 : Int) < (q : Int) := by omega
        have hq1 : (1 : Int) ≤ (q : Int) := by omega
        obtain ⟨ad', rfl, _⟩ := RY.out.2 hq
        by_cases hv : (tupAt X i).v ≤ (tupAt Y j).v
        · skip
          have ST := (show (L ++ [tupAt X i]) ++ smrg (X.drop (i + 1)) (Y.drop j) = smrg X Y by rw [← HS.out, smrg_x (x := X) (y := Y) (i := i) (j := j) (by rw [HLX.out]; have := HP.out; omega) (by rw [HLY.out]; have := HQ.out; omega) (.inr hv)]; simp)
          generalize hxv : tupAt X i = xt at ST hv
          obtain ⟨xv, xg, xd⟩ := xt
          have HXV := Lib.hid hxv
          clear hxv
          generalize hyv : tupAt Y j = yt at ST hv
          obtain ⟨yv, yg, yd⟩ := yt
          have HYV := Lib.hid hyv
          clear hyv
          dsimp only at hv
          have HS2 := Lib.hid ST
          clear ST
          go_upto_region 14 with (fail)
          have LL : Row wr ob 24 #[.int .i64 k, .int .i64 CM, .int .i64 (n + n'), lv] ∧ Row wr (w.heap.size + 2) 24 #[.int .i64 0, .int .i64 0, .int .i64 0, .slice none 0 0] ∧ Reads wr zb 3 (some ad) p (tcells (X.drop i)) ∧ Reads wr zb 3 (some ad') q (tcells (Y.drop j)) ∧ Below w.heap.size w wr ∧ zb ≤ wr.heap.size ∧ World.ownsRow wr zb 66 3 lv N (tcells L) := ⟨u0, r0, RX.out, RY.out, o0, hzb, own⟩
          clear U0 U1 U2 U3 u0 r0 RX RY o0 hzb own
          refine wp_region_free0 [0, 1, 2, 3, 4, 5, 6, 7, 8, 9, 10, 11, 12, 13, 14, 15, 16, 17] [] [0, 1, 2, 3, 4, 5, 6, 7, 8, 9, 10, 11, 12, 13, 14, 15, 16, 17] 18 (fun w' => Row w' ob 24 #[.int .i64 k, .int .i64 CM, .int .i64 (n + n'), lv] ∧ Row w' (w.heap.size + 2) 24 #[.int .i64 0, .int .i64 0, .int .i64 0, .slice none 0 0] ∧ Reads w' zb 3 (some ad) p (tcells (X.drop i)) ∧ Reads w' zb 3 (some ad') q (tcells (Y.drop j)) ∧ Below w.heap.size w w' ∧ zb ≤ w'.heap.size ∧ World.ownsRow w' zb 66 3 lv N (tcells L)) (by kernel_rfl) (by kernel_rfl) (fun _ _ d _ _ h => by cases d <;> exact h) ?_ ?_
          · exact ⟨LL.1, LL.2.1, LL.2.2.1, LL.2.2.2.1, LL.2.2.2.2.1.drew, LL.2.2.2.2.2.1, LL.2.2.2.2.2.2⟩
          (refine plan_pure ?_ rfl rfl (fun w' => ?_) ?_; rotate_left; (go_simp; try with_reducible rfl); simp only [Act.put, List.setIfInBounds_toArray, List.set_cons_zero, List.set_cons_succ])
          (refine plan_val ?_ rfl rfl rfl (fun w' hS => ?_) ?_; rotate_left; (obtain ⟨U0, U1, U2, U3, _, _, _, _⟩ := row_four hS.1; obtain ⟨p0, p1, p2⟩ := tcs (by have := reads_head hS.2.2.1 hp; rw [HXV.out] at this; exact this); obtain ⟨q0, q1, q2⟩ := tcs (by have := reads_head hS.2.2.2.1 hq; rw [HYV.out] at this; exact this); go_simp; try with_reducible rfl); simp only [Act.put, List.setIfInBounds_toArray, List.set_cons_zero, List.set_cons_succ])
          (refine plan_pure ?_ rfl rfl (fun w' => ?_) ?_; rotate_left; (go_simp; try with_reducible rfl); simp only [Act.put, List.setIfInBounds_toArray, List.set_cons_zero, List.set_cons_succ])
          (refine plan_pure ?_ rfl rfl (fun w' => ?_) ?_; rotate_left; (go_simp; try with_reducible rfl); simp only [Act.put, List.setIfInBounds_toArray, List.set_cons_zero, List.set_cons_succ])
          (refine plan_pure ?_ rfl rfl (fun w' => ?_) ?_; rotate_left; (go_simp; try with_reducible rfl); simp only [Act.put, List.setIfInBounds_toArray, List.set_cons_zero, List.set_cons_succ])
          (refine plan_val ?_ rfl rfl rfl (fun w' hS => ?_) ?_; rotate_left; (obtain ⟨U0, U1, U2, U3, _, _, _, _⟩ := row_four hS.1; obtain ⟨p0, p1, p2⟩ := tcs (by have := reads_head hS.2.2.1 hp; rw [HXV.out] at this; exact this); obtain ⟨q0, q1, q2⟩ := tcs (by have := reads_head hS.2.2.2.1 hq; rw [HYV.out] at this; exact this); go_simp; try with_reducible rfl); simp only [Act.put, List.setIfInBounds_toArray, List.set_cons_zero, List.set_cons_succ])
          (refine plan_pure ?_ rfl rfl (fun w' => ?_) ?_; rotate_left; (go_simp; try with_reducible rfl); simp only [Act.put, List.setIfInBounds_toArray, List.set_cons_zero, List.set_cons_succ])
          (refine plan_pure ?_ rfl rfl (fun w' => ?_) ?_; rotate_left; (go_simp; try with_reducible rfl); simp only [Act.put, List.setIfInBounds_toArray, List.set_cons_zero, List.set_cons_succ])
          (refine plan_pure ?_ rfl rfl (fun w' => ?_) ?_; rotate_left; (go_simp; try with_reducible rfl); simp only [Act.put, List.setIfInBounds_toArray, List.set_cons_zero, List.set_cons_succ])
          (refine plan_pure ?_ rfl rfl (fun w' => ?_) ?_; rotate_left; (go_simp; try with_reducible rfl); simp only [Act.put, List.setIfInBounds_toArray, List.set_cons_zero, List.set_cons_succ])
          (refine plan_pure ?_ rfl rfl (fun w' => ?_) ?_; rotate_left; (go_simp; try with_reducible rfl); simp only [Act.put, List.setIfInBounds_toArray, List.set_cons_zero, List.set_cons_succ])
          (refine plan_val ?_ rfl rfl rfl (fun w' hS => ?_) ?_; rotate_left; (obtain ⟨U0, U1, U2, U3, _, _, _, _⟩ := row_four hS.1; obtain ⟨p0, p1, p2⟩ := tcs (by have := reads_head hS.2.2.1 hp; rw [HXV.out] at this; exact this); obtain ⟨q0, q1, q2⟩ := tcs (by have := reads_head hS.2.2.2.1 hq; rw [HYV.out] at this; exact this); go_simp; try with_reducible rfl); simp only [Act.put, List.setIfInBounds_toArray, List.set_cons_zero, List.set_cons_succ])
          (refine plan_pure ?_ rfl rfl (fun w' => ?_) ?_; rotate_left; (go_simp; try with_reducible rfl); simp only [Act.put, List.setIfInBounds_toArray, List.set_cons_zero, List.set_cons_succ])
          (refine plan_pure ?_ rfl rfl (fun w' => ?_) ?_; rotate_left; (go_simp; try with_reducible rfl); simp only [Act.put, List.setIfInBounds_toArray, List.set_cons_zero, List.set_cons_succ])
          (refine plan_pure ?_ rfl rfl (fun w' => ?_) ?_; rotate_left; (go_simp; try with_reducible rfl); simp only [Act.put, List.setIfInBounds_toArray, List.set_cons_zero, List.set_cons_succ])
          (refine plan_val ?_ rfl rfl rfl (fun w' hS => ?_) ?_; rotate_left; (obtain ⟨U0, U1, U2, U3, _, _, _, _⟩ := row_four hS.1; obtain ⟨p0, p1, p2⟩ := tcs (by have := reads_head hS.2.2.1 hp; rw [HXV.out] at this; exact this); obtain ⟨q0, q1, q2⟩ := tcs (by have := reads_head hS.2.2.2.1 hq; rw [HYV.out] at this; exact this); go_simp; try with_reducible rfl); simp only [Act.put, List.setIfInBounds_toArray, List.set_cons_zero, List.set_cons_succ])
          (refine plan_pure ?_ rfl rfl (fun w' => ?_) ?_; rotate_left; (go_simp; try with_reducible rfl); simp only [Act.put, List.setIfInBounds_toArray, List.set_cons_zero, List.set_cons_succ])
          (refine plan_pure ?_ rfl rfl (fun w' => ?_) ?_; rotate_left; (go_simp; try with_reducible rfl); simp only [Act.put, List.setIfInBounds_toArray, List.set_cons_zero, List.set_cons_succ])
          refine plan_nil ?_
          intro w3 L3
          simp only [List.drop_succ_cons, List.drop_zero]
          try simp only [Act.put, List.setIfInBounds_toArray, List.set_cons_zero, List.set_cons_succ]
          clear LL
          obtain ⟨u0, r0, rx, ry, o0, hzb, own⟩ := L3
          go_upto_region 15 with (fail)
          refine wp_region_any (by kernel_rfl) ?_
          (refine any_float (i := 7) ?_ rfl (by kernel_rfl) (by kernel_rfl) (by kernel_rfl) (by exact fun _ _ _ h => h) rfl (fun w' => ?_) ?_; rotate_left; (go_simp; try with_reducible rfl); simp only [Act.put, List.setIfInBounds_toArray])
          (refine any_float (i := 8) ?_ rfl (by kernel_rfl) (by kernel_rfl) (by kernel_rfl) (by exact fun _ _ _ h => h) rfl (fun w' => ?_) ?_; rotate_left; (go_simp; try with_reducible rfl); simp only [Act.put])
          have HS : Row w3.drew ob 24 #[.int .i64 k, .int .i64 CM, .int .i64 (n + n'), lv] ∧ Row w3.drew (w.heap.size + 2) 24 #[.int .i64 0, .int .i64 0, .int .i64 0, .slice none 0 0] ∧ Reads w3.drew zb 3 (some ad) p (tcells (X.drop i)) ∧ Reads w3.drew zb 3 (some ad') q (tcells (Y.drop j)) ∧ Below w.heap.size w w3.drew ∧ zb ≤ w3.drew.heap.size := ⟨u0, r0, rx, ry, o0.drew, hzb⟩
          refine any_phase 9 [8, 7] 7 (fun w' => Row w' ob 24 #[.int .i64 k, .int .i64 CM, .int .i64 (n + n'), lv] ∧ Row w' (w.heap.size + 2) 24 #[.int .i64 0, .int .i64 0, .int .i64 0, .slice none 0 0] ∧ Reads w' zb 3 (some ad) p (tcells (X.drop i)) ∧ Reads w' zb 3 (some ad') q (tcells (Y.drop j)) ∧ Below w.heap.size w w' ∧ zb ≤ w'.heap.size) (by kernel_rfl) (by kernel_rfl) (by kernel_rfl) (by kernel_rfl) (((inv_start rfl).more (by kernel_rfl) (by kernel_rfl)).more (by kernel_rfl) (by kernel_rfl)) rfl (fun HOK => ?_)
          (refine hx_take HOK (i := 0) ?_ rfl (by decide) (by kernel_rfl) (by kernel_rfl) (by exact fun _ _ _ h => h) (Or.inl ⟨by rfl, fun w' hS => ?_⟩) HS ?_; rotate_left; (go_simp; try with_reducible rfl); simp only [Act.put])
          (refine hx_take HOK (i := 1) ?_ rfl (by decide) (by kernel_rfl) (by kernel_rfl) (by exact fun _ _ _ h => h) (Or.inl ⟨by rfl, fun w' hS => ?_⟩) HS ?_; rotate_left; (obtain ⟨U0, U1, U2, U3, _, _, _, _⟩ := row_four hS.1; obtain ⟨z0, z1, z2⟩ := tcs (by have := reads_head hS.2.2.1 hp; rw [HXV.out] at this; exact this); go_simp; try with_reducible rfl); simp only [Act.put])
          (refine hx_take HOK (i := 2) ?_ rfl (by decide) (by kernel_rfl) (by kernel_rfl) (by exact fun _ _ _ h => h) (Or.inl ⟨by rfl, fun w' hS => ?_⟩) HS ?_; rotate_left; (go_simp; try with_reducible rfl); simp only [Act.put])
          (refine hx_take HOK (i := 3) ?_ rfl (by decide) (by kernel_rfl) (by kernel_rfl) (by exact fun _ _ _ h => h) (Or.inl ⟨by rfl, fun w' hS => ?_⟩) HS ?_; rotate_left; (go_simp; try with_reducible rfl); simp only [Act.put])
          (refine hx_take HOK (i := 4) ?_ rfl (by decide) (by kernel_rfl) (by kernel_rfl) (by exact fun _ _ _ h => h) (Or.inl ⟨by rfl, fun w' hS => ?_⟩) HS ?_; rotate_left; (obtain ⟨U0, U1, U2, U3, _, _, _, _⟩ := row_four hS.1; obtain ⟨z0, z1, z2⟩ := tcs (by have := reads_head hS.2.2.1 hp; rw [HXV.out] at this; exact this); go_simp; try with_reducible rfl); simp only [Act.put])
          clear HS
          refine hx_one (i := 5) rfl (by decide) (by kernel_rfl) (fun K hK => ?_)
          go_simp
          have u1 := row_alloc u0 (.cells #[.int .i64 xv, .int .i64 xg, .int .i64 xd] 66)
          have r1 := row_alloc r0 (.cells #[.int .i64 xv, .int .i64 xg, .int .i64 xd] 66)
          have rx1 := rx.alloc hzb (.cells #[.int .i64 xv, .int .i64 xg, .int .i64 xd] 66)
          have ry1 := ry.alloc hzb (.cells #[.int .i64 xv, .int .i64 xg, .int .i64 xd] 66)
          have o1 := o0.alloc o0.size (.cells #[.int .i64 xv, .int .i64 xg, .int .i64 xd] 66)
          have own1 := own.alloc (.cells #[.int .i64 xv, .int .i64 xg, .int .i64 xd] 66)
          have hz1 : zb ≤ (w3.alloc (.cells #[.int .i64 xv, .int .i64 xg, .int .i64 xd] 66)).heap.size := by simp; omega
          have nb : Own (w3.alloc (.cells #[.int .i64 xv, .int .i64 xg, .int .i64 xd] 66)) 66 3 w3.heap.size 1 1 (tcells [(⟨xv, xg, xd⟩ : Tup)]) := by
            have h := own_new (w := w3) (e := 66) (size := 3) (n := 1) (cs := #[.int .i64 xv, .int .i64 xg, .int .i64 xd]) rfl (by unfold maxLen; omega) rfl
            simpa [tcells] using h
          have nl : lv.ownBlock ≠ some w3.heap.size := orow_new own (Nat.le_refl _)
          refine hK _ _ ⟨u1, r1, rx1, ry1, o1.drew, hz1⟩ ?_
          clear hK K
          try simp only [Act.put, List.setIfInBounds_toArray, List.set_cons_zero, List.set_cons_succ]
          clear u0 r0 rx ry o0 own
          have HW : (w3.drew.alloc (.cells #[.int .i64 xv, .int .i64 xg, .int .i64 xd] 66)) = (w3.alloc (.cells #[.int .i64 xv, .int .i64 xg, .int .i64 xd] 66)).drew := rfl
          try rw [HW]
          generalize hwd : (w3.alloc (.cells #[.int .i64 xv, .int .i64 xg, .int .i64 xd] 66)).drew = w4
          have u1 : Row w4 ob 24 #[.int .i64 k, .int .i64 CM, .int .i64 (n + n'), lv] := by rw [← hwd]; exact u1
          have r1 : Row w4 (w.heap.size + 2) 24 #[.int .i64 0, .int .i64 0, .int .i64 0, .slice none 0 0] := by rw [← hwd]; exact r1
          have rx1 : Reads w4 zb 3 (some ad) p (tcells (X.drop i)) := by rw [← hwd]; exact rx1
          have ry1 : Reads w4 zb 3 (some ad') q (tcells (Y.drop j)) := by rw [← hwd]; exact ry1
          have o1 : Below w.heap.size w w4 := by rw [← hwd]; exact o1.drew
          have own1 : w4.ownsRow zb 66 3 lv N (tcells L) := by rw [← hwd]; exact own1
          have nb : Own w4 66 3 w3.heap.size 1 1 (tcells [(⟨xv, xg, xd⟩ : Tup)]) := by rw [← hwd]; exact nb
          have hz4 : zb ≤ w4.heap.size := by rw [← hwd]; exact hz1
          clear hwd HW hz1
          generalize w3.heap.size = lb at nb nl ⊢
          refine hx_one (i := 6) rfl (by decide) (by kernel_rfl) (fun K hK => ?_)
          refine step_append_any _ rfl _ _ 22 rfl zb 66 ii (.agg #[.int .i64 0, .int .i64 0, .int .i64 0]) 3 24 Try.underlying22 hii iz0 iz1 iz2 rfl (by decide) lv N (tcells L) rfl own1 w4.heap.size (some ⟨lb, 0, none⟩) 1 1 (tcells [(⟨xv, xg, xd⟩ : Tup)]) rfl nb.reads (tcells_one _) (by unfold maxLen; omega) (by omega) hz4 ?_
          intro vv w5 pr gr at5
          obtain ⟨gz, cz, rfl, _, _⟩ := pr.form (by omega)
          have hbl := own1.lt
          have u2 := row_grown u1 gr (fun e => by have := (hbl _ e).1; omega)
          have r2 := row_grown r1 gr (fun e => by have := (hbl _ e).1; omega)
          have rx2 := reads_grown rx1 gr (fun b e => (hbl b e).1) hz4
          have ry2 := reads_grown ry1 gr (fun b e => (hbl b e).1) hz4
          have o2 : Below w.heap.size w w5 := below_grown o1 gr (fun b e => by have := (hbl b e).1; omega) o1.size
          have hz5 : zb ≤ w5.heap.size := Nat.le_trans hz4 gr.size
          refine hK _ _ ⟨u2, r2, rx2, ry2, o2, hz5⟩ ?_
          clear hK K
          try simp only [Act.put, List.setIfInBounds_toArray]
          rw [← tcells_append] at pr
          clear at5 gr hbl u1 r1 rx1 ry1 o1 own1 nb nl
          refine hx_done (by kernel_rfl) ?_
          simp only [List.drop_succ_cons, List.drop_zero]
          clear HOK
          obtain ⟨U0, U1, U2, U3, U4, U5, U6, U7⟩ := row_four u2
          have nx := reads_next (c := cx) rx2 hp (by omega)
          have fx2 := next_block (c := cx) (P := fun b => ob < b) FX.out
          have u3 : Row (w5.setCell ⟨ob, 3, none⟩ (.slice (some ⟨gz, 0, none⟩) (N + 1) cz)) ob 24 #[.int .i64 k, .int .i64 CM, .int .i64 (n + n'), (.slice (some ⟨gz, 0, none⟩) (N + 1) cz)] := row_set u2 3 _
          have r3 := row_other (p := ⟨ob, 3, none⟩) r2 (by simp; omega) (.slice (some ⟨gz, 0, none⟩) (N + 1) cz)
          have nx3 := reads_set (p := ⟨ob, 3, none⟩) nx (fun a e => by have := fx2 a e; simp; omega) (.slice (some ⟨gz, 0, none⟩) (N + 1) cz)
          have oo3 := reads_set (p := ⟨ob, 3, none⟩) ry2 (fun a e => by have := FY.out a e; simp; omega) (.slice (some ⟨gz, 0, none⟩) (N + 1) cz)
          have own3 := orow_other (p := ⟨ob, 3, none⟩) pr (orow_old pr (by omega)) (.slice (some ⟨gz, 0, none⟩) (N + 1) cz)
          have o3 := o2.setCell (p := ⟨ob, 3, none⟩) (by simp; omega) (.slice (some ⟨gz, 0, none⟩) (N + 1) cz)
          have hz6 : zb ≤ (w5.setCell ⟨ob, 3, none⟩ (.slice (some ⟨gz, 0, none⟩) (N + 1) cz)).heap.size := by simp; omega
          clear rx2 ry2 nx u2 r2 o2 pr
          go_wp2
          go_roundw
          case rel => exact ⟨i + 1, j, p - 1, q, N + 1, _, _, cx - 1, cy, _, L ++ [(⟨xv, xg, xd⟩ : Tup)], rfl, rfl, Lib.hid (by have := HP.out; omega), HQ, Lib.hid (by rw [HN.out]; omega), by omega, Lib.hid nx3, Lib.hid oo3, by omega, hqc, Lib.hid fx2, FY, own3, HS2, u3, r3, o3, hz6⟩
          case measure => simp [lenV]; omega
        · have hv := Int.not_le.1 hv
          have ST := (show (L ++ [tupAt Y j]) ++ smrg (X.drop i) (Y.drop (j + 1)) = smrg X Y by rw [← HS.out, smrg_y (x := X) (y := Y) (i := i) (j := j) (by rw [HLX.out]; have := HP.out; omega) (by rw [HLY.out]; have := HQ.out; omega) (.inr hv)]; simp)
          generalize hxv : tupAt X i = xt at ST hv
          obtain ⟨xv, xg, xd⟩ := xt
          have HXV := Lib.hid hxv
          clear hxv
          generalize hyv : tupAt Y j = yt at ST hv
          obtain ⟨yv, yg, yd⟩ := yt
          have HYV := Lib.hid hyv
          clear hyv
          dsimp only at hv
          have HS2 := Lib.hid ST
          clear ST
          have hv' : ¬ xv ≤ yv := by omega
          clear hv
          go_upto_region 14 with (fail)
          have LL : Row wr ob 24 #[.int .i64 k, .int .i64 CM, .int .i64 (n + n'), lv] ∧ Row wr (w.heap.size + 2) 24 #[.int .i64 0, .int .i64 0, .int .i64 0, .slice none 0 0] ∧ Reads wr zb 3 (some ad) p (tcells (X.drop i)) ∧ Reads wr zb 3 (some ad') q (tcells (Y.drop j)) ∧ Below w.heap.size w wr ∧ zb ≤ wr.heap.size ∧ World.ownsRow wr zb 66 3 lv N (tcells L) := ⟨u0, r0, RX.out, RY.out, o0, hzb, own⟩
          clear U0 U1 U2 U3 u0 r0 RX RY o0 hzb own
          refine wp_region_free0 [0, 1, 2, 3, 4, 5, 6, 7, 8, 9, 10, 11, 12, 13, 14, 15, 16, 17] [] [0, 1, 2, 3, 4, 5, 6, 7, 8, 9, 10, 11, 12, 13, 14, 15, 16, 17] 18 (fun w' => Row w' ob 24 #[.int .i64 k, .int .i64 CM, .int .i64 (n + n'), lv] ∧ Row w' (w.heap.size + 2) 24 #[.int .i64 0, .int .i64 0, .int .i64 0, .slice none 0 0] ∧ Reads w' zb 3 (some ad) p (tcells (X.drop i)) ∧ Reads w' zb 3 (some ad') q (tcells (Y.drop j)) ∧ Below w.heap.size w w' ∧ zb ≤ w'.heap.size ∧ World.ownsRow w' zb 66 3 lv N (tcells L)) (by kernel_rfl) (by kernel_rfl) (fun _ _ d _ _ h => by cases d <;> exact h) ?_ ?_
          · exact ⟨LL.1, LL.2.1, LL.2.2.1, LL.2.2.2.1, LL.2.2.2.2.1.drew, LL.2.2.2.2.2.1, LL.2.2.2.2.2.2⟩
          (refine plan_pure ?_ rfl rfl (fun w' => ?_) ?_; rotate_left; (go_simp; try with_reducible rfl); simp only [Act.put, List.setIfInBounds_toArray, List.set_cons_zero, List.set_cons_succ])
          (refine plan_val ?_ rfl rfl rfl (fun w' hS => ?_) ?_; rotate_left; (obtain ⟨U0, U1, U2, U3, _, _, _, _⟩ := row_four hS.1; obtain ⟨p0, p1, p2⟩ := tcs (by have := reads_head hS.2.2.1 hp; rw [HXV.out] at this; exact this); obtain ⟨q0, q1, q2⟩ := tcs (by have := reads_head hS.2.2.2.1 hq; rw [HYV.out] at this; exact this); go_simp; try with_reducible rfl); simp only [Act.put, List.setIfInBounds_toArray, List.set_cons_zero, List.set_cons_succ])
          (refine plan_pure ?_ rfl rfl (fun w' => ?_) ?_; rotate_left; (go_simp; try with_reducible rfl); simp only [Act.put, List.setIfInBounds_toArray, List.set_cons_zero, List.set_cons_succ])
          (refine plan_pure ?_ rfl rfl (fun w' => ?_) ?_; rotate_left; (go_simp; try with_reducible rfl); simp only [Act.put, List.setIfInBounds_toArray, List.set_cons_zero, List.set_cons_succ])
          (refine plan_pure ?_ rfl rfl (fun w' => ?_) ?_; rotate_left; (go_simp; try with_reducible rfl); simp only [Act.put, List.setIfInBounds_toArray, List.set_cons_zero, List.set_cons_succ])
          (refine plan_val ?_ rfl rfl rfl (fun w' hS => ?_) ?_; rotate_left; (obtain ⟨U0, U1, U2, U3, _, _, _, _⟩ := row_four hS.1; obtain ⟨p0, p1, p2⟩ := tcs (by have := reads_head hS.2.2.1 hp; rw [HXV.out] at this; exact this); obtain ⟨q0, q1, q2⟩ := tcs (by have := reads_head hS.2.2.2.1 hq; rw [HYV.out] at this; exact this); go_simp; try with_reducible rfl); simp only [Act.put, List.setIfInBounds_toArray, List.set_cons_zero, List.set_cons_succ])
          (refine plan_pure ?_ rfl rfl (fun w' => ?_) ?_; rotate_left; (go_simp; try with_reducible rfl); simp only [Act.put, List.setIfInBounds_toArray, List.set_cons_zero, List.set_cons_succ])
          (refine plan_pure ?_ rfl rfl (fun w' => ?_) ?_; rotate_left; (go_simp; try with_reducible rfl); simp only [Act.put, List.setIfInBounds_toArray, List.set_cons_zero, List.set_cons_succ])
          (refine plan_pure ?_ rfl rfl (fun w' => ?_) ?_; rotate_left; (go_simp; try with_reducible rfl); simp only [Act.put, List.setIfInBounds_toArray, List.set_cons_zero, List.set_cons_succ])
          (refine plan_pure ?_ rfl rfl (fun w' => ?_) ?_; rotate_left; (go_simp; try with_reducible rfl); simp only [Act.put, List.setIfInBounds_toArray, List.set_cons_zero, List.set_cons_succ])
          (refine plan_pure ?_ rfl rfl (fun w' => ?_) ?_; rotate_left; (go_simp; try with_reducible rfl); simp only [Act.put, List.setIfInBounds_toArray, List.set_cons_zero, List.set_cons_succ])
          (refine plan_val ?_ rfl rfl rfl (fun w' hS => ?_) ?_; rotate_left; (obtain ⟨U0, U1, U2, U3, _, _, _, _⟩ := row_four hS.1; obtain ⟨p0, p1, p2⟩ := tcs (by have := reads_head hS.2.2.1 hp; rw [HXV.out] at this; exact this); obtain ⟨q0, q1, q2⟩ := tcs (by have := reads_head hS.2.2.2.1 hq; rw [HYV.out] at this; exact this); go_simp; try with_reducible rfl); simp only [Act.put, List.setIfInBounds_toArray, List.set_cons_zero, List.set_cons_succ])
          (refine plan_pure ?_ rfl rfl (fun w' => ?_) ?_; rotate_left; (go_simp; try with_reducible rfl); simp only [Act.put, List.setIfInBounds_toArray, List.set_cons_zero, List.set_cons_succ])
          (refine plan_pure ?_ rfl rfl (fun w' => ?_) ?_; rotate_left; (go_simp; try with_reducible rfl); simp only [Act.put, List.setIfInBounds_toArray, List.set_cons_zero, List.set_cons_succ])
          (refine plan_pure ?_ rfl rfl (fun w' => ?_) ?_; rotate_left; (go_simp; try with_reducible rfl); simp only [Act.put, List.setIfInBounds_toArray, List.set_cons_zero, List.set_cons_succ])
          (refine plan_val ?_ rfl rfl rfl (fun w' hS => ?_) ?_; rotate_left; (obtain ⟨U0, U1, U2, U3, _, _, _, _⟩ := row_four hS.1; obtain ⟨p0, p1, p2⟩ := tcs (by have := reads_head hS.2.2.1 hp; rw [HXV.out] at this; exact this); obtain ⟨q0, q1, q2⟩ := tcs (by have := reads_head hS.2.2.2.1 hq; rw [HYV.out] at this; exact this); go_simp; try with_reducible rfl); simp only [Act.put, List.setIfInBounds_toArray, List.set_cons_zero, List.set_cons_succ])
          (refine plan_pure ?_ rfl rfl (fun w' => ?_) ?_; rotate_left; (go_simp; try with_reducible rfl); simp only [Act.put, List.setIfInBounds_toArray, List.set_cons_zero, List.set_cons_succ])
          (refine plan_pure ?_ rfl rfl (fun w' => ?_) ?_; rotate_left; (go_simp; try with_reducible rfl); simp only [Act.put, List.setIfInBounds_toArray, List.set_cons_zero, List.set_cons_succ])
          refine plan_nil ?_
          intro w3 L3
          simp only [List.drop_succ_cons, List.drop_zero]
          try simp only [Act.put, List.setIfInBounds_toArray, List.set_cons_zero, List.set_cons_succ]
          clear LL
          obtain ⟨u0, r0, rx, ry, o0, hzb, own⟩ := L3
          go_upto_region 16 with (fail)
          refine wp_region_any (by kernel_rfl) ?_
          (refine any_float (i := 7) ?_ rfl (by kernel_rfl) (by kernel_rfl) (by kernel_rfl) (by exact fun _ _ _ h => h) rfl (fun w' => ?_) ?_; rotate_left; (go_simp; try with_reducible rfl); simp only [Act.put, List.setIfInBounds_toArray])
          (refine any_float (i := 8) ?_ rfl (by kernel_rfl) (by kernel_rfl) (by kernel_rfl) (by exact fun _ _ _ h => h) rfl (fun w' => ?_) ?_; rotate_left; (go_simp; try with_reducible rfl); simp only [Act.put])
          have HS : Row w3.drew ob 24 #[.int .i64 k, .int .i64 CM, .int .i64 (n + n'), lv] ∧ Row w3.drew (w.heap.size + 2) 24 #[.int .i64 0, .int .i64 0, .int .i64 0, .slice none 0 0] ∧ Reads w3.drew zb 3 (some ad) p (tcells (X.drop i)) ∧ Reads w3.drew zb 3 (some ad') q (tcells (Y.drop j)) ∧ Below w.heap.size w w3.drew ∧ zb ≤ w3.drew.heap.size := ⟨u0, r0, rx, ry, o0.drew, hzb⟩
          refine any_phase 9 [8, 7] 7 (fun w' => Row w' ob 24 #[.int .i64 k, .int .i64 CM, .int .i64 (n + n'), lv] ∧ Row w' (w.heap.size + 2) 24 #[.int .i64 0, .int .i64 0, .int .i64 0, .slice none 0 0] ∧ Reads w' zb 3 (some ad) p (tcells (X.drop i)) ∧ Reads w' zb 3 (some ad') q (tcells (Y.drop j)) ∧ Below w.heap.size w w' ∧ zb ≤ w'.heap.size) (by kernel_rfl) (by kernel_rfl) (by kernel_rfl) (by kernel_rfl) (((inv_start rfl).more (by kernel_rfl) (by kernel_rfl)).more (by kernel_rfl) (by kernel_rfl)) rfl (fun HOK => ?_)
          (refine hx_take HOK (i := 0) ?_ rfl (by decide) (by kernel_rfl) (by kernel_rfl) (by exact fun _ _ _ h => h) (Or.inl ⟨by rfl, fun w' hS => ?_⟩) HS ?_; rotate_left; (go_simp; try with_reducible rfl); simp only [Act.put])
          (refine hx_take HOK (i := 1) ?_ rfl (by decide) (by kernel_rfl) (by kernel_rfl) (by exact fun _ _ _ h => h) (Or.inl ⟨by rfl, fun w' hS => ?_⟩) HS ?_; rotate_left; (obtain ⟨U0, U1, U2, U3, _, _, _, _⟩ := row_four hS.1; obtain ⟨z0, z1, z2⟩ := tcs (by have := reads_head hS.2.2.2.1 hq; rw [HYV.out] at this; exact this); go_simp; try with_reducible rfl); simp only [Act.put])
          (refine hx_take HOK (i := 2) ?_ rfl (by decide) (by kernel_rfl) (by kernel_rfl) (by exact fun _ _ _ h => h) (Or.inl ⟨by rfl, fun w' hS => ?_⟩) HS ?_; rotate_left; (go_simp; try with_reducible rfl); simp only [Act.put])
          (refine hx_take HOK (i := 3) ?_ rfl (by decide) (by kernel_rfl) (by kernel_rfl) (by exact fun _ _ _ h => h) (Or.inl ⟨by rfl, fun w' hS => ?_⟩) HS ?_; rotate_left; (go_simp; try with_reducible rfl); simp only [Act.put])
          (refine hx_take HOK (i := 4) ?_ rfl (by decide) (by kernel_rfl) (by kernel_rfl) (by exact fun _ _ _ h => h) (Or.inl ⟨by rfl, fun w' hS => ?_⟩) HS ?_; rotate_left; (obtain ⟨U0, U1, U2, U3, _, _, _, _⟩ := row_four hS.1; obtain ⟨z0, z1, z2⟩ := tcs (by have := reads_head hS.2.2.2.1 hq; rw [HYV.out] at this; exact this); go_simp; try with_reducible rfl); simp only [Act.put])
          clear HS
          refine hx_one (i := 5) rfl (by decide) (by kernel_rfl) (fun K hK => ?_)
          go_simp
          have u1 := row_alloc u0 (.cells #[.int .i64 yv, .int .i64 yg, .int .i64 yd] 66)
          have r1 := row_alloc r0 (.cells #[.int .i64 yv, .int .i64 yg, .int .i64 yd] 66)
          have rx1 := rx.alloc hzb (.cells #[.int .i64 yv, .int .i64 yg, .int .i64 yd] 66)
          have ry1 := ry.alloc hzb (.cells #[.int .i64 yv, .int .i64 yg, .int .i64 yd] 66)
          have o1 := o0.alloc o0.size (.cells #[.int .i64 yv, .int .i64 yg, .int .i64 yd] 66)
          have own1 := own.alloc (.cells #[.int .i64 yv, .int .i64 yg, .int .i64 yd] 66)
          have hz1 : zb ≤ (w3.alloc (.cells #[.int .i64 yv, .int .i64 yg, .int .i64 yd] 66)).heap.size := by simp; omega
          have nb : Own (w3.alloc (.cells #[.int .i64 yv, .int .i64 yg, .int .i64 yd] 66)) 66 3 w3.heap.size 1 1 (tcells [(⟨yv, yg, yd⟩ : Tup)]) := by
            have h := own_new (w := w3) (e := 66) (size := 3) (n := 1) (cs := #[.int .i64 yv, .int .i64 yg, .int .i64 yd]) rfl (by unfold maxLen; omega) rfl
            simpa [tcells] using h
          have nl : lv.ownBlock ≠ some w3.heap.size := orow_new own (Nat.le_refl _)
          refine hK _ _ ⟨u1, r1, rx1, ry1, o1.drew, hz1⟩ ?_
          clear hK K
          try simp only [Act.put, List.setIfInBounds_toArray, List.set_cons_zero, List.set_cons_succ]
          clear u0 r0 rx ry o0 own
          have HW : (w3.drew.alloc (.cells #[.int .i64 yv, .int .i64 yg, .int .i64 yd] 66)) = (w3.alloc (.cells #[.int .i64 yv, .int .i64 yg, .int .i64 yd] 66)).drew := rfl
          try rw [HW]
          generalize hwd : (w3.alloc (.cells #[.int .i64 yv, .int .i64 yg, .int .i64 yd] 66)).drew = w4
          have u1 : Row w4 ob 24 #[.int .i64 k, .int .i64 CM, .int .i64 (n + n'), lv] := by rw [← hwd]; exact u1
          have r1 : Row w4 (w.heap.size + 2) 24 #[.int .i64 0, .int .i64 0, .int .i64 0, .slice none 0 0] := by rw [← hwd]; exact r1
          have rx1 : Reads w4 zb 3 (some ad) p (tcells (X.drop i)) := by rw [← hwd]; exact rx1
          have ry1 : Reads w4 zb 3 (some ad') q (tcells (Y.drop j)) := by rw [← hwd]; exact ry1
          have o1 : Below w.heap.size w w4 := by rw [← hwd]; exact o1.drew
          have own1 : w4.ownsRow zb 66 3 lv N (tcells L) := by rw [← hwd]; exact own1
          have nb : Own w4 66 3 w3.heap.size 1 1 (tcells [(⟨yv, yg, yd⟩ : Tup)]) := by rw [← hwd]; exact nb
          have hz4 : zb ≤ w4.heap.size := by rw [← hwd]; exact hz1
          clear hwd HW hz1
          generalize w3.heap.size = lb at nb nl ⊢
          refine hx_one (i := 6) rfl (by decide) (by kernel_rfl) (fun K hK => ?_)
          refine step_append_any _ rfl _ _ 22 rfl zb 66 ii (.agg #[.int .i64 0, .int .i64 0, .int .i64 0]) 3 24 Try.underlying22 hii iz0 iz1 iz2 rfl (by decide) lv N (tcells L) rfl own1 w4.heap.size (some ⟨lb, 0, none⟩) 1 1 (tcells [(⟨yv, yg, yd⟩ : Tup)]) rfl nb.reads (tcells_one _) (by unfold maxLen; omega) (by omega) hz4 ?_
          intro vv w5 pr gr at5
          obtain ⟨gz, cz, rfl, _, _⟩ := pr.form (by omega)
          have hbl := own1.lt
          have u2 := row_grown u1 gr (fun e => by have := (hbl _ e).1; omega)
          have r2 := row_grown r1 gr (fun e => by have := (hbl _ e).1; omega)
          have rx2 := reads_grown rx1 gr (fun b e => (hbl b e).1) hz4
          have ry2 := reads_grown ry1 gr (fun b e => (hbl b e).1) hz4
          have o2 : Below w.heap.size w w5 := below_grown o1 gr (fun b e => by have := (hbl b e).1; omega) o1.size
          have hz5 : zb ≤ w5.heap.size := Nat.le_trans hz4 gr.size
          refine hK _ _ ⟨u2, r2, rx2, ry2, o2, hz5⟩ ?_
          clear hK K
          try simp only [Act.put, List.setIfInBounds_toArray]
          rw [← tcells_append] at pr
          clear at5 gr hbl u1 r1 rx1 ry1 o1 own1 nb nl
          refine hx_done (by kernel_rfl) ?_
          simp only [List.drop_succ_cons, List.drop_zero]
          clear HOK
          obtain ⟨U0, U1, U2, U3, U4, U5, U6, U7⟩ := row_four u2
          have nx := reads_next (c := cy) ry2 hq (by omega)
          have fx2 := next_block (c := cy) (P := fun b => ob < b) FY.out
          have u3 : Row (w5.setCell ⟨ob, 3, none⟩ (.slice (some ⟨gz, 0, none⟩) (N + 1) cz)) ob 24 #[.int .i64 k, .int .i64 CM, .int .i64 (n + n'), (.slice (some ⟨gz, 0, none⟩) (N + 1) cz)] := row_set u2 3 _
          have r3 := row_other (p := ⟨ob, 3, none⟩) r2 (by simp; omega) (.slice (some ⟨gz, 0, none⟩) (N + 1) cz)
          have nx3 := reads_set (p := ⟨ob, 3, none⟩) nx (fun a e => by have := fx2 a e; simp; omega) (.slice (some ⟨gz, 0, none⟩) (N + 1) cz)
          have oo3 := reads_set (p := ⟨ob, 3, none⟩) rx2 (fun a e => by have := FX.out a e; simp; omega) (.slice (some ⟨gz, 0, none⟩) (N + 1) cz)
          have own3 := orow_other (p := ⟨ob, 3, none⟩) pr (orow_old pr (by omega)) (.slice (some ⟨gz, 0, none⟩) (N + 1) cz)
          have o3 := o2.setCell (p := ⟨ob, 3, none⟩) (by simp; omega) (.slice (some ⟨gz, 0, none⟩) (N + 1) cz)
          have hz6 : zb ≤ (w5.setCell ⟨ob, 3, none⟩ (.slice (some ⟨gz, 0, none⟩) (N + 1) cz)).heap.size := by simp; omega
          clear ry2 rx2 nx u2 r2 o2 pr
          go_wp2
          go_roundw
          case rel => exact ⟨i, j + 1, p, q - 1, N + 1, _, _, cx, cy - 1, _, L ++ [(⟨yv, yg, yd⟩ : Tup)], rfl, rfl, HP, Lib.hid (by have := HQ.out; omega), Lib.hid (by rw [HN.out]; omega), by omega, Lib.hid oo3, Lib.hid nx3, hpc, by omega, FX, Lib.hid fx2, own3, HS2, u3, r3, o3, hz6⟩
          case measure => simp [lenV]; omega
      · have ne : ((q : Int) == 0) = true := by simp; omega
        have ST := (show (L ++ [tupAt X i]) ++ smrg (X.drop (i + 1)) (Y.drop j) = smrg X Y by rw [← HS.out, smrg_x (x := X) (y := Y) (i := i) (j := j) (by rw [HLX.out]; have := HP.out; omega) (by rw [HLY.out]; have := HQ.out; omega) (.inl (by rw [HLY.out]; have := HQ.out; omega))]; simp)
        generalize hxv : tupAt X i = xt at ST
        obtain ⟨xv, xg, xd⟩ := xt
        have HXV := Lib.hid hxv
        clear hxv
        have HS2 := Lib.hid ST
        clear ST
        go_upto_region 14 with (fail)
        have LL : Row wr ob 24 #[.int .i64 k, .int .i64 CM, .int .i64 (n + n'), lv] ∧ Row wr (w.heap.size + 2) 24 #[.int .i64 0, .int .i64 0, .int .i64 0, .slice none 0 0] ∧ Reads wr zb 3 (some ad) p (tcells (X.drop i)) ∧ Reads wr zb 3 Ay q (tcells (Y.drop j)) ∧ Below w.heap.size w wr ∧ zb ≤ wr.heap.size ∧ World.ownsRow wr zb 66 3 lv N (tcells L) := ⟨u0, r0, RX.out, RY.out, o0, hzb, own⟩
        clear U0 U1 U2 U3 u0 r0 RX RY o0 hzb own
        refine wp_region_free0 [0, 1, 2, 3, 4, 5, 6, 7, 8, 9, 10, 11, 12, 13, 14, 15, 16, 17] [] [0, 1, 2, 3, 4, 5, 6, 7, 8, 9, 10, 11, 12, 13, 14, 15, 16, 17] 18 (fun w' => Row w' ob 24 #[.int .i64 k, .int .i64 CM, .int .i64 (n + n'), lv] ∧ Row w' (w.heap.size + 2) 24 #[.int .i64 0, .int .i64 0, .int .i64 0, .slice none 0 0] ∧ Reads w' zb 3 (some ad) p (tcells (X.drop i)) ∧ Reads w' zb 3 Ay q (tcells (Y.drop j)) ∧ Below w.heap.size w w' ∧ zb ≤ w'.heap.size ∧ World.ownsRow w' zb 66 3 lv N (tcells L)) (by kernel_rfl) (by kernel_rfl) (fun _ _ d _ _ h => by cases d <;> exact h) ?_ ?_
        · exact ⟨LL.1, LL.2.1, LL.2.2.1, LL.2.2.2.1, LL.2.2.2.2.1.drew, LL.2.2.2.2.2.1, LL.2.2.2.2.2.2⟩
        (refine plan_pure ?_ rfl rfl (fun w' => ?_) ?_; rotate_left; (go_simp; try with_reducible rfl); simp only [Act.put, List.setIfInBounds_toArray, List.set_cons_zero, List.set_cons_succ])
        (refine plan_val ?_ rfl rfl rfl (fun w' hS => ?_) ?_; rotate_left; (obtain ⟨U0, U1, U2, U3, _, _, _, _⟩ := row_four hS.1; obtain ⟨p0, p1, p2⟩ := tcs (by have := reads_head hS.2.2.1 hp; rw [HXV.out] at this; exact this); go_simp; try with_reducible rfl); simp only [Act.put, List.setIfInBounds_toArray, List.set_cons_zero, List.set_cons_succ])
        (refine plan_pure ?_ rfl rfl (fun w' => ?_) ?_; rotate_left; (go_simp; try with_reducible rfl); simp only [Act.put, List.setIfInBounds_toArray, List.set_cons_zero, List.set_cons_succ])
        (refine plan_pure ?_ rfl rfl (fun w' => ?_) ?_; rotate_left; (go_simp; try with_reducible rfl); simp only [Act.put, List.setIfInBounds_toArray, List.set_cons_zero, List.set_cons_succ])
        refine plan_not rfl rfl ?_
        simp only [Act.put, List.setIfInBounds_toArray, List.set_cons_zero, List.set_cons_succ]
        refine plan_not rfl rfl ?_
        simp only [Act.put, List.setIfInBounds_toArray, List.set_cons_zero, List.set_cons_succ]
        refine plan_not rfl rfl ?_
        simp only [Act.put, List.setIfInBounds_toArray, List.set_cons_zero, List.set_cons_succ]
        refine plan_not rfl rfl ?_
        simp only [Act.put, List.setIfInBounds_toArray, List.set_cons_zero, List.set_cons_succ]
        refine plan_not rfl rfl ?_
        simp only [Act.put, List.setIfInBounds_toArray, List.set_cons_zero, List.set_cons_succ]
        refine plan_not rfl rfl ?_
        simp only [Act.put, List.setIfInBounds_toArray, List.set_cons_zero, List.set_cons_succ]
        refine plan_not rfl rfl ?_
        simp only [Act.put, List.setIfInBounds_toArray, List.set_cons_zero, List.set_cons_succ]
        refine plan_not rfl rfl ?_
        simp only [Act.put, List.setIfInBounds_toArray, List.set_cons_zero, List.set_cons_succ]
        refine plan_not rfl rfl ?_
        simp only [Act.put, List.setIfInBounds_toArray, List.set_cons_zero, List.set_cons_succ]
        refine plan_not rfl rfl ?_
        simp only [Act.put, List.setIfInBounds_toArray, List.set_cons_zero, List.set_cons_succ]
        refine plan_not rfl rfl ?_
        simp only [Act.put, List.setIfInBounds_toArray, List.set_cons_zero, List.set_cons_succ]
        refine plan_not rfl rfl ?_
        simp only [Act.put, List.setIfInBounds_toArray, List.set_cons_zero, List.set_cons_succ]
        refine plan_not rfl rfl ?_
        simp only [Act.put, List.setIfInBounds_toArray, List.set_cons_zero, List.set_cons_succ]
        refine plan_not rfl rfl ?_
        simp only [Act.put, List.setIfInBounds_toArray, List.set_cons_zero, List.set_cons_succ]
        refine plan_nil ?_
        intro w3 L3
        simp only [List.drop_succ_cons, List.drop_zero]
        try simp only [Act.put, List.setIfInBounds_toArray, List.set_cons_zero, List.set_cons_succ]
        clear LL
        obtain ⟨u0, r0, rx, ry, o0, hzb, own⟩ := L3
        go_upto_region 15 with (fail)
        refine wp_region_any (by kernel_rfl) ?_
        (refine any_float (i := 7) ?_ rfl (by kernel_rfl) (by kernel_rfl) (by kernel_rfl) (by exact fun _ _ _ h => h) rfl (fun w' => ?_) ?_; rotate_left; (go_simp; try with_reducible rfl); simp only [Act.put, List.setIfInBounds_toArray])
        (refine any_float (i := 8) ?_ rfl (by kernel_rfl) (by kernel_rfl) (by kernel_rfl) (by exact fun _ _ _ h => h) rfl (fun w' => ?_) ?_; rotate_left; (go_simp; try with_reducible rfl); simp only [Act.put])
        have HS : Row w3.drew ob 24 #[.int .i64 k, .int .i64 CM, .int .i64 (n + n'), lv] ∧ Row w3.drew (w.heap.size + 2) 24 #[.int .i64 0, .int .i64 0, .int .i64 0, .slice none 0 0] ∧ Reads w3.drew zb 3 (some ad) p (tcells (X.drop i)) ∧ Reads w3.drew zb 3 Ay q (tcells (Y.drop j)) ∧ Below w.heap.size w w3.drew ∧ zb ≤ w3.drew.heap.size := ⟨u0, r0, rx, ry, o0.drew, hzb⟩
        refine any_phase 9 [8, 7] 7 (fun w' => Row w' ob 24 #[.int .i64 k, .int .i64 CM, .int .i64 (n + n'), lv] ∧ Row w' (w.heap.size + 2) 24 #[.int .i64 0, .int .i64 0, .int .i64 0, .slice none 0 0] ∧ Reads w' zb 3 (some ad) p (tcells (X.drop i)) ∧ Reads w' zb 3 Ay q (tcells (Y.drop j)) ∧ Below w.heap.size w w' ∧ zb ≤ w'.heap.size) (by kernel_rfl) (by kernel_rfl) (by kernel_rfl) (by kernel_rfl) (((inv_start rfl).more (by kernel_rfl) (by kernel_rfl)).more (by kernel_rfl) (by kernel_rfl)) rfl (fun HOK => ?_)
        (refine hx_take HOK (i := 0) ?_ rfl (by decide) (by kernel_rfl) (by kernel_rfl) (by exact fun _ _ _ h => h) (Or.inl ⟨by rfl, fun w' hS => ?_⟩) HS ?_; rotate_left; (go_simp; try with_reducible rfl); simp only [Act.put])
        (refine hx_take HOK (i := 1) ?_ rfl (by decide) (by kernel_rfl) (by kernel_rfl) (by exact fun _ _ _ h => h) (Or.inl ⟨by rfl, fun w' hS => ?_⟩) HS ?_; rotate_left; (obtain ⟨U0, U1, U2, U3, _, _, _, _⟩ := row_four hS.1; obtain ⟨z0, z1, z2⟩ := tcs (by have := reads_head hS.2.2.1 hp; rw [HXV.out] at this; exact this); go_simp; try with_reducible rfl); simp only [Act.put])
        (refine hx_take HOK (i := 2) ?_ rfl (by decide) (by kernel_rfl) (by kernel_rfl) (by exact fun _ _ _ h => h) (Or.inl ⟨by rfl, fun w' hS => ?_⟩) HS ?_; rotate_left; (go_simp; try with_reducible rfl); simp only [Act.put])
        (refine hx_take HOK (i := 3) ?_ rfl (by decide) (by kernel_rfl) (by kernel_rfl) (by exact fun _ _ _ h => h) (Or.inl ⟨by rfl, fun w' hS => ?_⟩) HS ?_; rotate_left; (go_simp; try with_reducible rfl); simp only [Act.put])
        (refine hx_take HOK (i := 4) ?_ rfl (by decide) (by kernel_rfl) (by kernel_rfl) (by exact fun _ _ _ h => h) (Or.inl ⟨by rfl, fun w' hS => ?_⟩) HS ?_; rotate_left; (obtain ⟨U0, U1, U2, U3, _, _, _, _⟩ := row_four hS.1; obtain ⟨z0, z1, z2⟩ := tcs (by have := reads_head hS.2.2.1 hp; rw [HXV.out] at this; exact this); go_simp; try with_reducible rfl); simp only [Act.put])
        clear HS
        refine hx_one (i := 5) rfl (by decide) (by kernel_rfl) (fun K hK => ?_)
        go_simp
        have u1 := row_alloc u0 (.cells #[.int .i64 xv, .int .i64 xg, .int .i64 xd] 66)
        have r1 := row_alloc r0 (.cells #[.int .i64 xv, .int .i64 xg, .int .i64 xd] 66)
        have rx1 := rx.alloc hzb (.cells #[.int .i64 xv, .int .i64 xg, .int .i64 xd] 66)
        have ry1 := ry.alloc hzb (.cells #[.int .i64 xv, .int .i64 xg, .int .i64 xd] 66)
        have o1 := o0.alloc o0.size (.cells #[.int .i64 xv, .int .i64 xg, .int .i64 xd] 66)
        have own1 := own.alloc (.cells #[.int .i64 xv, .int .i64 xg, .int .i64 xd] 66)
        have hz1 : zb ≤ (w3.alloc (.cells #[.int .i64 xv, .int .i64 xg, .int .i64 xd] 66)).heap.size := by simp; omega
        have nb : Own (w3.alloc (.cells #[.int .i64 xv, .int .i64 xg, .int .i64 xd] 66)) 66 3 w3.heap.size 1 1 (tcells [(⟨xv, xg, xd⟩ : Tup)]) := by
          have h := own_new (w := w3) (e := 66) (size := 3) (n := 1) (cs := #[.int .i64 xv, .int .i64 xg, .int .i64 xd]) rfl (by unfold maxLen; omega) rfl
          simpa [tcells] using h
        have nl : lv.ownBlock ≠ some w3.heap.size := orow_new own (Nat.le_refl _)
        refine hK _ _ ⟨u1, r1, rx1, ry1, o1.drew, hz1⟩ ?_
        clear hK K
        try simp only [Act.put, List.setIfInBounds_toArray, List.set_cons_zero, List.set_cons_succ]
        clear u0 r0 rx ry o0 own
        have HW : (w3.drew.alloc (.cells #[.int .i64 xv, .int .i64 xg, .int .i64 xd] 66)) = (w3.alloc (.cells #[.int .i64 xv, .int .i64 xg, .int .i64 xd] 66)).drew := rfl
        try rw [HW]
        generalize hwd : (w3.alloc (.cells #[.int .i64 xv, .int .i64 xg, .int .i64 xd] 66)).drew = w4
        have u1 : Row w4 ob 24 #[.int .i64 k, .int .i64 CM, .int .i64 (n + n'), lv] := by rw [← hwd]; exact u1
        have r1 : Row w4 (w.heap.size + 2) 24 #[.int .i64 0, .int .i64 0, .int .i64 0, .slice none 0 0] := by rw [← hwd]; exact r1
        have rx1 : Reads w4 zb 3 (some ad) p (tcells (X.drop i)) := by rw [← hwd]; exact rx1
        have ry1 : Reads w4 zb 3 Ay q (tcells (Y.drop j)) := by rw [← hwd]; exact ry1
        have o1 : Below w.heap.size w w4 := by rw [← hwd]; exact o1.drew
        have own1 : w4.ownsRow zb 66 3 lv N (tcells L) := by rw [← hwd]; exact own1
        have nb : Own w4 66 3 w3.heap.size 1 1 (tcells [(⟨xv, xg, xd⟩ : Tup)]) := by rw [← hwd]; exact nb
        have hz4 : zb ≤ w4.heap.size := by rw [← hwd]; exact hz1
        clear hwd HW hz1
        generalize w3.heap.size = lb at nb nl ⊢
        refine hx_one (i := 6) rfl (by decide) (by kernel_rfl) (fun K hK => ?_)
        refine step_append_any _ rfl _ _ 22 rfl zb 66 ii (.agg #[.int .i64 0, .int .i64 0, .int .i64 0]) 3 24 Try.underlying22 hii iz0 iz1 iz2 rfl (by decide) lv N (tcells L) rfl own1 w4.heap.size (some ⟨lb, 0, none⟩) 1 1 (tcells [(⟨xv, xg, xd⟩ : Tup)]) rfl nb.reads (tcells_one _) (by unfold maxLen; omega) (by omega) hz4 ?_
        intro vv w5 pr gr at5
        obtain ⟨gz, cz, rfl, _, _⟩ := pr.form (by omega)
        have hbl := own1.lt
        have u2 := row_grown u1 gr (fun e => by have := (hbl _ e).1; omega)
        have r2 := row_grown r1 gr (fun e => by have := (hbl _ e).1; omega)
        have rx2 := reads_grown rx1 gr (fun b e => (hbl b e).1) hz4
        have ry2 := reads_grown ry1 gr (fun b e => (hbl b e).1) hz4
        have o2 : Below w.heap.size w w5 := below_grown o1 gr (fun b e => by have := (hbl b e).1; omega) o1.size
        have hz5 : zb ≤ w5.heap.size := Nat.le_trans hz4 gr.size
        refine hK _ _ ⟨u2, r2, rx2, ry2, o2, hz5⟩ ?_
        clear hK K
        try simp only [Act.put, List.setIfInBounds_toArray]
        rw [← tcells_append] at pr
        clear at5 gr hbl u1 r1 rx1 ry1 o1 own1 nb nl
        refine hx_done (by kernel_rfl) ?_
        simp only [List.drop_succ_cons, List.drop_zero]
        clear HOK
        obtain ⟨U0, U1, U2, U3, U4, U5, U6, U7⟩ := row_four u2
        have nx := reads_next (c := cx) rx2 hp (by omega)
        have fx2 := next_block (c := cx) (P := fun b => ob < b) FX.out
        have u3 : Row (w5.setCell ⟨ob, 3, none⟩ (.slice (some ⟨gz, 0, none⟩) (N + 1) cz)) ob 24 #[.int .i64 k, .int .i64 CM, .int .i64 (n + n'), (.slice (some ⟨gz, 0, none⟩) (N + 1) cz)] := row_set u2 3 _
        have r3 := row_other (p := ⟨ob, 3, none⟩) r2 (by simp; omega) (.slice (some ⟨gz, 0, none⟩) (N + 1) cz)
        have nx3 := reads_set (p := ⟨ob, 3, none⟩) nx (fun a e => by have := fx2 a e; simp; omega) (.slice (some ⟨gz, 0, none⟩) (N + 1) cz)
        have oo3 := reads_set (p := ⟨ob, 3, none⟩) ry2 (fun a e => by have := FY.out a e; simp; omega) (.slice (some ⟨gz, 0, none⟩) (N + 1) cz)
        have own3 := orow_other (p := ⟨ob, 3, none⟩) pr (orow_old pr (by omega)) (.slice (some ⟨gz, 0, none⟩) (N + 1) cz)
        have o3 := o2.setCell (p := ⟨ob, 3, none⟩) (by simp; omega) (.slice (some ⟨gz, 0, none⟩) (N + 1) cz)
        have hz6 : zb ≤ (w5.setCell ⟨ob, 3, none⟩ (.slice (some ⟨gz, 0, none⟩) (N + 1) cz)).heap.size := by simp; omega
        clear rx2 ry2 nx u2 r2 o2 pr
        go_wp2
        go_roundw
        case rel => exact ⟨i + 1, j, p - 1, q, N + 1, _, _, cx - 1, cy, _, L ++ [(⟨xv, xg, xd⟩ : Tup)], rfl, rfl, Lib.hid (by have := HP.out; omega), HQ, Lib.hid (by rw [HN.out]; omega), by omega, Lib.hid nx3, Lib.hid oo3, by omega, hqc, Lib.hid fx2, FY, own3, HS2, u3, r3, o3, hz6⟩
        case measure => simp [lenV]; omega
    · have np : ¬ (0 : Int) < (p : Int) := by omega
      by_cases hq : 0 < q
      · have i1 : (0 : Int) < (p : Int) + (q : Int) := by omega
        have ne : ((q : Int) == 0) = false := by simp; omega
        have i3 : (0 : Int) < (q : Int) := by omega
        have hq1 : (1 : Int) ≤ (q : Int) := by omega
        obtain ⟨ad', rfl, _⟩ := RY.out.2 hq
        have ST := (show (L ++ [tupAt Y j]) ++ smrg (X.drop i) (Y.drop (j + 1)) = smrg X Y by rw [← HS.out, smrg_y (x := X) (y := Y) (i := i) (j := j) (by rw [HLX.out]; have := HP.out; omega) (by rw [HLY.out]; have := HQ.out; omega) (.inl (by rw [HLX.out]; have := HP.out; omega))]; simp)
        generalize hyv : tupAt Y j = yt at ST
        obtain ⟨yv, yg, yd⟩ := yt
        have HYV := Lib.hid hyv
        clear hyv
        have HS2 := Lib.hid ST
        clear ST
        go_upto_region 14 with (fail)
        have LL : Row wr ob 24 #[.int .i64 k, .int .i64 CM, .int .i64 (n + n'), lv] ∧ Row wr (w.heap.size + 2) 24 #[.int .i64 0, .int .i64 0, .int .i64 0, .slice none 0 0] ∧ Reads wr zb 3 Ax p (tcells (X.drop i)) ∧ Reads wr zb 3 (some ad') q (tcells (Y.drop j)) ∧ Below w.heap.size w wr ∧ zb ≤ wr.heap.size ∧ World.ownsRow wr zb 66 3 lv N (tcells L) := ⟨u0, r0, RX.out, RY.out, o0, hzb, own⟩
        clear U0 U1 U2 U3 u0 r0 RX RY o0 hzb own
        refine wp_region_free0 [0, 1, 2, 3, 4, 5, 6, 7, 8, 9, 10, 11, 12, 13, 14, 15, 16, 17] [] [0, 1, 2, 3, 4, 5, 6, 7, 8, 9, 10, 11, 12, 13, 14, 15, 16, 17] 18 (fun w' => Row w' ob 24 #[.int .i64 k, .int .i64 CM, .int .i64 (n + n'), lv] ∧ Row w' (w.heap.size + 2) 24 #[.int .i64 0, .int .i64 0, .int .i64 0, .slice none 0 0] ∧ Reads w' zb 3 Ax p (tcells (X.drop i)) ∧ Reads w' zb 3 (some ad') q (tcells (Y.drop j)) ∧ Below w.heap.size w w' ∧ zb ≤ w'.heap.size ∧ World.ownsRow w' zb 66 3 lv N (tcells L)) (by kernel_rfl) (by kernel_rfl) (fun _ _ d _ _ h => by cases d <;> exact h) ?_ ?_
        · exact ⟨LL.1, LL.2.1, LL.2.2.1, LL.2.2.2.1, LL.2.2.2.2.1.drew, LL.2.2.2.2.2.1, LL.2.2.2.2.2.2⟩
        (refine plan_pure ?_ rfl rfl (fun w' => ?_) ?_; rotate_left; (go_simp; try with_reducible rfl); simp only [Act.put, List.setIfInBounds_toArray, List.set_cons_zero, List.set_cons_succ])
        (refine plan_val ?_ rfl rfl rfl (fun w' hS => ?_) ?_; rotate_left; (obtain ⟨U0, U1, U2, U3, _, _, _, _⟩ := row_four hS.1; obtain ⟨q0, q1, q2⟩ := tcs (by have := reads_head hS.2.2.2.1 hq; rw [HYV.out] at this; exact this); go_simp; try with_reducible rfl); simp only [Act.put, List.setIfInBounds_toArray, List.set_cons_zero, List.set_cons_succ])
        (refine plan_pure ?_ rfl rfl (fun w' => ?_) ?_; rotate_left; (go_simp; try with_reducible rfl); simp only [Act.put, List.setIfInBounds_toArray, List.set_cons_zero, List.set_cons_succ])
        (refine plan_pure ?_ rfl rfl (fun w' => ?_) ?_; rotate_left; (go_simp; try with_reducible rfl); simp only [Act.put, List.setIfInBounds_toArray, List.set_cons_zero, List.set_cons_succ])
        (refine plan_pure ?_ rfl rfl (fun w' => ?_) ?_; rotate_left; (go_simp; try with_reducible rfl); simp only [Act.put, List.setIfInBounds_toArray, List.set_cons_zero, List.set_cons_succ])
        (refine plan_val ?_ rfl rfl rfl (fun w' hS => ?_) ?_; rotate_left; (obtain ⟨U0, U1, U2, U3, _, _, _, _⟩ := row_four hS.1; obtain ⟨q0, q1, q2⟩ := tcs (by have := reads_head hS.2.2.2.1 hq; rw [HYV.out] at this; exact this); go_simp; try with_reducible rfl); simp only [Act.put, List.setIfInBounds_toArray, List.set_cons_zero, List.set_cons_succ])
        (refine plan_pure ?_ rfl rfl (fun w' => ?_) ?_; rotate_left; (go_simp; try with_reducible rfl); simp only [Act.put, List.setIfInBounds_toArray, List.set_cons_zero, List.set_cons_succ])
        (refine plan_pure ?_ rfl rfl (fun w' => ?_) ?_; rotate_left; (go_simp; try with_reducible rfl); simp only [Act.put, List.setIfInBounds_toArray, List.set_cons_zero, List.set_cons_succ])
        refine plan_not rfl rfl ?_
        simp only [Act.put, List.setIfInBounds_toArray, List.set_cons_zero, List.set_cons_succ]
        refine plan_not rfl rfl ?_
        simp only [Act.put, List.setIfInBounds_toArray, List.set_cons_zero, List.set_cons_succ]
        refine plan_not rfl rfl ?_
        simp only [Act.put, List.setIfInBounds_toArray, List.set_cons_zero, List.set_cons_succ]
        refine plan_not rfl rfl ?_
        simp only [Act.put, List.setIfInBounds_toArray, List.set_cons_zero, List.set_cons_succ]
        refine plan_not rfl rfl ?_
        simp only [Act.put, List.setIfInBounds_toArray, List.set_cons_zero, List.set_cons_succ]
        refine plan_not rfl rfl ?_
        simp only [Act.put, List.setIfInBounds_toArray, List.set_cons_zero, List.set_cons_succ]
        refine plan_not rfl rfl ?_
        simp only [Act.put, List.setIfInBounds_toArray, List.set_cons_zero, List.set_cons_succ]
        refine plan_not rfl rfl ?_
        simp only [Act.put, List.setIfInBounds_toArray, List.set_cons_zero, List.set_cons_succ]
        refine plan_not rfl rfl ?_
        simp only [Act.put, List.setIfInBounds_toArray, List.set_cons_zero, List.set_cons_succ]
        (refine plan_pure ?_ rfl rfl (fun w' => ?_) ?_; rotate_left; (go_simp; try with_reducible rfl); simp only [Act.put, List.setIfInBounds_toArray, List.set_cons_zero, List.set_cons_succ])
        refine plan_nil ?_
        intro w3 L3
        simp only [List.drop_succ_cons, List.drop_zero]
        try simp only [Act.put, List.setIfInBounds_toArray, List.set_cons_zero, List.set_cons_succ]
        clear LL
        obtain ⟨u0, r0, rx, ry, o0, hzb, own⟩ := L3
        go_upto_region 16 with (fail)
        refine wp_region_any (by kernel_rfl) ?_
        (refine any_float (i := 7) ?_ rfl (by kernel_rfl) (by kernel_rfl) (by kernel_rfl) (by exact fun _ _ _ h => h) rfl (fun w' => ?_) ?_; rotate_left; (go_simp; try with_reducible rfl); simp only [Act.put, List.setIfInBounds_toArray])
        (refine any_float (i := 8) ?_ rfl (by kernel_rfl) (by kernel_rfl) (by kernel_rfl) (by exact fun _ _ _ h => h) rfl (fun w' => ?_) ?_; rotate_left; (go_simp; try with_reducible rfl); simp only [Act.put])
        have HS : Row w3.drew ob 24 #[.int .i64 k, .int .i64 CM, .int .i64 (n + n'), lv] ∧ Row w3.drew (w.heap.size + 2) 24 #[.int .i64 0, .int .i64 0, .int .i64 0, .slice none 0 0] ∧ Reads w3.drew zb 3 Ax p (tcells (X.drop i)) ∧ Reads w3.drew zb 3 (some ad') q (tcells (Y.drop j)) ∧ Below w.heap.size w w3.drew ∧ zb ≤ w3.drew.heap.size := ⟨u0, r0, rx, ry, o0.drew, hzb⟩
        refine any_phase 9 [8, 7] 7 (fun w' => Row w' ob 24 #[.int .i64 k, .int .i64 CM, .int .i64 (n + n'), lv] ∧ Row w' (w.heap.size + 2) 24 #[.int .i64 0, .int .i64 0, .int .i64 0, .slice none 0 0] ∧ Reads w' zb 3 Ax p (tcells (X.drop i)) ∧ Reads w' zb 3 (some ad') q (tcells (Y.drop j)) ∧ Below w.heap.size w w' ∧ zb ≤ w'.heap.size) (by kernel_rfl) (by kernel_rfl) (by kernel_rfl) (by kernel_rfl) (((inv_start rfl).more (by kernel_rfl) (by kernel_rfl)).more (by kernel_rfl) (by kernel_rfl)) rfl (fun HOK => ?_)
        (refine hx_take HOK (i := 0) ?_ rfl (by decide) (by kernel_rfl) (by kernel_rfl) (by exact fun _ _ _ h => h) (Or.inl ⟨by rfl, fun w' hS => ?_⟩) HS ?_; rotate_left; (go_simp; try with_reducible rfl); simp only [Act.put])
        (refine hx_take HOK (i := 1) ?_ rfl (by decide) (by kernel_rfl) (by kernel_rfl) (by exact fun _ _ _ h => h) (Or.inl ⟨by rfl, fun w' hS => ?_⟩) HS ?_; rotate_left; (obtain ⟨U0, U1, U2, U3, _, _, _, _⟩ := row_four hS.1; obtain ⟨z0, z1, z2⟩ := tcs (by have := reads_head hS.2.2.2.1 hq; rw [HYV.out] at this; exact this); go_simp; try with_reducible rfl); simp only [Act.put])
        (refine hx_take HOK (i := 2) ?_ rfl (by decide) (by kernel_rfl) (by kernel_rfl) (by exact fun _ _ _ h => h) (Or.inl ⟨by rfl, fun w' hS => ?_⟩) HS ?_; rotate_left; (go_simp; try with_reducible rfl); simp only [Act.put])
        (refine hx_take HOK (i := 3) ?_ rfl (by decide) (by kernel_rfl) (by kernel_rfl) (by exact fun _ _ _ h => h) (Or.inl ⟨by rfl, fun w' hS => ?_⟩) HS ?_; rotate_left; (go_simp; try with_reducible rfl); simp only [Act.put])
        (refine hx_take HOK (i := 4) ?_ rfl (by decide) (by kernel_rfl) (by kernel_rfl) (by exact fun _ _ _ h => h) (Or.inl ⟨by rfl, fun w' hS => ?_⟩) HS ?_; rotate_left; (obtain ⟨U0, U1, U2, U3, _, _, _, _⟩ := row_four hS.1; obtain ⟨z0, z1, z2⟩ := tcs (by have := reads_head hS.2.2.2.1 hq; rw [HYV.out] at this; exact this); go_simp; try with_reducible rfl); simp only [Act.put])
        clear HS
        refine hx_one (i := 5) rfl (by decide) (by kernel_rfl) (fun K hK => ?_)
        go_simp
        have u1 := row_alloc u0 (.cells #[.int .i64 yv, .int .i64 yg, .int .i64 yd] 66)
        have r1 := row_alloc r0 (.cells #[.int .i64 yv, .int .i64 yg, .int .i64 yd] 66)
        have rx1 := rx.alloc hzb (.cells #[.int .i64 yv, .int .i64 yg, .int .i64 yd] 66)
        have ry1 := ry.alloc hzb (.cells #[.int .i64 yv, .int .i64 yg, .int .i64 yd] 66)
        have o1 := o0.alloc o0.size (.cells #[.int .i64 yv, .int .i64 yg, .int .i64 yd] 66)
        have own1 := own.alloc (.cells #[.int .i64 yv, .int .i64 yg, .int .i64 yd] 66)
        have hz1 : zb ≤ (w3.alloc (.cells #[.int .i64 yv, .int .i64 yg, .int .i64 yd] 66)).heap.size := by simp; omega
        have nb : Own (w3.alloc (.cells #[.int .i64 yv, .int .i64 yg, .int .i64 yd] 66)) 66 3 w3.heap.size 1 1 (tcells [(⟨yv, yg, yd⟩ : Tup)]) := by
          have h := own_new (w := w3) (e := 66) (size := 3) (n := 1) (cs := #[.int .i64 yv, .int .i64 yg, .int .i64 yd]) rfl (by unfold maxLen; omega) rfl
          simpa [tcells] using h
        have nl : lv.ownBlock ≠ some w3.heap.size := orow_new own (Nat.le_refl _)
        refine hK _ _ ⟨u1, r1, rx1, ry1, o1.drew, hz1⟩ ?_
        clear hK K
        try simp only [Act.put, List.setIfInBounds_toArray, List.set_cons_zero, List.set_cons_succ]
        clear u0 r0 rx ry o0 own
        have HW : (w3.drew.alloc (.cells #[.int .i64 yv, .int .i64 yg, .int .i64 yd] 66)) = (w3.alloc (.cells #[.int .i64 yv, .int .i64 yg, .int .i64 yd] 66)).drew := rfl
        try rw [HW]
        generalize hwd : (w3.alloc (.cells #[.int .i64 yv, .int .i64 yg, .int .i64 yd] 66)).drew = w4
        have u1 : Row w4 ob 24 #[.int .i64 k, .int .i64 CM, .int .i64 (n + n'), lv] := by rw [← hwd]; exact u1
        have r1 : Row w4 (w.heap.size + 2) 24 #[.int .i64 0, .int .i64 0, .int .i64 0, .slice none 0 0] := by rw [← hwd]; exact r1
        have rx1 : Reads w4 zb 3 Ax p (tcells (X.drop i)) := by rw [← hwd]; exact rx1
        have ry1 : Reads w4 zb 3 (some ad') q (tcells (Y.drop j)) := by rw [← hwd]; exact ry1
        have o1 : Below w.heap.size w w4 := by rw [← hwd]; exact o1.drew
        have own1 : w4.ownsRow zb 66 3 lv N (tcells L) := by rw [← hwd]; exact own1
        have nb : Own w4 66 3 w3.heap.size 1 1 (tcells [(⟨yv, yg, yd⟩ : Tup)]) := by rw [← hwd]; exact nb
        have hz4 : zb ≤ w4.heap.size := by rw [← hwd]; exact hz1
        clear hwd HW hz1
        generalize w3.heap.size = lb at nb nl ⊢
        refine hx_one (i := 6) rfl (by decide) (by kernel_rfl) (fun K hK => ?_)
        refine step_append_any _ rfl _ _ 22 rfl zb 66 ii (.agg #[.int .i64 0, .int .i64 0, .int .i64 0]) 3 24 Try.underlying22 hii iz0 iz1 iz2 rfl (by decide) lv N (tcells L) rfl own1 w4.heap.size (some ⟨lb, 0, none⟩) 1 1 (tcells [(⟨yv, yg, yd⟩ : Tup)]) rfl nb.reads (tcells_one _) (by unfold maxLen; omega) (by omega) hz4 ?_
        intro vv w5 pr gr at5
        obtain ⟨gz, cz, rfl, _, _⟩ := pr.form (by omega)
        have hbl := own1.lt
        have u2 := row_grown u1 gr (fun e => by have := (hbl _ e).1; omega)
        have r2 := row_grown r1 gr (fun e => by have := (hbl _ e).1; omega)
        have rx2 := reads_grown rx1 gr (fun b e => (hbl b e).1) hz4
        have ry2 := reads_grown ry1 gr (fun b e => (hbl b e).1) hz4
        have o2 : Below w.heap.size w w5 := below_grown o1 gr (fun b e => by have := (hbl b e).1; omega) o1.size
        have hz5 : zb ≤ w5.heap.size := Nat.le_trans hz4 gr.size
        refine hK _ _ ⟨u2, r2, rx2, ry2, o2, hz5⟩ ?_
        clear hK K
        try simp only [Act.put, List.setIfInBounds_toArray]
        rw [← tcells_append] at pr
        clear at5 gr hbl u1 r1 rx1 ry1 o1 own1 nb nl
        refine hx_done (by kernel_rfl) ?_
        simp only [List.drop_succ_cons, List.drop_zero]
        clear HOK
        obtain ⟨U0, U1, U2, U3, U4, U5, U6, U7⟩ := row_four u2
        have nx := reads_next (c := cy) ry2 hq (by omega)
        have fx2 := next_block (c := cy) (P := fun b => ob < b) FY.out
        have u3 : Row (w5.setCell ⟨ob, 3, none⟩ (.slice (some ⟨gz, 0, none⟩) (N + 1) cz)) ob 24 #[.int .i64 k, .int .i64 CM, .int .i64 (n + n'), (.slice (some ⟨gz, 0, none⟩) (N + 1) cz)] := row_set u2 3 _
        have r3 := row_other (p := ⟨ob, 3, none⟩) r2 (by simp; omega) (.slice (some ⟨gz, 0, none⟩) (N + 1) cz)
        have nx3 := reads_set (p := ⟨ob, 3, none⟩) nx (fun a e => by have := fx2 a e; simp; omega) (.slice (some ⟨gz, 0, none⟩) (N + 1) cz)
        have oo3 := reads_set (p := ⟨ob, 3, none⟩) rx2 (fun a e => by have := FX.out a e; simp; omega) (.slice (some ⟨gz, 0, none⟩) (N + 1) cz)
        have own3 := orow_other (p := ⟨ob, 3, none⟩) pr (orow_old pr (by omega)) (.slice (some ⟨gz, 0, none⟩) (N + 1) cz)
        have o3 := o2.setCell (p := ⟨ob, 3, none⟩) (by simp; omega) (.slice (some ⟨gz, 0, none⟩) (N + 1) cz)
        have hz6 : zb ≤ (w5.setCell ⟨ob, 3, none⟩ (.slice (some ⟨gz, 0, none⟩) (N + 1) cz)).heap.size := by simp; omega
        clear ry2 rx2 nx u2 r2 o2 pr
        go_wp2
        go_roundw
        case rel => exact ⟨i, j + 1, p, q - 1, N + 1, _, _, cx, cy - 1, _, L ++ [(⟨yv, yg, yd⟩ : Tup)], rfl, rfl, HP, Lib.hid (by have := HQ.out; omega), Lib.hid (by rw [HN.out]; omega), by omega, Lib.hid oo3, Lib.hid nx3, hpc, by omega, FX, Lib.hid fx2, own3, HS2, u3, r3, o3, hz6⟩
        case measure => simp [lenV]; omega
      · have i1 : ¬ (0 : Int) < (p : Int) + (q : Int) := by omega
        have hE := HS.out
        rw [smrg_end (by rw [HLX.out]; have := HP.out; omega) (by rw [HLY.out]; have := HQ.out; omega), List.append_nil] at hE
        have TBS := TBM.out
        have hr := HRES.out
        rw [← hE] at TBS hr
        have HRES2 := Lib.hid hr
        clear hE hr HRES TBM HS
        obtain ⟨A9, c9, rfl, rd9, mc9, cb9, fr9⟩ := orow_forms own
        have PF := Lib.hid (rfit k CM (n + n') A9 N c9 L wr ⟨rd9, by omega, by omega, by omega, fun i => T64.of (TB_at (by decide) TBS i) (by decide), mc9, cb9⟩ (by omega) hn k0 TBS (by omega) (fun a e => (fr9 a e).2))
        clear own rd9 RX RY TBS
        generalize hr : sfit k CM (n + n') L = r at PF
        have HRR := Lib.hid hr
        clear hr
        obtain ⟨rk, rc, rn, rts, rf⟩ := r
        have zw := o0.size
        have zr := row_lt u0
        clear U0 U1 U2 U3
        obtain ⟨U0, U1, U2, U3, U4, U5, U6, U7⟩ := row_four u0
        go_wp2_with fail
        refine PF.out.mono ?_
        rintro e w8 ⟨A8, m8, c8, rfl, sin8, hb8, hf8⟩
        have r8 := row_call r0 hb8
        have o8 := o0.trans (hb8.mono zw)
        have z8 := hb8.size
        clear U0 U1 U2 U3 U4 U5 U6 U7 u0 r0 o0 PF
        have fx : ∀ a, A8 = some a → w.heap.size + 2 < a.block ∧ a.block < w8.heap.size := fun a e => by
          rcases hf8 a e with h | h
          · have := fr9 a h
            exact ⟨by omega, by omega⟩
          · exact ⟨by omega, h.2⟩
        obtain ⟨R0, R1, R2, R3, R4, R5, R6, R7⟩ := row_four r8
        go_wp2
        have sx := sin8.row (b := w.heap.size + 2) (fun a e => by have := fx a e; omega) (.int .i64 rk) (.int .i64 rc) (.int .i64 rn) (.slice A8 m8 c8)
        have ob8 := below_four o8 (b := w.heap.size + 2) (by omega) (.int .i64 rk) (.int .i64 rc) (.int .i64 rn) (.slice A8 m8 c8)
        exact bodyPost_ret (v := .tuple #[.agg #[.int .i64 rk, .int .i64 rc, .int .i64 rn, .slice A8 m8 c8], .int .i64 rf]) (by simp [results, Try.results24, go_sem, R0, R1, R2, R3]) rfl (by rw [← HRES2.out, HRR.out]; exact ⟨A8, m8, c8, rfl, sx, ob8, fun a e => by have := fx a e; exact ⟨by omega, by simp; omega⟩⟩)
theorem rmerge (k cap n : Int) (A : Option Addr) (m c : Nat) (ts : List Tup) (k' cap' n' : Int) (A' : Option Addr) (m' c' : Nat) (ts' : List Tup) (w : World) (hin : SIn k cap n A m c ts w) (hin' : SIn k' cap' n' A' m' c' ts' w) : Calls Try.prog 24 #[.agg #[.int .i64 k, .int .i64 cap, .int .i64 n, .slice A m c], .agg #[.int .i64 k', .int .i64 cap', .int .i64 n', .slice A' m' c']] w fun e w' => SRet (smerge k cap n ts k' cap' n' ts') w e w' := by
  rcases svalE_two (k := k) (cap := cap) (n := n) (ts := ts) with hv | hv
  · rcases svalE_two (k := k') (cap := cap') (n := n') (ts := ts') with hv' | hv'
    · by_cases hk : k = k'
      · by_cases h2 : 1099511627776 < n + n'
        · exact rmerge_full k cap n A m c ts k' cap' n' A' m' c' ts' w hin hin' hv hv' hk h2
        · subst hk
          exact rmerge_ok k cap n A m c ts cap' n' A' m' c' ts' w hin hin' hv hv' (by omega)
      · exact rmerge_k k cap n A m c ts k' cap' n' A' m' c' ts' w hin hin' hv hv' hk
    · exact rmerge_bad2 k cap n A m c ts k' cap' n' A' m' c' ts' w hin hin' hv hv'
  · exact rmerge_bad k cap n A m c ts k' cap' n' A' m' c' ts' w hin hin' hv
end Go.Proofs.Ytdibjlphcmjnoaa
