/- Counters with polynomial decay: the counter of the items of two; the laws of rebasing and merging, walked. -/
import Derived.Test.YtejoomlaanmbkaaPolyG
import Derived.Test.YtejoomlaanmbkaaPolyE
namespace Go.Proofs.Ytejoomlaanmbkaa
open Go.RowKit Go.Shelf
/-- A row whose head is filled anew. -/
def mixN (f : Nat → Nat) (xs : List Nat) (j : Nat) : List Nat := upto f j ++ xs.drop j
theorem mix_zero (f : Nat → Nat) (xs : List Nat) : mixN f xs 0 = xs := rfl
theorem mix_all (f : Nat → Nat) {xs : List Nat} {n : Nat} (h : xs.length = n) : mixN f xs n = upto f n := by unfold mixN; rw [List.drop_of_length_le (by omega), List.append_nil]
theorem mix_len (f : Nat → Nat) {xs : List Nat} {j : Nat} (h : j ≤ xs.length) : (mixN f xs j).length = xs.length := by unfold mixN; rw [List.length_append, upto_len, List.length_drop]; omega
theorem mix_at {f : Nat → Nat} {xs : List Nat} {j : Nat} : momAt (mixN f xs j) j = momAt xs j := by
  unfold mixN momAt
  rw [List.getD_eq_getElem?_getD, List.getD_eq_getElem?_getD, List.getElem?_append_right (by rw [upto_len]; exact Nat.le_refl _), upto_len, Nat.sub_self, List.getElem?_drop, Nat.add_zero]
theorem mix_step (f : Nat → Nat) {xs : List Nat} {j : Nat} (h : j < xs.length) : (mixN f xs j).set j (f j) = mixN f xs (j + 1) := by
  unfold mixN
  rw [List.set_append, if_neg (by rw [upto_len]; omega), upto_len, Nat.sub_self, List.drop_eq_getElem_cons h, List.set_cons_zero, upto_succ, List.append_assoc]
  rfl
theorem min_if (a b : Int) : (if b < a then b else a) = min a b := by omega
theorem ppmer_bad1 (p land now : Int) (A : Option Addr) (n c : Nat) (ms : List Nat) (p' land' now' : Int) (A' : Option Addr) (n' c' : Nat) (ms' : List Nat) (w : World) (hin : PIn p land now A n c ms w) (hin' : PIn p' land' now' A' n' c' ms' w) (hv : pvalE p land now ms = 2) : Calls Try.prog 29 #[.agg #[.int .i64 p, .int .i64 land, .int .i64 now, .slice A n c], .agg #[.int .i64 p', .int .i64 land', .int .i64 now', .slice A' n' c']] w fun e w' => PRet (qmer p land now ms p' land' now' ms') w e w' := by
  rw [qmer_bad1 hv]
  have P1 := fun w1 (hb : Below w.heap.size w w1) => ppval p land now A n c ms w1 (hin.below hb)
  rw [hv] at P1
  have P1 := Lib.hid P1
  clear hv hin hin'
  go_enter Try.func29, Try.ntmps29
  go_wp2_with (first | (go_at_call 20; with_reducible refine (P1.out _ (by (repeat (first | exact Below.refl _ _ | refine Below.setCell ?_ (by first | (simp; done) | (simp; omega) | omega) _ | refine Below.alloc ?_ (by first | (simp; done) | (simp; omega) | omega) _ | refine Below.drew ?_ | refine Below.trans ?_ (Below.mono (by assumption) (by first | (simp; done) | (simp; omega) | omega)))))).mono ?_; rintro e w1 ⟨rfl, hb1⟩; have hz1 := hb1.size; (try simp at hz1); have o1 : Below w.heap.size w w1 := (by (repeat (first | exact Below.refl _ _ | refine Below.setCell ?_ (by first | (simp; done) | (simp; omega) | omega) _ | refine Below.alloc ?_ (by first | (simp; done) | (simp; omega) | omega) _ | refine Below.drew ?_ | refine Below.trans ?_ (Below.mono (by assumption) (by first | (simp; done) | (simp; omega) | omega))))); have q1_0 : w.heap.size < w1.heap.size := (by omega); have r1_0 : Row w1 (w.heap.size) 24 #[.int .i64 p, .int .i64 land, .int .i64 now, .slice A n c] := row_call (by (repeat (first | assumption | (refine row_new ?_; (first | (simp; done) | omega)) | refine row_alloc ?_ _ | refine row_drew ?_ | refine row_call ?_ (by assumption)))) hb1; obtain ⟨c1_0a, c1_0b, c1_0c, c1_0d, f1_0a, f1_0b, f1_0c, f1_0d⟩ := row_four r1_0; have q1_1 : w.heap.size + 1 < w1.heap.size := (by omega); have r1_1 : Row w1 (w.heap.size + 1) 24 #[.int .i64 p', .int .i64 land', .int .i64 now', .slice A' n' c'] := row_call (by (repeat (first | assumption | (refine row_new ?_; (first | (simp; done) | omega)) | refine row_alloc ?_ _ | refine row_drew ?_ | refine row_call ?_ (by assumption)))) hb1; obtain ⟨c1_1a, c1_1b, c1_1c, c1_1d, f1_1a, f1_1b, f1_1c, f1_1d⟩ := row_four r1_1; have q1_2 : w.heap.size + 1 + 1 < w1.heap.size := (by omega); have r1_2 : Row w1 (w.heap.size + 1 + 1) 24 #[.int .i64 0, .int .i64 0, .int .i64 0, .slice none 0 0] := row_call (by (repeat (first | assumption | (refine row_new ?_; (first | (simp; done) | omega)) | refine row_alloc ?_ _ | refine row_drew ?_ | refine row_call ?_ (by assumption)))) hb1; obtain ⟨c1_2a, c1_2b, c1_2c, c1_2d, f1_2a, f1_2b, f1_2c, f1_2d⟩ := row_four r1_2))
  exact bodyPost_ret (v := .tuple #[.agg #[.int .i64 0, .int .i64 0, .int .i64 0, .slice none 0 0], .int .i64 2]) (by simp [results, Try.results29, go_sem, c1_2a, c1_2b, c1_2c, c1_2d]) rfl (pret_zero (by (repeat (first | exact Below.refl _ _ | refine Below.setCell ?_ (by first | (simp; done) | (simp; omega) | omega) _ | refine Below.alloc ?_ (by first | (simp; done) | (simp; omega) | omega) _ | refine Below.drew ?_ | refine Below.trans ?_ (Below.mono (by assumption) (by first | (simp; done) | (simp; omega) | omega))))))
theorem ppmer_bad2 (p land now : Int) (A : Option Addr) (n c : Nat) (ms : List Nat) (p' land' now' : Int) (A' : Option Addr) (n' c' : Nat) (ms' : List Nat) (w : World) (hin : PIn p land now A n c ms w) (hin' : PIn p' land' now' A' n' c' ms' w) (hv : pvalE p land now ms = 0) (hv' : pvalE p' land' now' ms' = 2) : Calls Try.prog 29 #[.agg #[.int .i64 p, .int .i64 land, .int .i64 now, .slice A n c], .agg #[.int .i64 p', .int .i64 land', .int .i64 now', .slice A' n' c']] w fun e w' => PRet (qmer p land now ms p' land' now' ms') w e w' := by
  rw [qmer_bad2 hv hv']
  have P1 := fun w1 (hb : Below w.heap.size w w1) => ppval p land now A n c ms w1 (hin.below hb)
  rw [hv] at P1
  have P1 := Lib.hid P1
  have P2 := fun w1 (hb : Below w.heap.size w w1) => ppval p' land' now' A' n' c' ms' w1 (hin'.below hb)
  rw [hv'] at P2
  have P2 := Lib.hid P2
  clear hv hin hin' hv'
  go_enter Try.func29, Try.ntmps29
  go_wp2_with (first | (go_at_call 20; with_reducible refine (P1.out _ (by (repeat (first | exact Below.refl _ _ | refine Below.setCell ?_ (by first | (simp; done) | (simp; omega) | omega) _ | refine Below.alloc ?_ (by first | (simp; done) | (simp; omega) | omega) _ | refine Below.drew ?_ | refine Below.trans ?_ (Below.mono (by assumption) (by first | (simp; done) | (simp; omega) | omega)))))).mono ?_; rintro e w1 ⟨rfl, hb1⟩; have hz1 := hb1.size; (try simp at hz1); have o1 : Below w.heap.size w w1 := (by (repeat (first | exact Below.refl _ _ | refine Below.setCell ?_ (by first | (simp; done) | (simp; omega) | omega) _ | refine Below.alloc ?_ (by first | (simp; done) | (simp; omega) | omega) _ | refine Below.drew ?_ | refine Below.trans ?_ (Below.mono (by assumption) (by first | (simp; done) | (simp; omega) | omega))))); have q1_0 : w.heap.size < w1.heap.size := (by omega); have r1_0 : Row w1 (w.heap.size) 24 #[.int .i64 p, .int .i64 land, .int .i64 now, .slice A n c] := row_call (by (repeat (first | assumption | (refine row_new ?_; (first | (simp; done) | omega)) | refine row_alloc ?_ _ | refine row_drew ?_ | refine row_call ?_ (by assumption)))) hb1; obtain ⟨c1_0a, c1_0b, c1_0c, c1_0d, f1_0a, f1_0b, f1_0c, f1_0d⟩ := row_four r1_0; have q1_1 : w.heap.size + 1 < w1.heap.size := (by omega); have r1_1 : Row w1 (w.heap.size + 1) 24 #[.int .i64 p', .int .i64 land', .int .i64 now', .slice A' n' c'] := row_call (by (repeat (first | assumption | (refine row_new ?_; (first | (simp; done) | omega)) | refine row_alloc ?_ _ | refine row_drew ?_ | refine row_call ?_ (by assumption)))) hb1; obtain ⟨c1_1a, c1_1b, c1_1c, c1_1d, f1_1a, f1_1b, f1_1c, f1_1d⟩ := row_four r1_1; have q1_2 : w.heap.size + 1 + 1 < w1.heap.size := (by omega); have r1_2 : Row w1 (w.heap.size + 1 + 1) 24 #[.int .i64 0, .int .i64 0, .int .i64 0, .slice none 0 0] := row_call (by (repeat (first | assumption | (refine row_new ?_; (first | (simp; done) | omega)) | refine row_alloc ?_ _ | refine row_drew ?_ | refine row_call ?_ (by assumption)))) hb1; obtain ⟨c1_2a, c1_2b, c1_2c, c1_2d, f1_2a, f1_2b, f1_2c, f1_2d⟩ := row_four r1_2) | (go_at_call 20; with_reducible refine (P2.out _ (by (repeat (first | exact Below.refl _ _ | refine Below.setCell ?_ (by first | (simp; done) | (simp; omega) | omega) _ | refine Below.alloc ?_ (by first | (simp; done) | (simp; omega) | omega) _ | refine Below.drew ?_ | refine Below.trans ?_ (Below.mono (by assumption) (by first | (simp; done) | (simp; omega) | omega)))))).mono ?_; rintro e w2 ⟨rfl, hb2⟩; have hz2 := hb2.size; (try simp at hz2); have o2 : Below w.heap.size w w2 := (by (repeat (first | exact Below.refl _ _ | refine Below.setCell ?_ (by first | (simp; done) | (simp; omega) | omega) _ | refine Below.alloc ?_ (by first | (simp; done) | (simp; omega) | omega) _ | refine Below.drew ?_ | refine Below.trans ?_ (Below.mono (by assumption) (by first | (simp; done) | (simp; omega) | omega))))); have q2_0 : w.heap.size < w2.heap.size := (by omega); have r2_0 : Row w2 (w.heap.size) 24 #[.int .i64 p, .int .i64 land, .int .i64 now, .slice A n c] := row_call (by (repeat (first | assumption | (refine row_new ?_; (first | (simp; done) | omega)) | refine row_alloc ?_ _ | refine row_drew ?_ | refine row_call ?_ (by assumption)))) hb2; obtain ⟨c2_0a, c2_0b, c2_0c, c2_0d, f2_0a, f2_0b, f2_0c, f2_0d⟩ := row_four r2_0; have q2_1 : w.heap.size + 1 < w2.heap.size := (by omega); have r2_1 : Row w2 (w.heap.size + 1) 24 #[.int .i64 p', .int .i64 land', .int .i64 now', .slice A' n' c'] := row_call (by (repeat (first | assumption | (refine row_new ?_; (first | (simp; done) | omega)) | refine row_alloc ?_ _ | refine row_drew ?_ | refine row_call ?_ (by assumption)))) hb2; obtain ⟨c2_1a, c2_1b, c2_1c, c2_1d, f2_1a, f2_1b, f2_1c, f2_1d⟩ := row_four r2_1; have q2_2 : w.heap.size + 1 + 1 < w2.heap.size := (by omega); have r2_2 : Row w2 (w.heap.size + 1 + 1) 24 #[.int .i64 0, .int .i64 0, .int .i64 0, .slice none 0 0] := row_call (by (repeat (first | assumption | (refine row_new ?_; (first | (simp; done) | omega)) | refine row_alloc ?_ _ | refine row_drew ?_ | refine row_call ?_ (by assumption)))) hb2; obtain ⟨c2_2a, c2_2b, c2_2c, c2_2d, f2_2a, f2_2b, f2_2c, f2_2d⟩ := row_four r2_2))
  exact bodyPost_ret (v := .tuple #[.agg #[.int .i64 0, .int .i64 0, .int .i64 0, .slice none 0 0], .int .i64 2]) (by simp [results, Try.results29, go_sem, c2_2a, c2_2b, c2_2c, c2_2d]) rfl (pret_zero (by (repeat (first | exact Below.refl _ _ | refine Below.setCell ?_ (by first | (simp; done) | (simp; omega) | omega) _ | refine Below.alloc ?_ (by first | (simp; done) | (simp; omega) | omega) _ | refine Below.drew ?_ | refine Below.trans ?_ (Below.mono (by assumption) (by first | (simp; done) | (simp; omega) | omega))))))
theorem ppmer_p (p land now : Int) (A : Option Addr) (n c : Nat) (ms : List Nat) (p' land' now' : Int) (A' : Option Addr) (n' c' : Nat) (ms' : List Nat) (w : World) (hin : PIn p land now A n c ms w) (hin' : PIn p' land' now' A' n' c' ms' w) (hv : pvalE p land now ms = 0) (hv' : pvalE p' land' now' ms' = 0) (h : p ≠ p') : Calls Try.prog 29 #[.agg #[.int .i64 p, .int .i64 land, .int .i64 now, .slice A n c], .agg #[.int .i64 p', .int .i64 land', .int .i64 now', .slice A' n' c']] w fun e w' => PRet (qmer p land now ms p' land' now' ms') w e w' := by
  rw [qmer_arg hv hv' (.inl h)]
  have P1 := fun w1 (hb : Below w.heap.size w w1) => ppval p land now A n c ms w1 (hin.below hb)
  rw [hv] at P1
  have P1 := Lib.hid P1
  have P2 := fun w1 (hb : Below w.heap.size w w1) => ppval p' land' now' A' n' c' ms' w1 (hin'.below hb)
  rw [hv'] at P2
  have P2 := Lib.hid P2
  have h1 : (p != p') = true := by simpa using h
  clear hv hin hin' hv' h
  go_enter Try.func29, Try.ntmps29
  go_wp2_with (first | (go_at_call 20; with_reducible refine (P1.out _ (by (repeat (first | exact Below.refl _ _ | refine Below.setCell ?_ (by first | (simp; done) | (simp; omega) | omega) _ | refine Below.alloc ?_ (by first | (simp; done) | (simp; omega) | omega) _ | refine Below.drew ?_ | refine Below.trans ?_ (Below.mono (by assumption) (by first | (simp; done) | (simp; omega) | omega)))))).mono ?_; rintro e w1 ⟨rfl, hb1⟩; have hz1 := hb1.size; (try simp at hz1); have o1 : Below w.heap.size w w1 := (by (repeat (first | exact Below.refl _ _ | refine Below.setCell ?_ (by first | (simp; done) | (simp; omega) | omega) _ | refine Below.alloc ?_ (by first | (simp; done) | (simp; omega) | omega) _ | refine Below.drew ?_ | refine Below.trans ?_ (Below.mono (by assumption) (by first | (simp; done) | (simp; omega) | omega))))); have q1_0 : w.heap.size < w1.heap.size := (by omega); have r1_0 : Row w1 (w.heap.size) 24 #[.int .i64 p, .int .i64 land, .int .i64 now, .slice A n c] := row_call (by (repeat (first | assumption | (refine row_new ?_; (first | (simp; done) | omega)) | refine row_alloc ?_ _ | refine row_drew ?_ | refine row_call ?_ (by assumption)))) hb1; obtain ⟨c1_0a, c1_0b, c1_0c, c1_0d, f1_0a, f1_0b, f1_0c, f1_0d⟩ := row_four r1_0; have q1_1 : w.heap.size + 1 < w1.heap.size := (by omega); have r1_1 : Row w1 (w.heap.size + 1) 24 #[.int .i64 p', .int .i64 land', .int .i64 now', .slice A' n' c'] := row_call (by (repeat (first | assumption | (refine row_new ?_; (first | (simp; done) | omega)) | refine row_alloc ?_ _ | refine row_drew ?_ | refine row_call ?_ (by assumption)))) hb1; obtain ⟨c1_1a, c1_1b, c1_1c, c1_1d, f1_1a, f1_1b, f1_1c, f1_1d⟩ := row_four r1_1; have q1_2 : w.heap.size + 1 + 1 < w1.heap.size := (by omega); have r1_2 : Row w1 (w.heap.size + 1 + 1) 24 #[.int .i64 0, .int .i64 0, .int .i64 0, .slice none 0 0] := row_call (by (repeat (first | assumption | (refine row_new ?_; (first | (simp; done) | omega)) | refine row_alloc ?_ _ | refine row_drew ?_ | refine row_call ?_ (by assumption)))) hb1; obtain ⟨c1_2a, c1_2b, c1_2c, c1_2d, f1_2a, f1_2b, f1_2c, f1_2d⟩ := row_four r1_2) | (go_at_call 20; with_reducible refine (P2.out _ (by (repeat (first | exact Below.refl _ _ | refine Below.setCell ?_ (by first | (simp; done) | (simp; omega) | omega) _ | refine Below.alloc ?_ (by first | (simp; done) | (simp; omega) | omega) _ | refine Below.drew ?_ | refine Below.trans ?_ (Below.mono (by assumption) (by first | (simp; done) | (simp; omega) | omega)))))).mono ?_; rintro e w2 ⟨rfl, hb2⟩; have hz2 := hb2.size; (try simp at hz2); have o2 : Below w.heap.size w w2 := (by (repeat (first | exact Below.refl _ _ | refine Below.setCell ?_ (by first | (simp; done) | (simp; omega) | omega) _ | refine Below.alloc ?_ (by first | (simp; done) | (simp; omega) | omega) _ | refine Below.drew ?_ | refine Below.trans ?_ (Below.mono (by assumption) (by first | (simp; done) | (simp; omega) | omega))))); have q2_0 : w.heap.size < w2.heap.size := (by omega); have r2_0 : Row w2 (w.heap.size) 24 #[.int .i64 p, .int .i64 land, .int .i64 now, .slice A n c] := row_call (by (repeat (first | assumption | (refine row_new ?_; (first | (simp; done) | omega)) | refine row_alloc ?_ _ | refine row_drew ?_ | refine row_call ?_ (by assumption)))) hb2; obtain ⟨c2_0a, c2_0b, c2_0c, c2_0d, f2_0a, f2_0b, f2_0c, f2_0d⟩ := row_four r2_0; have q2_1 : w.heap.size + 1 < w2.heap.size := (by omega); have r2_1 : Row w2 (w.heap.size + 1) 24 #[.int .i64 p', .int .i64 land', .int .i64 now', .slice A' n' c'] := row_call (by (repeat (first | assumption | (refine row_new ?_; (first | (simp; done) | omega)) | refine row_alloc ?_ _ | refine row_drew ?_ | refine row_call ?_ (by assumption)))) hb2; obtain ⟨c2_1a, c2_1b, c2_1c, c2_1d, f2_1a, f2_1b, f2_1c, f2_1d⟩ := row_four r2_1; have q2_2 : w.heap.size + 1 + 1 < w2.heap.size := (by omega); have r2_2 : Row w2 (w.heap.size + 1 + 1) 24 #[.int .i64 0, .int .i64 0, .int .i64 0, .slice none 0 0] := row_call (by (repeat (first | assumption | (refine row_new ?_; (first | (simp; done) | omega)) | refine row_alloc ?_ _ | refine row_drew ?_ | refine row_call ?_ (by assumption)))) hb2; obtain ⟨c2_2a, c2_2b, c2_2c, c2_2d, f2_2a, f2_2b, f2_2c, f2_2d⟩ := row_four r2_2))
  exact bodyPost_ret (v := .tuple #[.agg #[.int .i64 0, .int .i64 0, .int .i64 0, .slice none 0 0], .int .i64 1]) (by simp [results, Try.results29, go_sem, c2_2a, c2_2b, c2_2c, c2_2d]) rfl (pret_zero (by (repeat (first | exact Below.refl _ _ | refine Below.setCell ?_ (by first | (simp; done) | (simp; omega) | omega) _ | refine Below.alloc ?_ (by first | (simp; done) | (simp; omega) | omega) _ | refine Below.drew ?_ | refine Below.trans ?_ (Below.mono (by assumption) (by first | (simp; done) | (simp; omega) | omega))))))
theorem ppmer_now (p land now : Int) (A : Option Addr) (n c : Nat) (ms : List Nat) (land' now' : Int) (A' : Option Addr) (n' c' : Nat) (ms' : List Nat) (w : World) (hin : PIn p land now A n c ms w) (hin' : PIn p land' now' A' n' c' ms' w) (hv : pvalE p land now ms = 0) (hv' : pvalE p land' now' ms' = 0) (h : now ≠ now') : Calls Try.prog 29 #[.agg #[.int .i64 p, .int .i64 land, .int .i64 now, .slice A n c], .agg #[.int .i64 p, .int .i64 land', .int .i64 now', .slice A' n' c']] w fun e w' => PRet (qmer p land now ms p land' now' ms') w e w' := by
  rw [qmer_arg hv hv' (.inr h)]
  have P1 := fun w1 (hb : Below w.heap.size w w1) => ppval p land now A n c ms w1 (hin.below hb)
  rw [hv] at P1
  have P1 := Lib.hid P1
  have P2 := fun w1 (hb : Below w.heap.size w w1) => ppval p land' now' A' n' c' ms' w1 (hin'.below hb)
  rw [hv'] at P2
  have P2 := Lib.hid P2
  have h0 : (p != p) = false := by simp
  have h1 : (now != now') = true := by simpa using h
  clear hv hv' hin hin' h
  go_enter Try.func29, Try.ntmps29
  go_wp2_with (first | (go_at_call 20; with_reducible refine (P1.out _ (by (repeat (first | exact Below.refl _ _ | refine Below.setCell ?_ (by first | (simp; done) | (simp; omega) | omega) _ | refine Below.alloc ?_ (by first | (simp; done) | (simp; omega) | omega) _ | refine Below.drew ?_ | refine Below.trans ?_ (Below.mono (by assumption) (by first | (simp; done) | (simp; omega) | omega)))))).mono ?_; rintro e w1 ⟨rfl, hb1⟩; have hz1 := hb1.size; (try simp at hz1); have o1 : Below w.heap.size w w1 := (by (repeat (first | exact Below.refl _ _ | refine Below.setCell ?_ (by first | (simp; done) | (simp; omega) | omega) _ | refine Below.alloc ?_ (by first | (simp; done) | (simp; omega) | omega) _ | refine Below.drew ?_ | refine Below.trans ?_ (Below.mono (by assumption) (by first | (simp; done) | (simp; omega) | omega))))); have q1_0 : w.heap.size < w1.heap.size := (by omega); have r1_0 : Row w1 (w.heap.size) 24 #[.int .i64 p, .int .i64 land, .int .i64 now, .slice A n c] := row_call (by (repeat (first | assumption | (refine row_new ?_; (first | (simp; done) | omega)) | refine row_alloc ?_ _ | refine row_drew ?_ | refine row_call ?_ (by assumption)))) hb1; obtain ⟨c1_0a, c1_0b, c1_0c, c1_0d, f1_0a, f1_0b, f1_0c, f1_0d⟩ := row_four r1_0; have q1_1 : w.heap.size + 1 < w1.heap.size := (by omega); have r1_1 : Row w1 (w.heap.size + 1) 24 #[.int .i64 p, .int .i64 land', .int .i64 now', .slice A' n' c'] := row_call (by (repeat (first | assumption | (refine row_new ?_; (first | (simp; done) | omega)) | refine row_alloc ?_ _ | refine row_drew ?_ | refine row_call ?_ (by assumption)))) hb1; obtain ⟨c1_1a, c1_1b, c1_1c, c1_1d, f1_1a, f1_1b, f1_1c, f1_1d⟩ := row_four r1_1; have q1_2 : w.heap.size + 1 + 1 < w1.heap.size := (by omega); have r1_2 : Row w1 (w.heap.size + 1 + 1) 24 #[.int .i64 0, .int .i64 0, .int .i64 0, .slice none 0 0] := row_call (by (repeat (first | assumption | (refine row_new ?_; (first | (simp; done) | omega)) | refine row_alloc ?_ _ | refine row_drew ?_ | refine row_call ?_ (by assumption)))) hb1; obtain ⟨c1_2a, c1_2b, c1_2c, c1_2d, f1_2a, f1_2b, f1_2c, f1_2d⟩ := row_four r1_2) | (go_at_call 20; with_reducible refine (P2.out _ (by (repeat (first | exact Below.refl _ _ | refine Below.setCell ?_ (by first | (simp; done) | (simp; omega) | omega) _ | refine Below.alloc ?_ (by first | (simp; done) | (simp; omega) | omega) _ | refine Below.drew ?_ | refine Below.trans ?_ (Below.mono (by assumption) (by first | (simp; done) | (simp; omega) | omega)))))).mono ?_; rintro e w2 ⟨rfl, hb2⟩; have hz2 := hb2.size; (try simp at hz2); have o2 : Below w.heap.size w w2 := (by (repeat (first | exact Below.refl _ _ | refine Below.setCell ?_ (by first | (simp; done) | (simp; omega) | omega) _ | refine Below.alloc ?_ (by first | (simp; done) | (simp; omega) | omega) _ | refine Below.drew ?_ | refine Below.trans ?_ (Below.mono (by assumption) (by first | (simp; done) | (simp; omega) | omega))))); have q2_0 : w.heap.size < w2.heap.size := (by omega); have r2_0 : Row w2 (w.heap.size) 24 #[.int .i64 p, .int .i64 land, .int .i64 now, .slice A n c] := row_call (by (repeat (first | assumption | (refine row_new ?_; (first | (simp; done) | omega)) | refine row_alloc ?_ _ | refine row_drew ?_ | refine row_call ?_ (by assumption)))) hb2; obtain ⟨c2_0a, c2_0b, c2_0c, c2_0d, f2_0a, f2_0b, f2_0c, f2_0d⟩ := row_four r2_0; have q2_1 : w.heap.size + 1 < w2.heap.size := (by omega); have r2_1 : Row w2 (w.heap.size + 1) 24 #[.int .i64 p, .int .i64 land', .int .i64 now', .slice A' n' c'] := row_call (by (repeat (first | assumption | (refine row_new ?_; (first | (simp; done) | omega)) | refine row_alloc ?_ _ | refine row_drew ?_ | refine row_call ?_ (by assumption)))) hb2; obtain ⟨c2_1a, c2_1b, c2_1c, c2_1d, f2_1a, f2_1b, f2_1c, f2_1d⟩ := row_four r2_1; have q2_2 : w.heap.size + 1 + 1 < w2.heap.size := (by omega); have r2_2 : Row w2 (w.heap.size + 1 + 1) 24 #[.int .i64 0, .int .i64 0, .int .i64 0, .slice none 0 0] := row_call (by (repeat (first | assumption | (refine row_new ?_; (first | (simp; done) | omega)) | refine row_alloc ?_ _ | refine row_drew ?_ | refine row_call ?_ (by assumption)))) hb2; obtain ⟨c2_2a, c2_2b, c2_2c, c2_2d, f2_2a, f2_2b, f2_2c, f2_2d⟩ := row_four r2_2))
  exact bodyPost_ret (v := .tuple #[.agg #[.int .i64 0, .int .i64 0, .int .i64 0, .slice none 0 0], .int .i64 1]) (by simp [results, Try.results29, go_sem, c2_2a, c2_2b, c2_2c, c2_2d]) rfl (pret_zero (by (repeat (first | exact Below.refl _ _ | refine Below.setCell ?_ (by first | (simp; done) | (simp; omega) | omega) _ | refine Below.alloc ?_ (by first | (simp; done) | (simp; omega) | omega) _ | refine Below.drew ?_ | refine Below.trans ?_ (Below.mono (by assumption) (by first | (simp; done) | (simp; omega) | omega))))))
set_option maxHeartbeats 8000000 in
set_option maxRecDepth 100000 in
theorem ppmer_tt (p land now : Int) (A : Option Addr) (n c : Nat) (ms : List Nat) (land' : Int) (A' : Option Addr) (n' c' : Nat) (ms' : List Nat) (w : World) (hin : PIn p land now A n c ms w) (hin' : PIn p land' now A' n' c' ms' w) (hv : pvalE p land now ms = 0) (hv' : pvalE p land' now ms' = 0) (hf1 : fitB (rebM (land - min land land').toNat ms) ms.length = true) (hf2 : fitB (rebM (land' - min land land').toNat ms') ms'.length = true) : Calls Try.prog 29 #[.agg #[.int .i64 p, .int .i64 land, .int .i64 now, .slice A n c], .agg #[.int .i64 p, .int .i64 land', .int .i64 now, .slice A' n' c']] w fun e w' => PRet (qmer p land now ms p land' now ms') w e w' := by
  have P1 := fun w1 (hb : Below w.heap.size w w1) => ppval p land now A n c ms w1 (hin.below hb)
  rw [hv] at P1
  have P1 := Lib.hid P1
  have P2 := fun w1 (hb : Below w.heap.size w w1) => ppval p land' now A' n' c' ms' w1 (hin'.below hb)
  rw [hv'] at P2
  have P2 := Lib.hid P2
  obtain ⟨v1, v2, v3, v4, v5, v6, v7, _⟩ := of_pvalE hv
  obtain ⟨_, _, _, _, u5, u6, u7, _⟩ := of_pvalE hv'
  have hl := hin.len
  have hl' := hin'.len
  obtain rfl : n' = n := by omega
  have hn5 : n' ≤ 5 := by omega
  have QO := fun h3 => qmer_ok hv hv' hf1 hf2 h3
  have QN := fun h3 => qmer_over hv hv' (.inr (.inr h3))
  have PB1 := fun w1 (hb : Below w.heap.size w w1) => prebase p land now A n' c ms (min land land') w1 (hin.below hb) hv (by omega) (by omega)
  have PB2 := fun w1 (hb : Below w.heap.size w w1) => prebase p land' now A' n' c' ms' (min land land') w1 (hin'.below hb) hv' (by omega) (by omega)
  rw [← hl, hf1] at PB1
  rw [← hl', hf2] at PB2
  rw [hl] at PB1
  rw [hl'] at PB2
  rw [hl] at QO QN hf1
  rw [hl'] at QO QN hf2
  have BX := Lib.hid (upto_big (fun e he => of_fitB hf1 he))
  have BY := Lib.hid (upto_big (fun e he => of_fitB hf2 he))
  have LX := Lib.hid (upto_len (rebM (land - min land land').toNat ms) n')
  have LY := Lib.hid (upto_len (rebM (land' - min land land').toNat ms') n')
  obtain ⟨lm, hlm⟩ : ∃ q, min land land' = q := ⟨_, rfl⟩
  have l0 : 0 ≤ lm := by omega
  have l1 : lm ≤ 16777216 := by omega
  rw [hlm] at PB1 PB2 QO QN BX BY LX LY
  generalize upto (rebM (land - lm).toNat ms) n' = xs at PB1 QO QN BX LX
  generalize upto (rebM (land' - lm).toNat ms') n' = ys at PB2 QO QN BY LY
  have QO := Lib.hid QO
  have QN := Lib.hid QN
  have kk : (p != p) = false := by simp
  have kk2 : (now != now) = false := by simp
  have HMI : RowKit.Hid ((if land' < land then land' else land) = lm) := Lib.hid (by rw [min_if]; exact hlm)
  have PB1 := Lib.hid PB1
  have PB2 := Lib.hid PB2
  obtain ⟨i0, hi0, iz0, iz1, iz2⟩ := info_parts info_wide
  clear hv hv' hin hin' hl hl' hf1 hf2 hlm
  go_enter Try.func29, Try.ntmps29
  go_upto_region 9 with (first | (go_at_call 20; with_reducible refine (P1.out _ (by (repeat (first | exact Below.refl _ _ | refine Below.setCell ?_ (by first | (simp; done) | (simp; omega) | omega) _ | refine Below.alloc ?_ (by first | (simp; done) | (simp; omega) | omega) _ | refine Below.drew ?_ | refine Below.trans ?_ (Below.mono (by assumption) (by first | (simp; done) | (simp; omega) | omega)))))).mono ?_; rintro e w1 ⟨rfl, hb1⟩; have hz1 := hb1.size; (try simp at hz1); have o1 : Below w.heap.size w w1 := (by (repeat (first | exact Below.refl _ _ | refine Below.setCell ?_ (by first | (simp; done) | (simp; omega) | omega) _ | refine Below.alloc ?_ (by first | (simp; done) | (simp; omega) | omega) _ | refine Below.drew ?_ | refine Below.trans ?_ (Below.mono (by assumption) (by first | (simp; done) | (simp; omega) | omega))))); have q1_0 : w.heap.size < w1.heap.size := (by omega); have r1_0 : Row w1 (w.heap.size) 24 #[.int .i64 p, .int .i64 land, .int .i64 now, .slice A n' c] := row_call (by (repeat (first | assumption | (refine row_new ?_; (first | (simp; done) | omega)) | refine row_alloc ?_ _ | refine row_drew ?_ | refine row_call ?_ (by assumption)))) hb1; obtain ⟨c1_0a, c1_0b, c1_0c, c1_0d, f1_0a, f1_0b, f1_0c, f1_0d⟩ := row_four r1_0; have q1_1 : w.heap.size + 1 < w1.heap.size := (by omega); have r1_1 : Row w1 (w.heap.size + 1) 24 #[.int .i64 p, .int .i64 land', .int .i64 now, .slice A' n' c'] := row_call (by (repeat (first | assumption | (refine row_new ?_; (first | (simp; done) | omega)) | refine row_alloc ?_ _ | refine row_drew ?_ | refine row_call ?_ (by assumption)))) hb1; obtain ⟨c1_1a, c1_1b, c1_1c, c1_1d, f1_1a, f1_1b, f1_1c, f1_1d⟩ := row_four r1_1; have q1_2 : w.heap.size + 1 + 1 < w1.heap.size := (by omega); have r1_2 : Row w1 (w.heap.size + 1 + 1) 24 #[.int .i64 0, .int .i64 0, .int .i64 0, .slice none 0 0] := row_call (by (repeat (first | assumption | (refine row_new ?_; (first | (simp; done) | omega)) | refine row_alloc ?_ _ | refine row_drew ?_ | refine row_call ?_ (by assumption)))) hb1; obtain ⟨c1_2a, c1_2b, c1_2c, c1_2d, f1_2a, f1_2b, f1_2c, f1_2d⟩ := row_four r1_2) | (go_at_call 20; with_reducible refine (P2.out _ (by (repeat (first | exact Below.refl _ _ | refine Below.setCell ?_ (by first | (simp; done) | (simp; omega) | omega) _ | refine Below.alloc ?_ (by first | (simp; done) | (simp; omega) | omega) _ | refine Below.drew ?_ | refine Below.trans ?_ (Below.mono (by assumption) (by first | (simp; done) | (simp; omega) | omega)))))).mono ?_; rintro e w2 ⟨rfl, hb2⟩; have hz2 := hb2.size; (try simp at hz2); have o2 : Below w.heap.size w w2 := (by (repeat (first | exact Below.refl _ _ | refine Below.setCell ?_ (by first | (simp; done) | (simp; omega) | omega) _ | refine Below.alloc ?_ (by first | (simp; done) | (simp; omega) | omega) _ | refine Below.drew ?_ | refine Below.trans ?_ (Below.mono (by assumption) (by first | (simp; done) | (simp; omega) | omega))))); have q2_0 : w.heap.size < w2.heap.size := (by omega); have r2_0 : Row w2 (w.heap.size) 24 #[.int .i64 p, .int .i64 land, .int .i64 now, .slice A n' c] := row_call (by (repeat (first | assumption | (refine row_new ?_; (first | (simp; done) | omega)) | refine row_alloc ?_ _ | refine row_drew ?_ | refine row_call ?_ (by assumption)))) hb2; obtain ⟨c2_0a, c2_0b, c2_0c, c2_0d, f2_0a, f2_0b, f2_0c, f2_0d⟩ := row_four r2_0; have q2_1 : w.heap.size + 1 < w2.heap.size := (by omega); have r2_1 : Row w2 (w.heap.size + 1) 24 #[.int .i64 p, .int .i64 land', .int .i64 now, .slice A' n' c'] := row_call (by (repeat (first | assumption | (refine row_new ?_; (first | (simp; done) | omega)) | refine row_alloc ?_ _ | refine row_drew ?_ | refine row_call ?_ (by assumption)))) hb2; obtain ⟨c2_1a, c2_1b, c2_1c, c2_1d, f2_1a, f2_1b, f2_1c, f2_1d⟩ := row_four r2_1; have q2_2 : w.heap.size + 1 + 1 < w2.heap.size := (by omega); have r2_2 : Row w2 (w.heap.size + 1 + 1) 24 #[.int .i64 0, .int .i64 0, .int .i64 0, .slice none 0 0] := row_call (by (repeat (first | assumption | (refine row_new ?_; (first | (simp; done) | omega)) | refine row_alloc ?_ _ | refine row_drew ?_ | refine row_call ?_ (by assumption)))) hb2; obtain ⟨c2_2a, c2_2b, c2_2c, c2_2d, f2_2a, f2_2b, f2_2c, f2_2d⟩ := row_four r2_2))
  have x := r2_0
  have y := r2_1
  have r := r2_2
  have o := o2
  clear r2_0 r2_1 r2_2 o2 hb2 hb1 o1 r1_0 r1_1 r1_2 P1 P2 c1_0a f1_0a c1_0b f1_0b c1_0c f1_0c c1_0d f1_0d c1_1a f1_1a c1_1b f1_1b c1_1c f1_1c c1_1d f1_1d c1_2a f1_2a c1_2b f1_2b c1_2c f1_2c c1_2d f1_2d c2_0a f2_0a c2_0b f2_0b c2_0c f2_0c c2_0d f2_0d c2_1a f2_1a c2_1b f2_1b c2_1c f2_1c c2_1d f2_1d c2_2a f2_2a c2_2b f2_2b c2_2c f2_2c c2_2d f2_2d
  obtain ⟨X0, X1, X2, X3, Xf0, Xf1, Xf2, Xf3⟩ := row_four x
  obtain ⟨Y0, Y1, Y2, Y3, Yf0, Yf1, Yf2, Yf3⟩ := row_four y
  go_upto_region 10 with (fail)
  rw [HMI.out]
  clear X0 X1 X2 X3 Xf0 Xf1 Xf2 Xf3 Y0 Y1 Y2 Y3 Yf0 Yf1 Yf2 Yf3
  obtain ⟨X0, X1, X2, X3, Xf0, Xf1, Xf2, Xf3⟩ := row_four x
  go_wp2_with fail
  refine (PB1.out _ (by exact o)).mono ?_
  rintro e w1 ⟨g1, d1, rfl, own1, hg1, hb1⟩
  replace x := row_call x hb1
  replace y := row_call y hb1
  replace r := row_call r hb1
  replace o := o.trans (hb1.mono o.size)
  have zg1 := own1.lt
  clear hb1 X0 X1 X2 X3 Xf0 Xf1 Xf2 Xf3
  obtain ⟨X0, X1, X2, X3, Xf0, Xf1, Xf2, Xf3⟩ := row_four x
  obtain ⟨Y0, Y1, Y2, Y3, Yf0, Yf1, Yf2, Yf3⟩ := row_four y
  have zk1 : w.heap.size + 1 + 1 < w1.heap.size := row_lt r
  go_upto_region 11 with (fail)
  replace x := row_alloc x (.cells #[.int .i64 p, .int .i64 lm, .int .i64 now, .slice (some ⟨g1, 0, none⟩) n' d1] 24)
  replace y := row_alloc y (.cells #[.int .i64 p, .int .i64 lm, .int .i64 now, .slice (some ⟨g1, 0, none⟩) n' d1] 24)
  replace r := row_alloc r (.cells #[.int .i64 p, .int .i64 lm, .int .i64 now, .slice (some ⟨g1, 0, none⟩) n' d1] 24)
  replace o := o.alloc o.size (.cells #[.int .i64 p, .int .i64 lm, .int .i64 now, .slice (some ⟨g1, 0, none⟩) n' d1] 24)
  replace own1 := own1.alloc (.cells #[.int .i64 p, .int .i64 lm, .int .i64 now, .slice (some ⟨g1, 0, none⟩) n' d1] 24)
  have k1 : Row (w1.alloc (.cells #[.int .i64 p, .int .i64 lm, .int .i64 now, .slice (some ⟨g1, 0, none⟩) n' d1] 24)) w1.heap.size 24 #[.int .i64 p, .int .i64 lm, .int .i64 now, .slice (some ⟨g1, 0, none⟩) n' d1] := row_new rfl
  generalize w1.alloc (.cells #[.int .i64 p, .int .i64 lm, .int .i64 now, .slice (some ⟨g1, 0, none⟩) n' d1] 24) = v1 at x y r o own1 k1 ⊢
  generalize w1.heap.size = b1 at k1 zk1 zg1 ⊢
  clear X0 X1 X2 X3 Xf0 Xf1 Xf2 Xf3 Y0 Y1 Y2 Y3 Yf0 Yf1 Yf2 Yf3
  obtain ⟨X0, X1, X2, X3, Xf0, Xf1, Xf2, Xf3⟩ := row_four x
  obtain ⟨Y0, Y1, Y2, Y3, Yf0, Yf1, Yf2, Yf3⟩ := row_four y
  have zv1 := row_lt k1
  go_wp2_with fail
  refine (PB2.out _ (by exact o)).mono ?_
  rintro e w2 ⟨g2, d2, rfl, own2, hg2, hb2⟩
  replace x := row_call x hb2
  replace y := row_call y hb2
  replace r := row_call r hb2
  replace o := o.trans (hb2.mono o.size)
  replace own1 := own1.call hb2
  replace k1 := row_call k1 hb2
  have zg2 := own2.lt
  clear hb2 X0 X1 X2 X3 Xf0 Xf1 Xf2 Xf3 Y0 Y1 Y2 Y3 Yf0 Yf1 Yf2 Yf3
  obtain ⟨X0, X1, X2, X3, Xf0, Xf1, Xf2, Xf3⟩ := row_four x
  obtain ⟨Y0, Y1, Y2, Y3, Yf0, Yf1, Yf2, Yf3⟩ := row_four y
  have zk2 : w.heap.size + 1 + 1 < w2.heap.size := row_lt r
  have zkk : b1 < w2.heap.size := row_lt k1
  go_upto_region 12 with (fail)
  replace x := row_alloc x (.cells #[.int .i64 p, .int .i64 lm, .int .i64 now, .slice (some ⟨g2, 0, none⟩) n' d2] 24)
  replace y := row_alloc y (.cells #[.int .i64 p, .int .i64 lm, .int .i64 now, .slice (some ⟨g2, 0, none⟩) n' d2] 24)
  replace r := row_alloc r (.cells #[.int .i64 p, .int .i64 lm, .int .i64 now, .slice (some ⟨g2, 0, none⟩) n' d2] 24)
  replace o := o.alloc o.size (.cells #[.int .i64 p, .int .i64 lm, .int .i64 now, .slice (some ⟨g2, 0, none⟩) n' d2] 24)
  replace own1 := own1.alloc (.cells #[.int .i64 p, .int .i64 lm, .int .i64 now, .slice (some ⟨g2, 0, none⟩) n' d2] 24)
  replace k1 := row_alloc k1 (.cells #[.int .i64 p, .int .i64 lm, .int .i64 now, .slice (some ⟨g2, 0, none⟩) n' d2] 24)
  replace own2 := own2.alloc (.cells #[.int .i64 p, .int .i64 lm, .int .i64 now, .slice (some ⟨g2, 0, none⟩) n' d2] 24)
  have k2 : Row (w2.alloc (.cells #[.int .i64 p, .int .i64 lm, .int .i64 now, .slice (some ⟨g2, 0, none⟩) n' d2] 24)) w2.heap.size 24 #[.int .i64 p, .int .i64 lm, .int .i64 now, .slice (some ⟨g2, 0, none⟩) n' d2] := row_new rfl
  generalize w2.alloc (.cells #[.int .i64 p, .int .i64 lm, .int .i64 now, .slice (some ⟨g2, 0, none⟩) n' d2] 24) = v2 at x y r o own1 k1 own2 k2 ⊢
  generalize w2.heap.size = b2 at k2 zk2 zg2 zkk ⊢
  clear X0 X1 X2 X3 Xf0 Xf1 Xf2 Xf3 Y0 Y1 Y2 Y3 Yf0 Yf1 Yf2 Yf3
  have ng1 : g1 ≠ g2 := by omega
  have ng2 : g1 ≠ b1 := by omega
  have ng3 : g1 ≠ b2 := by omega
  have hg1' : w.heap.size + 2 ≤ g1 := by omega
  rw [← mix_zero (sumT xs ys) xs] at own1
  obtain ⟨K0, K1, K2, K3, Kf0, Kf1, Kf2, Kf3⟩ := row_four k1
  go_wp2
  clear x y K0 K1 K2 K3 Kf0 Kf1 Kf2 Kf3
  go_loopw [68] (fun i wr => ∃ j : Nat, j ≤ n' ∧ i = .int .i64 (j : Nat) ∧ RowKit.Hid (∀ e, e < j → sumT xs ys e < big) ∧ Own wr 35 2 g1 n' d1 (wcells (mixN (sumT xs ys) xs j)) ∧ Own wr 35 2 g2 n' d2 (wcells ys) ∧ Row wr b1 24 #[.int .i64 p, .int .i64 lm, .int .i64 now, .slice (some ⟨g1, 0, none⟩) n' d1] ∧ Row wr b2 24 #[.int .i64 p, .int .i64 lm, .int .i64 now, .slice (some ⟨g2, 0, none⟩) n' d2] ∧ Row wr (w.heap.size + 1 + 1) 24 #[.int .i64 0, .int .i64 0, .int .i64 0, .slice none 0 0] ∧ Below w.heap.size w wr) (fun i _ => n' - (intOf i).toNat)
  case atStart => exact ⟨0, by omega, rfl, Lib.hid (fun e he => absurd he (by omega)), own1, own2, k1, k2, r, o⟩
  case round =>
    clear own1 own2 k1 k2 r o
    obtain ⟨j, hj, rfl, HA, own1, own2, k1, k2, r, o⟩ := hrel
    obtain ⟨K0, K1, K2, K3, Kf0, Kf1, Kf2, Kf3⟩ := row_four k1
    by_cases hlt : j < n'
    · have i1 : (j : Int) < (n' : Int) := by omega
      have i2 : (0 : Int) ≤ (j : Int) := by omega
      have hT : sumT xs ys j = momAt xs j + momAt ys j := rfl
      have xb := BX.out j
      have yb := BY.out j
      obtain ⟨m, hx⟩ : ∃ m, momAt xs j = m := ⟨_, rfl⟩
      obtain ⟨u, hy⟩ : ∃ u, momAt ys j = u := ⟨_, rfl⟩
      rw [hx] at hT xb
      rw [hy] at hT yb
      have HT := Lib.hid hT
      clear hT
      by_cases hs : m + u < big
      · have PA := fun w => padd_fits m u xb yb hs w
        generalize hsu : m + u = t at PA hs
        have PA := Lib.hid PA
        have HS : RowKit.Hid (sumT xs ys j = t) := Lib.hid (by rw [HT.out]; exact hsu)
        have HB := Lib.hid (fun e (he : e < j + 1) => by
          rcases Nat.lt_or_ge e j with q | q
          · exact HA.out e q
          · rw [show e = j by omega, HS.out]; exact hs)
        clear hsu
        go_upto_region 17 with (fail)
        clear K0 K1 K2 K3 Kf0 Kf1 Kf2 Kf3
        refine wp_region_free1 [0, 1, 2, 3, 4, 5, 6, 7, 8, 9, 10, 11, 13, 12] [13] [0, 1, 2, 3, 4, 5, 6, 7, 8, 9, 10, 11, 12, 14] (14, 35, #[.int .u64 0, .int .u64 0]) 14 15 (fun w' => Below wr.heap.size wr w') (by kernel_rfl) (by kernel_rfl) ⟨_, _, rfl, rfl, rfl, fun ρ w' => by go_simp⟩ rfl (by simp) (fun _ h => h.alloc h.size _) (fun _ _ d _ _ h => by cases d <;> exact h) ?_ ?_
        · exact (Below.refl _ _).drew
        (refine plan_pure ?_ rfl rfl (fun w' => ?_) ?_; rotate_left; (go_simp; try with_reducible rfl); simp only [Act.put, List.setIfInBounds_toArray, List.set_cons_zero, List.set_cons_succ])
        (refine plan_val ?_ rfl rfl rfl (fun w' hS => ?_) ?_; rotate_left; (obtain ⟨K0, K1, K2, K3, Kf0, Kf1, Kf2, Kf3⟩ := row_four (row_call k1 hS); obtain ⟨L0, L1, L2, L3, Lf0, Lf1, Lf2, Lf3⟩ := row_four (row_call k2 hS); obtain ⟨p0, p1⟩ := (own1.call hS).mom hlt; rw [mix_at, hx] at p0 p1; obtain ⟨q0, q1⟩ := (own2.call hS).mom hlt; rw [hy] at q0 q1; go_simp; try with_reducible rfl); simp only [Act.put, List.setIfInBounds_toArray, List.set_cons_zero, List.set_cons_succ])
        (refine plan_pure ?_ rfl rfl (fun w' => ?_) ?_; rotate_left; (go_simp; try with_reducible rfl); simp only [Act.put, List.setIfInBounds_toArray, List.set_cons_zero, List.set_cons_succ])
        (refine plan_pure ?_ rfl rfl (fun w' => ?_) ?_; rotate_left; (go_simp; try with_reducible rfl); simp only [Act.put, List.setIfInBounds_toArray, List.set_cons_zero, List.set_cons_succ])
        (refine plan_val ?_ rfl rfl rfl (fun w' hS => ?_) ?_; rotate_left; (obtain ⟨K0, K1, K2, K3, Kf0, Kf1, Kf2, Kf3⟩ := row_four (row_call k1 hS); obtain ⟨L0, L1, L2, L3, Lf0, Lf1, Lf2, Lf3⟩ := row_four (row_call k2 hS); obtain ⟨p0, p1⟩ := (own1.call hS).mom hlt; rw [mix_at, hx] at p0 p1; obtain ⟨q0, q1⟩ := (own2.call hS).mom hlt; rw [hy] at q0 q1; go_simp; try with_reducible rfl); simp only [Act.put, List.setIfInBounds_toArray, List.set_cons_zero, List.set_cons_succ])
        (refine plan_pure ?_ rfl rfl (fun w' => ?_) ?_; rotate_left; (go_simp; try with_reducible rfl); simp only [Act.put, List.setIfInBounds_toArray, List.set_cons_zero, List.set_cons_succ])
        (refine plan_val ?_ rfl rfl rfl (fun w' hS => ?_) ?_; rotate_left; (obtain ⟨K0, K1, K2, K3, Kf0, Kf1, Kf2, Kf3⟩ := row_four (row_call k1 hS); obtain ⟨L0, L1, L2, L3, Lf0, Lf1, Lf2, Lf3⟩ := row_four (row_call k2 hS); obtain ⟨p0, p1⟩ := (own1.call hS).mom hlt; rw [mix_at, hx] at p0 p1; obtain ⟨q0, q1⟩ := (own2.call hS).mom hlt; rw [hy] at q0 q1; go_simp; try with_reducible rfl); simp only [Act.put, List.setIfInBounds_toArray, List.set_cons_zero, List.set_cons_succ])
        (refine plan_pure ?_ rfl rfl (fun w' => ?_) ?_; rotate_left; (go_simp; try with_reducible rfl); simp only [Act.put, List.setIfInBounds_toArray, List.set_cons_zero, List.set_cons_succ])
        (refine plan_pure ?_ rfl rfl (fun w' => ?_) ?_; rotate_left; (go_simp; try with_reducible rfl); simp only [Act.put, List.setIfInBounds_toArray, List.set_cons_zero, List.set_cons_succ])
        (refine plan_val ?_ rfl rfl rfl (fun w' hS => ?_) ?_; rotate_left; (obtain ⟨K0, K1, K2, K3, Kf0, Kf1, Kf2, Kf3⟩ := row_four (row_call k1 hS); obtain ⟨L0, L1, L2, L3, Lf0, Lf1, Lf2, Lf3⟩ := row_four (row_call k2 hS); obtain ⟨p0, p1⟩ := (own1.call hS).mom hlt; rw [mix_at, hx] at p0 p1; obtain ⟨q0, q1⟩ := (own2.call hS).mom hlt; rw [hy] at q0 q1; go_simp; try with_reducible rfl); simp only [Act.put, List.setIfInBounds_toArray, List.set_cons_zero, List.set_cons_succ])
        refine plan_call (.tuple #[W t, .bool true]) 39 #[W m, W u] rfl rfl rfl (fun _ _ h hb => h.trans (hb.mono h.size)) (fun w' hS => by obtain ⟨K0, K1, K2, K3, Kf0, Kf1, Kf2, Kf3⟩ := row_four (row_call k1 hS); obtain ⟨L0, L1, L2, L3, Lf0, Lf1, Lf2, Lf3⟩ := row_four (row_call k2 hS); obtain ⟨p0, p1⟩ := (own1.call hS).mom hlt; rw [mix_at, hx] at p0 p1; obtain ⟨q0, q1⟩ := (own2.call hS).mom hlt; rw [hy] at q0 q1; go_simp) (fun w' hS => PA.out w') ?_
        simp only [Act.put, List.setIfInBounds_toArray, List.set_cons_zero, List.set_cons_succ]
        (refine plan_pure ?_ rfl rfl (fun w' => ?_) ?_; rotate_left; (go_simp; try with_reducible rfl); simp only [Act.put, List.setIfInBounds_toArray, List.set_cons_zero, List.set_cons_succ])
        (refine plan_pure ?_ rfl rfl (fun w' => ?_) ?_; rotate_left; (go_simp; try with_reducible rfl); simp only [Act.put, List.setIfInBounds_toArray, List.set_cons_zero, List.set_cons_succ])
        (refine plan_pure ?_ rfl rfl (fun w' => ?_) ?_; rotate_left; (go_simp; try with_reducible rfl); simp only [Act.put, List.setIfInBounds_toArray, List.set_cons_zero, List.set_cons_succ])
        refine plan_nil ?_
        intro g8 w7 L7 hr8 hg8
        simp only [List.drop_succ_cons, List.drop_zero]
        try simp only [Act.put, List.setIfInBounds_toArray, List.set_cons_zero, List.set_cons_succ]
        have zown1 := own1.lt
        have zown2 := own2.lt
        have zk1 := row_lt k1
        have zk2 := row_lt k2
        have zr := row_lt r
        have zo := o.size
        replace own1 := own1.call L7
        replace own2 := own2.call L7
        replace k1 := row_call k1 L7
        replace k2 := row_call k2 L7
        replace r := row_call r L7
        replace o := o.trans (L7.mono o.size)
        clear L7
        obtain ⟨R0, R1, Rf0, Rf1⟩ := row_two hr8
        go_upto_region 18 with (fail)
        clear R0 R1 Rf0 Rf1
        replace own1 := own1.other (p := ⟨g8, 0, none⟩) (by show g1 ≠ g8; omega) (.int .u64 (hi t))
        replace own2 := own2.other (p := ⟨g8, 0, none⟩) (by show g2 ≠ g8; omega) (.int .u64 (hi t))
        replace k1 := row_other (p := ⟨g8, 0, none⟩) k1 (by show b1 ≠ g8; omega) (.int .u64 (hi t))
        replace k2 := row_other (p := ⟨g8, 0, none⟩) k2 (by show b2 ≠ g8; omega) (.int .u64 (hi t))
        replace r := row_other (p := ⟨g8, 0, none⟩) r (by show w.heap.size + 1 + 1 ≠ g8; omega) (.int .u64 (hi t))
        replace o := o.setCell (p := ⟨g8, 0, none⟩) (by show w.heap.size ≤ g8; omega) (.int .u64 (hi t))
        replace own1 := own1.other (p := ⟨g8, 1, none⟩) (by show g1 ≠ g8; omega) (.int .u64 (lo t))
        replace own2 := own2.other (p := ⟨g8, 1, none⟩) (by show g2 ≠ g8; omega) (.int .u64 (lo t))
        replace k1 := row_other (p := ⟨g8, 1, none⟩) k1 (by show b1 ≠ g8; omega) (.int .u64 (lo t))
        replace k2 := row_other (p := ⟨g8, 1, none⟩) k2 (by show b2 ≠ g8; omega) (.int .u64 (lo t))
        replace r := row_other (p := ⟨g8, 1, none⟩) r (by show w.heap.size + 1 + 1 ≠ g8; omega) (.int .u64 (lo t))
        replace o := o.setCell (p := ⟨g8, 1, none⟩) (by show w.heap.size ≤ g8; omega) (.int .u64 (lo t))
        have k3 := row_two_set (u := .int .u64 (hi t)) (v := .int .u64 (lo t)) hr8
        generalize ((w7.setCell ⟨g8, 0, none⟩ (.int .u64 (hi t))).setCell ⟨g8, 1, none⟩ (.int .u64 (lo t))) = w8 at own1 own2 k1 k2 r o k3 ⊢
        clear hr8 zown1 zown2 zk1 zk2 zr zo
        obtain ⟨S0, S1, Sf0, Sf1⟩ := row_two k3
        obtain ⟨R0, R1, R2, R3, Rf0, Rf1, Rf2, Rf3⟩ := row_four r
        clear R0 R1 R2 R3 Rf0 Rf1 Rf2 Rf3
        obtain ⟨K0, K1, K2, K3, Kf0, Kf1, Kf2, Kf3⟩ := row_four k1
        obtain ⟨t0, t1⟩ := own1.mom hlt
        have t2 := own1.free (j * 2)
        have t3 := own1.free (j * 2 + 1)
        have zg := own1.lt
        go_upto_region 21 with (fail)
        replace own1 := own1.setW j t
        rw [show (mixN (sumT xs ys) xs j).set j t = mixN (sumT xs ys) xs (j + 1) from by rw [← HS.out]; exact mix_step _ (by rw [LX.out]; exact hlt)] at own1
        replace own2 := own2.other (p := ⟨g1, j * 2, none⟩) (by show g2 ≠ g1; omega) (.int .u64 (hi t))
        replace k1 := row_other (p := ⟨g1, j * 2, none⟩) k1 (by show b1 ≠ g1; omega) (.int .u64 (hi t))
        replace k2 := row_other (p := ⟨g1, j * 2, none⟩) k2 (by show b2 ≠ g1; omega) (.int .u64 (hi t))
        replace r := row_other (p := ⟨g1, j * 2, none⟩) r (by show w.heap.size + 1 + 1 ≠ g1; omega) (.int .u64 (hi t))
        replace o := o.setCell (p := ⟨g1, j * 2, none⟩) (by show w.heap.size ≤ g1; omega) (.int .u64 (hi t))
        replace own2 := own2.other (p := ⟨g1, j * 2 + 1, none⟩) (by show g2 ≠ g1; omega) (.int .u64 (lo t))
        replace k1 := row_other (p := ⟨g1, j * 2 + 1, none⟩) k1 (by show b1 ≠ g1; omega) (.int .u64 (lo t))
        replace k2 := row_other (p := ⟨g1, j * 2 + 1, none⟩) k2 (by show b2 ≠ g1; omega) (.int .u64 (lo t))
        replace r := row_other (p := ⟨g1, j * 2 + 1, none⟩) r (by show w.heap.size + 1 + 1 ≠ g1; omega) (.int .u64 (lo t))
        replace o := o.setCell (p := ⟨g1, j * 2 + 1, none⟩) (by show w.heap.size ≤ g1; omega) (.int .u64 (lo t))
        generalize ((w8.setCell ⟨g1, j * 2, none⟩ (.int .u64 (hi t))).setCell ⟨g1, j * 2 + 1, none⟩ (.int .u64 (lo t))) = w10 at own1 own2 k1 k2 r o ⊢
        clear t0 t1 t2 t3 S0 S1 Sf0 Sf1 K0 K1 K2 K3 Kf0 Kf1 Kf2 Kf3 k3
        go_wp2
        go_roundw
        case rel => exact ⟨j + 1, by omega, by go_num, HB, own1, own2, k1, k2, r, o⟩
        case measure => simp [intOf]; omega
      · have PA := Lib.hid (fun w => padd_over m u xb yb hs w)
        have E := Lib.hid (QN.out (fitB_no hlt (by rw [HT.out]; exact hs)))
        go_upto_region 17 with (fail)
        clear K0 K1 K2 K3 Kf0 Kf1 Kf2 Kf3
        refine wp_region_free1 [0, 1, 2, 3, 4, 5, 6, 7, 8, 9, 10, 11, 13, 12] [13] [0, 1, 2, 3, 4, 5, 6, 7, 8, 9, 10, 11, 12, 14] (14, 35, #[.int .u64 0, .int .u64 0]) 14 15 (fun w' => Below wr.heap.size wr w') (by kernel_rfl) (by kernel_rfl) ⟨_, _, rfl, rfl, rfl, fun ρ w' => by go_simp⟩ rfl (by simp) (fun _ h => h.alloc h.size _) (fun _ _ d _ _ h => by cases d <;> exact h) ?_ ?_
        · exact (Below.refl _ _).drew
        (refine plan_pure ?_ rfl rfl (fun w' => ?_) ?_; rotate_left; (go_simp; try with_reducible rfl); simp only [Act.put, List.setIfInBounds_toArray, List.set_cons_zero, List.set_cons_succ])
        (refine plan_val ?_ rfl rfl rfl (fun w' hS => ?_) ?_; rotate_left; (obtain ⟨K0, K1, K2, K3, Kf0, Kf1, Kf2, Kf3⟩ := row_four (row_call k1 hS); obtain ⟨L0, L1, L2, L3, Lf0, Lf1, Lf2, Lf3⟩ := row_four (row_call k2 hS); obtain ⟨p0, p1⟩ := (own1.call hS).mom hlt; rw [mix_at, hx] at p0 p1; obtain ⟨q0, q1⟩ := (own2.call hS).mom hlt; rw [hy] at q0 q1; go_simp; try with_reducible rfl); simp only [Act.put, List.setIfInBounds_toArray, List.set_cons_zero, List.set_cons_succ])
        (refine plan_pure ?_ rfl rfl (fun w' => ?_) ?_; rotate_left; (go_simp; try with_reducible rfl); simp only [Act.put, List.setIfInBounds_toArray, List.set_cons_zero, List.set_cons_succ])
        (refine plan_pure ?_ rfl rfl (fun w' => ?_) ?_; rotate_left; (go_simp; try with_reducible rfl); simp only [Act.put, List.setIfInBounds_toArray, List.set_cons_zero, List.set_cons_succ])
        (refine plan_val ?_ rfl rfl rfl (fun w' hS => ?_) ?_; rotate_left; (obtain ⟨K0, K1, K2, K3, Kf0, Kf1, Kf2, Kf3⟩ := row_four (row_call k1 hS); obtain ⟨L0, L1, L2, L3, Lf0, Lf1, Lf2, Lf3⟩ := row_four (row_call k2 hS); obtain ⟨p0, p1⟩ := (own1.call hS).mom hlt; rw [mix_at, hx] at p0 p1; obtain ⟨q0, q1⟩ := (own2.call hS).mom hlt; rw [hy] at q0 q1; go_simp; try with_reducible rfl); simp only [Act.put, List.setIfInBounds_toArray, List.set_cons_zero, List.set_cons_succ])
        (refine plan_pure ?_ rfl rfl (fun w' => ?_) ?_; rotate_left; (go_simp; try with_reducible rfl); simp only [Act.put, List.setIfInBounds_toArray, List.set_cons_zero, List.set_cons_succ])
        (refine plan_val ?_ rfl rfl rfl (fun w' hS => ?_) ?_; rotate_left; (obtain ⟨K0, K1, K2, K3, Kf0, Kf1, Kf2, Kf3⟩ := row_four (row_call k1 hS); obtain ⟨L0, L1, L2, L3, Lf0, Lf1, Lf2, Lf3⟩ := row_four (row_call k2 hS); obtain ⟨p0, p1⟩ := (own1.call hS).mom hlt; rw [mix_at, hx] at p0 p1; obtain ⟨q0, q1⟩ := (own2.call hS).mom hlt; rw [hy] at q0 q1; go_simp; try with_reducible rfl); simp only [Act.put, List.setIfInBounds_toArray, List.set_cons_zero, List.set_cons_succ])
        (refine plan_pure ?_ rfl rfl (fun w' => ?_) ?_; rotate_left; (go_simp; try with_reducible rfl); simp only [Act.put, List.setIfInBounds_toArray, List.set_cons_zero, List.set_cons_succ])
        (refine plan_pure ?_ rfl rfl (fun w' => ?_) ?_; rotate_left; (go_simp; try with_reducible rfl); simp only [Act.put, List.setIfInBounds_toArray, List.set_cons_zero, List.set_cons_succ])
        (refine plan_val ?_ rfl rfl rfl (fun w' hS => ?_) ?_; rotate_left; (obtain ⟨K0, K1, K2, K3, Kf0, Kf1, Kf2, Kf3⟩ := row_four (row_call k1 hS); obtain ⟨L0, L1, L2, L3, Lf0, Lf1, Lf2, Lf3⟩ := row_four (row_call k2 hS); obtain ⟨p0, p1⟩ := (own1.call hS).mom hlt; rw [mix_at, hx] at p0 p1; obtain ⟨q0, q1⟩ := (own2.call hS).mom hlt; rw [hy] at q0 q1; go_simp; try with_reducible rfl); simp only [Act.put, List.setIfInBounds_toArray, List.set_cons_zero, List.set_cons_succ])
        refine plan_call (.tuple #[W 0, .bool false]) 39 #[W m, W u] rfl rfl rfl (fun _ _ h hb => h.trans (hb.mono h.size)) (fun w' hS => by obtain ⟨K0, K1, K2, K3, Kf0, Kf1, Kf2, Kf3⟩ := row_four (row_call k1 hS); obtain ⟨L0, L1, L2, L3, Lf0, Lf1, Lf2, Lf3⟩ := row_four (row_call k2 hS); obtain ⟨p0, p1⟩ := (own1.call hS).mom hlt; rw [mix_at, hx] at p0 p1; obtain ⟨q0, q1⟩ := (own2.call hS).mom hlt; rw [hy] at q0 q1; go_simp) (fun w' hS => PA.out w') ?_
        simp only [Act.put, List.setIfInBounds_toArray, List.set_cons_zero, List.set_cons_succ]
        (refine plan_pure ?_ rfl rfl (fun w' => ?_) ?_; rotate_left; (go_simp; try with_reducible rfl); simp only [Act.put, List.setIfInBounds_toArray, List.set_cons_zero, List.set_cons_succ])
        (refine plan_pure ?_ rfl rfl (fun w' => ?_) ?_; rotate_left; (go_simp; try with_reducible rfl); simp only [Act.put, List.setIfInBounds_toArray, List.set_cons_zero, List.set_cons_succ])
        (refine plan_pure ?_ rfl rfl (fun w' => ?_) ?_; rotate_left; (go_simp; try with_reducible rfl); simp only [Act.put, List.setIfInBounds_toArray, List.set_cons_zero, List.set_cons_succ])
        refine plan_nil ?_
        intro g8 w7 L7 hr8 hg8
        simp only [List.drop_succ_cons, List.drop_zero]
        try simp only [Act.put, List.setIfInBounds_toArray, List.set_cons_zero, List.set_cons_succ]
        have zown1 := own1.lt
        have zown2 := own2.lt
        have zk1 := row_lt k1
        have zk2 := row_lt k2
        have zr := row_lt r
        have zo := o.size
        replace own1 := own1.call L7
        replace own2 := own2.call L7
        replace k1 := row_call k1 L7
        replace k2 := row_call k2 L7
        replace r := row_call r L7
        replace o := o.trans (L7.mono o.size)
        clear L7
        obtain ⟨R0, R1, Rf0, Rf1⟩ := row_two hr8
        go_upto_region 18 with (fail)
        clear R0 R1 Rf0 Rf1
        replace own1 := own1.other (p := ⟨g8, 0, none⟩) (by show g1 ≠ g8; omega) (.int .u64 (hi 0))
        replace own2 := own2.other (p := ⟨g8, 0, none⟩) (by show g2 ≠ g8; omega) (.int .u64 (hi 0))
        replace k1 := row_other (p := ⟨g8, 0, none⟩) k1 (by show b1 ≠ g8; omega) (.int .u64 (hi 0))
        replace k2 := row_other (p := ⟨g8, 0, none⟩) k2 (by show b2 ≠ g8; omega) (.int .u64 (hi 0))
        replace r := row_other (p := ⟨g8, 0, none⟩) r (by show w.heap.size + 1 + 1 ≠ g8; omega) (.int .u64 (hi 0))
        replace o := o.setCell (p := ⟨g8, 0, none⟩) (by show w.heap.size ≤ g8; omega) (.int .u64 (hi 0))
        replace own1 := own1.other (p := ⟨g8, 1, none⟩) (by show g1 ≠ g8; omega) (.int .u64 (lo 0))
        replace own2 := own2.other (p := ⟨g8, 1, none⟩) (by show g2 ≠ g8; omega) (.int .u64 (lo 0))
        replace k1 := row_other (p := ⟨g8, 1, none⟩) k1 (by show b1 ≠ g8; omega) (.int .u64 (lo 0))
        replace k2 := row_other (p := ⟨g8, 1, none⟩) k2 (by show b2 ≠ g8; omega) (.int .u64 (lo 0))
        replace r := row_other (p := ⟨g8, 1, none⟩) r (by show w.heap.size + 1 + 1 ≠ g8; omega) (.int .u64 (lo 0))
        replace o := o.setCell (p := ⟨g8, 1, none⟩) (by show w.heap.size ≤ g8; omega) (.int .u64 (lo 0))
        have k3 := row_two_set (u := .int .u64 (hi 0)) (v := .int .u64 (lo 0)) hr8
        generalize ((w7.setCell ⟨g8, 0, none⟩ (.int .u64 (hi 0))).setCell ⟨g8, 1, none⟩ (.int .u64 (lo 0))) = w8 at own1 own2 k1 k2 r o k3 ⊢
        clear hr8 zown1 zown2 zk1 zk2 zr zo
        obtain ⟨S0, S1, Sf0, Sf1⟩ := row_two k3
        obtain ⟨R0, R1, R2, R3, Rf0, Rf1, Rf2, Rf3⟩ := row_four r
        go_wp2
        exact bodyPost_ret (v := .tuple #[.agg #[.int .i64 0, .int .i64 0, .int .i64 0, .slice none 0 0], .int .i64 6]) (by simp [results, Try.results29, go_sem, R0, R1, R2, R3]) rfl (by rw [E.out]; exact pret_zero (by (repeat (first | exact Below.refl _ _ | refine Below.setCell ?_ (by first | (simp; done) | (simp; omega) | omega) _ | refine Below.alloc ?_ (by first | (simp; done) | (simp; omega) | omega) _ | refine Below.drew ?_ | refine Below.trans ?_ (Below.mono (by assumption) (by first | (simp; done) | (simp; omega) | omega))))))
    · have i1 : ¬ (j : Int) < (n' : Int) := by omega
      obtain rfl : j = n' := by omega
      have E := Lib.hid (QO.out (fitB_yes HA.out))
      rw [mix_all _ LX.out] at own1
      obtain ⟨R0, R1, R2, R3, Rf0, Rf1, Rf2, Rf3⟩ := row_four r
      go_wp2
      have ow := own_four (b := w.heap.size + 1 + 1) own1 (by omega) (.int .i64 p) (.int .i64 lm) (.int .i64 now) (.slice (some ⟨g1, 0, none⟩) j d1)
      have ob := below_four (b := w.heap.size + 1 + 1) o (by omega) (.int .i64 p) (.int .i64 lm) (.int .i64 now) (.slice (some ⟨g1, 0, none⟩) j d1)
      exact bodyPost_ret (v := .tuple #[.agg #[.int .i64 p, .int .i64 lm, .int .i64 now, .slice (some ⟨g1, 0, none⟩) j d1], .int .i64 0]) (by simp [results, Try.results29, go_sem, R0, R1, R2, R3]) rfl (by rw [E.out]; exact pret_own ow (by omega) (by omega) (by omega) (upto_big HA.out) ob (by omega))
set_option maxHeartbeats 8000000 in
set_option maxRecDepth 100000 in
theorem ppmer_tf (p land now : Int) (A : Option Addr) (n c : Nat) (ms : List Nat) (land' : Int) (A' : Option Addr) (n' c' : Nat) (ms' : List Nat) (w : World) (hin : PIn p land now A n c ms w) (hin' : PIn p land' now A' n' c' ms' w) (hv : pvalE p land now ms = 0) (hv' : pvalE p land' now ms' = 0) (hf1 : fitB (rebM (land - min land land').toNat ms) ms.length = true) (hf2 : fitB (rebM (land' - min land land').toNat ms') ms'.length = false) : Calls Try.prog 29 #[.agg #[.int .i64 p, .int .i64 land, .int .i64 now, .slice A n c], .agg #[.int .i64 p, .int .i64 land', .int .i64 now, .slice A' n' c']] w fun e w' => PRet (qmer p land now ms p land' now ms') w e w' := by
  have P1 := fun w1 (hb : Below w.heap.size w w1) => ppval p land now A n c ms w1 (hin.below hb)
  rw [hv] at P1
  have P1 := Lib.hid P1
  have P2 := fun w1 (hb : Below w.heap.size w w1) => ppval p land' now A' n' c' ms' w1 (hin'.below hb)
  rw [hv'] at P2
  have P2 := Lib.hid P2
  obtain ⟨v1, v2, v3, v4, v5, v6, v7, _⟩ := of_pvalE hv
  obtain ⟨_, _, _, _, u5, u6, u7, _⟩ := of_pvalE hv'
  have hl := hin.len
  have hl' := hin'.len
  obtain rfl : n' = n := by omega
  have hn5 : n' ≤ 5 := by omega
  rw [qmer_over hv hv' (.inr (.inl hf2))]
  have PB1 := fun w1 (hb : Below w.heap.size w w1) => prebase p land now A n' c ms (min land land') w1 (hin.below hb) hv (by omega) (by omega)
  have PB2 := fun w1 (hb : Below w.heap.size w w1) => prebase p land' now A' n' c' ms' (min land land') w1 (hin'.below hb) hv' (by omega) (by omega)
  rw [← hl, hf1] at PB1
  rw [← hl', hf2] at PB2
  rw [hl] at PB1
  rw [hl'] at PB2
  obtain ⟨lm, hlm⟩ : ∃ q, min land land' = q := ⟨_, rfl⟩
  have l0 : 0 ≤ lm := by omega
  have l1 : lm ≤ 16777216 := by omega
  rw [hlm] at PB1 PB2
  generalize upto (rebM (land - lm).toNat ms) n' = xs at PB1
  have kk : (p != p) = false := by simp
  have kk2 : (now != now) = false := by simp
  have HMI : RowKit.Hid ((if land' < land then land' else land) = lm) := Lib.hid (by rw [min_if]; exact hlm)
  have PB1 := Lib.hid PB1
  have PB2 := Lib.hid PB2
  clear hv hv' hin hin' hl hl' hf1 hf2 hlm
  go_enter Try.func29, Try.ntmps29
  go_upto_region 9 with (first | (go_at_call 20; with_reducible refine (P1.out _ (by (repeat (first | exact Below.refl _ _ | refine Below.setCell ?_ (by first | (simp; done) | (simp; omega) | omega) _ | refine Below.alloc ?_ (by first | (simp; done) | (simp; omega) | omega) _ | refine Below.drew ?_ | refine Below.trans ?_ (Below.mono (by assumption) (by first | (simp; done) | (simp; omega) | omega)))))).mono ?_; rintro e w1 ⟨rfl, hb1⟩; have hz1 := hb1.size; (try simp at hz1); have o1 : Below w.heap.size w w1 := (by (repeat (first | exact Below.refl _ _ | refine Below.setCell ?_ (by first | (simp; done) | (simp; omega) | omega) _ | refine Below.alloc ?_ (by first | (simp; done) | (simp; omega) | omega) _ | refine Below.drew ?_ | refine Below.trans ?_ (Below.mono (by assumption) (by first | (simp; done) | (simp; omega) | omega))))); have q1_0 : w.heap.size < w1.heap.size := (by omega); have r1_0 : Row w1 (w.heap.size) 24 #[.int .i64 p, .int .i64 land, .int .i64 now, .slice A n' c] := row_call (by (repeat (first | assumption | (refine row_new ?_; (first | (simp; done) | omega)) | refine row_alloc ?_ _ | refine row_drew ?_ | refine row_call ?_ (by assumption)))) hb1; obtain ⟨c1_0a, c1_0b, c1_0c, c1_0d, f1_0a, f1_0b, f1_0c, f1_0d⟩ := row_four r1_0; have q1_1 : w.heap.size + 1 < w1.heap.size := (by omega); have r1_1 : Row w1 (w.heap.size + 1) 24 #[.int .i64 p, .int .i64 land', .int .i64 now, .slice A' n' c'] := row_call (by (repeat (first | assumption | (refine row_new ?_; (first | (simp; done) | omega)) | refine row_alloc ?_ _ | refine row_drew ?_ | refine row_call ?_ (by assumption)))) hb1; obtain ⟨c1_1a, c1_1b, c1_1c, c1_1d, f1_1a, f1_1b, f1_1c, f1_1d⟩ := row_four r1_1; have q1_2 : w.heap.size + 1 + 1 < w1.heap.size := (by omega); have r1_2 : Row w1 (w.heap.size + 1 + 1) 24 #[.int .i64 0, .int .i64 0, .int .i64 0, .slice none 0 0] := row_call (by (repeat (first | assumption | (refine row_new ?_; (first | (simp; done) | omega)) | refine row_alloc ?_ _ | refine row_drew ?_ | refine row_call ?_ (by assumption)))) hb1; obtain ⟨c1_2a, c1_2b, c1_2c, c1_2d, f1_2a, f1_2b, f1_2c, f1_2d⟩ := row_four r1_2) | (go_at_call 20; with_reducible refine (P2.out _ (by (repeat (first | exact Below.refl _ _ | refine Below.setCell ?_ (by first | (simp; done) | (simp; omega) | omega) _ | refine Below.alloc ?_ (by first | (simp; done) | (simp; omega) | omega) _ | refine Below.drew ?_ | refine Below.trans ?_ (Below.mono (by assumption) (by first | (simp; done) | (simp; omega) | omega)))))).mono ?_; rintro e w2 ⟨rfl, hb2⟩; have hz2 := hb2.size; (try simp at hz2); have o2 : Below w.heap.size w w2 := (by (repeat (first | exact Below.refl _ _ | refine Below.setCell ?_ (by first | (simp; done) | (simp; omega) | omega) _ | refine Below.alloc ?_ (by first | (simp; done) | (simp; omega) | omega) _ | refine Below.drew ?_ | refine Below.trans ?_ (Below.mono (by assumption) (by first | (simp; done) | (simp; omega) | omega))))); have q2_0 : w.heap.size < w2.heap.size := (by omega); have r2_0 : Row w2 (w.heap.size) 24 #[.int .i64 p, .int .i64 land, .int .i64 now, .slice A n' c] := row_call (by (repeat (first | assumption | (refine row_new ?_; (first | (simp; done) | omega)) | refine row_alloc ?_ _ | refine row_drew ?_ | refine row_call ?_ (by assumption)))) hb2; obtain ⟨c2_0a, c2_0b, c2_0c, c2_0d, f2_0a, f2_0b, f2_0c, f2_0d⟩ := row_four r2_0; have q2_1 : w.heap.size + 1 < w2.heap.size := (by omega); have r2_1 : Row w2 (w.heap.size + 1) 24 #[.int .i64 p, .int .i64 land', .int .i64 now, .slice A' n' c'] := row_call (by (repeat (first | assumption | (refine row_new ?_; (first | (simp; done) | omega)) | refine row_alloc ?_ _ | refine row_drew ?_ | refine row_call ?_ (by assumption)))) hb2; obtain ⟨c2_1a, c2_1b, c2_1c, c2_1d, f2_1a, f2_1b, f2_1c, f2_1d⟩ := row_four r2_1; have q2_2 : w.heap.size + 1 + 1 < w2.heap.size := (by omega); have r2_2 : Row w2 (w.heap.size + 1 + 1) 24 #[.int .i64 0, .int .i64 0, .int .i64 0, .slice none 0 0] := row_call (by (repeat (first | assumption | (refine row_new ?_; (first | (simp; done) | omega)) | refine row_alloc ?_ _ | refine row_drew ?_ | refine row_call ?_ (by assumption)))) hb2; obtain ⟨c2_2a, c2_2b, c2_2c, c2_2d, f2_2a, f2_2b, f2_2c, f2_2d⟩ := row_four r2_2))
  have x := r2_0
  have y := r2_1
  have r := r2_2
  have o := o2
  clear r2_0 r2_1 r2_2 o2 hb2 hb1 o1 r1_0 r1_1 r1_2 P1 P2 c1_0a f1_0a c1_0b f1_0b c1_0c f1_0c c1_0d f1_0d c1_1a f1_1a c1_1b f1_1b c1_1c f1_1c c1_1d f1_1d c1_2a f1_2a c1_2b f1_2b c1_2c f1_2c c1_2d f1_2d c2_0a f2_0a c2_0b f2_0b c2_0c f2_0c c2_0d f2_0d c2_1a f2_1a c2_1b f2_1b c2_1c f2_1c c2_1d f2_1d c2_2a f2_2a c2_2b f2_2b c2_2c f2_2c c2_2d f2_2d
  obtain ⟨X0, X1, X2, X3, Xf0, Xf1, Xf2, Xf3⟩ := row_four x
  obtain ⟨Y0, Y1, Y2, Y3, Yf0, Yf1, Yf2, Yf3⟩ := row_four y
  go_upto_region 10 with (fail)
  rw [HMI.out]
  clear X0 X1 X2 X3 Xf0 Xf1 Xf2 Xf3 Y0 Y1 Y2 Y3 Yf0 Yf1 Yf2 Yf3
  obtain ⟨X0, X1, X2, X3, Xf0, Xf1, Xf2, Xf3⟩ := row_four x
  go_wp2_with fail
  refine (PB1.out _ (by exact o)).mono ?_
  rintro e w1 ⟨g1, d1, rfl, own1, hg1, hb1⟩
  replace x := row_call x hb1
  replace y := row_call y hb1
  replace r := row_call r hb1
  replace o := o.trans (hb1.mono o.size)
  have zg1 := own1.lt
  clear hb1 X0 X1 X2 X3 Xf0 Xf1 Xf2 Xf3
  obtain ⟨X0, X1, X2, X3, Xf0, Xf1, Xf2, Xf3⟩ := row_four x
  obtain ⟨Y0, Y1, Y2, Y3, Yf0, Yf1, Yf2, Yf3⟩ := row_four y
  have zk1 : w.heap.size + 1 + 1 < w1.heap.size := row_lt r
  go_upto_region 11 with (fail)
  replace x := row_alloc x (.cells #[.int .i64 p, .int .i64 lm, .int .i64 now, .slice (some ⟨g1, 0, none⟩) n' d1] 24)
  replace y := row_alloc y (.cells #[.int .i64 p, .int .i64 lm, .int .i64 now, .slice (some ⟨g1, 0, none⟩) n' d1] 24)
  replace r := row_alloc r (.cells #[.int .i64 p, .int .i64 lm, .int .i64 now, .slice (some ⟨g1, 0, none⟩) n' d1] 24)
  replace o := o.alloc o.size (.cells #[.int .i64 p, .int .i64 lm, .int .i64 now, .slice (some ⟨g1, 0, none⟩) n' d1] 24)
  replace own1 := own1.alloc (.cells #[.int .i64 p, .int .i64 lm, .int .i64 now, .slice (some ⟨g1, 0, none⟩) n' d1] 24)
  have k1 : Row (w1.alloc (.cells #[.int .i64 p, .int .i64 lm, .int .i64 now, .slice (some ⟨g1, 0, none⟩) n' d1] 24)) w1.heap.size 24 #[.int .i64 p, .int .i64 lm, .int .i64 now, .slice (some ⟨g1, 0, none⟩) n' d1] := row_new rfl
  generalize w1.alloc (.cells #[.int .i64 p, .int .i64 lm, .int .i64 now, .slice (some ⟨g1, 0, none⟩) n' d1] 24) = v1 at x y r o own1 k1 ⊢
  generalize w1.heap.size = b1 at k1 zk1 zg1 ⊢
  clear X0 X1 X2 X3 Xf0 Xf1 Xf2 Xf3 Y0 Y1 Y2 Y3 Yf0 Yf1 Yf2 Yf3
  obtain ⟨X0, X1, X2, X3, Xf0, Xf1, Xf2, Xf3⟩ := row_four x
  obtain ⟨Y0, Y1, Y2, Y3, Yf0, Yf1, Yf2, Yf3⟩ := row_four y
  have zv1 := row_lt k1
  go_wp2_with fail
  refine (PB2.out _ (by exact o)).mono ?_
  rintro e w2 ⟨rfl, hb2⟩
  replace x := row_call x hb2
  replace y := row_call y hb2
  replace r := row_call r hb2
  replace o := o.trans (hb2.mono o.size)
  replace own1 := own1.call hb2
  replace k1 := row_call k1 hb2
  clear hb2 X0 X1 X2 X3 Xf0 Xf1 Xf2 Xf3 Y0 Y1 Y2 Y3 Yf0 Yf1 Yf2 Yf3
  obtain ⟨X0, X1, X2, X3, Xf0, Xf1, Xf2, Xf3⟩ := row_four x
  obtain ⟨Y0, Y1, Y2, Y3, Yf0, Yf1, Yf2, Yf3⟩ := row_four y
  have zk2 : w.heap.size + 1 + 1 < w2.heap.size := row_lt r
  have zkk : b1 < w2.heap.size := row_lt k1
  go_upto_region 12 with (fail)
  replace x := row_alloc x (.cells #[.int .i64 0, .int .i64 0, .int .i64 0, .slice none 0 0] 24)
  replace y := row_alloc y (.cells #[.int .i64 0, .int .i64 0, .int .i64 0, .slice none 0 0] 24)
  replace r := row_alloc r (.cells #[.int .i64 0, .int .i64 0, .int .i64 0, .slice none 0 0] 24)
  replace o := o.alloc o.size (.cells #[.int .i64 0, .int .i64 0, .int .i64 0, .slice none 0 0] 24)
  replace own1 := own1.alloc (.cells #[.int .i64 0, .int .i64 0, .int .i64 0, .slice none 0 0] 24)
  replace k1 := row_alloc k1 (.cells #[.int .i64 0, .int .i64 0, .int .i64 0, .slice none 0 0] 24)
  have k2 : Row (w2.alloc (.cells #[.int .i64 0, .int .i64 0, .int .i64 0, .slice none 0 0] 24)) w2.heap.size 24 #[.int .i64 0, .int .i64 0, .int .i64 0, .slice none 0 0] := row_new rfl
  generalize w2.alloc (.cells #[.int .i64 0, .int .i64 0, .int .i64 0, .slice none 0 0] 24) = v2 at x y r o own1 k1 k2 ⊢
  generalize w2.heap.size = b2 at k2 zk2 zkk ⊢
  clear X0 X1 X2 X3 Xf0 Xf1 Xf2 Xf3 Y0 Y1 Y2 Y3 Yf0 Yf1 Yf2 Yf3
  obtain ⟨R0, R1, R2, R3, Rf0, Rf1, Rf2, Rf3⟩ := row_four r
  go_wp2
  exact bodyPost_ret (v := .tuple #[.agg #[.int .i64 0, .int .i64 0, .int .i64 0, .slice none 0 0], .int .i64 6]) (by simp [results, Try.results29, go_sem, R0, R1, R2, R3]) rfl (pret_zero (by (repeat (first | exact Below.refl _ _ | refine Below.setCell ?_ (by first | (simp; done) | (simp; omega) | omega) _ | refine Below.alloc ?_ (by first | (simp; done) | (simp; omega) | omega) _ | refine Below.drew ?_ | refine Below.trans ?_ (Below.mono (by assumption) (by first | (simp; done) | (simp; omega) | omega))))))
set_option maxHeartbeats 8000000 in
set_option maxRecDepth 100000 in
theorem ppmer_ft (p land now : Int) (A : Option Addr) (n c : Nat) (ms : List Nat) (land' : Int) (A' : Option Addr) (n' c' : Nat) (ms' : List Nat) (w : World) (hin : PIn p land now A n c ms w) (hin' : PIn p land' now A' n' c' ms' w) (hv : pvalE p land now ms = 0) (hv' : pvalE p land' now ms' = 0) (hf1 : fitB (rebM (land - min land land').toNat ms) ms.length = false) (hf2 : fitB (rebM (land' - min land land').toNat ms') ms'.length = true) : Calls Try.prog 29 #[.agg #[.int .i64 p, .int .i64 land, .int .i64 now, .slice A n c], .agg #[.int .i64 p, .int .i64 land', .int .i64 now, .slice A' n' c']] w fun e w' => PRet (qmer p land now ms p land' now ms') w e w' := by
  have P1 := fun w1 (hb : Below w.heap.size w w1) => ppval p land now A n c ms w1 (hin.below hb)
  rw [hv] at P1
  have P1 := Lib.hid P1
  have P2 := fun w1 (hb : Below w.heap.size w w1) => ppval p land' now A' n' c' ms' w1 (hin'.below hb)
  rw [hv'] at P2
  have P2 := Lib.hid P2
  obtain ⟨v1, v2, v3, v4, v5, v6, v7, _⟩ := of_pvalE hv
  obtain ⟨_, _, _, _, u5, u6, u7, _⟩ := of_pvalE hv'
  have hl := hin.len
  have hl' := hin'.len
  obtain rfl : n' = n := by omega
  have hn5 : n' ≤ 5 := by omega
  rw [qmer_over hv hv' (.inl hf1)]
  have PB1 := fun w1 (hb : Below w.heap.size w w1) => prebase p land now A n' c ms (min land land') w1 (hin.below hb) hv (by omega) (by omega)
  have PB2 := fun w1 (hb : Below w.heap.size w w1) => prebase p land' now A' n' c' ms' (min land land') w1 (hin'.below hb) hv' (by omega) (by omega)
  rw [← hl, hf1] at PB1
  rw [← hl', hf2] at PB2
  rw [hl] at PB1
  rw [hl'] at PB2
  obtain ⟨lm, hlm⟩ : ∃ q, min land land' = q := ⟨_, rfl⟩
  have l0 : 0 ≤ lm := by omega
  have l1 : lm ≤ 16777216 := by omega
  rw [hlm] at PB1 PB2
  generalize upto (rebM (land' - lm).toNat ms') n' = ys at PB2
  have kk : (p != p) = false := by simp
  have kk2 : (now != now) = false := by simp
  have HMI : RowKit.Hid ((if land' < land then land' else land) = lm) := Lib.hid (by rw [min_if]; exact hlm)
  have PB1 := Lib.hid PB1
  have PB2 := Lib.hid PB2
  clear hv hv' hin hin' hl hl' hf1 hf2 hlm
  go_enter Try.func29, Try.ntmps29
  go_upto_region 9 with (first | (go_at_call 20; with_reducible refine (P1.out _ (by (repeat (first | exact Below.refl _ _ | refine Below.setCell ?_ (by first | (simp; done) | (simp; omega) | omega) _ | refine Below.alloc ?_ (by first | (simp; done) | (simp; omega) | omega) _ | refine Below.drew ?_ | refine Below.trans ?_ (Below.mono (by assumption) (by first | (simp; done) | (simp; omega) | omega)))))).mono ?_; rintro e w1 ⟨rfl, hb1⟩; have hz1 := hb1.size; (try simp at hz1); have o1 : Below w.heap.size w w1 := (by (repeat (first | exact Below.refl _ _ | refine Below.setCell ?_ (by first | (simp; done) | (simp; omega) | omega) _ | refine Below.alloc ?_ (by first | (simp; done) | (simp; omega) | omega) _ | refine Below.drew ?_ | refine Below.trans ?_ (Below.mono (by assumption) (by first | (simp; done) | (simp; omega) | omega))))); have q1_0 : w.heap.size < w1.heap.size := (by omega); have r1_0 : Row w1 (w.heap.size) 24 #[.int .i64 p, .int .i64 land, .int .i64 now, .slice A n' c] := row_call (by (repeat (first | assumption | (refine row_new ?_; (first | (simp; done) | omega)) | refine row_alloc ?_ _ | refine row_drew ?_ | refine row_call ?_ (by assumption)))) hb1; obtain ⟨c1_0a, c1_0b, c1_0c, c1_0d, f1_0a, f1_0b, f1_0c, f1_0d⟩ := row_four r1_0; have q1_1 : w.heap.size + 1 < w1.heap.size := (by omega); have r1_1 : Row w1 (w.heap.size + 1) 24 #[.int .i64 p, .int .i64 land', .int .i64 now, .slice A' n' c'] := row_call (by (repeat (first | assumption | (refine row_new ?_; (first | (simp; done) | omega)) | refine row_alloc ?_ _ | refine row_drew ?_ | refine row_call ?_ (by assumption)))) hb1; obtain ⟨c1_1a, c1_1b, c1_1c, c1_1d, f1_1a, f1_1b, f1_1c, f1_1d⟩ := row_four r1_1; have q1_2 : w.heap.size + 1 + 1 < w1.heap.size := (by omega); have r1_2 : Row w1 (w.heap.size + 1 + 1) 24 #[.int .i64 0, .int .i64 0, .int .i64 0, .slice none 0 0] := row_call (by (repeat (first | assumption | (refine row_new ?_; (first | (simp; done) | omega)) | refine row_alloc ?_ _ | refine row_drew ?_ | refine row_call ?_ (by assumption)))) hb1; obtain ⟨c1_2a, c1_2b, c1_2c, c1_2d, f1_2a, f1_2b, f1_2c, f1_2d⟩ := row_four r1_2) | (go_at_call 20; with_reducible refine (P2.out _ (by (repeat (first | exact Below.refl _ _ | refine Below.setCell ?_ (by first | (simp; done) | (simp; omega) | omega) _ | refine Below.alloc ?_ (by first | (simp; done) | (simp; omega) | omega) _ | refine Below.drew ?_ | refine Below.trans ?_ (Below.mono (by assumption) (by first | (simp; done) | (simp; omega) | omega)))))).mono ?_; rintro e w2 ⟨rfl, hb2⟩; have hz2 := hb2.size; (try simp at hz2); have o2 : Below w.heap.size w w2 := (by (repeat (first | exact Below.refl _ _ | refine Below.setCell ?_ (by first | (simp; done) | (simp; omega) | omega) _ | refine Below.alloc ?_ (by first | (simp; done) | (simp; omega) | omega) _ | refine Below.drew ?_ | refine Below.trans ?_ (Below.mono (by assumption) (by first | (simp; done) | (simp; omega) | omega))))); have q2_0 : w.heap.size < w2.heap.size := (by omega); have r2_0 : Row w2 (w.heap.size) 24 #[.int .i64 p, .int .i64 land, .int .i64 now, .slice A n' c] := row_call (by (repeat (first | assumption | (refine row_new ?_; (first | (simp; done) | omega)) | refine row_alloc ?_ _ | refine row_drew ?_ | refine row_call ?_ (by assumption)))) hb2; obtain ⟨c2_0a, c2_0b, c2_0c, c2_0d, f2_0a, f2_0b, f2_0c, f2_0d⟩ := row_four r2_0; have q2_1 : w.heap.size + 1 < w2.heap.size := (by omega); have r2_1 : Row w2 (w.heap.size + 1) 24 #[.int .i64 p, .int .i64 land', .int .i64 now, .slice A' n' c'] := row_call (by (repeat (first | assumption | (refine row_new ?_; (first | (simp; done) | omega)) | refine row_alloc ?_ _ | refine row_drew ?_ | refine row_call ?_ (by assumption)))) hb2; obtain ⟨c2_1a, c2_1b, c2_1c, c2_1d, f2_1a, f2_1b, f2_1c, f2_1d⟩ := row_four r2_1; have q2_2 : w.heap.size + 1 + 1 < w2.heap.size := (by omega); have r2_2 : Row w2 (w.heap.size + 1 + 1) 24 #[.int .i64 0, .int .i64 0, .int .i64 0, .slice none 0 0] := row_call (by (repeat (first | assumption | (refine row_new ?_; (first | (simp; done) | omega)) | refine row_alloc ?_ _ | refine row_drew ?_ | refine row_call ?_ (by assumption)))) hb2; obtain ⟨c2_2a, c2_2b, c2_2c, c2_2d, f2_2a, f2_2b, f2_2c, f2_2d⟩ := row_four r2_2))
  have x := r2_0
  have y := r2_1
  have r := r2_2
  have o := o2
  clear r2_0 r2_1 r2_2 o2 hb2 hb1 o1 r1_0 r1_1 r1_2 P1 P2 c1_0a f1_0a c1_0b f1_0b c1_0c f1_0c c1_0d f1_0d c1_1a f1_1a c1_1b f1_1b c1_1c f1_1c c1_1d f1_1d c1_2a f1_2a c1_2b f1_2b c1_2c f1_2c c1_2d f1_2d c2_0a f2_0a c2_0b f2_0b c2_0c f2_0c c2_0d f2_0d c2_1a f2_1a c2_1b f2_1b c2_1c f2_1c c2_1d f2_1d c2_2a f2_2a c2_2b f2_2b c2_2c f2_2c c2_2d f2_2d
  obtain ⟨X0, X1, X2, X3, Xf0, Xf1, Xf2, Xf3⟩ := row_four x
  obtain ⟨Y0, Y1, Y2, Y3, Yf0, Yf1, Yf2, Yf3⟩ := row_four y
  go_upto_region 10 with (fail)
  rw [HMI.out]
  clear X0 X1 X2 X3 Xf0 Xf1 Xf2 Xf3 Y0 Y1 Y2 Y3 Yf0 Yf1 Yf2 Yf3
  obtain ⟨X0, X1, X2, X3, Xf0, Xf1, Xf2, Xf3⟩ := row_four x
  go_wp2_with fail
  refine (PB1.out _ (by exact o)).mono ?_
  rintro e w1 ⟨rfl, hb1⟩
  replace x := row_call x hb1
  replace y := row_call y hb1
  replace r := row_call r hb1
  replace o := o.trans (hb1.mono o.size)
  clear hb1 X0 X1 X2 X3 Xf0 Xf1 Xf2 Xf3
  obtain ⟨X0, X1, X2, X3, Xf0, Xf1, Xf2, Xf3⟩ := row_four x
  obtain ⟨Y0, Y1, Y2, Y3, Yf0, Yf1, Yf2, Yf3⟩ := row_four y
  have zk1 : w.heap.size + 1 + 1 < w1.heap.size := row_lt r
  go_upto_region 11 with (fail)
  replace x := row_alloc x (.cells #[.int .i64 0, .int .i64 0, .int .i64 0, .slice none 0 0] 24)
  replace y := row_alloc y (.cells #[.int .i64 0, .int .i64 0, .int .i64 0, .slice none 0 0] 24)
  replace r := row_alloc r (.cells #[.int .i64 0, .int .i64 0, .int .i64 0, .slice none 0 0] 24)
  replace o := o.alloc o.size (.cells #[.int .i64 0, .int .i64 0, .int .i64 0, .slice none 0 0] 24)
  have k1 : Row (w1.alloc (.cells #[.int .i64 0, .int .i64 0, .int .i64 0, .slice none 0 0] 24)) w1.heap.size 24 #[.int .i64 0, .int .i64 0, .int .i64 0, .slice none 0 0] := row_new rfl
  generalize w1.alloc (.cells #[.int .i64 0, .int .i64 0, .int .i64 0, .slice none 0 0] 24) = v1 at x y r o k1 ⊢
  generalize w1.heap.size = b1 at k1 zk1 ⊢
  clear X0 X1 X2 X3 Xf0 Xf1 Xf2 Xf3 Y0 Y1 Y2 Y3 Yf0 Yf1 Yf2 Yf3
  obtain ⟨X0, X1, X2, X3, Xf0, Xf1, Xf2, Xf3⟩ := row_four x
  obtain ⟨Y0, Y1, Y2, Y3, Yf0, Yf1, Yf2, Yf3⟩ := row_four y
  have zv1 := row_lt k1
  go_wp2_with fail
  refine (PB2.out _ (by exact o)).mono ?_
  rintro e w2 ⟨g2, d2, rfl, own2, hg2, hb2⟩
  replace x := row_call x hb2
  replace y := row_call y hb2
  replace r := row_call r hb2
  replace o := o.trans (hb2.mono o.size)
  replace k1 := row_call k1 hb2
  have zg2 := own2.lt
  clear hb2 X0 X1 X2 X3 Xf0 Xf1 Xf2 Xf3 Y0 Y1 Y2 Y3 Yf0 Yf1 Yf2 Yf3
  obtain ⟨X0, X1, X2, X3, Xf0, Xf1, Xf2, Xf3⟩ := row_four x
  obtain ⟨Y0, Y1, Y2, Y3, Yf0, Yf1, Yf2, Yf3⟩ := row_four y
  have zk2 : w.heap.size + 1 + 1 < w2.heap.size := row_lt r
  have zkk : b1 < w2.heap.size := row_lt k1
  go_upto_region 12 with (fail)
  replace x := row_alloc x (.cells #[.int .i64 p, .int .i64 lm, .int .i64 now, .slice (some ⟨g2, 0, none⟩) n' d2] 24)
  replace y := row_alloc y (.cells #[.int .i64 p, .int .i64 lm, .int .i64 now, .slice (some ⟨g2, 0, none⟩) n' d2] 24)
  replace r := row_alloc r (.cells #[.int .i64 p, .int .i64 lm, .int .i64 now, .slice (some ⟨g2, 0, none⟩) n' d2] 24)
  replace o := o.alloc o.size (.cells #[.int .i64 p, .int .i64 lm, .int .i64 now, .slice (some ⟨g2, 0, none⟩) n' d2] 24)
  replace k1 := row_alloc k1 (.cells #[.int .i64 p, .int .i64 lm, .int .i64 now, .slice (some ⟨g2, 0, none⟩) n' d2] 24)
  replace own2 := own2.alloc (.cells #[.int .i64 p, .int .i64 lm, .int .i64 now, .slice (some ⟨g2, 0, none⟩) n' d2] 24)
  have k2 : Row (w2.alloc (.cells #[.int .i64 p, .int .i64 lm, .int .i64 now, .slice (some ⟨g2, 0, none⟩) n' d2] 24)) w2.heap.size 24 #[.int .i64 p, .int .i64 lm, .int .i64 now, .slice (some ⟨g2, 0, none⟩) n' d2] := row_new rfl
  generalize w2.alloc (.cells #[.int .i64 p, .int .i64 lm, .int .i64 now, .slice (some ⟨g2, 0, none⟩) n' d2] 24) = v2 at x y r o k1 own2 k2 ⊢
  generalize w2.heap.size = b2 at k2 zk2 zg2 zkk ⊢
  clear X0 X1 X2 X3 Xf0 Xf1 Xf2 Xf3 Y0 Y1 Y2 Y3 Yf0 Yf1 Yf2 Yf3
  obtain ⟨R0, R1, R2, R3, Rf0, Rf1, Rf2, Rf3⟩ := row_four r
  go_wp2
  exact bodyPost_ret (v := .tuple #[.agg #[.int .i64 0, .int .i64 0, .int .i64 0, .slice none 0 0], .int .i64 6]) (by simp [results, Try.results29, go_sem, R0, R1, R2, R3]) rfl (pret_zero (by (repeat (first | exact Below.refl _ _ | refine Below.setCell ?_ (by first | (simp; done) | (simp; omega) | omega) _ | refine Below.alloc ?_ (by first | (simp; done) | (simp; omega) | omega) _ | refine Below.drew ?_ | refine Below.trans ?_ (Below.mono (by assumption) (by first | (simp; done) | (simp; omega) | omega))))))
set_option maxHeartbeats 8000000 in
set_option maxRecDepth 100000 in
theorem ppmer_ff (p land now : Int) (A : Option Addr) (n c : Nat) (ms : List Nat) (land' : Int) (A' : Option Addr) (n' c' : Nat) (ms' : List Nat) (w : World) (hin : PIn p land now A n c ms w) (hin' : PIn p land' now A' n' c' ms' w) (hv : pvalE p land now ms = 0) (hv' : pvalE p land' now ms' = 0) (hf1 : fitB (rebM (land - min land land').toNat ms) ms.length = false) (hf2 : fitB (rebM (land' - min land land').toNat ms') ms'.length = false) : Calls Try.prog 29 #[.agg #[.int .i64 p, .int .i64 land, .int .i64 now, .slice A n c], .agg #[.int .i64 p, .int .i64 land', .int .i64 now, .slice A' n' c']] w fun e w' => PRet (qmer p land now ms p land' now ms') w e w' := by
  have P1 := fun w1 (hb : Below w.heap.size w w1) => ppval p land now A n c ms w1 (hin.below hb)
  rw [hv] at P1
  have P1 := Lib.hid P1
  have P2 := fun w1 (hb : Below w.heap.size w w1) => ppval p land' now A' n' c' ms' w1 (hin'.below hb)
  rw [hv'] at P2
  have P2 := Lib.hid P2
  obtain ⟨v1, v2, v3, v4, v5, v6, v7, _⟩ := of_pvalE hv
  obtain ⟨_, _, _, _, u5, u6, u7, _⟩ := of_pvalE hv'
  have hl := hin.len
  have hl' := hin'.len
  obtain rfl : n' = n := by omega
  have hn5 : n' ≤ 5 := by omega
  rw [qmer_over hv hv' (.inl hf1)]
  have PB1 := fun w1 (hb : Below w.heap.size w w1) => prebase p land now A n' c ms (min land land') w1 (hin.below hb) hv (by omega) (by omega)
  have PB2 := fun w1 (hb : Below w.heap.size w w1) => prebase p land' now A' n' c' ms' (min land land') w1 (hin'.below hb) hv' (by omega) (by omega)
  rw [← hl, hf1] at PB1
  rw [← hl', hf2] at PB2
  rw [hl] at PB1
  rw [hl'] at PB2
  obtain ⟨lm, hlm⟩ : ∃ q, min land land' = q := ⟨_, rfl⟩
  have l0 : 0 ≤ lm := by omega
  have l1 : lm ≤ 16777216 := by omega
  rw [hlm] at PB1 PB2
  have kk : (p != p) = false := by simp
  have kk2 : (now != now) = false := by simp
  have HMI : RowKit.Hid ((if land' < land then land' else land) = lm) := Lib.hid (by rw [min_if]; exact hlm)
  have PB1 := Lib.hid PB1
  have PB2 := Lib.hid PB2
  clear hv hv' hin hin' hl hl' hf1 hf2 hlm
  go_enter Try.func29, Try.ntmps29
  go_upto_region 9 with (first | (go_at_call 20; with_reducible refine (P1.out _ (by (repeat (first | exact Below.refl _ _ | refine Below.setCell ?_ (by first | (simp; done) | (simp; omega) | omega) _ | refine Below.alloc ?_ (by first | (simp; done) | (simp; omega) | omega) _ | refine Below.drew ?_ | refine Below.trans ?_ (Below.mono (by assumption) (by first | (simp; done) | (simp; omega) | omega)))))).mono ?_; rintro e w1 ⟨rfl, hb1⟩; have hz1 := hb1.size; (try simp at hz1); have o1 : Below w.heap.size w w1 := (by (repeat (first | exact Below.refl _ _ | refine Below.setCell ?_ (by first | (simp; done) | (simp; omega) | omega) _ | refine Below.alloc ?_ (by first | (simp; done) | (simp; omega) | omega) _ | refine Below.drew ?_ | refine Below.trans ?_ (Below.mono (by assumption) (by first | (simp; done) | (simp; omega) | omega))))); have q1_0 : w.heap.size < w1.heap.size := (by omega); have r1_0 : Row w1 (w.heap.size) 24 #[.int .i64 p, .int .i64 land, .int .i64 now, .slice A n' c] := row_call (by (repeat (first | assumption | (refine row_new ?_; (first | (simp; done) | omega)) | refine row_alloc ?_ _ | refine row_drew ?_ | refine row_call ?_ (by assumption)))) hb1; obtain ⟨c1_0a, c1_0b, c1_0c, c1_0d, f1_0a, f1_0b, f1_0c, f1_0d⟩ := row_four r1_0; have q1_1 : w.heap.size + 1 < w1.heap.size := (by omega); have r1_1 : Row w1 (w.heap.size + 1) 24 #[.int .i64 p, .int .i64 land', .int .i64 now, .slice A' n' c'] := row_call (by (repeat (first | assumption | (refine row_new ?_; (first | (simp; done) | omega)) | refine row_alloc ?_ _ | refine row_drew ?_ | refine row_call ?_ (by assumption)))) hb1; obtain ⟨c1_1a, c1_1b, c1_1c, c1_1d, f1_1a, f1_1b, f1_1c, f1_1d⟩ := row_four r1_1; have q1_2 : w.heap.size + 1 + 1 < w1.heap.size := (by omega); have r1_2 : Row w1 (w.heap.size + 1 + 1) 24 #[.int .i64 0, .int .i64 0, .int .i64 0, .slice none 0 0] := row_call (by (repeat (first | assumption | (refine row_new ?_; (first | (simp; done) | omega)) | refine row_alloc ?_ _ | refine row_drew ?_ | refine row_call ?_ (by assumption)))) hb1; obtain ⟨c1_2a, c1_2b, c1_2c, c1_2d, f1_2a, f1_2b, f1_2c, f1_2d⟩ := row_four r1_2) | (go_at_call 20; with_reducible refine (P2.out _ (by (repeat (first | exact Below.refl _ _ | refine Below.setCell ?_ (by first | (simp; done) | (simp; omega) | omega) _ | refine Below.alloc ?_ (by first | (simp; done) | (simp; omega) | omega) _ | refine Below.drew ?_ | refine Below.trans ?_ (Below.mono (by assumption) (by first | (simp; done) | (simp; omega) | omega)))))).mono ?_; rintro e w2 ⟨rfl, hb2⟩; have hz2 := hb2.size; (try simp at hz2); have o2 : Below w.heap.size w w2 := (by (repeat (first | exact Below.refl _ _ | refine Below.setCell ?_ (by first | (simp; done) | (simp; omega) | omega) _ | refine Below.alloc ?_ (by first | (simp; done) | (simp; omega) | omega) _ | refine Below.drew ?_ | refine Below.trans ?_ (Below.mono (by assumption) (by first | (simp; done) | (simp; omega) | omega))))); have q2_0 : w.heap.size < w2.heap.size := (by omega); have r2_0 : Row w2 (w.heap.size) 24 #[.int .i64 p, .int .i64 land, .int .i64 now, .slice A n' c] := row_call (by (repeat (first | assumption | (refine row_new ?_; (first | (simp; done) | omega)) | refine row_alloc ?_ _ | refine row_drew ?_ | refine row_call ?_ (by assumption)))) hb2; obtain ⟨c2_0a, c2_0b, c2_0c, c2_0d, f2_0a, f2_0b, f2_0c, f2_0d⟩ := row_four r2_0; have q2_1 : w.heap.size + 1 < w2.heap.size := (by omega); have r2_1 : Row w2 (w.heap.size + 1) 24 #[.int .i64 p, .int .i64 land', .int .i64 now, .slice A' n' c'] := row_call (by (repeat (first | assumption | (refine row_new ?_; (first | (simp; done) | omega)) | refine row_alloc ?_ _ | refine row_drew ?_ | refine row_call ?_ (by assumption)))) hb2; obtain ⟨c2_1a, c2_1b, c2_1c, c2_1d, f2_1a, f2_1b, f2_1c, f2_1d⟩ := row_four r2_1; have q2_2 : w.heap.size + 1 + 1 < w2.heap.size := (by omega); have r2_2 : Row w2 (w.heap.size + 1 + 1) 24 #[.int .i64 0, .int .i64 0, .int .i64 0, .slice none 0 0] := row_call (by (repeat (first | assumption | (refine row_new ?_; (first | (simp; done) | omega)) | refine row_alloc ?_ _ | refine row_drew ?_ | refine row_call ?_ (by assumption)))) hb2; obtain ⟨c2_2a, c2_2b, c2_2c, c2_2d, f2_2a, f2_2b, f2_2c, f2_2d⟩ := row_four r2_2))
  have x := r2_0
  have y := r2_1
  have r := r2_2
  have o := o2
  clear r2_0 r2_1 r2_2 o2 hb2 hb1 o1 r1_0 r1_1 r1_2 P1 P2 c1_0a f1_0a c1_0b f1_0b c1_0c f1_0c c1_0d f1_0d c1_1a f1_1a c1_1b f1_1b c1_1c f1_1c c1_1d f1_1d c1_2a f1_2a c1_2b f1_2b c1_2c f1_2c c1_2d f1_2d c2_0a f2_0a c2_0b f2_0b c2_0c f2_0c c2_0d f2_0d c2_1a f2_1a c2_1b f2_1b c2_1c f2_1c c2_1d f2_1d c2_2a f2_2a c2_2b f2_2b c2_2c f2_2c c2_2d f2_2d
  obtain ⟨X0, X1, X2, X3, Xf0, Xf1, Xf2, Xf3⟩ := row_four x
  obtain ⟨Y0, Y1, Y2, Y3, Yf0, Yf1, Yf2, Yf3⟩ := row_four y
  go_upto_region 10 with (fail)
  rw [HMI.out]
  clear X0 X1 X2 X3 Xf0 Xf1 Xf2 Xf3 Y0 Y1 Y2 Y3 Yf0 Yf1 Yf2 Yf3
  obtain ⟨X0, X1, X2, X3, Xf0, Xf1, Xf2, Xf3⟩ := row_four x
  go_wp2_with fail
  refine (PB1.out _ (by exact o)).mono ?_
  rintro e w1 ⟨rfl, hb1⟩
  replace x := row_call x hb1
  replace y := row_call y hb1
  replace r := row_call r hb1
  replace o := o.trans (hb1.mono o.size)
  clear hb1 X0 X1 X2 X3 Xf0 Xf1 Xf2 Xf3
  obtain ⟨X0, X1, X2, X3, Xf0, Xf1, Xf2, Xf3⟩ := row_four x
  obtain ⟨Y0, Y1, Y2, Y3, Yf0, Yf1, Yf2, Yf3⟩ := row_four y
  have zk1 : w.heap.size + 1 + 1 < w1.heap.size := row_lt r
  go_upto_region 11 with (fail)
  replace x := row_alloc x (.cells #[.int .i64 0, .int .i64 0, .int .i64 0, .slice none 0 0] 24)
  replace y := row_alloc y (.cells #[.int .i64 0, .int .i64 0, .int .i64 0, .slice none 0 0] 24)
  replace r := row_alloc r (.cells #[.int .i64 0, .int .i64 0, .int .i64 0, .slice none 0 0] 24)
  replace o := o.alloc o.size (.cells #[.int .i64 0, .int .i64 0, .int .i64 0, .slice none 0 0] 24)
  have k1 : Row (w1.alloc (.cells #[.int .i64 0, .int .i64 0, .int .i64 0, .slice none 0 0] 24)) w1.heap.size 24 #[.int .i64 0, .int .i64 0, .int .i64 0, .slice none 0 0] := row_new rfl
  generalize w1.alloc (.cells #[.int .i64 0, .int .i64 0, .int .i64 0, .slice none 0 0] 24) = v1 at x y r o k1 ⊢
  generalize w1.heap.size = b1 at k1 zk1 ⊢
  clear X0 X1 X2 X3 Xf0 Xf1 Xf2 Xf3 Y0 Y1 Y2 Y3 Yf0 Yf1 Yf2 Yf3
  obtain ⟨X0, X1, X2, X3, Xf0, Xf1, Xf2, Xf3⟩ := row_four x
  obtain ⟨Y0, Y1, Y2, Y3, Yf0, Yf1, Yf2, Yf3⟩ := row_four y
  have zv1 := row_lt k1
  go_wp2_with fail
  refine (PB2.out _ (by exact o)).mono ?_
  rintro e w2 ⟨rfl, hb2⟩
  replace x := row_call x hb2
  replace y := row_call y hb2
  replace r := row_call r hb2
  replace o := o.trans (hb2.mono o.size)
  replace k1 := row_call k1 hb2
  clear hb2 X0 X1 X2 X3 Xf0 Xf1 Xf2 Xf3 Y0 Y1 Y2 Y3 Yf0 Yf1 Yf2 Yf3
  obtain ⟨X0, X1, X2, X3, Xf0, Xf1, Xf2, Xf3⟩ := row_four x
  obtain ⟨Y0, Y1, Y2, Y3, Yf0, Yf1, Yf2, Yf3⟩ := row_four y
  have zk2 : w.heap.size + 1 + 1 < w2.heap.size := row_lt r
  have zkk : b1 < w2.heap.size := row_lt k1
  go_upto_region 12 with (fail)
  replace x := row_alloc x (.cells #[.int .i64 0, .int .i64 0, .int .i64 0, .slice none 0 0] 24)
  replace y := row_alloc y (.cells #[.int .i64 0, .int .i64 0, .int .i64 0, .slice none 0 0] 24)
  replace r := row_alloc r (.cells #[.int .i64 0, .int .i64 0, .int .i64 0, .slice none 0 0] 24)
  replace o := o.alloc o.size (.cells #[.int .i64 0, .int .i64 0, .int .i64 0, .slice none 0 0] 24)
  replace k1 := row_alloc k1 (.cells #[.int .i64 0, .int .i64 0, .int .i64 0, .slice none 0 0] 24)
  have k2 : Row (w2.alloc (.cells #[.int .i64 0, .int .i64 0, .int .i64 0, .slice none 0 0] 24)) w2.heap.size 24 #[.int .i64 0, .int .i64 0, .int .i64 0, .slice none 0 0] := row_new rfl
  generalize w2.alloc (.cells #[.int .i64 0, .int .i64 0, .int .i64 0, .slice none 0 0] 24) = v2 at x y r o k1 k2 ⊢
  generalize w2.heap.size = b2 at k2 zk2 zkk ⊢
  clear X0 X1 X2 X3 Xf0 Xf1 Xf2 Xf3 Y0 Y1 Y2 Y3 Yf0 Yf1 Yf2 Yf3
  obtain ⟨R0, R1, R2, R3, Rf0, Rf1, Rf2, Rf3⟩ := row_four r
  go_wp2
  exact bodyPost_ret (v := .tuple #[.agg #[.int .i64 0, .int .i64 0, .int .i64 0, .slice none 0 0], .int .i64 6]) (by simp [results, Try.results29, go_sem, R0, R1, R2, R3]) rfl (pret_zero (by (repeat (first | exact Below.refl _ _ | refine Below.setCell ?_ (by first | (simp; done) | (simp; omega) | omega) _ | refine Below.alloc ?_ (by first | (simp; done) | (simp; omega) | omega) _ | refine Below.drew ?_ | refine Below.trans ?_ (Below.mono (by assumption) (by first | (simp; done) | (simp; omega) | omega))))))
theorem ppmer (p land now : Int) (A : Option Addr) (n c : Nat) (ms : List Nat) (p' land' now' : Int) (A' : Option Addr) (n' c' : Nat) (ms' : List Nat) (w : World) (hin : PIn p land now A n c ms w) (hin' : PIn p' land' now' A' n' c' ms' w) : Calls Try.prog 29 #[.agg #[.int .i64 p, .int .i64 land, .int .i64 now, .slice A n c], .agg #[.int .i64 p', .int .i64 land', .int .i64 now', .slice A' n' c']] w fun e w' => PRet (qmer p land now ms p' land' now' ms') w e w' := by
  rcases pvalE_two (p := p) (land := land) (now := now) (ms := ms) with hv | hv
  · rcases pvalE_two (p := p') (land := land') (now := now') (ms := ms') with hv' | hv'
    · by_cases h0 : p = p'
      · by_cases h1 : now = now'
        · subst h0
          subst h1
          rcases fitB_two (rebM (land - min land land').toNat ms) ms.length with hf1 | hf1
          · rcases fitB_two (rebM (land' - min land land').toNat ms') ms'.length with hf2 | hf2
            · exact ppmer_tt p land now A n c ms land' A' n' c' ms' w hin hin' hv hv' hf1 hf2
            · exact ppmer_tf p land now A n c ms land' A' n' c' ms' w hin hin' hv hv' hf1 hf2
          · rcases fitB_two (rebM (land' - min land land').toNat ms') ms'.length with hf2 | hf2
            · exact ppmer_ft p land now A n c ms land' A' n' c' ms' w hin hin' hv hv' hf1 hf2
            · exact ppmer_ff p land now A n c ms land' A' n' c' ms' w hin hin' hv hv' hf1 hf2
        · subst h0
          exact ppmer_now p land now A n c ms land' now' A' n' c' ms' w hin hin' hv hv' h1
      · exact ppmer_p p land now A n c ms p' land' now' A' n' c' ms' w hin hin' hv hv' h0
    · exact ppmer_bad2 p land now A n c ms p' land' now' A' n' c' ms' w hin hin' hv hv'
  · exact ppmer_bad1 p land now A n c ms p' land' now' A' n' c' ms' w hin hin' hv
theorem rpmer_bad1 (p land now : Int) (A : Option Addr) (n c : Nat) (ms : List Nat) (p' land' now' : Int) (A' : Option Addr) (n' c' : Nat) (ms' : List Nat) (w : World) (hin : PIn p land now A n c ms w) (hin' : PIn p' land' now' A' n' c' ms' w) (hv : pvalE p land now ms = 2) : Calls Try.prog 30 #[.agg #[.int .i64 p, .int .i64 land, .int .i64 now, .slice A n c], .agg #[.int .i64 p', .int .i64 land', .int .i64 now', .slice A' n' c']] w fun e w' => PRet (qmer p land now ms p' land' now' ms') w e w' := by
  rw [qmer_bad1 hv]
  have P1 := fun w1 (hb : Below w.heap.size w w1) => rpval p land now A n c ms w1 (hin.below hb)
  rw [hv] at P1
  have P1 := Lib.hid P1
  clear hv hin hin'
  go_enter Try.func30, Try.ntmps30
  go_wp2_with (first | (go_at_call 21; with_reducible refine (P1.out _ (by (repeat (first | exact Below.refl _ _ | refine Below.setCell ?_ (by first | (simp; done) | (simp; omega) | omega) _ | refine Below.alloc ?_ (by first | (simp; done) | (simp; omega) | omega) _ | refine Below.drew ?_ | refine Below.trans ?_ (Below.mono (by assumption) (by first | (simp; done) | (simp; omega) | omega)))))).mono ?_; rintro e w1 ⟨rfl, hb1⟩; have hz1 := hb1.size; (try simp at hz1); have o1 : Below w.heap.size w w1 := (by (repeat (first | exact Below.refl _ _ | refine Below.setCell ?_ (by first | (simp; done) | (simp; omega) | omega) _ | refine Below.alloc ?_ (by first | (simp; done) | (simp; omega) | omega) _ | refine Below.drew ?_ | refine Below.trans ?_ (Below.mono (by assumption) (by first | (simp; done) | (simp; omega) | omega))))); have q1_0 : w.heap.size < w1.heap.size := (by omega); have r1_0 : Row w1 (w.heap.size) 24 #[.int .i64 p, .int .i64 land, .int .i64 now, .slice A n c] := row_call (by (repeat (first | assumption | (refine row_new ?_; (first | (simp; done) | omega)) | refine row_alloc ?_ _ | refine row_drew ?_ | refine row_call ?_ (by assumption)))) hb1; obtain ⟨c1_0a, c1_0b, c1_0c, c1_0d, f1_0a, f1_0b, f1_0c, f1_0d⟩ := row_four r1_0; have q1_1 : w.heap.size + 1 < w1.heap.size := (by omega); have r1_1 : Row w1 (w.heap.size + 1) 24 #[.int .i64 p', .int .i64 land', .int .i64 now', .slice A' n' c'] := row_call (by (repeat (first | assumption | (refine row_new ?_; (first | (simp; done) | omega)) | refine row_alloc ?_ _ | refine row_drew ?_ | refine row_call ?_ (by assumption)))) hb1; obtain ⟨c1_1a, c1_1b, c1_1c, c1_1d, f1_1a, f1_1b, f1_1c, f1_1d⟩ := row_four r1_1; have q1_2 : w.heap.size + 1 + 1 < w1.heap.size := (by omega); have r1_2 : Row w1 (w.heap.size + 1 + 1) 24 #[.int .i64 0, .int .i64 0, .int .i64 0, .slice none 0 0] := row_call (by (repeat (first | assumption | (refine row_new ?_; (first | (simp; done) | omega)) | refine row_alloc ?_ _ | refine row_drew ?_ | refine row_call ?_ (by assumption)))) hb1; obtain ⟨c1_2a, c1_2b, c1_2c, c1_2d, f1_2a, f1_2b, f1_2c, f1_2d⟩ := row_four r1_2))
  exact bodyPost_ret (v := .tuple #[.agg #[.int .i64 0, .int .i64 0, .int .i64 0, .slice none 0 0], .int .i64 2]) (by simp [results, Try.results30, go_sem, c1_2a, c1_2b, c1_2c, c1_2d]) rfl (pret_zero (by (repeat (first | exact Below.refl _ _ | refine Below.setCell ?_ (by first | (simp; done) | (simp; omega) | omega) _ | refine Below.alloc ?_ (by first | (simp; done) | (simp; omega) | omega) _ | refine Below.drew ?_ | refine Below.trans ?_ (Below.mono (by assumption) (by first | (simp; done) | (simp; omega) | omega))))))
theorem rpmer_bad2 (p land now : Int) (A : Option Addr) (n c : Nat) (ms : List Nat) (p' land' now' : Int) (A' : Option Addr) (n' c' : Nat) (ms' : List Nat) (w : World) (hin : PIn p land now A n c ms w) (hin' : PIn p' land' now' A' n' c' ms' w) (hv : pvalE p land now ms = 0) (hv' : pvalE p' land' now' ms' = 2) : Calls Try.prog 30 #[.agg #[.int .i64 p, .int .i64 land, .int .i64 now, .slice A n c], .agg #[.int .i64 p', .int .i64 land', .int .i64 now', .slice A' n' c']] w fun e w' => PRet (qmer p land now ms p' land' now' ms') w e w' := by
  rw [qmer_bad2 hv hv']
  have P1 := fun w1 (hb : Below w.heap.size w w1) => rpval p land now A n c ms w1 (hin.below hb)
  rw [hv] at P1
  have P1 := Lib.hid P1
  have P2 := fun w1 (hb : Below w.heap.size w w1) => rpval p' land' now' A' n' c' ms' w1 (hin'.below hb)
  rw [hv'] at P2
  have P2 := Lib.hid P2
  clear hv hin hin' hv'
  go_enter Try.func30, Try.ntmps30
  go_wp2_with (first | (go_at_call 21; with_reducible refine (P1.out _ (by (repeat (first | exact Below.refl _ _ | refine Below.setCell ?_ (by first | (simp; done) | (simp; omega) | omega) _ | refine Below.alloc ?_ (by first | (simp; done) | (simp; omega) | omega) _ | refine Below.drew ?_ | refine Below.trans ?_ (Below.mono (by assumption) (by first | (simp; done) | (simp; omega) | omega)))))).mono ?_; rintro e w1 ⟨rfl, hb1⟩; have hz1 := hb1.size; (try simp at hz1); have o1 : Below w.heap.size w w1 := (by (repeat (first | exact Below.refl _ _ | refine Below.setCell ?_ (by first | (simp; done) | (simp; omega) | omega) _ | refine Below.alloc ?_ (by first | (simp; done) | (simp; omega) | omega) _ | refine Below.drew ?_ | refine Below.trans ?_ (Below.mono (by assumption) (by first | (simp; done) | (simp; omega) | omega))))); have q1_0 : w.heap.size < w1.heap.size := (by omega); have r1_0 : Row w1 (w.heap.size) 24 #[.int .i64 p, .int .i64 land, .int .i64 now, .slice A n c] := row_call (by (repeat (first | assumption | (refine row_new ?_; (first | (simp; done) | omega)) | refine row_alloc ?_ _ | refine row_drew ?_ | refine row_call ?_ (by assumption)))) hb1; obtain ⟨c1_0a, c1_0b, c1_0c, c1_0d, f1_0a, f1_0b, f1_0c, f1_0d⟩ := row_four r1_0; have q1_1 : w.heap.size + 1 < w1.heap.size := (by omega); have r1_1 : Row w1 (w.heap.size + 1) 24 #[.int .i64 p', .int .i64 land', .int .i64 now', .slice A' n' c'] := row_call (by (repeat (first | assumption | (refine row_new ?_; (first | (simp; done) | omega)) | refine row_alloc ?_ _ | refine row_drew ?_ | refine row_call ?_ (by assumption)))) hb1; obtain ⟨c1_1a, c1_1b, c1_1c, c1_1d, f1_1a, f1_1b, f1_1c, f1_1d⟩ := row_four r1_1; have q1_2 : w.heap.size + 1 + 1 < w1.heap.size := (by omega); have r1_2 : Row w1 (w.heap.size + 1 + 1) 24 #[.int .i64 0, .int .i64 0, .int .i64 0, .slice none 0 0] := row_call (by (repeat (first | assumption | (refine row_new ?_; (first | (simp; done) | omega)) | refine row_alloc ?_ _ | refine row_drew ?_ | refine row_call ?_ (by assumption)))) hb1; obtain ⟨c1_2a, c1_2b, c1_2c, c1_2d, f1_2a, f1_2b, f1_2c, f1_2d⟩ := row_four r1_2) | (go_at_call 21; with_reducible refine (P2.out _ (by (repeat (first | exact Below.refl _ _ | refine Below.setCell ?_ (by first | (simp; done) | (simp; omega) | omega) _ | refine Below.alloc ?_ (by first | (simp; done) | (simp; omega) | omega) _ | refine Below.drew ?_ | refine Below.trans ?_ (Below.mono (by assumption) (by first | (simp; done) | (simp; omega) | omega)))))).mono ?_; rintro e w2 ⟨rfl, hb2⟩; have hz2 := hb2.size; (try simp at hz2); have o2 : Below w.heap.size w w2 := (by (repeat (first | exact Below.refl _ _ | refine Below.setCell ?_ (by first | (simp; done) | (simp; omega) | omega) _ | refine Below.alloc ?_ (by first | (simp; done) | (simp; omega) | omega) _ | refine Below.drew ?_ | refine Below.trans ?_ (Below.mono (by assumption) (by first | (simp; done) | (simp; omega) | omega))))); have q2_0 : w.heap.size < w2.heap.size := (by omega); have r2_0 : Row w2 (w.heap.size) 24 #[.int .i64 p, .int .i64 land, .int .i64 now, .slice A n c] := row_call (by (repeat (first | assumption | (refine row_new ?_; (first | (simp; done) | omega)) | refine row_alloc ?_ _ | refine row_drew ?_ | refine row_call ?_ (by assumption)))) hb2; obtain ⟨c2_0a, c2_0b, c2_0c, c2_0d, f2_0a, f2_0b, f2_0c, f2_0d⟩ := row_four r2_0; have q2_1 : w.heap.size + 1 < w2.heap.size := (by omega); have r2_1 : Row w2 (w.heap.size + 1) 24 #[.int .i64 p', .int .i64 land', .int .i64 now', .slice A' n' c'] := row_call (by (repeat (first | assumption | (refine row_new ?_; (first | (simp; done) | omega)) | refine row_alloc ?_ _ | refine row_drew ?_ | refine row_call ?_ (by assumption)))) hb2; obtain ⟨c2_1a, c2_1b, c2_1c, c2_1d, f2_1a, f2_1b, f2_1c, f2_1d⟩ := row_four r2_1; have q2_2 : w.heap.size + 1 + 1 < w2.heap.size := (by omega); have r2_2 : Row w2 (w.heap.size + 1 + 1) 24 #[.int .i64 0, .int .i64 0, .int .i64 0, .slice none 0 0] := row_call (by (repeat (first | assumption | (refine row_new ?_; (first | (simp; done) | omega)) | refine row_alloc ?_ _ | refine row_drew ?_ | refine row_call ?_ (by assumption)))) hb2; obtain ⟨c2_2a, c2_2b, c2_2c, c2_2d, f2_2a, f2_2b, f2_2c, f2_2d⟩ := row_four r2_2))
  exact bodyPost_ret (v := .tuple #[.agg #[.int .i64 0, .int .i64 0, .int .i64 0, .slice none 0 0], .int .i64 2]) (by simp [results, Try.results30, go_sem, c2_2a, c2_2b, c2_2c, c2_2d]) rfl (pret_zero (by (repeat (first | exact Below.refl _ _ | refine Below.setCell ?_ (by first | (simp; done) | (simp; omega) | omega) _ | refine Below.alloc ?_ (by first | (simp; done) | (simp; omega) | omega) _ | refine Below.drew ?_ | refine Below.trans ?_ (Below.mono (by assumption) (by first | (simp; done) | (simp; omega) | omega))))))
theorem rpmer_p (p land now : Int) (A : Option Addr) (n c : Nat) (ms : List Nat) (p' land' now' : Int) (A' : Option Addr) (n' c' : Nat) (ms' : List Nat) (w : World) (hin : PIn p land now A n c ms w) (hin' : PIn p' land' now' A' n' c' ms' w) (hv : pvalE p land now ms = 0) (hv' : pvalE p' land' now' ms' = 0) (h : p ≠ p') : Calls Try.prog 30 #[.agg #[.int .i64 p, .int .i64 land, .int .i64 now, .slice A n c], .agg #[.int .i64 p', .int .i64 land', .int .i64 now', .slice A' n' c']] w fun e w' => PRet (qmer p land now ms p' land' now' ms') w e w' := by
  rw [qmer_arg hv hv' (.inl h)]
  have P1 := fun w1 (hb : Below w.heap.size w w1) => rpval p land now A n c ms w1 (hin.below hb)
  rw [hv] at P1
  have P1 := Lib.hid P1
  have P2 := fun w1 (hb : Below w.heap.size w w1) => rpval p' land' now' A' n' c' ms' w1 (hin'.below hb)
  rw [hv'] at P2
  have P2 := Lib.hid P2
  have h1 : (p != p') = true := by simpa using h
  clear hv hin hin' hv' h
  go_enter Try.func30, Try.ntmps30
  go_wp2_with (first | (go_at_call 21; with_reducible refine (P1.out _ (by (repeat (first | exact Below.refl _ _ | refine Below.setCell ?_ (by first | (simp; done) | (simp; omega) | omega) _ | refine Below.alloc ?_ (by first | (simp; done) | (simp; omega) | omega) _ | refine Below.drew ?_ | refine Below.trans ?_ (Below.mono (by assumption) (by first | (simp; done) | (simp; omega) | omega)))))).mono ?_; rintro e w1 ⟨rfl, hb1⟩; have hz1 := hb1.size; (try simp at hz1); have o1 : Below w.heap.size w w1 := (by (repeat (first | exact Below.refl _ _ | refine Below.setCell ?_ (by first | (simp; done) | (simp; omega) | omega) _ | refine Below.alloc ?_ (by first | (simp; done) | (simp; omega) | omega) _ | refine Below.drew ?_ | refine Below.trans ?_ (Below.mono (by assumption) (by first | (simp; done) | (simp; omega) | omega))))); have q1_0 : w.heap.size < w1.heap.size := (by omega); have r1_0 : Row w1 (w.heap.size) 24 #[.int .i64 p, .int .i64 land, .int .i64 now, .slice A n c] := row_call (by (repeat (first | assumption | (refine row_new ?_; (first | (simp; done) | omega)) | refine row_alloc ?_ _ | refine row_drew ?_ | refine row_call ?_ (by assumption)))) hb1; obtain ⟨c1_0a, c1_0b, c1_0c, c1_0d, f1_0a, f1_0b, f1_0c, f1_0d⟩ := row_four r1_0; have q1_1 : w.heap.size + 1 < w1.heap.size := (by omega); have r1_1 : Row w1 (w.heap.size + 1) 24 #[.int .i64 p', .int .i64 land', .int .i64 now', .slice A' n' c'] := row_call (by (repeat (first | assumption | (refine row_new ?_; (first | (simp; done) | omega)) | refine row_alloc ?_ _ | refine row_drew ?_ | refine row_call ?_ (by assumption)))) hb1; obtain ⟨c1_1a, c1_1b, c1_1c, c1_1d, f1_1a, f1_1b, f1_1c, f1_1d⟩ := row_four r1_1; have q1_2 : w.heap.size + 1 + 1 < w1.heap.size := (by omega); have r1_2 : Row w1 (w.heap.size + 1 + 1) 24 #[.int .i64 0, .int .i64 0, .int .i64 0, .slice none 0 0] := row_call (by (repeat (first | assumption | (refine row_new ?_; (first | (simp; done) | omega)) | refine row_alloc ?_ _ | refine row_drew ?_ | refine row_call ?_ (by assumption)))) hb1; obtain ⟨c1_2a, c1_2b, c1_2c, c1_2d, f1_2a, f1_2b, f1_2c, f1_2d⟩ := row_four r1_2) | (go_at_call 21; with_reducible refine (P2.out _ (by (repeat (first | exact Below.refl _ _ | refine Below.setCell ?_ (by first | (simp; done) | (simp; omega) | omega) _ | refine Below.alloc ?_ (by first | (simp; done) | (simp; omega) | omega) _ | refine Below.drew ?_ | refine Below.trans ?_ (Below.mono (by assumption) (by first | (simp; done) | (simp; omega) | omega)))))).mono ?_; rintro e w2 ⟨rfl, hb2⟩; have hz2 := hb2.size; (try simp at hz2); have o2 : Below w.heap.size w w2 := (by (repeat (first | exact Below.refl _ _ | refine Below.setCell ?_ (by first | (simp; done) | (simp; omega) | omega) _ | refine Below.alloc ?_ (by first | (simp; done) | (simp; omega) | omega) _ | refine Below.drew ?_ | refine Below.trans ?_ (Below.mono (by assumption) (by first | (simp; done) | (simp; omega) | omega))))); have q2_0 : w.heap.size < w2.heap.size := (by omega); have r2_0 : Row w2 (w.heap.size) 24 #[.int .i64 p, .int .i64 land, .int .i64 now, .slice A n c] := row_call (by (repeat (first | assumption | (refine row_new ?_; (first | (simp; done) | omega)) | refine row_alloc ?_ _ | refine row_drew ?_ | refine row_call ?_ (by assumption)))) hb2; obtain ⟨c2_0a, c2_0b, c2_0c, c2_0d, f2_0a, f2_0b, f2_0c, f2_0d⟩ := row_four r2_0; have q2_1 : w.heap.size + 1 < w2.heap.size := (by omega); have r2_1 : Row w2 (w.heap.size + 1) 24 #[.int .i64 p', .int .i64 land', .int .i64 now', .slice A' n' c'] := row_call (by (repeat (first | assumption | (refine row_new ?_; (first | (simp; done) | omega)) | refine row_alloc ?_ _ | refine row_drew ?_ | refine row_call ?_ (by assumption)))) hb2; obtain ⟨c2_1a, c2_1b, c2_1c, c2_1d, f2_1a, f2_1b, f2_1c, f2_1d⟩ := row_four r2_1; have q2_2 : w.heap.size + 1 + 1 < w2.heap.size := (by omega); have r2_2 : Row w2 (w.heap.size + 1 + 1) 24 #[.int .i64 0, .int .i64 0, .int .i64 0, .slice none 0 0] := row_call (by (repeat (first | assumption | (refine row_new ?_; (first | (simp; done) | omega)) | refine row_alloc ?_ _ | refine row_drew ?_ | refine row_call ?_ (by assumption)))) hb2; obtain ⟨c2_2a, c2_2b, c2_2c, c2_2d, f2_2a, f2_2b, f2_2c, f2_2d⟩ := row_four r2_2))
  exact bodyPost_ret (v := .tuple #[.agg #[.int .i64 0, .int .i64 0, .int .i64 0, .slice none 0 0], .int .i64 1]) (by simp [results, Try.results30, go_sem, c2_2a, c2_2b, c2_2c, c2_2d]) rfl (pret_zero (by (repeat (first | exact Below.refl _ _ | refine Below.setCell ?_ (by first | (simp; done) | (simp; omega) | omega) _ | refine Below.alloc ?_ (by first | (simp; done) | (simp; omega) | omega) _ | refine Below.drew ?_ | refine Below.trans ?_ (Below.mono (by assumption) (by first | (simp; done) | (simp; omega) | omega))))))
theorem rpmer_now (p land now : Int) (A : Option Addr) (n c : Nat) (ms : List Nat) (land' now' : Int) (A' : Option Addr) (n' c' : Nat) (ms' : List Nat) (w : World) (hin : PIn p land now A n c ms w) (hin' : PIn p land' now' A' n' c' ms' w) (hv : pvalE p land now ms = 0) (hv' : pvalE p land' now' ms' = 0) (h : now ≠ now') : Calls Try.prog 30 #[.agg #[.int .i64 p, .int .i64 land, .int .i64 now, .slice A n c], .agg #[.int .i64 p, .int .i64 land', .int .i64 now', .slice A' n' c']] w fun e w' => PRet (qmer p land now ms p land' now' ms') w e w' := by
  rw [qmer_arg hv hv' (.inr h)]
  have P1 := fun w1 (hb : Below w.heap.size w w1) => rpval p land now A n c ms w1 (hin.below hb)
  rw [hv] at P1
  have P1 := Lib.hid P1
  have P2 := fun w1 (hb : Below w.heap.size w w1) => rpval p land' now' A' n' c' ms' w1 (hin'.below hb)
  rw [hv'] at P2
  have P2 := Lib.hid P2
  have h0 : (p != p) = false := by simp
  have h1 : (now != now') = true := by simpa using h
  clear hv hv' hin hin' h
  go_enter Try.func30, Try.ntmps30
  go_wp2_with (first | (go_at_call 21; with_reducible refine (P1.out _ (by (repeat (first | exact Below.refl _ _ | refine Below.setCell ?_ (by first | (simp; done) | (simp; omega) | omega) _ | refine Below.alloc ?_ (by first | (simp; done) | (simp; omega) | omega) _ | refine Below.drew ?_ | refine Below.trans ?_ (Below.mono (by assumption) (by first | (simp; done) | (simp; omega) | omega)))))).mono ?_; rintro e w1 ⟨rfl, hb1⟩; have hz1 := hb1.size; (try simp at hz1); have o1 : Below w.heap.size w w1 := (by (repeat (first | exact Below.refl _ _ | refine Below.setCell ?_ (by first | (simp; done) | (simp; omega) | omega) _ | refine Below.alloc ?_ (by first | (simp; done) | (simp; omega) | omega) _ | refine Below.drew ?_ | refine Below.trans ?_ (Below.mono (by assumption) (by first | (simp; done) | (simp; omega) | omega))))); have q1_0 : w.heap.size < w1.heap.size := (by omega); have r1_0 : Row w1 (w.heap.size) 24 #[.int .i64 p, .int .i64 land, .int .i64 now, .slice A n c] := row_call (by (repeat (first | assumption | (refine row_new ?_; (first | (simp; done) | omega)) | refine row_alloc ?_ _ | refine row_drew ?_ | refine row_call ?_ (by assumption)))) hb1; obtain ⟨c1_0a, c1_0b, c1_0c, c1_0d, f1_0a, f1_0b, f1_0c, f1_0d⟩ := row_four r1_0; have q1_1 : w.heap.size + 1 < w1.heap.size := (by omega); have r1_1 : Row w1 (w.heap.size + 1) 24 #[.int .i64 p, .int .i64 land', .int .i64 now', .slice A' n' c'] := row_call (by (repeat (first | assumption | (refine row_new ?_; (first | (simp; done) | omega)) | refine row_alloc ?_ _ | refine row_drew ?_ | refine row_call ?_ (by assumption)))) hb1; obtain ⟨c1_1a, c1_1b, c1_1c, c1_1d, f1_1a, f1_1b, f1_1c, f1_1d⟩ := row_four r1_1; have q1_2 : w.heap.size + 1 + 1 < w1.heap.size := (by omega); have r1_2 : Row w1 (w.heap.size + 1 + 1) 24 #[.int .i64 0, .int .i64 0, .int .i64 0, .slice none 0 0] := row_call (by (repeat (first | assumption | (refine row_new ?_; (first | (simp; done) | omega)) | refine row_alloc ?_ _ | refine row_drew ?_ | refine row_call ?_ (by assumption)))) hb1; obtain ⟨c1_2a, c1_2b, c1_2c, c1_2d, f1_2a, f1_2b, f1_2c, f1_2d⟩ := row_four r1_2) | (go_at_call 21; with_reducible refine (P2.out _ (by (repeat (first | exact Below.refl _ _ | refine Below.setCell ?_ (by first | (simp; done) | (simp; omega) | omega) _ | refine Below.alloc ?_ (by first | (simp; done) | (simp; omega) | omega) _ | refine Below.drew ?_ | refine Below.trans ?_ (Below.mono (by assumption) (by first | (simp; done) | (simp; omega) | omega)))))).mono ?_; rintro e w2 ⟨rfl, hb2⟩; have hz2 := hb2.size; (try simp at hz2); have o2 : Below w.heap.size w w2 := (by (repeat (first | exact Below.refl _ _ | refine Below.setCell ?_ (by first | (simp; done) | (simp; omega) | omega) _ | refine Below.alloc ?_ (by first | (simp; done) | (simp; omega) | omega) _ | refine Below.drew ?_ | refine Below.trans ?_ (Below.mono (by assumption) (by first | (simp; done) | (simp; omega) | omega))))); have q2_0 : w.heap.size < w2.heap.size := (by omega); have r2_0 : Row w2 (w.heap.size) 24 #[.int .i64 p, .int .i64 land, .int .i64 now, .slice A n c] := row_call (by (repeat (first | assumption | (refine row_new ?_; (first | (simp; done) | omega)) | refine row_alloc ?_ _ | refine row_drew ?_ | refine row_call ?_ (by assumption)))) hb2; obtain ⟨c2_0a, c2_0b, c2_0c, c2_0d, f2_0a, f2_0b, f2_0c, f2_0d⟩ := row_four r2_0; have q2_1 : w.heap.size + 1 < w2.heap.size := (by omega); have r2_1 : Row w2 (w.heap.size + 1) 24 #[.int .i64 p, .int .i64 land', .int .i64 now', .slice A' n' c'] := row_call (by (repeat (first | assumption | (refine row_new ?_; (first | (simp; done) | omega)) | refine row_alloc ?_ _ | refine row_drew ?_ | refine row_call ?_ (by assumption)))) hb2; obtain ⟨c2_1a, c2_1b, c2_1c, c2_1d, f2_1a, f2_1b, f2_1c, f2_1d⟩ := row_four r2_1; have q2_2 : w.heap.size + 1 + 1 < w2.heap.size := (by omega); have r2_2 : Row w2 (w.heap.size + 1 + 1) 24 #[.int .i64 0, .int .i64 0, .int .i64 0, .slice none 0 0] := row_call (by (repeat (first | assumption | (refine row_new ?_; (first | (simp; done) | omega)) | refine row_alloc ?_ _ | refine row_drew ?_ | refine row_call ?_ (by assumption)))) hb2; obtain ⟨c2_2a, c2_2b, c2_2c, c2_2d, f2_2a, f2_2b, f2_2c, f2_2d⟩ := row_four r2_2))
  exact bodyPost_ret (v := .tuple #[.agg #[.int .i64 0, .int .i64 0, .int .i64 0, .slice none 0 0], .int .i64 1]) (by simp [results, Try.results30, go_sem, c2_2a, c2_2b, c2_2c, c2_2d]) rfl (pret_zero (by (repeat (first | exact Below.refl _ _ | refine Below.setCell ?_ (by first | (simp; done) | (simp; omega) | omega) _ | refine Below.alloc ?_ (by first | (simp; done) | (simp; omega) | omega) _ | refine Below.drew ?_ | refine Below.trans ?_ (Below.mono (by assumption) (by first | (simp; done) | (simp; omega) | omega))))))
set_option maxHeartbeats 8000000 in
set_option maxRecDepth 100000 in
theorem rpmer_tt (p land now : Int) (A : Option Addr) (n c : Nat) (ms : List Nat) (land' : Int) (A' : Option Addr) (n' c' : Nat) (ms' : List Nat) (w : World) (hin : PIn p land now A n c ms w) (hin' : PIn p land' now A' n' c' ms' w) (hv : pvalE p land now ms = 0) (hv' : pvalE p land' now ms' = 0) (hf1 : fitB (rebM (land - min land land').toNat ms) ms.length = true) (hf2 : fitB (rebM (land' - min land land').toNat ms') ms'.length = true) : Calls Try.prog 30 #[.agg #[.int .i64 p, .int .i64 land, .int .i64 now, .slice A n c], .agg #[.int .i64 p, .int .i64 land', .int .i64 now, .slice A' n' c']] w fun e w' => PRet (qmer p land now ms p land' now ms') w e w' := by
  have P1 := fun w1 (hb : Below w.heap.size w w1) => rpval p land now A n c ms w1 (hin.below hb)
  rw [hv] at P1
  have P1 := Lib.hid P1
  have P2 := fun w1 (hb : Below w.heap.size w w1) => rpval p land' now A' n' c' ms' w1 (hin'.below hb)
  rw [hv'] at P2
  have P2 := Lib.hid P2
  obtain ⟨v1, v2, v3, v4, v5, v6, v7, _⟩ := of_pvalE hv
  obtain ⟨_, _, _, _, u5, u6, u7, _⟩ := of_pvalE hv'
  have hl := hin.len
  have hl' := hin'.len
  obtain rfl : n' = n := by omega
  have hn5 : n' ≤ 5 := by omega
  have QO := fun h3 => qmer_ok hv hv' hf1 hf2 h3
  have QN := fun h3 => qmer_over hv hv' (.inr (.inr h3))
  have PB1 := fun w1 (hb : Below w.heap.size w w1) => rpreb p land now A n' c ms (min land land') w1 (hin.below hb)
  have PB2 := fun w1 (hb : Below w.heap.size w w1) => rpreb p land' now A' n' c' ms' (min land land') w1 (hin'.below hb)
  rw [qreb_ok hv (by omega) (by omega) hf1] at PB1
  rw [qreb_ok hv' (by omega) (by omega) hf2] at PB2
  rw [hl] at PB1 QO QN hf1
  rw [hl'] at PB2 QO QN hf2
  have BX := Lib.hid (upto_big (fun e he => of_fitB hf1 he))
  have BY := Lib.hid (upto_big (fun e he => of_fitB hf2 he))
  have LX := Lib.hid (upto_len (rebM (land - min land land').toNat ms) n')
  have LY := Lib.hid (upto_len (rebM (land' - min land land').toNat ms') n')
  obtain ⟨lm, hlm⟩ : ∃ q, min land land' = q := ⟨_, rfl⟩
  have l0 : 0 ≤ lm := by omega
  have l1 : lm ≤ 16777216 := by omega
  rw [hlm] at PB1 PB2 QO QN BX BY LX LY
  generalize upto (rebM (land - lm).toNat ms) n' = xs at PB1 QO QN BX LX
  generalize upto (rebM (land' - lm).toNat ms') n' = ys at PB2 QO QN BY LY
  have QO := Lib.hid QO
  have QN := Lib.hid QN
  have kk : (p != p) = false := by simp
  have kk2 : (now != now) = false := by simp
  have HMI : RowKit.Hid ((if land' < land then land' else land) = lm) := Lib.hid (by rw [min_if]; exact hlm)
  have PB1 := Lib.hid PB1
  have PB2 := Lib.hid PB2
  obtain ⟨i0, hi0, iz0, iz1, iz2⟩ := info_parts info_wide
  clear hv hv' hin hin' hl hl' hf1 hf2 hlm
  go_enter Try.func30, Try.ntmps30
  go_upto_region 9 with (first | (go_at_call 21; with_reducible refine (P1.out _ (by (repeat (first | exact Below.refl _ _ | refine Below.setCell ?_ (by first | (simp; done) | (simp; omega) | omega) _ | refine Below.alloc ?_ (by first | (simp; done) | (simp; omega) | omega) _ | refine Below.drew ?_ | refine Below.trans ?_ (Below.mono (by assumption) (by first | (simp; done) | (simp; omega) | omega)))))).mono ?_; rintro e w1 ⟨rfl, hb1⟩; have hz1 := hb1.size; (try simp at hz1); have o1 : Below w.heap.size w w1 := (by (repeat (first | exact Below.refl _ _ | refine Below.setCell ?_ (by first | (simp; done) | (simp; omega) | omega) _ | refine Below.alloc ?_ (by first | (simp; done) | (simp; omega) | omega) _ | refine Below.drew ?_ | refine Below.trans ?_ (Below.mono (by assumption) (by first | (simp; done) | (simp; omega) | omega))))); have q1_0 : w.heap.size < w1.heap.size := (by omega); have r1_0 : Row w1 (w.heap.size) 24 #[.int .i64 p, .int .i64 land, .int .i64 now, .slice A n' c] := row_call (by (repeat (first | assumption | (refine row_new ?_; (first | (simp; done) | omega)) | refine row_alloc ?_ _ | refine row_drew ?_ | refine row_call ?_ (by assumption)))) hb1; obtain ⟨c1_0a, c1_0b, c1_0c, c1_0d, f1_0a, f1_0b, f1_0c, f1_0d⟩ := row_four r1_0; have q1_1 : w.heap.size + 1 < w1.heap.size := (by omega); have r1_1 : Row w1 (w.heap.size + 1) 24 #[.int .i64 p, .int .i64 land', .int .i64 now, .slice A' n' c'] := row_call (by (repeat (first | assumption | (refine row_new ?_; (first | (simp; done) | omega)) | refine row_alloc ?_ _ | refine row_drew ?_ | refine row_call ?_ (by assumption)))) hb1; obtain ⟨c1_1a, c1_1b, c1_1c, c1_1d, f1_1a, f1_1b, f1_1c, f1_1d⟩ := row_four r1_1; have q1_2 : w.heap.size + 1 + 1 < w1.heap.size := (by omega); have r1_2 : Row w1 (w.heap.size + 1 + 1) 24 #[.int .i64 0, .int .i64 0, .int .i64 0, .slice none 0 0] := row_call (by (repeat (first | assumption | (refine row_new ?_; (first | (simp; done) | omega)) | refine row_alloc ?_ _ | refine row_drew ?_ | refine row_call ?_ (by assumption)))) hb1; obtain ⟨c1_2a, c1_2b, c1_2c, c1_2d, f1_2a, f1_2b, f1_2c, f1_2d⟩ := row_four r1_2) | (go_at_call 21; with_reducible refine (P2.out _ (by (repeat (first | exact Below.refl _ _ | refine Below.setCell ?_ (by first | (simp; done) | (simp; omega) | omega) _ | refine Below.alloc ?_ (by first | (simp; done) | (simp; omega) | omega) _ | refine Below.drew ?_ | refine Below.trans ?_ (Below.mono (by assumption) (by first | (simp; done) | (simp; omega) | omega)))))).mono ?_; rintro e w2 ⟨rfl, hb2⟩; have hz2 := hb2.size; (try simp at hz2); have o2 : Below w.heap.size w w2 := (by (repeat (first | exact Below.refl _ _ | refine Below.setCell ?_ (by first | (simp; done) | (simp; omega) | omega) _ | refine Below.alloc ?_ (by first | (simp; done) | (simp; omega) | omega) _ | refine Below.drew ?_ | refine Below.trans ?_ (Below.mono (by assumption) (by first | (simp; done) | (simp; omega) | omega))))); have q2_0 : w.heap.size < w2.heap.size := (by omega); have r2_0 : Row w2 (w.heap.size) 24 #[.int .i64 p, .int .i64 land, .int .i64 now, .slice A n' c] := row_call (by (repeat (first | assumption | (refine row_new ?_; (first | (simp; done) | omega)) | refine row_alloc ?_ _ | refine row_drew ?_ | refine row_call ?_ (by assumption)))) hb2; obtain ⟨c2_0a, c2_0b, c2_0c, c2_0d, f2_0a, f2_0b, f2_0c, f2_0d⟩ := row_four r2_0; have q2_1 : w.heap.size + 1 < w2.heap.size := (by omega); have r2_1 : Row w2 (w.heap.size + 1) 24 #[.int .i64 p, .int .i64 land', .int .i64 now, .slice A' n' c'] := row_call (by (repeat (first | assumption | (refine row_new ?_; (first | (simp; done) | omega)) | refine row_alloc ?_ _ | refine row_drew ?_ | refine row_call ?_ (by assumption)))) hb2; obtain ⟨c2_1a, c2_1b, c2_1c, c2_1d, f2_1a, f2_1b, f2_1c, f2_1d⟩ := row_four r2_1; have q2_2 : w.heap.size + 1 + 1 < w2.heap.size := (by omega); have r2_2 : Row w2 (w.heap.size + 1 + 1) 24 #[.int .i64 0, .int .i64 0, .int .i64 0, .slice none 0 0] := row_call (by (repeat (first | assumption | (refine row_new ?_; (first | (simp; done) | omega)) | refine row_alloc ?_ _ | refine row_drew ?_ | refine row_call ?_ (by assumption)))) hb2; obtain ⟨c2_2a, c2_2b, c2_2c, c2_2d, f2_2a, f2_2b, f2_2c, f2_2d⟩ := row_four r2_2))
  have x := r2_0
  have y := r2_1
  have r := r2_2
  have o := o2
  clear r2_0 r2_1 r2_2 o2 hb2 hb1 o1 r1_0 r1_1 r1_2 P1 P2 c1_0a f1_0a c1_0b f1_0b c1_0c f1_0c c1_0d f1_0d c1_1a f1_1a c1_1b f1_1b c1_1c f1_1c c1_1d f1_1d c1_2a f1_2a c1_2b f1_2b c1_2c f1_2c c1_2d f1_2d c2_0a f2_0a c2_0b f2_0b c2_0c f2_0c c2_0d f2_0d c2_1a f2_1a c2_1b f2_1b c2_1c f2_1c c2_1d f2_1d c2_2a f2_2a c2_2b f2_2b c2_2c f2_2c c2_2d f2_2d
  obtain ⟨X0, X1, X2, X3, Xf0, Xf1, Xf2, Xf3⟩ := row_four x
  obtain ⟨Y0, Y1, Y2, Y3, Yf0, Yf1, Yf2, Yf3⟩ := row_four y
  go_upto_region 10 with (fail)
  rw [HMI.out]
  clear X0 X1 X2 X3 Xf0 Xf1 Xf2 Xf3 Y0 Y1 Y2 Y3 Yf0 Yf1 Yf2 Yf3
  obtain ⟨X0, X1, X2, X3, Xf0, Xf1, Xf2, Xf3⟩ := row_four x
  go_wp2_with fail
  refine (PB1.out _ (by exact o)).mono ?_
  intro e w1 hq
  obtain ⟨A1, m1, d1, rfl, i1, hb1, f1⟩ := pret_at rfl hq
  clear hq
  obtain rfl : n' = m1 := by have := i1.len; rw [LX.out] at this; omega
  replace x := row_call x hb1
  replace y := row_call y hb1
  replace r := row_call r hb1
  replace o := o.trans (hb1.mono o.size)
  clear hb1 X0 X1 X2 X3 Xf0 Xf1 Xf2 Xf3
  obtain ⟨X0, X1, X2, X3, Xf0, Xf1, Xf2, Xf3⟩ := row_four x
  obtain ⟨Y0, Y1, Y2, Y3, Yf0, Yf1, Yf2, Yf3⟩ := row_four y
  have zk1 : w.heap.size + 1 + 1 < w1.heap.size := row_lt r
  go_upto_region 11 with (fail)
  replace x := row_alloc x (.cells #[.int .i64 p, .int .i64 lm, .int .i64 now, .slice A1 n' d1] 24)
  replace y := row_alloc y (.cells #[.int .i64 p, .int .i64 lm, .int .i64 now, .slice A1 n' d1] 24)
  replace r := row_alloc r (.cells #[.int .i64 p, .int .i64 lm, .int .i64 now, .slice A1 n' d1] 24)
  replace o := o.alloc o.size (.cells #[.int .i64 p, .int .i64 lm, .int .i64 now, .slice A1 n' d1] 24)
  replace i1 := i1.below ((Below.refl _ _).alloc (Nat.le_refl _) (.cells #[.int .i64 p, .int .i64 lm, .int .i64 now, .slice A1 n' d1] 24))
  have k1 : Row (w1.alloc (.cells #[.int .i64 p, .int .i64 lm, .int .i64 now, .slice A1 n' d1] 24)) w1.heap.size 24 #[.int .i64 p, .int .i64 lm, .int .i64 now, .slice A1 n' d1] := row_new rfl
  generalize w1.alloc (.cells #[.int .i64 p, .int .i64 lm, .int .i64 now, .slice A1 n' d1] 24) = v1 at x y r o i1 k1 ⊢
  generalize w1.heap.size = b1 at k1 zk1 f1 ⊢
  clear X0 X1 X2 X3 Xf0 Xf1 Xf2 Xf3 Y0 Y1 Y2 Y3 Yf0 Yf1 Yf2 Yf3
  obtain ⟨X0, X1, X2, X3, Xf0, Xf1, Xf2, Xf3⟩ := row_four x
  obtain ⟨Y0, Y1, Y2, Y3, Yf0, Yf1, Yf2, Yf3⟩ := row_four y
  have zv1 := row_lt k1
  go_wp2_with fail
  refine (PB2.out _ (by exact o)).mono ?_
  intro e w2 hq
  obtain ⟨A2, m2, d2, rfl, i2, hb2, f2⟩ := pret_at rfl hq
  clear hq
  obtain rfl : n' = m2 := by have := i2.len; rw [LY.out] at this; omega
  replace x := row_call x hb2
  replace y := row_call y hb2
  replace r := row_call r hb2
  replace o := o.trans (hb2.mono o.size)
  replace i1 := i1.below hb2
  replace k1 := row_call k1 hb2
  clear hb2 X0 X1 X2 X3 Xf0 Xf1 Xf2 Xf3 Y0 Y1 Y2 Y3 Yf0 Yf1 Yf2 Yf3
  obtain ⟨X0, X1, X2, X3, Xf0, Xf1, Xf2, Xf3⟩ := row_four x
  obtain ⟨Y0, Y1, Y2, Y3, Yf0, Yf1, Yf2, Yf3⟩ := row_four y
  have zk2 : w.heap.size + 1 + 1 < w2.heap.size := row_lt r
  have zkk : b1 < w2.heap.size := row_lt k1
  go_upto_region 12 with (fail)
  replace x := row_alloc x (.cells #[.int .i64 p, .int .i64 lm, .int .i64 now, .slice A2 n' d2] 24)
  replace y := row_alloc y (.cells #[.int .i64 p, .int .i64 lm, .int .i64 now, .slice A2 n' d2] 24)
  replace r := row_alloc r (.cells #[.int .i64 p, .int .i64 lm, .int .i64 now, .slice A2 n' d2] 24)
  replace o := o.alloc o.size (.cells #[.int .i64 p, .int .i64 lm, .int .i64 now, .slice A2 n' d2] 24)
  replace i1 := i1.below ((Below.refl _ _).alloc (Nat.le_refl _) (.cells #[.int .i64 p, .int .i64 lm, .int .i64 now, .slice A2 n' d2] 24))
  replace k1 := row_alloc k1 (.cells #[.int .i64 p, .int .i64 lm, .int .i64 now, .slice A2 n' d2] 24)
  replace i2 := i2.below ((Below.refl _ _).alloc (Nat.le_refl _) (.cells #[.int .i64 p, .int .i64 lm, .int .i64 now, .slice A2 n' d2] 24))
  have k2 : Row (w2.alloc (.cells #[.int .i64 p, .int .i64 lm, .int .i64 now, .slice A2 n' d2] 24)) w2.heap.size 24 #[.int .i64 p, .int .i64 lm, .int .i64 now, .slice A2 n' d2] := row_new rfl
  generalize w2.alloc (.cells #[.int .i64 p, .int .i64 lm, .int .i64 now, .slice A2 n' d2] 24) = v2 at x y r o i1 k1 i2 k2 ⊢
  generalize w2.heap.size = b2 at k2 zk2 zkk f2 ⊢
  clear X0 X1 X2 X3 Xf0 Xf1 Xf2 Xf3 Y0 Y1 Y2 Y3 Yf0 Yf1 Yf2 Yf3
  obtain ⟨K0, K1, K2, K3, Kf0, Kf1, Kf2, Kf3⟩ := row_four k1
  obtain ⟨L0, L1, L2, L3, Lf0, Lf1, Lf2, Lf3⟩ := row_four k2
  obtain ⟨R0, R1, R2, R3, Rf0, Rf1, Rf2, Rf3⟩ := row_four r
  rcases fitB_two (sumT xs ys) n' with hs | hs
  · have E := Lib.hid (QO.out hs)
    have PP := Lib.hid (rplus_ok A1 n' d1 xs A2 d2 ys _ i1.reads i2.reads BX.out BY.out (by omega) hs)
    have HS := Lib.hid hs
    clear hs x y
    go_wp2_with (go_at_call 44; refine PP.out.mono ?_; rintro e w3 ⟨v3, rfl, own3, hb3⟩; obtain ⟨A3, c3, rfl, rd3, nc3, cm3, fr3⟩ := orow_forms own3; have k3 := row_call k1 hb3; have r3 := row_call r hb3; have o3 := o.trans (hb3.mono o.size); obtain ⟨U0, U1, U2, U3, Uf0, Uf1, Uf2, Uf3⟩ := row_four k3; obtain ⟨S0, S1, S2, S3, Sf0, Sf1, Sf2, Sf3⟩ := row_four r3)
    have zr := row_lt r
    have zk := row_lt k1
    have pi : PIn p lm now A3 n' c3 (upto (sumT xs ys) n') w3 := ⟨rd3, by omega, by omega, by omega, upto_big (fun e he => of_fitB HS.out he), nc3, cm3⟩
    have pi := (pi.other (q := ⟨b1, 3, none⟩) (fun a e => by have := fr3 a e; show a.block ≠ b1; omega) (.slice A3 n' c3)).row (b := w.heap.size + 1 + 1) (fun a e => by have := fr3 a e; omega) (.int .i64 p) (.int .i64 lm) (.int .i64 now) (.slice A3 n' c3)
    have zo := o.size
    have ob := below_four (b := w.heap.size + 1 + 1) (o3.setCell (p := ⟨b1, 3, none⟩) (by show w.heap.size ≤ b1; omega) (.slice A3 n' c3)) (by omega) (.int .i64 p) (.int .i64 lm) (.int .i64 now) (.slice A3 n' c3)
    exact bodyPost_ret (v := .tuple #[.agg #[.int .i64 p, .int .i64 lm, .int .i64 now, .slice A3 n' c3], .int .i64 0]) (by simp [results, Try.results30, go_sem, S0, S1, S2, S3]) rfl (by rw [E.out]; exact ⟨A3, n', c3, rfl, pi, ob, fun a e => by have := fr3 a e; exact ⟨by omega, by simp; omega⟩⟩)
  · have E := Lib.hid (QN.out hs)
    have PP := Lib.hid (rplus_no A1 n' d1 xs A2 d2 ys _ i1.reads i2.reads BX.out BY.out (by omega) hs)
    clear hs x y
    go_wp2_with (go_at_call 44; refine PP.out.mono ?_; rintro e w3 ⟨rfl, hb3⟩; have k3 := row_call k1 hb3; have r3 := row_call r hb3; have o3 := o.trans (hb3.mono o.size); obtain ⟨U0, U1, U2, U3, Uf0, Uf1, Uf2, Uf3⟩ := row_four k3; obtain ⟨S0, S1, S2, S3, Sf0, Sf1, Sf2, Sf3⟩ := row_four r3)
    exact bodyPost_ret (v := .tuple #[.agg #[.int .i64 0, .int .i64 0, .int .i64 0, .slice none 0 0], .int .i64 6]) (by simp [results, Try.results30, go_sem, S0, S1, S2, S3]) rfl (by rw [E.out]; exact pret_zero (by (repeat (first | exact Below.refl _ _ | refine Below.setCell ?_ (by first | (simp; done) | (simp; omega) | omega) _ | refine Below.alloc ?_ (by first | (simp; done) | (simp; omega) | omega) _ | refine Below.drew ?_ | refine Below.trans ?_ (Below.mono (by assumption) (by first | (simp; done) | (simp; omega) | omega))))))
set_option maxHeartbeats 8000000 in
set_option maxRecDepth 100000 in
theorem rpmer_tf (p land now : Int) (A : Option Addr) (n c : Nat) (ms : List Nat) (land' : Int) (A' : Option Addr) (n' c' : Nat) (ms' : List Nat) (w : World) (hin : PIn p land now A n c ms w) (hin' : PIn p land' now A' n' c' ms' w) (hv : pvalE p land now ms = 0) (hv' : pvalE p land' now ms' = 0) (hf1 : fitB (rebM (land - min land land').toNat ms) ms.length = true) (hf2 : fitB (rebM (land' - min land land').toNat ms') ms'.length = false) : Calls Try.prog 30 #[.agg #[.int .i64 p, .int .i64 land, .int .i64 now, .slice A n c], .agg #[.int .i64 p, .int .i64 land', .int .i64 now, .slice A' n' c']] w fun e w' => PRet (qmer p land now ms p land' now ms') w e w' := by
  have P1 := fun w1 (hb : Below w.heap.size w w1) => rpval p land now A n c ms w1 (hin.below hb)
  rw [hv] at P1
  have P1 := Lib.hid P1
  have P2 := fun w1 (hb : Below w.heap.size w w1) => rpval p land' now A' n' c' ms' w1 (hin'.below hb)
  rw [hv'] at P2
  have P2 := Lib.hid P2
  obtain ⟨v1, v2, v3, v4, v5, v6, v7, _⟩ := of_pvalE hv
  obtain ⟨_, _, _, _, u5, u6, u7, _⟩ := of_pvalE hv'
  have hl := hin.len
  have hl' := hin'.len
  obtain rfl : n' = n := by omega
  have hn5 : n' ≤ 5 := by omega
  rw [qmer_over hv hv' (.inr (.inl hf2))]
  have PB1 := fun w1 (hb : Below w.heap.size w w1) => rpreb p land now A n' c ms (min land land') w1 (hin.below hb)
  have PB2 := fun w1 (hb : Below w.heap.size w w1) => rpreb p land' now A' n' c' ms' (min land land') w1 (hin'.below hb)
  rw [qreb_ok hv (by omega) (by omega) hf1] at PB1
  rw [qreb_over hv' (by omega) (by omega) hf2] at PB2
  obtain ⟨lm, hlm⟩ : ∃ q, min land land' = q := ⟨_, rfl⟩
  have l0 : 0 ≤ lm := by omega
  have l1 : lm ≤ 16777216 := by omega
  rw [hlm] at PB1 PB2
  generalize upto (rebM (land - lm).toNat ms) ms.length = xs at PB1
  have kk : (p != p) = false := by simp
  have kk2 : (now != now) = false := by simp
  have HMI : RowKit.Hid ((if land' < land then land' else land) = lm) := Lib.hid (by rw [min_if]; exact hlm)
  have PB1 := Lib.hid PB1
  have PB2 := Lib.hid PB2
  clear hv hv' hin hin' hl hl' hf1 hf2 hlm
  go_enter Try.func30, Try.ntmps30
  go_upto_region 9 with (first | (go_at_call 21; with_reducible refine (P1.out _ (by (repeat (first | exact Below.refl _ _ | refine Below.setCell ?_ (by first | (simp; done) | (simp; omega) | omega) _ | refine Below.alloc ?_ (by first | (simp; done) | (simp; omega) | omega) _ | refine Below.drew ?_ | refine Below.trans ?_ (Below.mono (by assumption) (by first | (simp; done) | (simp; omega) | omega)))))).mono ?_; rintro e w1 ⟨rfl, hb1⟩; have hz1 := hb1.size; (try simp at hz1); have o1 : Below w.heap.size w w1 := (by (repeat (first | exact Below.refl _ _ | refine Below.setCell ?_ (by first | (simp; done) | (simp; omega) | omega) _ | refine Below.alloc ?_ (by first | (simp; done) | (simp; omega) | omega) _ | refine Below.drew ?_ | refine Below.trans ?_ (Below.mono (by assumption) (by first | (simp; done) | (simp; omega) | omega))))); have q1_0 : w.heap.size < w1.heap.size := (by omega); have r1_0 : Row w1 (w.heap.size) 24 #[.int .i64 p, .int .i64 land, .int .i64 now, .slice A n' c] := row_call (by (repeat (first | assumption | (refine row_new ?_; (first | (simp; done) | omega)) | refine row_alloc ?_ _ | refine row_drew ?_ | refine row_call ?_ (by assumption)))) hb1; obtain ⟨c1_0a, c1_0b, c1_0c, c1_0d, f1_0a, f1_0b, f1_0c, f1_0d⟩ := row_four r1_0; have q1_1 : w.heap.size + 1 < w1.heap.size := (by omega); have r1_1 : Row w1 (w.heap.size + 1) 24 #[.int .i64 p, .int .i64 land', .int .i64 now, .slice A' n' c'] := row_call (by (repeat (first | assumption | (refine row_new ?_; (first | (simp; done) | omega)) | refine row_alloc ?_ _ | refine row_drew ?_ | refine row_call ?_ (by assumption)))) hb1; obtain ⟨c1_1a, c1_1b, c1_1c, c1_1d, f1_1a, f1_1b, f1_1c, f1_1d⟩ := row_four r1_1; have q1_2 : w.heap.size + 1 + 1 < w1.heap.size := (by omega); have r1_2 : Row w1 (w.heap.size + 1 + 1) 24 #[.int .i64 0, .int .i64 0, .int .i64 0, .slice none 0 0] := row_call (by (repeat (first | assumption | (refine row_new ?_; (first | (simp; done) | omega)) | refine row_alloc ?_ _ | refine row_drew ?_ | refine row_call ?_ (by assumption)))) hb1; obtain ⟨c1_2a, c1_2b, c1_2c, c1_2d, f1_2a, f1_2b, f1_2c, f1_2d⟩ := row_four r1_2) | (go_at_call 21; with_reducible refine (P2.out _ (by (repeat (first | exact Below.refl _ _ | refine Below.setCell ?_ (by first | (simp; done) | (simp; omega) | omega) _ | refine Below.alloc ?_ (by first | (simp; done) | (simp; omega) | omega) _ | refine Below.drew ?_ | refine Below.trans ?_ (Below.mono (by assumption) (by first | (simp; done) | (simp; omega) | omega)))))).mono ?_; rintro e w2 ⟨rfl, hb2⟩; have hz2 := hb2.size; (try simp at hz2); have o2 : Below w.heap.size w w2 := (by (repeat (first | exact Below.refl _ _ | refine Below.setCell ?_ (by first | (simp; done) | (simp; omega) | omega) _ | refine Below.alloc ?_ (by first | (simp; done) | (simp; omega) | omega) _ | refine Below.drew ?_ | refine Below.trans ?_ (Below.mono (by assumption) (by first | (simp; done) | (simp; omega) | omega))))); have q2_0 : w.heap.size < w2.heap.size := (by omega); have r2_0 : Row w2 (w.heap.size) 24 #[.int .i64 p, .int .i64 land, .int .i64 now, .slice A n' c] := row_call (by (repeat (first | assumption | (refine row_new ?_; (first | (simp; done) | omega)) | refine row_alloc ?_ _ | refine row_drew ?_ | refine row_call ?_ (by assumption)))) hb2; obtain ⟨c2_0a, c2_0b, c2_0c, c2_0d, f2_0a, f2_0b, f2_0c, f2_0d⟩ := row_four r2_0; have q2_1 : w.heap.size + 1 < w2.heap.size := (by omega); have r2_1 : Row w2 (w.heap.size + 1) 24 #[.int .i64 p, .int .i64 land', .int .i64 now, .slice A' n' c'] := row_call (by (repeat (first | assumption | (refine row_new ?_; (first | (simp; done) | omega)) | refine row_alloc ?_ _ | refine row_drew ?_ | refine row_call ?_ (by assumption)))) hb2; obtain ⟨c2_1a, c2_1b, c2_1c, c2_1d, f2_1a, f2_1b, f2_1c, f2_1d⟩ := row_four r2_1; have q2_2 : w.heap.size + 1 + 1 < w2.heap.size := (by omega); have r2_2 : Row w2 (w.heap.size + 1 + 1) 24 #[.int .i64 0, .int .i64 0, .int .i64 0, .slice none 0 0] := row_call (by (repeat (first | assumption | (refine row_new ?_; (first | (simp; done) | omega)) | refine row_alloc ?_ _ | refine row_drew ?_ | refine row_call ?_ (by assumption)))) hb2; obtain ⟨c2_2a, c2_2b, c2_2c, c2_2d, f2_2a, f2_2b, f2_2c, f2_2d⟩ := row_four r2_2))
  have x := r2_0
  have y := r2_1
  have r := r2_2
  have o := o2
  clear r2_0 r2_1 r2_2 o2 hb2 hb1 o1 r1_0 r1_1 r1_2 P1 P2 c1_0a f1_0a c1_0b f1_0b c1_0c f1_0c c1_0d f1_0d c1_1a f1_1a c1_1b f1_1b c1_1c f1_1c c1_1d f1_1d c1_2a f1_2a c1_2b f1_2b c1_2c f1_2c c1_2d f1_2d c2_0a f2_0a c2_0b f2_0b c2_0c f2_0c c2_0d f2_0d c2_1a f2_1a c2_1b f2_1b c2_1c f2_1c c2_1d f2_1d c2_2a f2_2a c2_2b f2_2b c2_2c f2_2c c2_2d f2_2d
  obtain ⟨X0, X1, X2, X3, Xf0, Xf1, Xf2, Xf3⟩ := row_four x
  obtain ⟨Y0, Y1, Y2, Y3, Yf0, Yf1, Yf2, Yf3⟩ := row_four y
  go_upto_region 10 with (fail)
  rw [HMI.out]
  clear X0 X1 X2 X3 Xf0 Xf1 Xf2 Xf3 Y0 Y1 Y2 Y3 Yf0 Yf1 Yf2 Yf3
  obtain ⟨X0, X1, X2, X3, Xf0, Xf1, Xf2, Xf3⟩ := row_four x
  go_wp2_with fail
  refine (PB1.out _ (by exact o)).mono ?_
  intro e w1 hq
  obtain ⟨A1, m1, d1, rfl, i1, hb1, f1⟩ := pret_at rfl hq
  clear hq
  replace x := row_call x hb1
  replace y := row_call y hb1
  replace r := row_call r hb1
  replace o := o.trans (hb1.mono o.size)
  clear hb1 X0 X1 X2 X3 Xf0 Xf1 Xf2 Xf3
  obtain ⟨X0, X1, X2, X3, Xf0, Xf1, Xf2, Xf3⟩ := row_four x
  obtain ⟨Y0, Y1, Y2, Y3, Yf0, Yf1, Yf2, Yf3⟩ := row_four y
  have zk1 : w.heap.size + 1 + 1 < w1.heap.size := row_lt r
  go_upto_region 11 with (fail)
  replace x := row_alloc x (.cells #[.int .i64 p, .int .i64 lm, .int .i64 now, .slice A1 m1 d1] 24)
  replace y := row_alloc y (.cells #[.int .i64 p, .int .i64 lm, .int .i64 now, .slice A1 m1 d1] 24)
  replace r := row_alloc r (.cells #[.int .i64 p, .int .i64 lm, .int .i64 now, .slice A1 m1 d1] 24)
  replace o := o.alloc o.size (.cells #[.int .i64 p, .int .i64 lm, .int .i64 now, .slice A1 m1 d1] 24)
  replace i1 := i1.below ((Below.refl _ _).alloc (Nat.le_refl _) (.cells #[.int .i64 p, .int .i64 lm, .int .i64 now, .slice A1 m1 d1] 24))
  have k1 : Row (w1.alloc (.cells #[.int .i64 p, .int .i64 lm, .int .i64 now, .slice A1 m1 d1] 24)) w1.heap.size 24 #[.int .i64 p, .int .i64 lm, .int .i64 now, .slice A1 m1 d1] := row_new rfl
  generalize w1.alloc (.cells #[.int .i64 p, .int .i64 lm, .int .i64 now, .slice A1 m1 d1] 24) = v1 at x y r o i1 k1 ⊢
  generalize w1.heap.size = b1 at k1 zk1 f1 ⊢
  clear X0 X1 X2 X3 Xf0 Xf1 Xf2 Xf3 Y0 Y1 Y2 Y3 Yf0 Yf1 Yf2 Yf3
  obtain ⟨X0, X1, X2, X3, Xf0, Xf1, Xf2, Xf3⟩ := row_four x
  obtain ⟨Y0, Y1, Y2, Y3, Yf0, Yf1, Yf2, Yf3⟩ := row_four y
  have zv1 := row_lt k1
  go_wp2_with fail
  refine (PB2.out _ (by exact o)).mono ?_
  intro e w2 hq
  obtain ⟨A2, m2, d2, rfl, i2, hb2, f2⟩ := pret_at rfl hq
  clear hq
  replace x := row_call x hb2
  replace y := row_call y hb2
  replace r := row_call r hb2
  replace o := o.trans (hb2.mono o.size)
  replace i1 := i1.below hb2
  replace k1 := row_call k1 hb2
  clear hb2 X0 X1 X2 X3 Xf0 Xf1 Xf2 Xf3 Y0 Y1 Y2 Y3 Yf0 Yf1 Yf2 Yf3
  obtain ⟨X0, X1, X2, X3, Xf0, Xf1, Xf2, Xf3⟩ := row_four x
  obtain ⟨Y0, Y1, Y2, Y3, Yf0, Yf1, Yf2, Yf3⟩ := row_four y
  have zk2 : w.heap.size + 1 + 1 < w2.heap.size := row_lt r
  have zkk : b1 < w2.heap.size := row_lt k1
  go_upto_region 12 with (fail)
  replace x := row_alloc x (.cells #[.int .i64 0, .int .i64 0, .int .i64 0, .slice A2 m2 d2] 24)
  replace y := row_alloc y (.cells #[.int .i64 0, .int .i64 0, .int .i64 0, .slice A2 m2 d2] 24)
  replace r := row_alloc r (.cells #[.int .i64 0, .int .i64 0, .int .i64 0, .slice A2 m2 d2] 24)
  replace o := o.alloc o.size (.cells #[.int .i64 0, .int .i64 0, .int .i64 0, .slice A2 m2 d2] 24)
  replace i1 := i1.below ((Below.refl _ _).alloc (Nat.le_refl _) (.cells #[.int .i64 0, .int .i64 0, .int .i64 0, .slice A2 m2 d2] 24))
  replace k1 := row_alloc k1 (.cells #[.int .i64 0, .int .i64 0, .int .i64 0, .slice A2 m2 d2] 24)
  have k2 : Row (w2.alloc (.cells #[.int .i64 0, .int .i64 0, .int .i64 0, .slice A2 m2 d2] 24)) w2.heap.size 24 #[.int .i64 0, .int .i64 0, .int .i64 0, .slice A2 m2 d2] := row_new rfl
  generalize w2.alloc (.cells #[.int .i64 0, .int .i64 0, .int .i64 0, .slice A2 m2 d2] 24) = v2 at x y r o i1 k1 k2 ⊢
  generalize w2.heap.size = b2 at k2 zk2 zkk f2 ⊢
  clear X0 X1 X2 X3 Xf0 Xf1 Xf2 Xf3 Y0 Y1 Y2 Y3 Yf0 Yf1 Yf2 Yf3
  obtain ⟨R0, R1, R2, R3, Rf0, Rf1, Rf2, Rf3⟩ := row_four r
  go_wp2
  exact bodyPost_ret (v := .tuple #[.agg #[.int .i64 0, .int .i64 0, .int .i64 0, .slice none 0 0], .int .i64 6]) (by simp [results, Try.results30, go_sem, R0, R1, R2, R3]) rfl (pret_zero (by (repeat (first | exact Below.refl _ _ | refine Below.setCell ?_ (by first | (simp; done) | (simp; omega) | omega) _ | refine Below.alloc ?_ (by first | (simp; done) | (simp; omega) | omega) _ | refine Below.drew ?_ | refine Below.trans ?_ (Below.mono (by assumption) (by first | (simp; done) | (simp; omega) | omega))))))
set_option maxHeartbeats 8000000 in
set_option maxRecDepth 100000 in
theorem rpmer_ft (p land now : Int) (A : Option Addr) (n c : Nat) (ms : List Nat) (land' : Int) (A' : Option Addr) (n' c' : Nat) (ms' : List Nat) (w : World) (hin : PIn p land now A n c ms w) (hin' : PIn p land' now A' n' c' ms' w) (hv : pvalE p land now ms = 0) (hv' : pvalE p land' now ms' = 0) (hf1 : fitB (rebM (land - min land land').toNat ms) ms.length = false) (hf2 : fitB (rebM (land' - min land land').toNat ms') ms'.length = true) : Calls Try.prog 30 #[.agg #[.int .i64 p, .int .i64 land, .int .i64 now, .slice A n c], .agg #[.int .i64 p, .int .i64 land', .int .i64 now, .slice A' n' c']] w fun e w' => PRet (qmer p land now ms p land' now ms') w e w' := by
  have P1 := fun w1 (hb : Below w.heap.size w w1) => rpval p land now A n c ms w1 (hin.below hb)
  rw [hv] at P1
  have P1 := Lib.hid P1
  have P2 := fun w1 (hb : Below w.heap.size w w1) => rpval p land' now A' n' c' ms' w1 (hin'.below hb)
  rw [hv'] at P2
  have P2 := Lib.hid P2
  obtain ⟨v1, v2, v3, v4, v5, v6, v7, _⟩ := of_pvalE hv
  obtain ⟨_, _, _, _, u5, u6, u7, _⟩ := of_pvalE hv'
  have hl := hin.len
  have hl' := hin'.len
  obtain rfl : n' = n := by omega
  have hn5 : n' ≤ 5 := by omega
  rw [qmer_over hv hv' (.inl hf1)]
  have PB1 := fun w1 (hb : Below w.heap.size w w1) => rpreb p land now A n' c ms (min land land') w1 (hin.below hb)
  have PB2 := fun w1 (hb : Below w.heap.size w w1) => rpreb p land' now A' n' c' ms' (min land land') w1 (hin'.below hb)
  rw [qreb_over hv (by omega) (by omega) hf1] at PB1
  rw [qreb_ok hv' (by omega) (by omega) hf2] at PB2
  obtain ⟨lm, hlm⟩ : ∃ q, min land land' = q := ⟨_, rfl⟩
  have l0 : 0 ≤ lm := by omega
  have l1 : lm ≤ 16777216 := by omega
  rw [hlm] at PB1 PB2
  generalize upto (rebM (land' - lm).toNat ms') ms'.length = ys at PB2
  have kk : (p != p) = false := by simp
  have kk2 : (now != now) = false := by simp
  have HMI : RowKit.Hid ((if land' < land then land' else land) = lm) := Lib.hid (by rw [min_if]; exact hlm)
  have PB1 := Lib.hid PB1
  have PB2 := Lib.hid PB2
  clear hv hv' hin hin' hl hl' hf1 hf2 hlm
  go_enter Try.func30, Try.ntmps30
  go_upto_region 9 with (first | (go_at_call 21; with_reducible refine (P1.out _ (by (repeat (first | exact Below.refl _ _ | refine Below.setCell ?_ (by first | (simp; done) | (simp; omega) | omega) _ | refine Below.alloc ?_ (by first | (simp; done) | (simp; omega) | omega) _ | refine Below.drew ?_ | refine Below.trans ?_ (Below.mono (by assumption) (by first | (simp; done) | (simp; omega) | omega)))))).mono ?_; rintro e w1 ⟨rfl, hb1⟩; have hz1 := hb1.size; (try simp at hz1); have o1 : Below w.heap.size w w1 := (by (repeat (first | exact Below.refl _ _ | refine Below.setCell ?_ (by first | (simp; done) | (simp; omega) | omega) _ | refine Below.alloc ?_ (by first | (simp; done) | (simp; omega) | omega) _ | refine Below.drew ?_ | refine Below.trans ?_ (Below.mono (by assumption) (by first | (simp; done) | (simp; omega) | omega))))); have q1_0 : w.heap.size < w1.heap.size := (by omega); have r1_0 : Row w1 (w.heap.size) 24 #[.int .i64 p, .int .i64 land, .int .i64 now, .slice A n' c] := row_call (by (repeat (first | assumption | (refine row_new ?_; (first | (simp; done) | omega)) | refine row_alloc ?_ _ | refine row_drew ?_ | refine row_call ?_ (by assumption)))) hb1; obtain ⟨c1_0a, c1_0b, c1_0c, c1_0d, f1_0a, f1_0b, f1_0c, f1_0d⟩ := row_four r1_0; have q1_1 : w.heap.size + 1 < w1.heap.size := (by omega); have r1_1 : Row w1 (w.heap.size + 1) 24 #[.int .i64 p, .int .i64 land', .int .i64 now, .slice A' n' c'] := row_call (by (repeat (first | assumption | (refine row_new ?_; (first | (simp; done) | omega)) | refine row_alloc ?_ _ | refine row_drew ?_ | refine row_call ?_ (by assumption)))) hb1; obtain ⟨c1_1a, c1_1b, c1_1c, c1_1d, f1_1a, f1_1b, f1_1c, f1_1d⟩ := row_four r1_1; have q1_2 : w.heap.size + 1 + 1 < w1.heap.size := (by omega); have r1_2 : Row w1 (w.heap.size + 1 + 1) 24 #[.int .i64 0, .int .i64 0, .int .i64 0, .slice none 0 0] := row_call (by (repeat (first | assumption | (refine row_new ?_; (first | (simp; done) | omega)) | refine row_alloc ?_ _ | refine row_drew ?_ | refine row_call ?_ (by assumption)))) hb1; obtain ⟨c1_2a, c1_2b, c1_2c, c1_2d, f1_2a, f1_2b, f1_2c, f1_2d⟩ := row_four r1_2) | (go_at_call 21; with_reducible refine (P2.out _ (by (repeat (first | exact Below.refl _ _ | refine Below.setCell ?_ (by first | (simp; done) | (simp; omega) | omega) _ | refine Below.alloc ?_ (by first | (simp; done) | (simp; omega) | omega) _ | refine Below.drew ?_ | refine Below.trans ?_ (Below.mono (by assumption) (by first | (simp; done) | (simp; omega) | omega)))))).mono ?_; rintro e w2 ⟨rfl, hb2⟩; have hz2 := hb2.size; (try simp at hz2); have o2 : Below w.heap.size w w2 := (by (repeat (first | exact Below.refl _ _ | refine Below.setCell ?_ (by first | (simp; done) | (simp; omega) | omega) _ | refine Below.alloc ?_ (by first | (simp; done) | (simp; omega) | omega) _ | refine Below.drew ?_ | refine Below.trans ?_ (Below.mono (by assumption) (by first | (simp; done) | (simp; omega) | omega))))); have q2_0 : w.heap.size < w2.heap.size := (by omega); have r2_0 : Row w2 (w.heap.size) 24 #[.int .i64 p, .int .i64 land, .int .i64 now, .slice A n' c] := row_call (by (repeat (first | assumption | (refine row_new ?_; (first | (simp; done) | omega)) | refine row_alloc ?_ _ | refine row_drew ?_ | refine row_call ?_ (by assumption)))) hb2; obtain ⟨c2_0a, c2_0b, c2_0c, c2_0d, f2_0a, f2_0b, f2_0c, f2_0d⟩ := row_four r2_0; have q2_1 : w.heap.size + 1 < w2.heap.size := (by omega); have r2_1 : Row w2 (w.heap.size + 1) 24 #[.int .i64 p, .int .i64 land', .int .i64 now, .slice A' n' c'] := row_call (by (repeat (first | assumption | (refine row_new ?_; (first | (simp; done) | omega)) | refine row_alloc ?_ _ | refine row_drew ?_ | refine row_call ?_ (by assumption)))) hb2; obtain ⟨c2_1a, c2_1b, c2_1c, c2_1d, f2_1a, f2_1b, f2_1c, f2_1d⟩ := row_four r2_1; have q2_2 : w.heap.size + 1 + 1 < w2.heap.size := (by omega); have r2_2 : Row w2 (w.heap.size + 1 + 1) 24 #[.int .i64 0, .int .i64 0, .int .i64 0, .slice none 0 0] := row_call (by (repeat (first | assumption | (refine row_new ?_; (first | (simp; done) | omega)) | refine row_alloc ?_ _ | refine row_drew ?_ | refine row_call ?_ (by assumption)))) hb2; obtain ⟨c2_2a, c2_2b, c2_2c, c2_2d, f2_2a, f2_2b, f2_2c, f2_2d⟩ := row_four r2_2))
  have x := r2_0
  have y := r2_1
  have r := r2_2
  have o := o2
  clear r2_0 r2_1 r2_2 o2 hb2 hb1 o1 r1_0 r1_1 r1_2 P1 P2 c1_0a f1_0a c1_0b f1_0b c1_0c f1_0c c1_0d f1_0d c1_1a f1_1a c1_1b f1_1b c1_1c f1_1c c1_1d f1_1d c1_2a f1_2a c1_2b f1_2b c1_2c f1_2c c1_2d f1_2d c2_0a f2_0a c2_0b f2_0b c2_0c f2_0c c2_0d f2_0d c2_1a f2_1a c2_1b f2_1b c2_1c f2_1c c2_1d f2_1d c2_2a f2_2a c2_2b f2_2b c2_2c f2_2c c2_2d f2_2d
  obtain ⟨X0, X1, X2, X3, Xf0, Xf1, Xf2, Xf3⟩ := row_four x
  obtain ⟨Y0, Y1, Y2, Y3, Yf0, Yf1, Yf2, Yf3⟩ := row_four y
  go_upto_region 10 with (fail)
  rw [HMI.out]
  clear X0 X1 X2 X3 Xf0 Xf1 Xf2 Xf3 Y0 Y1 Y2 Y3 Yf0 Yf1 Yf2 Yf3
  obtain ⟨X0, X1, X2, X3, Xf0, Xf1, Xf2, Xf3⟩ := row_four x
  go_wp2_with fail
  refine (PB1.out _ (by exact o)).mono ?_
  intro e w1 hq
  obtain ⟨A1, m1, d1, rfl, i1, hb1, f1⟩ := pret_at rfl hq
  clear hq
  replace x := row_call x hb1
  replace y := row_call y hb1
  replace r := row_call r hb1
  replace o := o.trans (hb1.mono o.size)
  clear hb1 X0 X1 X2 X3 Xf0 Xf1 Xf2 Xf3
  obtain ⟨X0, X1, X2, X3, Xf0, Xf1, Xf2, Xf3⟩ := row_four x
  obtain ⟨Y0, Y1, Y2, Y3, Yf0, Yf1, Yf2, Yf3⟩ := row_four y
  have zk1 : w.heap.size + 1 + 1 < w1.heap.size := row_lt r
  go_upto_region 11 with (fail)
  replace x := row_alloc x (.cells #[.int .i64 0, .int .i64 0, .int .i64 0, .slice A1 m1 d1] 24)
  replace y := row_alloc y (.cells #[.int .i64 0, .int .i64 0, .int .i64 0, .slice A1 m1 d1] 24)
  replace r := row_alloc r (.cells #[.int .i64 0, .int .i64 0, .int .i64 0, .slice A1 m1 d1] 24)
  replace o := o.alloc o.size (.cells #[.int .i64 0, .int .i64 0, .int .i64 0, .slice A1 m1 d1] 24)
  have k1 : Row (w1.alloc (.cells #[.int .i64 0, .int .i64 0, .int .i64 0, .slice A1 m1 d1] 24)) w1.heap.size 24 #[.int .i64 0, .int .i64 0, .int .i64 0, .slice A1 m1 d1] := row_new rfl
  generalize w1.alloc (.cells #[.int .i64 0, .int .i64 0, .int .i64 0, .slice A1 m1 d1] 24) = v1 at x y r o k1 ⊢
  generalize w1.heap.size = b1 at k1 zk1 f1 ⊢
  clear X0 X1 X2 X3 Xf0 Xf1 Xf2 Xf3 Y0 Y1 Y2 Y3 Yf0 Yf1 Yf2 Yf3
  obtain ⟨X0, X1, X2, X3, Xf0, Xf1, Xf2, Xf3⟩ := row_four x
  obtain ⟨Y0, Y1, Y2, Y3, Yf0, Yf1, Yf2, Yf3⟩ := row_four y
  have zv1 := row_lt k1
  go_wp2_with fail
  refine (PB2.out _ (by exact o)).mono ?_
  intro e w2 hq
  obtain ⟨A2, m2, d2, rfl, i2, hb2, f2⟩ := pret_at rfl hq
  clear hq
  replace x := row_call x hb2
  replace y := row_call y hb2
  replace r := row_call r hb2
  replace o := o.trans (hb2.mono o.size)
  replace k1 := row_call k1 hb2
  clear hb2 X0 X1 X2 X3 Xf0 Xf1 Xf2 Xf3 Y0 Y1 Y2 Y3 Yf0 Yf1 Yf2 Yf3
  obtain ⟨X0, X1, X2, X3, Xf0, Xf1, Xf2, Xf3⟩ := row_four x
  obtain ⟨Y0, Y1, Y2, Y3, Yf0, Yf1, Yf2, Yf3⟩ := row_four y
  have zk2 : w.heap.size + 1 + 1 < w2.heap.size := row_lt r
  have zkk : b1 < w2.heap.size := row_lt k1
  go_upto_region 12 with (fail)
  replace x := row_alloc x (.cells #[.int .i64 p, .int .i64 lm, .int .i64 now, .slice A2 m2 d2] 24)
  replace y := row_alloc y (.cells #[.int .i64 p, .int .i64 lm, .int .i64 now, .slice A2 m2 d2] 24)
  replace r := row_alloc r (.cells #[.int .i64 p, .int .i64 lm, .int .i64 now, .slice A2 m2 d2] 24)
  replace o := o.alloc o.size (.cells #[.int .i64 p, .int .i64 lm, .int .i64 now, .slice A2 m2 d2] 24)
  replace k1 := row_alloc k1 (.cells #[.int .i64 p, .int .i64 lm, .int .i64 now, .slice A2 m2 d2] 24)
  replace i2 := i2.below ((Below.refl _ _).alloc (Nat.le_refl _) (.cells #[.int .i64 p, .int .i64 lm, .int .i64 now, .slice A2 m2 d2] 24))
  have k2 : Row (w2.alloc (.cells #[.int .i64 p, .int .i64 lm, .int .i64 now, .slice A2 m2 d2] 24)) w2.heap.size 24 #[.int .i64 p, .int .i64 lm, .int .i64 now, .slice A2 m2 d2] := row_new rfl
  generalize w2.alloc (.cells #[.int .i64 p, .int .i64 lm, .int .i64 now, .slice A2 m2 d2] 24) = v2 at x y r o k1 i2 k2 ⊢
  generalize w2.heap.size = b2 at k2 zk2 zkk f2 ⊢
  clear X0 X1 X2 X3 Xf0 Xf1 Xf2 Xf3 Y0 Y1 Y2 Y3 Yf0 Yf1 Yf2 Yf3
  obtain ⟨R0, R1, R2, R3, Rf0, Rf1, Rf2, Rf3⟩ := row_four r
  go_wp2
  exact bodyPost_ret (v := .tuple #[.agg #[.int .i64 0, .int .i64 0, .int .i64 0, .slice none 0 0], .int .i64 6]) (by simp [results, Try.results30, go_sem, R0, R1, R2, R3]) rfl (pret_zero (by (repeat (first | exact Below.refl _ _ | refine Below.setCell ?_ (by first | (simp; done) | (simp; omega) | omega) _ | refine Below.alloc ?_ (by first | (simp; done) | (simp; omega) | omega) _ | refine Below.drew ?_ | refine Below.trans ?_ (Below.mono (by assumption) (by first | (simp; done) | (simp; omega) | omega))))))
set_option maxHeartbeats 8000000 in
set_option maxRecDepth 100000 in
theorem rpmer_ff (p land now : Int) (A : Option Addr) (n c : Nat) (ms : List Nat) (land' : Int) (A' : Option Addr) (n' c' : Nat) (ms' : List Nat) (w : World) (hin : PIn p land now A n c ms w) (hin' : PIn p land' now A' n' c' ms' w) (hv : pvalE p land now ms = 0) (hv' : pvalE p land' now ms' = 0) (hf1 : fitB (rebM (land - min land land').toNat ms) ms.length = false) (hf2 : fitB (rebM (land' - min land land').toNat ms') ms'.length = false) : Calls Try.prog 30 #[.agg #[.int .i64 p, .int .i64 land, .int .i64 now, .slice A n c], .agg #[.int .i64 p, .int .i64 land', .int .i64 now, .slice A' n' c']] w fun e w' => PRet (qmer p land now ms p land' now ms') w e w' := by
  have P1 := fun w1 (hb : Below w.heap.size w w1) => rpval p land now A n c ms w1 (hin.below hb)
  rw [hv] at P1
  have P1 := Lib.hid P1
  have P2 := fun w1 (hb : Below w.heap.size w w1) => rpval p land' now A' n' c' ms' w1 (hin'.below hb)
  rw [hv'] at P2
  have P2 := Lib.hid P2
  obtain ⟨v1, v2, v3, v4, v5, v6, v7, _⟩ := of_pvalE hv
  obtain ⟨_, _, _, _, u5, u6, u7, _⟩ := of_pvalE hv'
  have hl := hin.len
  have hl' := hin'.len
  obtain rfl : n' = n := by omega
  have hn5 : n' ≤ 5 := by omega
  rw [qmer_over hv hv' (.inl hf1)]
  have PB1 := fun w1 (hb : Below w.heap.size w w1) => rpreb p land now A n' c ms (min land land') w1 (hin.below hb)
  have PB2 := fun w1 (hb : Below w.heap.size w w1) => rpreb p land' now A' n' c' ms' (min land land') w1 (hin'.below hb)
  rw [qreb_over hv (by omega) (by omega) hf1] at PB1
  rw [qreb_over hv' (by omega) (by omega) hf2] at PB2
  obtain ⟨lm, hlm⟩ : ∃ q, min land land' = q := ⟨_, rfl⟩
  have l0 : 0 ≤ lm := by omega
  have l1 : lm ≤ 16777216 := by omega
  rw [hlm] at PB1 PB2
  have kk : (p != p) = false := by simp
  have kk2 : (now != now) = false := by simp
  have HMI : RowKit.Hid ((if land' < land then land' else land) = lm) := Lib.hid (by rw [min_if]; exact hlm)
  have PB1 := Lib.hid PB1
  have PB2 := Lib.hid PB2
  clear hv hv' hin hin' hl hl' hf1 hf2 hlm
  go_enter Try.func30, Try.ntmps30
  go_upto_region 9 with (first | (go_at_call 21; with_reducible refine (P1.out _ (by (repeat (first | exact Below.refl _ _ | refine Below.setCell ?_ (by first | (simp; done) | (simp; omega) | omega) _ | refine Below.alloc ?_ (by first | (simp; done) | (simp; omega) | omega) _ | refine Below.drew ?_ | refine Below.trans ?_ (Below.mono (by assumption) (by first | (simp; done) | (simp; omega) | omega)))))).mono ?_; rintro e w1 ⟨rfl, hb1⟩; have hz1 := hb1.size; (try simp at hz1); have o1 : Below w.heap.size w w1 := (by (repeat (first | exact Below.refl _ _ | refine Below.setCell ?_ (by first | (simp; done) | (simp; omega) | omega) _ | refine Below.alloc ?_ (by first | (simp; done) | (simp; omega) | omega) _ | refine Below.drew ?_ | refine Below.trans ?_ (Below.mono (by assumption) (by first | (simp; done) | (simp; omega) | omega))))); have q1_0 : w.heap.size < w1.heap.size := (by omega); have r1_0 : Row w1 (w.heap.size) 24 #[.int .i64 p, .int .i64 land, .int .i64 now, .slice A n' c] := row_call (by (repeat (first | assumption | (refine row_new ?_; (first | (simp; done) | omega)) | refine row_alloc ?_ _ | refine row_drew ?_ | refine row_call ?_ (by assumption)))) hb1; obtain ⟨c1_0a, c1_0b, c1_0c, c1_0d, f1_0a, f1_0b, f1_0c, f1_0d⟩ := row_four r1_0; have q1_1 : w.heap.size + 1 < w1.heap.size := (by omega); have r1_1 : Row w1 (w.heap.size + 1) 24 #[.int .i64 p, .int .i64 land', .int .i64 now, .slice A' n' c'] := row_call (by (repeat (first | assumption | (refine row_new ?_; (first | (simp; done) | omega)) | refine row_alloc ?_ _ | refine row_drew ?_ | refine row_call ?_ (by assumption)))) hb1; obtain ⟨c1_1a, c1_1b, c1_1c, c1_1d, f1_1a, f1_1b, f1_1c, f1_1d⟩ := row_four r1_1; have q1_2 : w.heap.size + 1 + 1 < w1.heap.size := (by omega); have r1_2 : Row w1 (w.heap.size + 1 + 1) 24 #[.int .i64 0, .int .i64 0, .int .i64 0, .slice none 0 0] := row_call (by (repeat (first | assumption | (refine row_new ?_; (first | (simp; done) | omega)) | refine row_alloc ?_ _ | refine row_drew ?_ | refine row_call ?_ (by assumption)))) hb1; obtain ⟨c1_2a, c1_2b, c1_2c, c1_2d, f1_2a, f1_2b, f1_2c, f1_2d⟩ := row_four r1_2) | (go_at_call 21; with_reducible refine (P2.out _ (by (repeat (first | exact Below.refl _ _ | refine Below.setCell ?_ (by first | (simp; done) | (simp; omega) | omega) _ | refine Below.alloc ?_ (by first | (simp; done) | (simp; omega) | omega) _ | refine Below.drew ?_ | refine Below.trans ?_ (Below.mono (by assumption) (by first | (simp; done) | (simp; omega) | omega)))))).mono ?_; rintro e w2 ⟨rfl, hb2⟩; have hz2 := hb2.size; (try simp at hz2); have o2 : Below w.heap.size w w2 := (by (repeat (first | exact Below.refl _ _ | refine Below.setCell ?_ (by first | (simp; done) | (simp; omega) | omega) _ | refine Below.alloc ?_ (by first | (simp; done) | (simp; omega) | omega) _ | refine Below.drew ?_ | refine Below.trans ?_ (Below.mono (by assumption) (by first | (simp; done) | (simp; omega) | omega))))); have q2_0 : w.heap.size < w2.heap.size := (by omega); have r2_0 : Row w2 (w.heap.size) 24 #[.int .i64 p, .int .i64 land, .int .i64 now, .slice A n' c] := row_call (by (repeat (first | assumption | (refine row_new ?_; (first | (simp; done) | omega)) | refine row_alloc ?_ _ | refine row_drew ?_ | refine row_call ?_ (by assumption)))) hb2; obtain ⟨c2_0a, c2_0b, c2_0c, c2_0d, f2_0a, f2_0b, f2_0c, f2_0d⟩ := row_four r2_0; have q2_1 : w.heap.size + 1 < w2.heap.size := (by omega); have r2_1 : Row w2 (w.heap.size + 1) 24 #[.int .i64 p, .int .i64 land', .int .i64 now, .slice A' n' c'] := row_call (by (repeat (first | assumption | (refine row_new ?_; (first | (simp; done) | omega)) | refine row_alloc ?_ _ | refine row_drew ?_ | refine row_call ?_ (by assumption)))) hb2; obtain ⟨c2_1a, c2_1b, c2_1c, c2_1d, f2_1a, f2_1b, f2_1c, f2_1d⟩ := row_four r2_1; have q2_2 : w.heap.size + 1 + 1 < w2.heap.size := (by omega); have r2_2 : Row w2 (w.heap.size + 1 + 1) 24 #[.int .i64 0, .int .i64 0, .int .i64 0, .slice none 0 0] := row_call (by (repeat (first | assumption | (refine row_new ?_; (first | (simp; done) | omega)) | refine row_alloc ?_ _ | refine row_drew ?_ | refine row_call ?_ (by assumption)))) hb2; obtain ⟨c2_2a, c2_2b, c2_2c, c2_2d, f2_2a, f2_2b, f2_2c, f2_2d⟩ := row_four r2_2))
  have x := r2_0
  have y := r2_1
  have r := r2_2
  have o := o2
  clear r2_0 r2_1 r2_2 o2 hb2 hb1 o1 r1_0 r1_1 r1_2 P1 P2 c1_0a f1_0a c1_0b f1_0b c1_0c f1_0c c1_0d f1_0d c1_1a f1_1a c1_1b f1_1b c1_1c f1_1c c1_1d f1_1d c1_2a f1_2a c1_2b f1_2b c1_2c f1_2c c1_2d f1_2d c2_0a f2_0a c2_0b f2_0b c2_0c f2_0c c2_0d f2_0d c2_1a f2_1a c2_1b f2_1b c2_1c f2_1c c2_1d f2_1d c2_2a f2_2a c2_2b f2_2b c2_2c f2_2c c2_2d f2_2d
  obtain ⟨X0, X1, X2, X3, Xf0, Xf1, Xf2, Xf3⟩ := row_four x
  obtain ⟨Y0, Y1, Y2, Y3, Yf0, Yf1, Yf2, Yf3⟩ := row_four y
  go_upto_region 10 with (fail)
  rw [HMI.out]
  clear X0 X1 X2 X3 Xf0 Xf1 Xf2 Xf3 Y0 Y1 Y2 Y3 Yf0 Yf1 Yf2 Yf3
  obtain ⟨X0, X1, X2, X3, Xf0, Xf1, Xf2, Xf3⟩ := row_four x
  go_wp2_with fail
  refine (PB1.out _ (by exact o)).mono ?_
  intro e w1 hq
  obtain ⟨A1, m1, d1, rfl, i1, hb1, f1⟩ := pret_at rfl hq
  clear hq
  replace x := row_call x hb1
  replace y := row_call y hb1
  replace r := row_call r hb1
  replace o := o.trans (hb1.mono o.size)
  clear hb1 X0 X1 X2 X3 Xf0 Xf1 Xf2 Xf3
  obtain ⟨X0, X1, X2, X3, Xf0, Xf1, Xf2, Xf3⟩ := row_four x
  obtain ⟨Y0, Y1, Y2, Y3, Yf0, Yf1, Yf2, Yf3⟩ := row_four y
  have zk1 : w.heap.size + 1 + 1 < w1.heap.size := row_lt r
  go_upto_region 11 with (fail)
  replace x := row_alloc x (.cells #[.int .i64 0, .int .i64 0, .int .i64 0, .slice A1 m1 d1] 24)
  replace y := row_alloc y (.cells #[.int .i64 0, .int .i64 0, .int .i64 0, .slice A1 m1 d1] 24)
  replace r := row_alloc r (.cells #[.int .i64 0, .int .i64 0, .int .i64 0, .slice A1 m1 d1] 24)
  replace o := o.alloc o.size (.cells #[.int .i64 0, .int .i64 0, .int .i64 0, .slice A1 m1 d1] 24)
  have k1 : Row (w1.alloc (.cells #[.int .i64 0, .int .i64 0, .int .i64 0, .slice A1 m1 d1] 24)) w1.heap.size 24 #[.int .i64 0, .int .i64 0, .int .i64 0, .slice A1 m1 d1] := row_new rfl
  generalize w1.alloc (.cells #[.int .i64 0, .int .i64 0, .int .i64 0, .slice A1 m1 d1] 24) = v1 at x y r o k1 ⊢
  generalize w1.heap.size = b1 at k1 zk1 f1 ⊢
  clear X0 X1 X2 X3 Xf0 Xf1 Xf2 Xf3 Y0 Y1 Y2 Y3 Yf0 Yf1 Yf2 Yf3
  obtain ⟨X0, X1, X2, X3, Xf0, Xf1, Xf2, Xf3⟩ := row_four x
  obtain ⟨Y0, Y1, Y2, Y3, Yf0, Yf1, Yf2, Yf3⟩ := row_four y
  have zv1 := row_lt k1
  go_wp2_with fail
  refine (PB2.out _ (by exact o)).mono ?_
  intro e w2 hq
  obtain ⟨A2, m2, d2, rfl, i2, hb2, f2⟩ := pret_at rfl hq
  clear hq
  replace x := row_call x hb2
  replace y := row_call y hb2
  replace r := row_call r hb2
  replace o := o.trans (hb2.mono o.size)
  replace k1 := row_call k1 hb2
  clear hb2 X0 X1 X2 X3 Xf0 Xf1 Xf2 Xf3 Y0 Y1 Y2 Y3 Yf0 Yf1 Yf2 Yf3
  obtain ⟨X0, X1, X2, X3, Xf0, Xf1, Xf2, Xf3⟩ := row_four x
  obtain ⟨Y0, Y1, Y2, Y3, Yf0, Yf1, Yf2, Yf3⟩ := row_four y
  have zk2 : w.heap.size + 1 + 1 < w2.heap.size := row_lt r
  have zkk : b1 < w2.heap.size := row_lt k1
  go_upto_region 12 with (fail)
  replace x := row_alloc x (.cells #[.int .i64 0, .int .i64 0, .int .i64 0, .slice A2 m2 d2] 24)
  replace y := row_alloc y (.cells #[.int .i64 0, .int .i64 0, .int .i64 0, .slice A2 m2 d2] 24)
  replace r := row_alloc r (.cells #[.int .i64 0, .int .i64 0, .int .i64 0, .slice A2 m2 d2] 24)
  replace o := o.alloc o.size (.cells #[.int .i64 0, .int .i64 0, .int .i64 0, .slice A2 m2 d2] 24)
  replace k1 := row_alloc k1 (.cells #[.int .i64 0, .int .i64 0, .int .i64 0, .slice A2 m2 d2] 24)
  have k2 : Row (w2.alloc (.cells #[.int .i64 0, .int .i64 0, .int .i64 0, .slice A2 m2 d2] 24)) w2.heap.size 24 #[.int .i64 0, .int .i64 0, .int .i64 0, .slice A2 m2 d2] := row_new rfl
  generalize w2.alloc (.cells #[.int .i64 0, .int .i64 0, .int .i64 0, .slice A2 m2 d2] 24) = v2 at x y r o k1 k2 ⊢
  generalize w2.heap.size = b2 at k2 zk2 zkk f2 ⊢
  clear X0 X1 X2 X3 Xf0 Xf1 Xf2 Xf3 Y0 Y1 Y2 Y3 Yf0 Yf1 Yf2 Yf3
  obtain ⟨R0, R1, R2, R3, Rf0, Rf1, Rf2, Rf3⟩ := row_four r
  go_wp2
  exact bodyPost_ret (v := .tuple #[.agg #[.int .i64 0, .int .i64 0, .int .i64 0, .slice none 0 0], .int .i64 6]) (by simp [results, Try.results30, go_sem, R0, R1, R2, R3]) rfl (pret_zero (by (repeat (first | exact Below.refl _ _ | refine Below.setCell ?_ (by first | (simp; done) | (simp; omega) | omega) _ | refine Below.alloc ?_ (by first | (simp; done) | (simp; omega) | omega) _ | refine Below.drew ?_ | refine Below.trans ?_ (Below.mono (by assumption) (by first | (simp; done) | (simp; omega) | omega))))))
theorem rpmer (p land now : Int) (A : Option Addr) (n c : Nat) (ms : List Nat) (p' land' now' : Int) (A' : Option Addr) (n' c' : Nat) (ms' : List Nat) (w : World) (hin : PIn p land now A n c ms w) (hin' : PIn p' land' now' A' n' c' ms' w) : Calls Try.prog 30 #[.agg #[.int .i64 p, .int .i64 land, .int .i64 now, .slice A n c], .agg #[.int .i64 p', .int .i64 land', .int .i64 now', .slice A' n' c']] w fun e w' => PRet (qmer p land now ms p' land' now' ms') w e w' := by
  rcases pvalE_two (p := p) (land := land) (now := now) (ms := ms) with hv | hv
  · rcases pvalE_two (p := p') (land := land') (now := now') (ms := ms') with hv' | hv'
    · by_cases h0 : p = p'
      · by_cases h1 : now = now'
        · subst h0
          subst h1
          rcases fitB_two (rebM (land - min land land').toNat ms) ms.length with hf1 | hf1
          · rcases fitB_two (rebM (land' - min land land').toNat ms') ms'.length with hf2 | hf2
            · exact rpmer_tt p land now A n c ms land' A' n' c' ms' w hin hin' hv hv' hf1 hf2
            · exact rpmer_tf p land now A n c ms land' A' n' c' ms' w hin hin' hv hv' hf1 hf2
          · rcases fitB_two (rebM (land' - min land land').toNat ms') ms'.length with hf2 | hf2
            · exact rpmer_ft p land now A n c ms land' A' n' c' ms' w hin hin' hv hv' hf1 hf2
            · exact rpmer_ff p land now A n c ms land' A' n' c' ms' w hin hin' hv hv' hf1 hf2
        · subst h0
          exact rpmer_now p land now A n c ms land' now' A' n' c' ms' w hin hin' hv hv' h1
      · exact rpmer_p p land now A n c ms p' land' now' A' n' c' ms' w hin hin' hv hv' h0
    · exact rpmer_bad2 p land now A n c ms p' land' now' A' n' c' ms' w hin hin' hv hv'
  · exact rpmer_bad1 p land now A n c ms p' land' now' A' n' c' ms' w hin hin' hv
set_option maxHeartbeats 4000000 in
theorem polyRebases_few (p land now : Int) (A : Option Addr) (n c : Nat) (ms : List Nat) (ld : Int) (w : World) (hin : PIn p land now A n c ms w) (h0 : n ≤ 50) : Calls Try.prog 6 #[.agg #[.int .i64 p, .int .i64 land, .int .i64 now, .slice A n c], .int .i64 ld] w fun e w' => e = .returned (.bool true) ∧ Below w.heap.size w w' := by
  have FA := Lib.hid (fun w => few_yes p land now A n c ms w h0)
  have C1 := fun w1 (hb : Below w.heap.size w w1) => (ppreb p land now A n c ms ld w1 (hin.below hb)).mono fun e w' h => h.any
  have C2 := fun w1 (hb : Below w.heap.size w w1) => (rpreb p land now A n c ms ld w1 (hin.below hb)).mono fun e w' h => h.any
  generalize qreb p land now ms ld = r at C1 C2
  obtain ⟨pa, la, ta, zs, f⟩ := r
  have C1 := Lib.hid C1
  have C2 := Lib.hid C2
  clear hin h0
  go_enter Try.func6, Try.ntmps6
  go_wp2_with fail
  refine (FA.out _).mono ?_
  rintro e wl0 ⟨rfl, hbl0⟩
  have x : Row wl0 (w.heap.size) 24 #[.int .i64 p, .int .i64 land, .int .i64 now, .slice A n c] := row_call (by (repeat (first | assumption | (refine row_new ?_; (first | (simp; done) | omega)) | refine row_alloc ?_ _ | refine row_drew ?_ | refine row_call ?_ (by assumption)))) hbl0
  have o : Below w.heap.size w wl0 := by (repeat (first | exact Below.refl _ _ | refine Below.setCell ?_ (by first | (simp; done) | (simp; omega) | omega) _ | refine Below.alloc ?_ (by first | (simp; done) | (simp; omega) | omega) _ | refine Below.drew ?_ | refine Below.trans ?_ (Below.mono (by assumption) (by first | (simp; done) | (simp; omega) | omega))))
  clear hbl0
  obtain ⟨X0, X1, X2, X3, Xf0, Xf1, Xf2, Xf3⟩ := row_four x
  go_wp2_with fail
  refine (C1.out _ (by exact o)).mono ?_
  intro e w1 hq
  obtain ⟨A1, n1, c1, rfl, i1, hb1⟩ := pany_at rfl hq
  clear hq
  replace o := o.trans (hb1.mono o.size)
  replace x := row_call x hb1
  clear hb1
  clear X0 Xf0 X1 Xf1 X2 Xf2 X3 Xf3
  obtain ⟨X0, X1, X2, X3, Xf0, Xf1, Xf2, Xf3⟩ := row_four x
  go_upto_region 4 with (fail)
  replace o := o.alloc o.size (.cells #[.int .i64 pa, .int .i64 la, .int .i64 ta, .slice A1 n1 c1] 24)
  replace x := row_alloc x (.cells #[.int .i64 pa, .int .i64 la, .int .i64 ta, .slice A1 n1 c1] 24)
  replace i1 := i1.below ((Below.refl _ _).alloc (Nat.le_refl _) (.cells #[.int .i64 pa, .int .i64 la, .int .i64 ta, .slice A1 n1 c1] 24))
  have y1 : Row (w1.alloc (.cells #[.int .i64 pa, .int .i64 la, .int .i64 ta, .slice A1 n1 c1] 24)) w1.heap.size 24 #[.int .i64 pa, .int .i64 la, .int .i64 ta, .slice A1 n1 c1] := row_new rfl
  generalize w1.alloc (.cells #[.int .i64 pa, .int .i64 la, .int .i64 ta, .slice A1 n1 c1] 24) = v1 at o x i1 y1 ⊢
  generalize w1.heap.size = b1 at y1 ⊢
  clear X0 Xf0 X1 Xf1 X2 Xf2 X3 Xf3
  obtain ⟨X0, X1, X2, X3, Xf0, Xf1, Xf2, Xf3⟩ := row_four x
  go_wp2_with fail
  refine (C2.out _ (by exact o)).mono ?_
  intro e w2 hq
  obtain ⟨A2, n2, c2, rfl, i2, hb2⟩ := pany_at rfl hq
  clear hq
  replace o := o.trans (hb2.mono o.size)
  replace x := row_call x hb2
  replace i1 := i1.below hb2
  replace y1 := row_call y1 hb2
  clear hb2
  clear X0 Xf0 X1 Xf1 X2 Xf2 X3 Xf3
  go_upto_region 5 with (fail)
  replace o := o.alloc o.size (.cells #[.int .i64 pa, .int .i64 la, .int .i64 ta, .slice A2 n2 c2] 24)
  replace x := row_alloc x (.cells #[.int .i64 pa, .int .i64 la, .int .i64 ta, .slice A2 n2 c2] 24)
  replace i1 := i1.below ((Below.refl _ _).alloc (Nat.le_refl _) (.cells #[.int .i64 pa, .int .i64 la, .int .i64 ta, .slice A2 n2 c2] 24))
  replace i2 := i2.below ((Below.refl _ _).alloc (Nat.le_refl _) (.cells #[.int .i64 pa, .int .i64 la, .int .i64 ta, .slice A2 n2 c2] 24))
  replace y1 := row_alloc y1 (.cells #[.int .i64 pa, .int .i64 la, .int .i64 ta, .slice A2 n2 c2] 24)
  have y2 : Row (w2.alloc (.cells #[.int .i64 pa, .int .i64 la, .int .i64 ta, .slice A2 n2 c2] 24)) w2.heap.size 24 #[.int .i64 pa, .int .i64 la, .int .i64 ta, .slice A2 n2 c2] := row_new rfl
  generalize w2.alloc (.cells #[.int .i64 pa, .int .i64 la, .int .i64 ta, .slice A2 n2 c2] 24) = v2 at o x i1 i2 y1 y2 ⊢
  generalize w2.heap.size = b2 at y2 ⊢
  have G1 := Lib.hid i1
  have G2 := Lib.hid i2
  clear i1 i2
  have zb := o.size
  obtain ⟨M0, M1, M2, M3, Mf0, Mf1, Mf2, Mf3⟩ := row_four y1
  obtain ⟨Q0, Q1, Q2, Q3, Qf0, Qf1, Qf2, Qf3⟩ := row_four y2
  go_wp2_with (first | (go_at_call 11; refine (rpsame _ _ _ A1 n1 c1 A2 n2 c2 zs _ G1.out G2.out).mono ?_; rintro e w4 ⟨rfl, hb4⟩; have hz4 := hb4.size) | (go_at_call 12; refine (awake15 _).mono ?_; rintro e w5 ⟨rfl, hb5⟩; have hz5 := hb5.size))
  go_ret
  exact ⟨rfl, by (repeat (first | exact Below.refl _ _ | refine Below.setCell ?_ (by first | (simp; done) | (simp; omega) | omega) _ | refine Below.alloc ?_ (by first | (simp; done) | (simp; omega) | omega) _ | refine Below.drew ?_ | refine Below.trans ?_ (Below.mono (by assumption) (by first | (simp; done) | (simp; omega) | omega))))⟩
theorem polyRebases_many (p land now : Int) (A : Option Addr) (n c : Nat) (ms : List Nat) (ld : Int) (w : World) (hf : 50 < n) : Calls Try.prog 6 #[.agg #[.int .i64 p, .int .i64 land, .int .i64 now, .slice A n c], .int .i64 ld] w fun e w' => e = .returned (.bool true) ∧ Below w.heap.size w w' := by
  have FW := Lib.hid (fun w => few_no p land now A n c ms w hf)
  clear hf
  go_enter Try.func6, Try.ntmps6
  go_wp2_with (first | (go_at_call 13; refine (FW.out _).mono ?_; rintro e w1 ⟨rfl, hb1⟩; have hz1 := hb1.size; (try simp at hz1)) | (go_at_call 12; refine (awake15 _).mono ?_; rintro e w5 ⟨rfl, hb5⟩; have hz5 := hb5.size))
  go_ret
  exact ⟨rfl, by (repeat (first | exact Below.refl _ _ | refine Below.setCell ?_ (by first | (simp; done) | (simp; omega) | omega) _ | refine Below.alloc ?_ (by first | (simp; done) | (simp; omega) | omega) _ | refine Below.drew ?_ | refine Below.trans ?_ (Below.mono (by assumption) (by first | (simp; done) | (simp; omega) | omega))))⟩
theorem polyRebases (p land now : Int) (A : Option Addr) (n c : Nat) (ms : List Nat) (ld : Int) (w : World) (hin : PIn p land now A n c ms w) : Calls Try.prog 6 #[.agg #[.int .i64 p, .int .i64 land, .int .i64 now, .slice A n c], .int .i64 ld] w fun e w' => e = .returned (.bool true) ∧ Below w.heap.size w w' := by
  by_cases h : n ≤ 50
  · exact polyRebases_few p land now A n c ms ld w hin h
  · exact polyRebases_many p land now A n c ms ld w (by omega)
set_option maxHeartbeats 4000000 in
theorem polyMerges_few (p land now : Int) (A : Option Addr) (n c : Nat) (ms : List Nat) (p' land' now' : Int) (A' : Option Addr) (n' c' : Nat) (ms' : List Nat) (w : World) (hin : PIn p land now A n c ms w) (hin' : PIn p' land' now' A' n' c' ms' w) (h0 : n ≤ 50) (h1 : n' ≤ 50) : Calls Try.prog 7 #[.agg #[.int .i64 p, .int .i64 land, .int .i64 now, .slice A n c], .agg #[.int .i64 p', .int .i64 land', .int .i64 now', .slice A' n' c']] w fun e w' => e = .returned (.bool true) ∧ Below w.heap.size w w' := by
  have FA := Lib.hid (fun w => few_yes p land now A n c ms w h0)
  have FB := Lib.hid (fun w => few_yes p' land' now' A' n' c' ms' w h1)
  have C1 := fun w1 (hb : Below w.heap.size w w1) => (ppmer p land now A n c ms p' land' now' A' n' c' ms' w1 (hin.below hb) (hin'.below hb)).mono fun e w' h => h.any
  have C2 := fun w1 (hb : Below w.heap.size w w1) => (rpmer p land now A n c ms p' land' now' A' n' c' ms' w1 (hin.below hb) (hin'.below hb)).mono fun e w' h => h.any
  generalize qmer p land now ms p' land' now' ms' = r at C1 C2
  obtain ⟨pa, la, ta, zs, f⟩ := r
  have C1 := Lib.hid C1
  have C2 := Lib.hid C2
  clear hin hin' h0 h1
  go_enter Try.func7, Try.ntmps7
  go_wp2_with fail
  refine (FA.out _).mono ?_
  rintro e wl0 ⟨rfl, hbl0⟩
  have x : Row wl0 (w.heap.size) 24 #[.int .i64 p, .int .i64 land, .int .i64 now, .slice A n c] := row_call (by (repeat (first | assumption | (refine row_new ?_; (first | (simp; done) | omega)) | refine row_alloc ?_ _ | refine row_drew ?_ | refine row_call ?_ (by assumption)))) hbl0
  have y : Row wl0 (w.heap.size + 1) 24 #[.int .i64 p', .int .i64 land', .int .i64 now', .slice A' n' c'] := row_call (by (repeat (first | assumption | (refine row_new ?_; (first | (simp; done) | omega)) | refine row_alloc ?_ _ | refine row_drew ?_ | refine row_call ?_ (by assumption)))) hbl0
  have o : Below w.heap.size w wl0 := by (repeat (first | exact Below.refl _ _ | refine Below.setCell ?_ (by first | (simp; done) | (simp; omega) | omega) _ | refine Below.alloc ?_ (by first | (simp; done) | (simp; omega) | omega) _ | refine Below.drew ?_ | refine Below.trans ?_ (Below.mono (by assumption) (by first | (simp; done) | (simp; omega) | omega))))
  clear hbl0
  obtain ⟨X0, X1, X2, X3, Xf0, Xf1, Xf2, Xf3⟩ := row_four x
  obtain ⟨Y0, Y1, Y2, Y3, Yf0, Yf1, Yf2, Yf3⟩ := row_four y
  go_wp2_with fail
  refine (FB.out _).mono ?_
  rintro e wl1 ⟨rfl, hbl1⟩
  replace o := o.trans (hbl1.mono o.size)
  replace x := row_call x hbl1
  replace y := row_call y hbl1
  clear X0 Xf0 X1 Xf1 X2 Xf2 X3 Xf3 Y0 Yf0 Y1 Yf1 Y2 Yf2 Y3 Yf3
  clear hbl1
  obtain ⟨X0, X1, X2, X3, Xf0, Xf1, Xf2, Xf3⟩ := row_four x
  obtain ⟨Y0, Y1, Y2, Y3, Yf0, Yf1, Yf2, Yf3⟩ := row_four y
  go_wp2_with fail
  refine (C1.out _ (by exact o)).mono ?_
  intro e w1 hq
  obtain ⟨A1, n1, c1, rfl, i1, hb1⟩ := pany_at rfl hq
  clear hq
  replace o := o.trans (hb1.mono o.size)
  replace x := row_call x hb1
  replace y := row_call y hb1
  clear hb1
  clear X0 Xf0 X1 Xf1 X2 Xf2 X3 Xf3 Y0 Yf0 Y1 Yf1 Y2 Yf2 Y3 Yf3
  obtain ⟨X0, X1, X2, X3, Xf0, Xf1, Xf2, Xf3⟩ := row_four x
  obtain ⟨Y0, Y1, Y2, Y3, Yf0, Yf1, Yf2, Yf3⟩ := row_four y
  go_upto_region 4 with (fail)
  replace o := o.alloc o.size (.cells #[.int .i64 pa, .int .i64 la, .int .i64 ta, .slice A1 n1 c1] 24)
  replace x := row_alloc x (.cells #[.int .i64 pa, .int .i64 la, .int .i64 ta, .slice A1 n1 c1] 24)
  replace y := row_alloc y (.cells #[.int .i64 pa, .int .i64 la, .int .i64 ta, .slice A1 n1 c1] 24)
  replace i1 := i1.below ((Below.refl _ _).alloc (Nat.le_refl _) (.cells #[.int .i64 pa, .int .i64 la, .int .i64 ta, .slice A1 n1 c1] 24))
  have y1 : Row (w1.alloc (.cells #[.int .i64 pa, .int .i64 la, .int .i64 ta, .slice A1 n1 c1] 24)) w1.heap.size 24 #[.int .i64 pa, .int .i64 la, .int .i64 ta, .slice A1 n1 c1] := row_new rfl
  generalize w1.alloc (.cells #[.int .i64 pa, .int .i64 la, .int .i64 ta, .slice A1 n1 c1] 24) = v1 at o x y i1 y1 ⊢
  generalize w1.heap.size = b1 at y1 ⊢
  clear X0 Xf0 X1 Xf1 X2 Xf2 X3 Xf3 Y0 Yf0 Y1 Yf1 Y2 Yf2 Y3 Yf3
  obtain ⟨X0, X1, X2, X3, Xf0, Xf1, Xf2, Xf3⟩ := row_four x
  obtain ⟨Y0, Y1, Y2, Y3, Yf0, Yf1, Yf2, Yf3⟩ := row_four y
  go_wp2_with fail
  refine (C2.out _ (by exact o)).mono ?_
  intro e w2 hq
  obtain ⟨A2, n2, c2, rfl, i2, hb2⟩ := pany_at rfl hq
  clear hq
  replace o := o.trans (hb2.mono o.size)
  replace x := row_call x hb2
  replace y := row_call y hb2
  replace i1 := i1.below hb2
  replace y1 := row_call y1 hb2
  clear hb2
  clear X0 Xf0 X1 Xf1 X2 Xf2 X3 Xf3 Y0 Yf0 Y1 Yf1 Y2 Yf2 Y3 Yf3
  go_upto_region 5 with (fail)
  replace o := o.alloc o.size (.cells #[.int .i64 pa, .int .i64 la, .int .i64 ta, .slice A2 n2 c2] 24)
  replace x := row_alloc x (.cells #[.int .i64 pa, .int .i64 la, .int .i64 ta, .slice A2 n2 c2] 24)
  replace y := row_alloc y (.cells #[.int .i64 pa, .int .i64 la, .int .i64 ta, .slice A2 n2 c2] 24)
  replace i1 := i1.below ((Below.refl _ _).alloc (Nat.le_refl _) (.cells #[.int .i64 pa, .int .i64 la, .int .i64 ta, .slice A2 n2 c2] 24))
  replace i2 := i2.below ((Below.refl _ _).alloc (Nat.le_refl _) (.cells #[.int .i64 pa, .int .i64 la, .int .i64 ta, .slice A2 n2 c2] 24))
  replace y1 := row_alloc y1 (.cells #[.int .i64 pa, .int .i64 la, .int .i64 ta, .slice A2 n2 c2] 24)
  have y2 : Row (w2.alloc (.cells #[.int .i64 pa, .int .i64 la, .int .i64 ta, .slice A2 n2 c2] 24)) w2.heap.size 24 #[.int .i64 pa, .int .i64 la, .int .i64 ta, .slice A2 n2 c2] := row_new rfl
  generalize w2.alloc (.cells #[.int .i64 pa, .int .i64 la, .int .i64 ta, .slice A2 n2 c2] 24) = v2 at o x y i1 i2 y1 y2 ⊢
  generalize w2.heap.size = b2 at y2 ⊢
  have G1 := Lib.hid i1
  have G2 := Lib.hid i2
  clear i1 i2
  have zb := o.size
  obtain ⟨M0, M1, M2, M3, Mf0, Mf1, Mf2, Mf3⟩ := row_four y1
  obtain ⟨Q0, Q1, Q2, Q3, Qf0, Qf1, Qf2, Qf3⟩ := row_four y2
  go_wp2_with (first | (go_at_call 11; refine (rpsame _ _ _ A1 n1 c1 A2 n2 c2 zs _ G1.out G2.out).mono ?_; rintro e w4 ⟨rfl, hb4⟩; have hz4 := hb4.size) | (go_at_call 12; refine (awake15 _).mono ?_; rintro e w5 ⟨rfl, hb5⟩; have hz5 := hb5.size))
  go_ret
  exact ⟨rfl, by (repeat (first | exact Below.refl _ _ | refine Below.setCell ?_ (by first | (simp; done) | (simp; omega) | omega) _ | refine Below.alloc ?_ (by first | (simp; done) | (simp; omega) | omega) _ | refine Below.drew ?_ | refine Below.trans ?_ (Below.mono (by assumption) (by first | (simp; done) | (simp; omega) | omega))))⟩
theorem polyMerges_a (p land now : Int) (A : Option Addr) (n c : Nat) (ms : List Nat) (p' land' now' : Int) (A' : Option Addr) (n' c' : Nat) (ms' : List Nat) (w : World) (h : 50 < n) : Calls Try.prog 7 #[.agg #[.int .i64 p, .int .i64 land, .int .i64 now, .slice A n c], .agg #[.int .i64 p', .int .i64 land', .int .i64 now', .slice A' n' c']] w fun e w' => e = .returned (.bool true) ∧ Below w.heap.size w w' := by
  have FA := Lib.hid (fun w => few_no p land now A n c ms w h)
  clear h
  go_enter Try.func7, Try.ntmps7
  go_wp2_with (first | (go_at_call 13; with_reducible refine (FA.out _).mono ?_; rintro e w1 ⟨rfl, hb1⟩; have hz1 := hb1.size; (try simp at hz1); have o1 : Below w.heap.size w w1 := (by (repeat (first | exact Below.refl _ _ | refine Below.setCell ?_ (by first | (simp; done) | (simp; omega) | omega) _ | refine Below.alloc ?_ (by first | (simp; done) | (simp; omega) | omega) _ | refine Below.drew ?_ | refine Below.trans ?_ (Below.mono (by assumption) (by first | (simp; done) | (simp; omega) | omega))))); have q1_0 : w.heap.size < w1.heap.size := (by omega); have r1_0 : Row w1 (w.heap.size) 24 #[.int .i64 p, .int .i64 land, .int .i64 now, .slice A n c] := row_call (by (repeat (first | assumption | (refine row_new ?_; (first | (simp; done) | omega)) | refine row_alloc ?_ _ | refine row_drew ?_ | refine row_call ?_ (by assumption)))) hb1; obtain ⟨c1_0a, c1_0b, c1_0c, c1_0d, f1_0a, f1_0b, f1_0c, f1_0d⟩ := row_four r1_0; have q1_1 : w.heap.size + 1 < w1.heap.size := (by omega); have r1_1 : Row w1 (w.heap.size + 1) 24 #[.int .i64 p', .int .i64 land', .int .i64 now', .slice A' n' c'] := row_call (by (repeat (first | assumption | (refine row_new ?_; (first | (simp; done) | omega)) | refine row_alloc ?_ _ | refine row_drew ?_ | refine row_call ?_ (by assumption)))) hb1; obtain ⟨c1_1a, c1_1b, c1_1c, c1_1d, f1_1a, f1_1b, f1_1c, f1_1d⟩ := row_four r1_1) | (go_at_call 12; refine (awake15 _).mono ?_; rintro e w5 ⟨rfl, hb5⟩; have hz5 := hb5.size))
  go_ret
  exact ⟨rfl, by (repeat (first | exact Below.refl _ _ | refine Below.setCell ?_ (by first | (simp; done) | (simp; omega) | omega) _ | refine Below.alloc ?_ (by first | (simp; done) | (simp; omega) | omega) _ | refine Below.drew ?_ | refine Below.trans ?_ (Below.mono (by assumption) (by first | (simp; done) | (simp; omega) | omega))))⟩
theorem polyMerges_b (p land now : Int) (A : Option Addr) (n c : Nat) (ms : List Nat) (p' land' now' : Int) (A' : Option Addr) (n' c' : Nat) (ms' : List Nat) (w : World) (h0 : n ≤ 50) (h : 50 < n') : Calls Try.prog 7 #[.agg #[.int .i64 p, .int .i64 land, .int .i64 now, .slice A n c], .agg #[.int .i64 p', .int .i64 land', .int .i64 now', .slice A' n' c']] w fun e w' => e = .returned (.bool true) ∧ Below w.heap.size w w' := by
  have FA := Lib.hid (fun w => few_yes p land now A n c ms w h0)
  have FB := Lib.hid (fun w => few_no p' land' now' A' n' c' ms' w h)
  clear h
  go_enter Try.func7, Try.ntmps7
  go_wp2_with (first | (go_at_call 13; with_reducible refine (FA.out _).mono ?_; rintro e w1 ⟨rfl, hb1⟩; have hz1 := hb1.size; (try simp at hz1); have o1 : Below w.heap.size w w1 := (by (repeat (first | exact Below.refl _ _ | refine Below.setCell ?_ (by first | (simp; done) | (simp; omega) | omega) _ | refine Below.alloc ?_ (by first | (simp; done) | (simp; omega) | omega) _ | refine Below.drew ?_ | refine Below.trans ?_ (Below.mono (by assumption) (by first | (simp; done) | (simp; omega) | omega))))); have q1_0 : w.heap.size < w1.heap.size := (by omega); have r1_0 : Row w1 (w.heap.size) 24 #[.int .i64 p, .int .i64 land, .int .i64 now, .slice A n c] := row_call (by (repeat (first | assumption | (refine row_new ?_; (first | (simp; done) | omega)) | refine row_alloc ?_ _ | refine row_drew ?_ | refine row_call ?_ (by assumption)))) hb1; obtain ⟨c1_0a, c1_0b, c1_0c, c1_0d, f1_0a, f1_0b, f1_0c, f1_0d⟩ := row_four r1_0; have q1_1 : w.heap.size + 1 < w1.heap.size := (by omega); have r1_1 : Row w1 (w.heap.size + 1) 24 #[.int .i64 p', .int .i64 land', .int .i64 now', .slice A' n' c'] := row_call (by (repeat (first | assumption | (refine row_new ?_; (first | (simp; done) | omega)) | refine row_alloc ?_ _ | refine row_drew ?_ | refine row_call ?_ (by assumption)))) hb1; obtain ⟨c1_1a, c1_1b, c1_1c, c1_1d, f1_1a, f1_1b, f1_1c, f1_1d⟩ := row_four r1_1) | (go_at_call 13; with_reducible refine (FB.out _).mono ?_; rintro e w2 ⟨rfl, hb2⟩; have hz2 := hb2.size; (try simp at hz2); have o2 : Below w.heap.size w w2 := (by (repeat (first | exact Below.refl _ _ | refine Below.setCell ?_ (by first | (simp; done) | (simp; omega) | omega) _ | refine Below.alloc ?_ (by first | (simp; done) | (simp; omega) | omega) _ | refine Below.drew ?_ | refine Below.trans ?_ (Below.mono (by assumption) (by first | (simp; done) | (simp; omega) | omega))))); have q2_0 : w.heap.size < w2.heap.size := (by omega); have r2_0 : Row w2 (w.heap.size) 24 #[.int .i64 p, .int .i64 land, .int .i64 now, .slice A n c] := row_call (by (repeat (first | assumption | (refine row_new ?_; (first | (simp; done) | omega)) | refine row_alloc ?_ _ | refine row_drew ?_ | refine row_call ?_ (by assumption)))) hb2; obtain ⟨c2_0a, c2_0b, c2_0c, c2_0d, f2_0a, f2_0b, f2_0c, f2_0d⟩ := row_four r2_0; have q2_1 : w.heap.size + 1 < w2.heap.size := (by omega); have r2_1 : Row w2 (w.heap.size + 1) 24 #[.int .i64 p', .int .i64 land', .int .i64 now', .slice A' n' c'] := row_call (by (repeat (first | assumption | (refine row_new ?_; (first | (simp; done) | omega)) | refine row_alloc ?_ _ | refine row_drew ?_ | refine row_call ?_ (by assumption)))) hb2; obtain ⟨c2_1a, c2_1b, c2_1c, c2_1d, f2_1a, f2_1b, f2_1c, f2_1d⟩ := row_four r2_1) | (go_at_call 12; refine (awake15 _).mono ?_; rintro e w5 ⟨rfl, hb5⟩; have hz5 := hb5.size))
  go_ret
  exact ⟨rfl, by (repeat (first | exact Below.refl _ _ | refine Below.setCell ?_ (by first | (simp; done) | (simp; omega) | omega) _ | refine Below.alloc ?_ (by first | (simp; done) | (simp; omega) | omega) _ | refine Below.drew ?_ | refine Below.trans ?_ (Below.mono (by assumption) (by first | (simp; done) | (simp; omega) | omega))))⟩
theorem polyMerges (p land now : Int) (A : Option Addr) (n c : Nat) (ms : List Nat) (p' land' now' : Int) (A' : Option Addr) (n' c' : Nat) (ms' : List Nat) (w : World) (hin : PIn p land now A n c ms w) (hin' : PIn p' land' now' A' n' c' ms' w) : Calls Try.prog 7 #[.agg #[.int .i64 p, .int .i64 land, .int .i64 now, .slice A n c], .agg #[.int .i64 p', .int .i64 land', .int .i64 now', .slice A' n' c']] w fun e w' => e = .returned (.bool true) ∧ Below w.heap.size w w' := by
  by_cases h0 : n ≤ 50
  · by_cases h1 : n' ≤ 50
    · exact polyMerges_few p land now A n c ms p' land' now' A' n' c' ms' w hin hin' h0 h1
    · exact polyMerges_b p land now A n c ms p' land' now' A' n' c' ms' w h0 (by omega)
  · exact polyMerges_a p land now A n c ms p' land' now' A' n' c' ms' w (by omega)
end Go.Proofs.Ytejoomlaanmbkaa
