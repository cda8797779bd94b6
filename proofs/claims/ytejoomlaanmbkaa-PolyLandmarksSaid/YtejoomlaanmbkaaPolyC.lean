/- Counters with polynomial decay: adding a value, walked. -/
import Derived.Test.YtejoomlaanmbkaaPolyB
import Derived.Test.YtejoomlaanmbkaaOrow
namespace Go.Proofs.Ytejoomlaanmbkaa
open Go.RowKit Go.Shelf
/-- A row that is filled from its head on. -/
def fillN (f : Nat → Nat) (n j : Nat) : List Nat := upto f j ++ List.replicate (n - j) 0
theorem fill_zero (f : Nat → Nat) (n : Nat) : fillN f n 0 = List.replicate n 0 := rfl
theorem fill_all (f : Nat → Nat) (n : Nat) : fillN f n n = upto f n := by unfold fillN; simp
theorem fill_len (f : Nat → Nat) {n j : Nat} (h : j ≤ n) : (fillN f n j).length = n := by unfold fillN; rw [List.length_append, upto_len, List.length_replicate]; omega
theorem fill_step (f : Nat → Nat) {n j : Nat} (h : j < n) : (fillN f n j).set j (f j) = fillN f n (j + 1) := by
  unfold fillN
  rw [show n - j = (n - (j + 1)) + 1 by omega, List.replicate_succ, List.set_append, if_neg (by rw [upto_len]; omega), upto_len, Nat.sub_self, List.set_cons_zero, upto_succ, List.append_assoc]
  rfl
theorem Own.mom {w : World} {g n c i : Nat} {ms : List Nat} (h : Own w 35 2 g n c (wcells ms)) (hin : i < n) : w.cell? ⟨g, i * 2, none⟩ = some (.int .u64 (hi (momAt ms i))) ∧ w.cell? ⟨g, i * 2 + 1, none⟩ = some (.int .u64 (lo (momAt ms i))) := by
  have hl := h.len
  rw [wcells_len] at hl
  have ht := wcells_at ms i (by omega)
  exact ⟨(h.cell (by omega)).trans ht.1, (h.cell (by omega)).trans ht.2⟩
theorem Own.setW {w : World} {g n c : Nat} {ms : List Nat} (h : Own w 35 2 g n c (wcells ms)) (i m : Nat) : Own ((w.setCell ⟨g, i * 2, none⟩ (.int .u64 (hi m))).setCell ⟨g, i * 2 + 1, none⟩ (.int .u64 (lo m))) 35 2 g n c (wcells (ms.set i m)) := by
  rw [← wcells_set]
  exact (h.set (i * 2) _).set (i * 2 + 1) _
theorem rvalue_in (v : Int) (h0 : -4096 ≤ v) (h1 : v ≤ 4096) (w : World) : Calls Try.prog 40 #[.int .i64 v] w fun e w' => e = .returned (.bool true) ∧ w' = w := by
  go_enter Try.func40, Try.ntmps40
  go_wp2
  go_ret
  exact ⟨rfl, rfl⟩
theorem rvalue_high (v : Int) (h0 : 4096 < v) (w : World) : Calls Try.prog 40 #[.int .i64 v] w fun e w' => e = .returned (.bool false) ∧ w' = w := by
  have h1 : -4096 ≤ v := by omega
  go_enter Try.func40, Try.ntmps40
  go_wp2
  go_ret
  exact ⟨ret_bool (by simp; omega), rfl⟩
theorem ppadd_bad (p land now : Int) (A : Option Addr) (n c : Nat) (ms : List Nat) (v : Int) (w : World) (hin : PIn p land now A n c ms w) (hv : pvalE p land now ms = 2) : Calls Try.prog 16 #[.agg #[.int .i64 p, .int .i64 land, .int .i64 now, .slice A n c], .int .i64 v] w fun e w' => PRet (qadd p land now ms v) w e w' := by
  rw [qadd_bad hv]
  have P := fun w1 (hb : Below w.heap.size w w1) => ppval p land now A n c ms w1 (hin.below hb)
  rw [hv] at P
  have P := Lib.hid P
  clear hv hin
  go_enter Try.func16, Try.ntmps16
  go_wp2_with (first | (go_at_call 20; with_reducible refine (P.out _ (by (repeat (first | exact Below.refl _ _ | refine Below.setCell ?_ (by first | (simp; done) | (simp; omega) | omega) _ | refine Below.alloc ?_ (by first | (simp; done) | (simp; omega) | omega) _ | refine Below.drew ?_ | refine Below.trans ?_ (Below.mono (by assumption) (by first | (simp; done) | (simp; omega) | omega)))))).mono ?_; rintro e w1 ⟨rfl, hb1⟩; have hz1 := hb1.size; (try simp at hz1); have o1 : Below w.heap.size w w1 := (by (repeat (first | exact Below.refl _ _ | refine Below.setCell ?_ (by first | (simp; done) | (simp; omega) | omega) _ | refine Below.alloc ?_ (by first | (simp; done) | (simp; omega) | omega) _ | refine Below.drew ?_ | refine Below.trans ?_ (Below.mono (by assumption) (by first | (simp; done) | (simp; omega) | omega))))); have q1_0 : w.heap.size < w1.heap.size := (by omega); have r1_0 : Row w1 (w.heap.size) 24 #[.int .i64 p, .int .i64 land, .int .i64 now, .slice A n c] := row_call (by (repeat (first | assumption | (refine row_new ?_; (first | (simp; done) | omega)) | refine row_alloc ?_ _ | refine row_drew ?_ | refine row_call ?_ (by assumption)))) hb1; obtain ⟨c1_0a, c1_0b, c1_0c, c1_0d, f1_0a, f1_0b, f1_0c, f1_0d⟩ := row_four r1_0; have q1_1 : w.heap.size + 1 < w1.heap.size := (by omega); have r1_1 : Row w1 (w.heap.size + 1) 24 #[.int .i64 0, .int .i64 0, .int .i64 0, .slice none 0 0] := row_call (by (repeat (first | assumption | (refine row_new ?_; (first | (simp; done) | omega)) | refine row_alloc ?_ _ | refine row_drew ?_ | refine row_call ?_ (by assumption)))) hb1; obtain ⟨c1_1a, c1_1b, c1_1c, c1_1d, f1_1a, f1_1b, f1_1c, f1_1d⟩ := row_four r1_1))
  exact bodyPost_ret (v := .tuple #[.agg #[.int .i64 0, .int .i64 0, .int .i64 0, .slice none 0 0], .int .i64 2]) (by simp [results, Try.results16, go_sem, c1_1a, c1_1b, c1_1c, c1_1d]) rfl (pret_zero (by (repeat (first | exact Below.refl _ _ | refine Below.setCell ?_ (by first | (simp; done) | (simp; omega) | omega) _ | refine Below.alloc ?_ (by first | (simp; done) | (simp; omega) | omega) _ | refine Below.drew ?_ | refine Below.trans ?_ (Below.mono (by assumption) (by first | (simp; done) | (simp; omega) | omega))))))
theorem ppadd_low (p land now : Int) (A : Option Addr) (n c : Nat) (ms : List Nat) (v : Int) (w : World) (hin : PIn p land now A n c ms w) (hv : pvalE p land now ms = 0) (h1 : v < 0) : Calls Try.prog 16 #[.agg #[.int .i64 p, .int .i64 land, .int .i64 now, .slice A n c], .int .i64 v] w fun e w' => PRet (qadd p land now ms v) w e w' := by
  rw [qadd_low hv h1]
  have P := fun w1 (hb : Below w.heap.size w w1) => ppval p land now A n c ms w1 (hin.below hb)
  rw [hv] at P
  have P := Lib.hid P
  clear hv hin
  go_enter Try.func16, Try.ntmps16
  go_wp2_with (first | (go_at_call 20; with_reducible refine (P.out _ (by (repeat (first | exact Below.refl _ _ | refine Below.setCell ?_ (by first | (simp; done) | (simp; omega) | omega) _ | refine Below.alloc ?_ (by first | (simp; done) | (simp; omega) | omega) _ | refine Below.drew ?_ | refine Below.trans ?_ (Below.mono (by assumption) (by first | (simp; done) | (simp; omega) | omega)))))).mono ?_; rintro e w1 ⟨rfl, hb1⟩; have hz1 := hb1.size; (try simp at hz1); have o1 : Below w.heap.size w w1 := (by (repeat (first | exact Below.refl _ _ | refine Below.setCell ?_ (by first | (simp; done) | (simp; omega) | omega) _ | refine Below.alloc ?_ (by first | (simp; done) | (simp; omega) | omega) _ | refine Below.drew ?_ | refine Below.trans ?_ (Below.mono (by assumption) (by first | (simp; done) | (simp; omega) | omega))))); have q1_0 : w.heap.size < w1.heap.size := (by omega); have r1_0 : Row w1 (w.heap.size) 24 #[.int .i64 p, .int .i64 land, .int .i64 now, .slice A n c] := row_call (by (repeat (first | assumption | (refine row_new ?_; (first | (simp; done) | omega)) | refine row_alloc ?_ _ | refine row_drew ?_ | refine row_call ?_ (by assumption)))) hb1; obtain ⟨c1_0a, c1_0b, c1_0c, c1_0d, f1_0a, f1_0b, f1_0c, f1_0d⟩ := row_four r1_0; have q1_1 : w.heap.size + 1 < w1.heap.size := (by omega); have r1_1 : Row w1 (w.heap.size + 1) 24 #[.int .i64 0, .int .i64 0, .int .i64 0, .slice none 0 0] := row_call (by (repeat (first | assumption | (refine row_new ?_; (first | (simp; done) | omega)) | refine row_alloc ?_ _ | refine row_drew ?_ | refine row_call ?_ (by assumption)))) hb1; obtain ⟨c1_1a, c1_1b, c1_1c, c1_1d, f1_1a, f1_1b, f1_1c, f1_1d⟩ := row_four r1_1))
  exact bodyPost_ret (v := .tuple #[.agg #[.int .i64 0, .int .i64 0, .int .i64 0, .slice none 0 0], .int .i64 4]) (by simp [results, Try.results16, go_sem, c1_1a, c1_1b, c1_1c, c1_1d]) rfl (pret_zero (by (repeat (first | exact Below.refl _ _ | refine Below.setCell ?_ (by first | (simp; done) | (simp; omega) | omega) _ | refine Below.alloc ?_ (by first | (simp; done) | (simp; omega) | omega) _ | refine Below.drew ?_ | refine Below.trans ?_ (Below.mono (by assumption) (by first | (simp; done) | (simp; omega) | omega))))))
theorem ppadd_high (p land now : Int) (A : Option Addr) (n c : Nat) (ms : List Nat) (v : Int) (w : World) (hin : PIn p land now A n c ms w) (hv : pvalE p land now ms = 0) (h1 : 4096 < v) : Calls Try.prog 16 #[.agg #[.int .i64 p, .int .i64 land, .int .i64 now, .slice A n c], .int .i64 v] w fun e w' => PRet (qadd p land now ms v) w e w' := by
  rw [qadd_high hv h1]
  have P := fun w1 (hb : Below w.heap.size w w1) => ppval p land now A n c ms w1 (hin.below hb)
  rw [hv] at P
  have P := Lib.hid P
  have h2 : 0 ≤ v := by omega
  clear hv hin
  go_enter Try.func16, Try.ntmps16
  go_wp2_with (first | (go_at_call 20; with_reducible refine (P.out _ (by (repeat (first | exact Below.refl _ _ | refine Below.setCell ?_ (by first | (simp; done) | (simp; omega) | omega) _ | refine Below.alloc ?_ (by first | (simp; done) | (simp; omega) | omega) _ | refine Below.drew ?_ | refine Below.trans ?_ (Below.mono (by assumption) (by first | (simp; done) | (simp; omega) | omega)))))).mono ?_; rintro e w1 ⟨rfl, hb1⟩; have hz1 := hb1.size; (try simp at hz1); have o1 : Below w.heap.size w w1 := (by (repeat (first | exact Below.refl _ _ | refine Below.setCell ?_ (by first | (simp; done) | (simp; omega) | omega) _ | refine Below.alloc ?_ (by first | (simp; done) | (simp; omega) | omega) _ | refine Below.drew ?_ | refine Below.trans ?_ (Below.mono (by assumption) (by first | (simp; done) | (simp; omega) | omega))))); have q1_0 : w.heap.size < w1.heap.size := (by omega); have r1_0 : Row w1 (w.heap.size) 24 #[.int .i64 p, .int .i64 land, .int .i64 now, .slice A n c] := row_call (by (repeat (first | assumption | (refine row_new ?_; (first | (simp; done) | omega)) | refine row_alloc ?_ _ | refine row_drew ?_ | refine row_call ?_ (by assumption)))) hb1; obtain ⟨c1_0a, c1_0b, c1_0c, c1_0d, f1_0a, f1_0b, f1_0c, f1_0d⟩ := row_four r1_0; have q1_1 : w.heap.size + 1 < w1.heap.size := (by omega); have r1_1 : Row w1 (w.heap.size + 1) 24 #[.int .i64 0, .int .i64 0, .int .i64 0, .slice none 0 0] := row_call (by (repeat (first | assumption | (refine row_new ?_; (first | (simp; done) | omega)) | refine row_alloc ?_ _ | refine row_drew ?_ | refine row_call ?_ (by assumption)))) hb1; obtain ⟨c1_1a, c1_1b, c1_1c, c1_1d, f1_1a, f1_1b, f1_1c, f1_1d⟩ := row_four r1_1))
  exact bodyPost_ret (v := .tuple #[.agg #[.int .i64 0, .int .i64 0, .int .i64 0, .slice none 0 0], .int .i64 4]) (by simp [results, Try.results16, go_sem, c1_1a, c1_1b, c1_1c, c1_1d]) rfl (pret_zero (by (repeat (first | exact Below.refl _ _ | refine Below.setCell ?_ (by first | (simp; done) | (simp; omega) | omega) _ | refine Below.alloc ?_ (by first | (simp; done) | (simp; omega) | omega) _ | refine Below.drew ?_ | refine Below.trans ?_ (Below.mono (by assumption) (by first | (simp; done) | (simp; omega) | omega))))))
theorem rpadd_bad (p land now : Int) (A : Option Addr) (n c : Nat) (ms : List Nat) (v : Int) (w : World) (hin : PIn p land now A n c ms w) (hv : pvalE p land now ms = 2) : Calls Try.prog 17 #[.agg #[.int .i64 p, .int .i64 land, .int .i64 now, .slice A n c], .int .i64 v] w fun e w' => PRet (qadd p land now ms v) w e w' := by
  rw [qadd_bad hv]
  have P := fun w1 (hb : Below w.heap.size w w1) => rpval p land now A n c ms w1 (hin.below hb)
  rw [hv] at P
  have P := Lib.hid P
  clear hv hin
  go_enter Try.func17, Try.ntmps17
  go_wp2_with (first | (go_at_call 21; with_reducible refine (P.out _ (by (repeat (first | exact Below.refl _ _ | refine Below.setCell ?_ (by first | (simp; done) | (simp; omega) | omega) _ | refine Below.alloc ?_ (by first | (simp; done) | (simp; omega) | omega) _ | refine Below.drew ?_ | refine Below.trans ?_ (Below.mono (by assumption) (by first | (simp; done) | (simp; omega) | omega)))))).mono ?_; rintro e w1 ⟨rfl, hb1⟩; have hz1 := hb1.size; (try simp at hz1); have o1 : Below w.heap.size w w1 := (by (repeat (first | exact Below.refl _ _ | refine Below.setCell ?_ (by first | (simp; done) | (simp; omega) | omega) _ | refine Below.alloc ?_ (by first | (simp; done) | (simp; omega) | omega) _ | refine Below.drew ?_ | refine Below.trans ?_ (Below.mono (by assumption) (by first | (simp; done) | (simp; omega) | omega))))); have q1_0 : w.heap.size < w1.heap.size := (by omega); have r1_0 : Row w1 (w.heap.size) 24 #[.int .i64 p, .int .i64 land, .int .i64 now, .slice A n c] := row_call (by (repeat (first | assumption | (refine row_new ?_; (first | (simp; done) | omega)) | refine row_alloc ?_ _ | refine row_drew ?_ | refine row_call ?_ (by assumption)))) hb1; obtain ⟨c1_0a, c1_0b, c1_0c, c1_0d, f1_0a, f1_0b, f1_0c, f1_0d⟩ := row_four r1_0; have q1_1 : w.heap.size + 1 < w1.heap.size := (by omega); have r1_1 : Row w1 (w.heap.size + 1) 24 #[.int .i64 0, .int .i64 0, .int .i64 0, .slice none 0 0] := row_call (by (repeat (first | assumption | (refine row_new ?_; (first | (simp; done) | omega)) | refine row_alloc ?_ _ | refine row_drew ?_ | refine row_call ?_ (by assumption)))) hb1; obtain ⟨c1_1a, c1_1b, c1_1c, c1_1d, f1_1a, f1_1b, f1_1c, f1_1d⟩ := row_four r1_1))
  exact bodyPost_ret (v := .tuple #[.agg #[.int .i64 0, .int .i64 0, .int .i64 0, .slice none 0 0], .int .i64 2]) (by simp [results, Try.results17, go_sem, c1_1a, c1_1b, c1_1c, c1_1d]) rfl (pret_zero (by (repeat (first | exact Below.refl _ _ | refine Below.setCell ?_ (by first | (simp; done) | (simp; omega) | omega) _ | refine Below.alloc ?_ (by first | (simp; done) | (simp; omega) | omega) _ | refine Below.drew ?_ | refine Below.trans ?_ (Below.mono (by assumption) (by first | (simp; done) | (simp; omega) | omega))))))
theorem rpadd_low (p land now : Int) (A : Option Addr) (n c : Nat) (ms : List Nat) (v : Int) (w : World) (hin : PIn p land now A n c ms w) (hv : pvalE p land now ms = 0) (h1 : v < 0) : Calls Try.prog 17 #[.agg #[.int .i64 p, .int .i64 land, .int .i64 now, .slice A n c], .int .i64 v] w fun e w' => PRet (qadd p land now ms v) w e w' := by
  rw [qadd_low hv h1]
  have P := fun w1 (hb : Below w.heap.size w w1) => rpval p land now A n c ms w1 (hin.below hb)
  rw [hv] at P
  have P := Lib.hid P
  clear hv hin
  go_enter Try.func17, Try.ntmps17
  go_wp2_with (first | (go_at_call 21; with_reducible refine (P.out _ (by (repeat (first | exact Below.refl _ _ | refine Below.setCell ?_ (by first | (simp; done) | (simp; omega) | omega) _ | refine Below.alloc ?_ (by first | (simp; done) | (simp; omega) | omega) _ | refine Below.drew ?_ | refine Below.trans ?_ (Below.mono (by assumption) (by first | (simp; done) | (simp; omega) | omega)))))).mono ?_; rintro e w1 ⟨rfl, hb1⟩; have hz1 := hb1.size; (try simp at hz1); have o1 : Below w.heap.size w w1 := (by (repeat (first | exact Below.refl _ _ | refine Below.setCell ?_ (by first | (simp; done) | (simp; omega) | omega) _ | refine Below.alloc ?_ (by first | (simp; done) | (simp; omega) | omega) _ | refine Below.drew ?_ | refine Below.trans ?_ (Below.mono (by assumption) (by first | (simp; done) | (simp; omega) | omega))))); have q1_0 : w.heap.size < w1.heap.size := (by omega); have r1_0 : Row w1 (w.heap.size) 24 #[.int .i64 p, .int .i64 land, .int .i64 now, .slice A n c] := row_call (by (repeat (first | assumption | (refine row_new ?_; (first | (simp; done) | omega)) | refine row_alloc ?_ _ | refine row_drew ?_ | refine row_call ?_ (by assumption)))) hb1; obtain ⟨c1_0a, c1_0b, c1_0c, c1_0d, f1_0a, f1_0b, f1_0c, f1_0d⟩ := row_four r1_0; have q1_1 : w.heap.size + 1 < w1.heap.size := (by omega); have r1_1 : Row w1 (w.heap.size + 1) 24 #[.int .i64 0, .int .i64 0, .int .i64 0, .slice none 0 0] := row_call (by (repeat (first | assumption | (refine row_new ?_; (first | (simp; done) | omega)) | refine row_alloc ?_ _ | refine row_drew ?_ | refine row_call ?_ (by assumption)))) hb1; obtain ⟨c1_1a, c1_1b, c1_1c, c1_1d, f1_1a, f1_1b, f1_1c, f1_1d⟩ := row_four r1_1))
  exact bodyPost_ret (v := .tuple #[.agg #[.int .i64 0, .int .i64 0, .int .i64 0, .slice none 0 0], .int .i64 4]) (by simp [results, Try.results17, go_sem, c1_1a, c1_1b, c1_1c, c1_1d]) rfl (pret_zero (by (repeat (first | exact Below.refl _ _ | refine Below.setCell ?_ (by first | (simp; done) | (simp; omega) | omega) _ | refine Below.alloc ?_ (by first | (simp; done) | (simp; omega) | omega) _ | refine Below.drew ?_ | refine Below.trans ?_ (Below.mono (by assumption) (by first | (simp; done) | (simp; omega) | omega))))))
theorem rpadd_high (p land now : Int) (A : Option Addr) (n c : Nat) (ms : List Nat) (v : Int) (w : World) (hin : PIn p land now A n c ms w) (hv : pvalE p land now ms = 0) (h1 : 4096 < v) : Calls Try.prog 17 #[.agg #[.int .i64 p, .int .i64 land, .int .i64 now, .slice A n c], .int .i64 v] w fun e w' => PRet (qadd p land now ms v) w e w' := by
  rw [qadd_high hv h1]
  have P := fun w1 (hb : Below w.heap.size w w1) => rpval p land now A n c ms w1 (hin.below hb)
  rw [hv] at P
  have P := Lib.hid P
  have h2 : 0 ≤ v := by omega
  clear hv hin
  go_enter Try.func17, Try.ntmps17
  go_wp2_with (first | (go_at_call 21; with_reducible refine (P.out _ (by (repeat (first | exact Below.refl _ _ | refine Below.setCell ?_ (by first | (simp; done) | (simp; omega) | omega) _ | refine Below.alloc ?_ (by first | (simp; done) | (simp; omega) | omega) _ | refine Below.drew ?_ | refine Below.trans ?_ (Below.mono (by assumption) (by first | (simp; done) | (simp; omega) | omega)))))).mono ?_; rintro e w1 ⟨rfl, hb1⟩; have hz1 := hb1.size; (try simp at hz1); have o1 : Below w.heap.size w w1 := (by (repeat (first | exact Below.refl _ _ | refine Below.setCell ?_ (by first | (simp; done) | (simp; omega) | omega) _ | refine Below.alloc ?_ (by first | (simp; done) | (simp; omega) | omega) _ | refine Below.drew ?_ | refine Below.trans ?_ (Below.mono (by assumption) (by first | (simp; done) | (simp; omega) | omega))))); have q1_0 : w.heap.size < w1.heap.size := (by omega); have r1_0 : Row w1 (w.heap.size) 24 #[.int .i64 p, .int .i64 land, .int .i64 now, .slice A n c] := row_call (by (repeat (first | assumption | (refine row_new ?_; (first | (simp; done) | omega)) | refine row_alloc ?_ _ | refine row_drew ?_ | refine row_call ?_ (by assumption)))) hb1; obtain ⟨c1_0a, c1_0b, c1_0c, c1_0d, f1_0a, f1_0b, f1_0c, f1_0d⟩ := row_four r1_0; have q1_1 : w.heap.size + 1 < w1.heap.size := (by omega); have r1_1 : Row w1 (w.heap.size + 1) 24 #[.int .i64 0, .int .i64 0, .int .i64 0, .slice none 0 0] := row_call (by (repeat (first | assumption | (refine row_new ?_; (first | (simp; done) | omega)) | refine row_alloc ?_ _ | refine row_drew ?_ | refine row_call ?_ (by assumption)))) hb1; obtain ⟨c1_1a, c1_1b, c1_1c, c1_1d, f1_1a, f1_1b, f1_1c, f1_1d⟩ := row_four r1_1) | (go_at_call 40; refine (rvalue_high _ h1 _).mono ?_; rintro e w9 ⟨rfl, h9⟩; obtain rfl := h9.symm))
  exact bodyPost_ret (v := .tuple #[.agg #[.int .i64 0, .int .i64 0, .int .i64 0, .slice none 0 0], .int .i64 4]) (by simp [results, Try.results17, go_sem, c1_1a, c1_1b, c1_1c, c1_1d]) rfl (pret_zero (by (repeat (first | exact Below.refl _ _ | refine Below.setCell ?_ (by first | (simp; done) | (simp; omega) | omega) _ | refine Below.alloc ?_ (by first | (simp; done) | (simp; omega) | omega) _ | refine Below.drew ?_ | refine Below.trans ?_ (Below.mono (by assumption) (by first | (simp; done) | (simp; omega) | omega))))))
set_option maxHeartbeats 4000000 in
set_option maxRecDepth 100000 in
theorem ppadd_main (p land now : Int) (A : Option Addr) (n c : Nat) (ms : List Nat) (v : Int) (w : World) (hin : PIn p land now A n c ms w) (hv : pvalE p land now ms = 0) (h0 : 0 ≤ v) (h1 : v ≤ 4096) : Calls Try.prog 16 #[.agg #[.int .i64 p, .int .i64 land, .int .i64 now, .slice A n c], .int .i64 v] w fun e w' => PRet (qadd p land now ms v) w e w' := by
  have P := fun w1 (hb : Below w.heap.size w w1) => ppval p land now A n c ms w1 (hin.below hb)
  rw [hv] at P
  have P := Lib.hid P
  obtain ⟨v1, v2, v3, v4, v5, v6, v7, _⟩ := of_pvalE hv
  have HV := Lib.hid hv
  have HR := Lib.hid hin
  have hl := hin.len
  have HL := Lib.hid hl
  have hn5 : n ≤ 5 := by omega
  obtain ⟨vn, rfl⟩ : ∃ vn : Nat, v = (vn : Int) := ⟨v.toNat, by omega⟩
  have hvn : vn ≤ 4096 := by omega
  obtain ⟨a1, a2⟩ := ageN_bound v5 v6 v4
  have ai := ageN_int v6
  generalize hav : ageN land now = av at a1 a2 ai
  have HAV := Lib.hid hav
  have ab' : av < big := by unfold big; omega
  have wa : IntKind.i64.wrap (now - land) = now - land := IntWalk.i64_in _ (by omega)
  have wb : IntKind.i64.wrap (now - land + 1) = now - land + 1 := IntWalk.i64_in _ (by omega)
  have wc : IntKind.u64.wrap (now - land + 1) = (av : Int) := by rw [IntWalk.u64_in _ (by omega)]; omega
  have wv : IntKind.u64.wrap (vn : Int) = (vn : Int) := IntWalk.u64_in _ (by omega)
  have PO := Lib.hid (fun w => pof vn (by omega) w)
  have nv : ¬ (vn : Int) < 0 := by omega
  have nv2 : ¬ 4096 < (vn : Int) := by omega
  clear hv hin hl ai hav
  go_enter Try.func16, Try.ntmps16
  go_upto_region 6 with (first | (go_at_call 20; with_reducible refine (P.out _ (by (repeat (first | exact Below.refl _ _ | refine Below.setCell ?_ (by first | (simp; done) | (simp; omega) | omega) _ | refine Below.alloc ?_ (by first | (simp; done) | (simp; omega) | omega) _ | refine Below.drew ?_ | refine Below.trans ?_ (Below.mono (by assumption) (by first | (simp; done) | (simp; omega) | omega)))))).mono ?_; rintro e w1 ⟨rfl, hb1⟩; have hz1 := hb1.size; (try simp at hz1); have o1 : Below w.heap.size w w1 := (by (repeat (first | exact Below.refl _ _ | refine Below.setCell ?_ (by first | (simp; done) | (simp; omega) | omega) _ | refine Below.alloc ?_ (by first | (simp; done) | (simp; omega) | omega) _ | refine Below.drew ?_ | refine Below.trans ?_ (Below.mono (by assumption) (by first | (simp; done) | (simp; omega) | omega))))); have q1_0 : w.heap.size < w1.heap.size := (by omega); have r1_0 : Row w1 (w.heap.size) 24 #[.int .i64 p, .int .i64 land, .int .i64 now, .slice A n c] := row_call (by (repeat (first | assumption | (refine row_new ?_; (first | (simp; done) | omega)) | refine row_alloc ?_ _ | refine row_drew ?_ | refine row_call ?_ (by assumption)))) hb1; obtain ⟨c1_0a, c1_0b, c1_0c, c1_0d, f1_0a, f1_0b, f1_0c, f1_0d⟩ := row_four r1_0; have q1_1 : w.heap.size + 1 < w1.heap.size := (by omega); have r1_1 : Row w1 (w.heap.size + 1) 24 #[.int .i64 0, .int .i64 0, .int .i64 0, .slice none 0 0] := row_call (by (repeat (first | assumption | (refine row_new ?_; (first | (simp; done) | omega)) | refine row_alloc ?_ _ | refine row_drew ?_ | refine row_call ?_ (by assumption)))) hb1; obtain ⟨c1_1a, c1_1b, c1_1c, c1_1d, f1_1a, f1_1b, f1_1c, f1_1d⟩ := row_four r1_1))
  obtain ⟨w2, hmk, own, hb2⟩ := make_wide w1 .i64 .i64 n (by omega)
  have x := row_call r1_0 hb2
  have y := row_call r1_1 hb2
  have o := o1.trans (hb2.mono o1.size)
  have gx : w.heap.size < w1.heap.size := q1_0
  have gr : w.heap.size + 1 < w1.heap.size := q1_1
  rw [← fill_zero (padT av vn ms) n] at own
  go_upto_region 7 with (fail)
  clear hmk hb2 r1_0 r1_1 o1 hb1 c1_0a c1_0b c1_0c c1_0d f1_0a f1_0b f1_0c f1_0d c1_1a c1_1b c1_1c c1_1d f1_1a f1_1b f1_1c f1_1d P
  generalize hgg : w1.heap.size = g at own gx gr hz1 ⊢
  clear hgg q1_0 q1_1 hz1
  go_wp2
  go_loopw [34] (fun i wr => ∃ j : Nat, j ≤ n ∧ i = .int .i64 (j : Nat) ∧ RowKit.Hid (∀ e, e < j → padT av vn ms e < big) ∧ Own wr 35 2 g n n (wcells (fillN (padT av vn ms) n j)) ∧ Row wr (w.heap.size) 24 #[.int .i64 p, .int .i64 land, .int .i64 now, .slice A n c] ∧ Row wr (w.heap.size + 1) 24 #[.int .i64 0, .int .i64 0, .int .i64 0, .slice none 0 0] ∧ Below w.heap.size w wr) (fun i _ => n - (intOf i).toNat)
  case atStart => exact ⟨0, by omega, rfl, Lib.hid (fun e he => absurd he (by omega)), own, x, y, o⟩
  case round =>
    clear own x y o
    obtain ⟨j, hj, rfl, HA, own, x, y, o⟩ := hrel
    obtain ⟨X0, X1, X2, X3, Xf0, Xf1, Xf2, Xf3⟩ := row_four x
    by_cases hlt : j < n
    · have i1 : (j : Int) < (n : Int) := by omega
      have i2 : (0 : Int) ≤ (j : Int) := by omega
      have PW := fun w => ppow_any av (by omega) (j : Int) (by omega) w
      rw [powIV_nat, powIB_nat, (pow_yes (powN_fits a2 (show j ≤ 4 by omega))).1, (pow_yes (powN_fits a2 (show j ≤ 4 by omega))).2] at PW
      have PM := fun w => pmul (powN av j) vn (powN_fits a2 (by omega)) (by unfold big; omega) w
      rw [(mulV_yes (powT_fits a2 (show j ≤ 4 by omega) hvn)).1, (mulV_yes (powT_fits a2 (show j ≤ 4 by omega) hvn)).2] at PM
      have ub := powT_fits a2 (show j ≤ 4 by omega) hvn
      have hT : padT av vn ms j = momAt ms j + powN av j * vn := rfl
      generalize powN av j * vn = u at PM ub hT
      generalize powN av j = pj at PW PM
      have PW := Lib.hid PW
      have PM := Lib.hid PM
      obtain ⟨ad, rfl, hadb, mx⟩ := HR.out.reads.mom (i := j) hlt
      have mb := HR.out.mB j
      have hx : (j : Int) < (n : Int) := i1
      generalize momAt ms j = m at mx mb hT
      have MX := Lib.hid mx
      have HT := Lib.hid hT
      have HAB : RowKit.Hid ((ad.add (j * 2)).block < w.heap.size) := Lib.hid (by rw [block_of_add]; exact hadb)
      clear mx hT
      go_upto_region 11 with (first | (go_at_call 36; with_reducible refine (PW.out _).mono ?_; rintro e w1 ⟨rfl, hb1⟩; have hz1 := hb1.size; (try simp at hz1)))
      clear X0 X1 X2 X3 Xf0 Xf1 Xf2 Xf3
      replace own := own.call hb1
      replace x := row_call x hb1
      replace y := row_call y hb1
      replace o := o.trans (hb1.mono o.size)
      replace own := own.alloc (.cells #[.int .u64 (hi pj), .int .u64 (lo pj)] 35)
      replace x := row_alloc x (.cells #[.int .u64 (hi pj), .int .u64 (lo pj)] 35)
      replace y := row_alloc y (.cells #[.int .u64 (hi pj), .int .u64 (lo pj)] 35)
      replace o := o.alloc o.size (.cells #[.int .u64 (hi pj), .int .u64 (lo pj)] 35)
      have k1 : Row (w1.alloc (.cells #[.int .u64 (hi pj), .int .u64 (lo pj)] 35)) w1.heap.size 35 #[.int .u64 (hi pj), .int .u64 (lo pj)] := row_new rfl
      generalize w1.alloc (.cells #[.int .u64 (hi pj), .int .u64 (lo pj)] 35) = w2 at own x y o k1 ⊢
      generalize w1.heap.size = b1 at k1 hz1 ⊢
      clear hb1
      refine wp_region_free1 [0, 1, 2, 3, 4, 5, 7, 6] [7] [0, 1, 2, 3, 4, 5, 6, 8] (8, 35, #[.int .u64 0, .int .u64 0]) 11 9 (fun w' => Below w2.heap.size w2 w') (by kernel_rfl) (by kernel_rfl) ⟨_, _, rfl, rfl, rfl, fun ρ w' => by go_simp⟩ rfl (by simp) (fun _ h => h.alloc h.size _) (fun _ _ d _ _ h => by cases d <;> exact h) ?_ ?_
      · exact (Below.refl _ _).drew
      (refine plan_val ?_ rfl rfl rfl (fun w' hS => ?_) ?_; rotate_left; (obtain ⟨Q0, Q1, Qf0, Qf1⟩ := row_two (row_call k1 hS); go_simp; try with_reducible rfl); simp only [Act.put, List.setIfInBounds_toArray, List.set_cons_zero, List.set_cons_succ])
      (refine plan_pure ?_ rfl rfl (fun w' => ?_) ?_; rotate_left; (go_simp; try with_reducible rfl); simp only [Act.put, List.setIfInBounds_toArray, List.set_cons_zero, List.set_cons_succ])
      (refine plan_pure ?_ rfl rfl (fun w' => ?_) ?_; rotate_left; (go_simp; try with_reducible rfl); simp only [Act.put, List.setIfInBounds_toArray, List.set_cons_zero, List.set_cons_succ])
      refine plan_call (W vn) 38 #[.int .u64 (vn : Nat)] rfl rfl rfl (fun _ _ h hb => h.trans (hb.mono h.size)) (fun w' hS => by obtain ⟨Q0, Q1, Qf0, Qf1⟩ := row_two (row_call k1 hS); go_simp) (fun w' hS => PO.out w') ?_
      simp only [Act.put, List.setIfInBounds_toArray, List.set_cons_zero, List.set_cons_succ]
      refine plan_call (.tuple #[W u, .bool true]) 37 #[W pj, W vn] rfl rfl rfl (fun _ _ h hb => h.trans (hb.mono h.size)) (fun w' hS => by obtain ⟨Q0, Q1, Qf0, Qf1⟩ := row_two (row_call k1 hS); go_simp) (fun w' hS => PM.out w') ?_
      simp only [Act.put, List.setIfInBounds_toArray, List.set_cons_zero, List.set_cons_succ]
      (refine plan_pure ?_ rfl rfl (fun w' => ?_) ?_; rotate_left; (go_simp; try with_reducible rfl); simp only [Act.put, List.setIfInBounds_toArray, List.set_cons_zero, List.set_cons_succ])
      (refine plan_pure ?_ rfl rfl (fun w' => ?_) ?_; rotate_left; (go_simp; try with_reducible rfl); simp only [Act.put, List.setIfInBounds_toArray, List.set_cons_zero, List.set_cons_succ])
      (refine plan_pure ?_ rfl rfl (fun w' => ?_) ?_; rotate_left; (go_simp; try with_reducible rfl); simp only [Act.put, List.setIfInBounds_toArray, List.set_cons_zero, List.set_cons_succ])
      refine plan_nil ?_
      intro g8 w3 L3 hr8 hg8
      simp only [List.drop_succ_cons, List.drop_zero]
      try simp only [Act.put, List.setIfInBounds_toArray, List.set_cons_zero, List.set_cons_succ]
      have zk1 := row_lt k1
      have zown := own.lt
      have zx := row_lt x
      have zy := row_lt y
      have zo := o.size
      replace own := own.call L3
      replace x := row_call x L3
      replace y := row_call y L3
      replace o := o.trans (L3.mono o.size)
      clear k1 L3
      obtain ⟨Q0, Q1, Qf0, Qf1⟩ := row_two hr8
      go_upto_region 12 with (fail)
      clear Q0 Q1 Qf0 Qf1
      replace own := own.other (p := ⟨g8, 0, none⟩) (by show g ≠ g8; omega) (.int .u64 (hi u))
      replace x := row_other (p := ⟨g8, 0, none⟩) x (by show w.heap.size ≠ g8; omega) (.int .u64 (hi u))
      replace y := row_other (p := ⟨g8, 0, none⟩) y (by show w.heap.size + 1 ≠ g8; omega) (.int .u64 (hi u))
      replace o := o.setCell (p := ⟨g8, 0, none⟩) (by show w.heap.size ≤ g8; omega) (.int .u64 (hi u))
      replace own := own.other (p := ⟨g8, 1, none⟩) (by show g ≠ g8; omega) (.int .u64 (lo u))
      replace x := row_other (p := ⟨g8, 1, none⟩) x (by show w.heap.size ≠ g8; omega) (.int .u64 (lo u))
      replace y := row_other (p := ⟨g8, 1, none⟩) y (by show w.heap.size + 1 ≠ g8; omega) (.int .u64 (lo u))
      replace o := o.setCell (p := ⟨g8, 1, none⟩) (by show w.heap.size ≤ g8; omega) (.int .u64 (lo u))
      have k2 := row_two_set (u := .int .u64 (hi u)) (v := .int .u64 (lo u)) hr8
      generalize ((w3.setCell ⟨g8, 0, none⟩ (.int .u64 (hi u))).setCell ⟨g8, 1, none⟩ (.int .u64 (lo u))) = w6 at own x y o k2 ⊢
      clear hr8 zk1 zown zx zy zo
      obtain ⟨Q0, Q1, Qf0, Qf1⟩ := row_two k2
      by_cases hs : m + u < big
      · have PA := fun w => padd_fits m u mb ub hs w
        generalize hsu : m + u = s at PA hs
        have PA := Lib.hid PA
        have HS : RowKit.Hid (padT av vn ms j = s) := Lib.hid (by rw [HT.out]; exact hsu)
        have HB := Lib.hid (fun e (he : e < j + 1) => by
          rcases Nat.lt_or_ge e j with q | q
          · exact HA.out e q
          · rw [show e = j by omega, HS.out]; exact hs)
        clear hsu
        go_upto_region 12 with (fail)
        clear Q0 Q1 Qf0 Qf1
        refine wp_region_free1 [0, 1, 2, 3, 4, 5, 6, 7, 9, 8] [9] [0, 1, 2, 3, 4, 5, 6, 7, 8, 10] (10, 35, #[.int .u64 0, .int .u64 0]) 13 11 (fun w' => Below w6.heap.size w6 w') (by kernel_rfl) (by kernel_rfl) ⟨_, _, rfl, rfl, rfl, fun ρ w' => by go_simp⟩ rfl (by simp) (fun _ h => h.alloc h.size _) (fun _ _ d _ _ h => by cases d <;> exact h) ?_ ?_
        · exact (Below.refl _ _).drew
        (refine plan_pure ?_ rfl rfl (fun w' => ?_) ?_; rotate_left; (go_simp; try with_reducible rfl); simp only [Act.put, List.setIfInBounds_toArray, List.set_cons_zero, List.set_cons_succ])
        (refine plan_val ?_ rfl rfl rfl (fun w' hS => ?_) ?_; rotate_left; (obtain ⟨X0, X1, X2, X3, Xf0, Xf1, Xf2, Xf3⟩ := row_four (row_call x hS); obtain ⟨Q0, Q1, Qf0, Qf1⟩ := row_two (row_call k2 hS); obtain ⟨p0, p1⟩ := MX.out.below (o.trans (hS.mono o.size)) HAB.out; go_simp; try with_reducible rfl); simp only [Act.put, List.setIfInBounds_toArray, List.set_cons_zero, List.set_cons_succ])
        (refine plan_pure ?_ rfl rfl (fun w' => ?_) ?_; rotate_left; (go_simp; try with_reducible rfl); simp only [Act.put, List.setIfInBounds_toArray, List.set_cons_zero, List.set_cons_succ])
        (refine plan_pure ?_ rfl rfl (fun w' => ?_) ?_; rotate_left; (go_simp; try with_reducible rfl); simp only [Act.put, List.setIfInBounds_toArray, List.set_cons_zero, List.set_cons_succ])
        (refine plan_val ?_ rfl rfl rfl (fun w' hS => ?_) ?_; rotate_left; (obtain ⟨X0, X1, X2, X3, Xf0, Xf1, Xf2, Xf3⟩ := row_four (row_call x hS); obtain ⟨Q0, Q1, Qf0, Qf1⟩ := row_two (row_call k2 hS); obtain ⟨p0, p1⟩ := MX.out.below (o.trans (hS.mono o.size)) HAB.out; go_simp; try with_reducible rfl); simp only [Act.put, List.setIfInBounds_toArray, List.set_cons_zero, List.set_cons_succ])
        (refine plan_val ?_ rfl rfl rfl (fun w' hS => ?_) ?_; rotate_left; (obtain ⟨X0, X1, X2, X3, Xf0, Xf1, Xf2, Xf3⟩ := row_four (row_call x hS); obtain ⟨Q0, Q1, Qf0, Qf1⟩ := row_two (row_call k2 hS); obtain ⟨p0, p1⟩ := MX.out.below (o.trans (hS.mono o.size)) HAB.out; go_simp; try with_reducible rfl); simp only [Act.put, List.setIfInBounds_toArray, List.set_cons_zero, List.set_cons_succ])
        refine plan_call (.tuple #[W s, .bool true]) 39 #[W m, W u] rfl rfl rfl (fun _ _ h hb => h.trans (hb.mono h.size)) (fun w' hS => by obtain ⟨X0, X1, X2, X3, Xf0, Xf1, Xf2, Xf3⟩ := row_four (row_call x hS); obtain ⟨Q0, Q1, Qf0, Qf1⟩ := row_two (row_call k2 hS); obtain ⟨p0, p1⟩ := MX.out.below (o.trans (hS.mono o.size)) HAB.out; go_simp) (fun w' hS => PA.out w') ?_
        simp only [Act.put, List.setIfInBounds_toArray, List.set_cons_zero, List.set_cons_succ]
        (refine plan_pure ?_ rfl rfl (fun w' => ?_) ?_; rotate_left; (go_simp; try with_reducible rfl); simp only [Act.put, List.setIfInBounds_toArray, List.set_cons_zero, List.set_cons_succ])
        (refine plan_pure ?_ rfl rfl (fun w' => ?_) ?_; rotate_left; (go_simp; try with_reducible rfl); simp only [Act.put, List.setIfInBounds_toArray, List.set_cons_zero, List.set_cons_succ])
        (refine plan_pure ?_ rfl rfl (fun w' => ?_) ?_; rotate_left; (go_simp; try with_reducible rfl); simp only [Act.put, List.setIfInBounds_toArray, List.set_cons_zero, List.set_cons_succ])
        refine plan_nil ?_
        intro g9 w7 L7 hr9 hg9
        simp only [List.drop_succ_cons, List.drop_zero]
        try simp only [Act.put, List.setIfInBounds_toArray, List.set_cons_zero, List.set_cons_succ]
        have zk2 := row_lt k2
        have zown := own.lt
        have zx := row_lt x
        have zy := row_lt y
        have zo := o.size
        replace own := own.call L7
        replace x := row_call x L7
        replace y := row_call y L7
        replace o := o.trans (L7.mono o.size)
        clear k2 L7
        obtain ⟨R0, R1, Rf0, Rf1⟩ := row_two hr9
        go_upto_region 13 with (fail)
        clear R0 R1 Rf0 Rf1
        replace own := own.other (p := ⟨g9, 0, none⟩) (by show g ≠ g9; omega) (.int .u64 (hi s))
        replace x := row_other (p := ⟨g9, 0, none⟩) x (by show w.heap.size ≠ g9; omega) (.int .u64 (hi s))
        replace y := row_other (p := ⟨g9, 0, none⟩) y (by show w.heap.size + 1 ≠ g9; omega) (.int .u64 (hi s))
        replace o := o.setCell (p := ⟨g9, 0, none⟩) (by show w.heap.size ≤ g9; omega) (.int .u64 (hi s))
        replace own := own.other (p := ⟨g9, 1, none⟩) (by show g ≠ g9; omega) (.int .u64 (lo s))
        replace x := row_other (p := ⟨g9, 1, none⟩) x (by show w.heap.size ≠ g9; omega) (.int .u64 (lo s))
        replace y := row_other (p := ⟨g9, 1, none⟩) y (by show w.heap.size + 1 ≠ g9; omega) (.int .u64 (lo s))
        replace o := o.setCell (p := ⟨g9, 1, none⟩) (by show w.heap.size ≤ g9; omega) (.int .u64 (lo s))
        have k3 := row_two_set (u := .int .u64 (hi s)) (v := .int .u64 (lo s)) hr9
        generalize ((w7.setCell ⟨g9, 0, none⟩ (.int .u64 (hi s))).setCell ⟨g9, 1, none⟩ (.int .u64 (lo s))) = w8 at own x y o k3 ⊢
        clear hr9
        obtain ⟨R0, R1, Rf0, Rf1⟩ := row_two k3
        obtain ⟨Y0, Y1, Y2, Y3, Yf0, Yf1, Yf2, Yf3⟩ := row_four y
        obtain ⟨t0, t1⟩ := own.mom hlt
        have t2 := own.free (j * 2)
        have t3 := own.free (j * 2 + 1)
        have zg := own.lt
        go_upto_region 16 with (fail)
        replace own := own.setW j s
        rw [show (fillN (padT av vn ms) n j).set j s = fillN (padT av vn ms) n (j + 1) from by rw [← HS.out]; exact fill_step _ hlt] at own
        replace x := row_other (p := ⟨g, j * 2, none⟩) x (by show w.heap.size ≠ g; omega) (.int .u64 (hi s))
        replace y := row_other (p := ⟨g, j * 2, none⟩) y (by show w.heap.size + 1 ≠ g; omega) (.int .u64 (hi s))
        replace o := o.setCell (p := ⟨g, j * 2, none⟩) (by show w.heap.size ≤ g; omega) (.int .u64 (hi s))
        replace x := row_other (p := ⟨g, j * 2 + 1, none⟩) x (by show w.heap.size ≠ g; omega) (.int .u64 (lo s))
        replace y := row_other (p := ⟨g, j * 2 + 1, none⟩) y (by show w.heap.size + 1 ≠ g; omega) (.int .u64 (lo s))
        replace o := o.setCell (p := ⟨g, j * 2 + 1, none⟩) (by show w.heap.size ≤ g; omega) (.int .u64 (lo s))
        generalize ((w8.setCell ⟨g, j * 2, none⟩ (.int .u64 (hi s))).setCell ⟨g, j * 2 + 1, none⟩ (.int .u64 (lo s))) = w10 at own x y o ⊢
        clear t0 t1 t2 t3 R0 R1 Rf0 Rf1 Y0 Y1 Y2 Y3 Yf0 Yf1 Yf2 Yf3 k3
        go_wp2
        go_roundw
        case rel => exact ⟨j + 1, by omega, by go_num, HB, own, x, y, o⟩
        case measure => simp [intOf]; omega
      · have PA := Lib.hid (fun w => padd_over m u mb ub hs w)
        have E := Lib.hid (qadd_over HV.out h0 h1 (by rw [Int.toNat_natCast, HAV.out, HL.out]; exact fitB_no hlt (by rw [HT.out]; exact hs)))
        clear hs
        go_upto_region 12 with (fail)
        clear Q0 Q1 Qf0 Qf1
        refine wp_region_free1 [0, 1, 2, 3, 4, 5, 6, 7, 9, 8] [9] [0, 1, 2, 3, 4, 5, 6, 7, 8, 10] (10, 35, #[.int .u64 0, .int .u64 0]) 13 11 (fun w' => Below w6.heap.size w6 w') (by kernel_rfl) (by kernel_rfl) ⟨_, _, rfl, rfl, rfl, fun ρ w' => by go_simp⟩ rfl (by simp) (fun _ h => h.alloc h.size _) (fun _ _ d _ _ h => by cases d <;> exact h) ?_ ?_
        · exact (Below.refl _ _).drew
        (refine plan_pure ?_ rfl rfl (fun w' => ?_) ?_; rotate_left; (go_simp; try with_reducible rfl); simp only [Act.put, List.setIfInBounds_toArray, List.set_cons_zero, List.set_cons_succ])
        (refine plan_val ?_ rfl rfl rfl (fun w' hS => ?_) ?_; rotate_left; (obtain ⟨X0, X1, X2, X3, Xf0, Xf1, Xf2, Xf3⟩ := row_four (row_call x hS); obtain ⟨Q0, Q1, Qf0, Qf1⟩ := row_two (row_call k2 hS); obtain ⟨p0, p1⟩ := MX.out.below (o.trans (hS.mono o.size)) HAB.out; go_simp; try with_reducible rfl); simp only [Act.put, List.setIfInBounds_toArray, List.set_cons_zero, List.set_cons_succ])
        (refine plan_pure ?_ rfl rfl (fun w' => ?_) ?_; rotate_left; (go_simp; try with_reducible rfl); simp only [Act.put, List.setIfInBounds_toArray, List.set_cons_zero, List.set_cons_succ])
        (refine plan_pure ?_ rfl rfl (fun w' => ?_) ?_; rotate_left; (go_simp; try with_reducible rfl); simp only [Act.put, List.setIfInBounds_toArray, List.set_cons_zero, List.set_cons_succ])
        (refine plan_val ?_ rfl rfl rfl (fun w' hS => ?_) ?_; rotate_left; (obtain ⟨X0, X1, X2, X3, Xf0, Xf1, Xf2, Xf3⟩ := row_four (row_call x hS); obtain ⟨Q0, Q1, Qf0, Qf1⟩ := row_two (row_call k2 hS); obtain ⟨p0, p1⟩ := MX.out.below (o.trans (hS.mono o.size)) HAB.out; go_simp; try with_reducible rfl); simp only [Act.put, List.setIfInBounds_toArray, List.set_cons_zero, List.set_cons_succ])
        (refine plan_val ?_ rfl rfl rfl (fun w' hS => ?_) ?_; rotate_left; (obtain ⟨X0, X1, X2, X3, Xf0, Xf1, Xf2, Xf3⟩ := row_four (row_call x hS); obtain ⟨Q0, Q1, Qf0, Qf1⟩ := row_two (row_call k2 hS); obtain ⟨p0, p1⟩ := MX.out.below (o.trans (hS.mono o.size)) HAB.out; go_simp; try with_reducible rfl); simp only [Act.put, List.setIfInBounds_toArray, List.set_cons_zero, List.set_cons_succ])
        refine plan_call (.tuple #[W 0, .bool false]) 39 #[W m, W u] rfl rfl rfl (fun _ _ h hb => h.trans (hb.mono h.size)) (fun w' hS => by obtain ⟨X0, X1, X2, X3, Xf0, Xf1, Xf2, Xf3⟩ := row_four (row_call x hS); obtain ⟨Q0, Q1, Qf0, Qf1⟩ := row_two (row_call k2 hS); obtain ⟨p0, p1⟩ := MX.out.below (o.trans (hS.mono o.size)) HAB.out; go_simp) (fun w' hS => PA.out w') ?_
        simp only [Act.put, List.setIfInBounds_toArray, List.set_cons_zero, List.set_cons_succ]
        (refine plan_pure ?_ rfl rfl (fun w' => ?_) ?_; rotate_left; (go_simp; try with_reducible rfl); simp only [Act.put, List.setIfInBounds_toArray, List.set_cons_zero, List.set_cons_succ])
        (refine plan_pure ?_ rfl rfl (fun w' => ?_) ?_; rotate_left; (go_simp; try with_reducible rfl); simp only [Act.put, List.setIfInBounds_toArray, List.set_cons_zero, List.set_cons_succ])
        (refine plan_pure ?_ rfl rfl (fun w' => ?_) ?_; rotate_left; (go_simp; try with_reducible rfl); simp only [Act.put, List.setIfInBounds_toArray, List.set_cons_zero, List.set_cons_succ])
        refine plan_nil ?_
        intro g9 w7 L7 hr9 hg9
        simp only [List.drop_succ_cons, List.drop_zero]
        try simp only [Act.put, List.setIfInBounds_toArray, List.set_cons_zero, List.set_cons_succ]
        have zk2 := row_lt k2
        have zown := own.lt
        have zx := row_lt x
        have zy := row_lt y
        have zo := o.size
        replace own := own.call L7
        replace x := row_call x L7
        replace y := row_call y L7
        replace o := o.trans (L7.mono o.size)
        clear k2 L7
        obtain ⟨R0, R1, Rf0, Rf1⟩ := row_two hr9
        go_upto_region 13 with (fail)
        clear R0 R1 Rf0 Rf1
        replace own := own.other (p := ⟨g9, 0, none⟩) (by show g ≠ g9; omega) (.int .u64 (hi 0))
        replace x := row_other (p := ⟨g9, 0, none⟩) x (by show w.heap.size ≠ g9; omega) (.int .u64 (hi 0))
        replace y := row_other (p := ⟨g9, 0, none⟩) y (by show w.heap.size + 1 ≠ g9; omega) (.int .u64 (hi 0))
        replace o := o.setCell (p := ⟨g9, 0, none⟩) (by show w.heap.size ≤ g9; omega) (.int .u64 (hi 0))
        replace own := own.other (p := ⟨g9, 1, none⟩) (by show g ≠ g9; omega) (.int .u64 (lo 0))
        replace x := row_other (p := ⟨g9, 1, none⟩) x (by show w.heap.size ≠ g9; omega) (.int .u64 (lo 0))
        replace y := row_other (p := ⟨g9, 1, none⟩) y (by show w.heap.size + 1 ≠ g9; omega) (.int .u64 (lo 0))
        replace o := o.setCell (p := ⟨g9, 1, none⟩) (by show w.heap.size ≤ g9; omega) (.int .u64 (lo 0))
        have k3 := row_two_set (u := .int .u64 (hi 0)) (v := .int .u64 (lo 0)) hr9
        generalize ((w7.setCell ⟨g9, 0, none⟩ (.int .u64 (hi 0))).setCell ⟨g9, 1, none⟩ (.int .u64 (lo 0))) = w8 at own x y o k3 ⊢
        clear hr9
        obtain ⟨R0, R1, Rf0, Rf1⟩ := row_two k3
        obtain ⟨Y0, Y1, Y2, Y3, Yf0, Yf1, Yf2, Yf3⟩ := row_four y
        go_wp2
        exact bodyPost_ret (v := .tuple #[.agg #[.int .i64 0, .int .i64 0, .int .i64 0, .slice none 0 0], .int .i64 6]) (by simp [results, Try.results16, go_sem, Y0, Y1, Y2, Y3]) rfl (by rw [E.out]; exact pret_zero (by (repeat (first | exact Below.refl _ _ | refine Below.setCell ?_ (by first | (simp; done) | (simp; omega) | omega) _ | refine Below.alloc ?_ (by first | (simp; done) | (simp; omega) | omega) _ | refine Below.drew ?_ | refine Below.trans ?_ (Below.mono (by assumption) (by first | (simp; done) | (simp; omega) | omega))))))
    · have i1 : ¬ (j : Int) < (n : Int) := by omega
      obtain rfl : j = n := by omega
      have E := Lib.hid (qadd_ok HV.out h0 h1 (by rw [Int.toNat_natCast, HAV.out, HL.out]; exact fitB_yes HA.out))
      rw [fill_all] at own
      obtain ⟨Y0, Y1, Y2, Y3, Yf0, Yf1, Yf2, Yf3⟩ := row_four y
      go_wp2
      have ow := own_four (b := w.heap.size + 1) (own.other (p := ⟨w.heap.size, 3, none⟩) (by show g ≠ w.heap.size; omega) (.slice (some ⟨g, 0, none⟩) j j)) (by omega) (.int .i64 p) (.int .i64 land) (.int .i64 now) (.slice (some ⟨g, 0, none⟩) j j)
      have ob := below_four (b := w.heap.size + 1) (o.setCell (p := ⟨w.heap.size, 3, none⟩) (by simp) (.slice (some ⟨g, 0, none⟩) j j)) (by omega) (.int .i64 p) (.int .i64 land) (.int .i64 now) (.slice (some ⟨g, 0, none⟩) j j)
      exact bodyPost_ret (v := .tuple #[.agg #[.int .i64 p, .int .i64 land, .int .i64 now, .slice (some ⟨g, 0, none⟩) j j], .int .i64 0]) (by simp [results, Try.results16, go_sem, Y0, Y1, Y2, Y3]) rfl (by rw [E.out, Int.toNat_natCast, HAV.out, HL.out]; exact pret_own ow (by omega) (by omega) (by omega) (upto_big HA.out) ob (by omega))
theorem ppadd (p land now : Int) (A : Option Addr) (n c : Nat) (ms : List Nat) (v : Int) (w : World) (hin : PIn p land now A n c ms w) : Calls Try.prog 16 #[.agg #[.int .i64 p, .int .i64 land, .int .i64 now, .slice A n c], .int .i64 v] w fun e w' => PRet (qadd p land now ms v) w e w' := by
  rcases pvalE_two (p := p) (land := land) (now := now) (ms := ms) with hv | hv
  · by_cases h0 : v < 0
    · exact ppadd_low p land now A n c ms v w hin hv h0
    · by_cases h1 : 4096 < v
      · exact ppadd_high p land now A n c ms v w hin hv h1
      · exact ppadd_main p land now A n c ms v w hin hv (by omega) (by omega)
  · exact ppadd_bad p land now A n c ms v w hin hv
end Go.Proofs.Ytejoomlaanmbkaa
