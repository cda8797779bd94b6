/- Greatest common divisors, and division by 0, walked: the program and the reference. -/
import Derived.Test.YtaiepjcnncajcaaDiv
import Derived.Test.YtaiepjcnncajcaaRDiv
import Derived.Test.YtaiepjcnncajcaaBase
import Derived.Deep.LoopGhost
set_option linter.unusedVariables false
set_option linter.unusedSimpArgs false
set_option linter.unusedSectionVars false
set_option linter.unnecessarySimpa false
namespace Go.Proofs.Ytaiepjcnncajcaa
open Go.RowKit Go.Shelf
theorem run_neq_zero {b : Nat} (h : b ≠ 0) (w' : World) : (binOp .neq 72 (.agg #[.int .u64 (hi b), .int .u64 (lo b)]) (.agg #[.int .u64 0, .int .u64 0])).run Try.prog w' = .ok (.bool true) w' := by
  go_simp
  exact fun h1 h2 => h (hi_inj (b := 0) h1 h2)
theorem run_eql_zero {b : Nat} (h : b ≠ 0) (w' : World) : (binOp .eql 72 (.agg #[.int .u64 (hi b), .int .u64 (lo b)]) (.agg #[.int .u64 0, .int .u64 0])).run Try.prog w' = .ok (.bool false) w' := by
  go_simp
  exact fun h1 h2 => h (hi_inj (b := 0) h1 h2)
theorem pdiv_no (a : Nat) (w : World) :
    Calls Try.prog 107 #[W a, W 0] w fun e w' => e = .returned (.tuple #[W 0, W 0, .bool false]) ∧ Below w.heap.size w w' := by
  go_enter Try.func107, Try.ntmps107
  go_wp2_with (go_at_call 112; refine (pzero 0 _).mono ?_; rintro e w1 ⟨rfl, hb1⟩; obtain ⟨hc1, hf1⟩ := bcell hb1; have hz1 := hb1.size; (try simp at hz1); have q1_0 : w.heap.size < w1.heap.size := (by omega); have q1_1 : w.heap.size + 1 < w1.heap.size := (by omega); have q1_2 : w.heap.size + 1 + 1 < w1.heap.size := (by omega); have q1_3 : w.heap.size + 1 + 1 + 1 < w1.heap.size := (by omega))
  simp [bodyPost, results, Try.results107, go_sem, hc1]
  refine ⟨⟨rfl, rfl⟩, ?_⟩
  (repeat (first | exact Below.refl _ _ | refine Below.setCell ?_ (by first | (simp; done) | (simp; omega) | omega) _ | refine Below.alloc ?_ (by first | (simp; done) | (simp; omega) | omega) _ | refine Below.drew ?_ | refine Below.trans ?_ (Below.mono (by assumption) (by first | (simp; done) | (simp; omega) | omega))))
theorem rdiv_no (a : Nat) (w : World) :
    Calls Try.prog 109 #[W a, W 0] w fun e w' => e = .returned (.tuple #[W 0, W 0, .bool false]) ∧ Below w.heap.size w w' := by
  have T0 := hi_0
  have T1 := lo_0
  go_enter Try.func109, Try.ntmps109
  go_wp2
  simp [bodyPost, results, Try.results109, go_sem, T0, T1]
  (repeat (first | exact Below.refl _ _ | refine Below.setCell ?_ (by first | (simp; done) | (simp; omega) | omega) _ | refine Below.alloc ?_ (by first | (simp; done) | (simp; omega) | omega) _ | refine Below.drew ?_ | refine Below.trans ?_ (Below.mono (by assumption) (by first | (simp; done) | (simp; omega) | omega))))
/-- The state of the search for a divisor. -/
def GcdS (w w' : World) (a b x y : Nat) : Prop := x < big ∧ y < big ∧ Nat.gcd x y = Nat.gcd a b ∧ Row w' (w.heap.size) 72 (Wc x) ∧ Row w' (w.heap.size + 1) 72 (Wc y) ∧ Row w' (w.heap.size + 1 + 1) 72 #[.int .u64 0, .int .u64 0] ∧ Below w.heap.size w w'
theorem GcdS.call {w w' w'' : World} {a b x y : Nat} (h : GcdS w w' a b x y) (k : Below w'.heap.size w' w'') : GcdS w w'' a b x y :=
  ⟨h.1, h.2.1, h.2.2.1, row_call h.2.2.2.1 k, row_call h.2.2.2.2.1 k, row_call h.2.2.2.2.2.1 k, h.2.2.2.2.2.2.trans (k.mono h.2.2.2.2.2.2.size)⟩
theorem GcdS.drew {w w' : World} {a b x y : Nat} (h : GcdS w w' a b x y) : GcdS w w'.drew a b x y := ⟨h.1, h.2.1, h.2.2.1, h.2.2.2.1, h.2.2.2.2.1, h.2.2.2.2.2.1, h.2.2.2.2.2.2.drew⟩
theorem GcdS.step {w w' : World} {a b x y : Nat} (h : GcdS w w' a b x y) (hy : y ≠ 0) : GcdS w ((((w'.setCell ⟨w.heap.size, 0, none⟩ (.int .u64 (hi y))).setCell ⟨w.heap.size, 1, none⟩ (.int .u64 (lo y))).setCell ⟨w.heap.size + 1, 0, none⟩ (.int .u64 (hi (x % y)))).setCell ⟨w.heap.size + 1, 1, none⟩ (.int .u64 (lo (x % y)))) a b y (x % y) := by
  obtain ⟨h1, h2, h3, h4, h5, h6, h7⟩ := h
  refine ⟨h2, Nat.lt_trans (Nat.mod_lt _ (by omega)) h2, ?_, row_two_other (row_two_set h4) (by omega), row_two_set (row_two_other h5 (by omega)), row_two_other (row_two_other h6 (by omega)) (by omega), ?_⟩
  · rw [← h3, Nat.gcd_comm x y, Nat.gcd_rec y x, Nat.gcd_comm]
  · exact (((h7.setCell (by simp) _).setCell (by simp) _).setCell (by simp) _).setCell (by simp) _
set_option maxHeartbeats 2000000 in
theorem pgcd (a b : Nat) (ha : a < big) (hb : b < big) (w : World) :
    Calls Try.prog 95 #[W a, W b] w fun e w' => e = .returned (W (Nat.gcd a b)) ∧ Below w.heap.size w w' := by
  go_enter Try.func95, Try.ntmps95
  go_wp2_with fail
  have L : GcdS w (((w.alloc (.cells (Wc a) 72)).alloc (.cells (Wc b) 72)).alloc (.cells #[.int .u64 0, .int .u64 0] 72)) a b a b := by
    refine ⟨ha, hb, rfl, ?_, ?_, ?_, ?_⟩
    · (repeat (first | assumption | (refine row_new ?_; (first | (simp; done) | omega)) | refine row_alloc ?_ _ | refine row_drew ?_ | refine row_call ?_ (by assumption)))
    · (repeat (first | assumption | (refine row_new ?_; (first | (simp; done) | omega)) | refine row_alloc ?_ _ | refine row_drew ?_ | refine row_call ?_ (by assumption)))
    · (repeat (first | assumption | (refine row_new ?_; (first | (simp; done) | omega)) | refine row_alloc ?_ _ | refine row_drew ?_ | refine row_call ?_ (by assumption)))
    · (repeat (first | exact Below.refl _ _ | refine Below.setCell ?_ (by first | (simp; done) | (simp; omega) | omega) _ | refine Below.alloc ?_ (by first | (simp; done) | (simp; omega) | omega) _ | refine Below.drew ?_ | refine Below.trans ?_ (Below.mono (by assumption) (by first | (simp; done) | (simp; omega) | omega))))
  generalize (((w.alloc (.cells (Wc a) 72)).alloc (.cells (Wc b) 72)).alloc (.cells #[.int .u64 0, .int .u64 0] 72)) = w2 at L ⊢
  go_loopg [] b (fun y wr => ∃ x, GcdS w wr a b x y)
  case atStart => exact ⟨a, L⟩
  case round =>
    clear L
    obtain ⟨x, L⟩ := hrel
    have hx := L.1
    have hy := L.2.1
    have HG := Lib.hid L.2.2.1
    by_cases h0 : gk = 0
    · subst h0
      have L1 := L.2.2.2
      obtain ⟨A00, A01, A02, A03⟩ := row_two L1.1; obtain ⟨A10, A11, A12, A13⟩ := row_two L1.2.1; obtain ⟨A20, A21, A22, A23⟩ := row_two L1.2.2.1
      go_upto_region 4 with (go_at_call 112; refine (pzero 0 _).mono ?_; rintro e w2 ⟨rfl, hb2⟩; obtain ⟨hc2, hf2⟩ := bcell hb2; have hz2 := hb2.size; (try simp at hz2))
      have M0 := row_call L1.1 hb2
      have M2 := row_call L1.2.2.1 hb2
      have B2 := L1.2.2.2.trans (hb2.mono L1.2.2.2.size)
      obtain ⟨C0, C1, _, _⟩ := row_two M0
      obtain ⟨D0, D1, D2, D3⟩ := row_two M2
      have e : Nat.gcd a b = x := by rw [← HG.out, Nat.gcd_zero_right]
      clear L L1 A00 A01 A02 A03 A10 A11 A12 A13 A20 A21 A22 A23 hb2 hc2 hf2
      go_wp2
      simp [bodyPost, results, Try.results95, go_sem, D0, D1, e]
      (repeat (first | exact Below.refl _ _ | refine Below.setCell ?_ (by first | (simp; done) | (simp; omega) | omega) _ | refine Below.alloc ?_ (by first | (simp; done) | (simp; omega) | omega) _ | refine Below.drew ?_ | refine Below.trans ?_ (Below.mono (by assumption) (by first | (simp; done) | (simp; omega) | omega))))
    · have hz : decide (gk = 0) = false := by simpa using h0
      have hq := run_eql_zero h0
      have L1 := L.2.2.2
      obtain ⟨A00, A01, A02, A03⟩ := row_two L1.1; obtain ⟨A10, A11, A12, A13⟩ := row_two L1.2.1; obtain ⟨A20, A21, A22, A23⟩ := row_two L1.2.2.1
      go_upto_region 2 with (go_at_call 112; refine (pzero gk _).mono ?_; rintro e w2 ⟨rfl, hb2⟩; obtain ⟨hc2, hf2⟩ := bcell hb2; have hz2 := hb2.size; (try simp at hz2))
      have L3 := L.call hb2
      clear L L1 A00 A01 A02 A03 A10 A11 A12 A13 A20 A21 A22 A23 hb2 hc2 hf2 hz2
      have L1 := L3.2.2.2
      obtain ⟨A00, A01, A02, A03⟩ := row_two L1.1; obtain ⟨A10, A11, A12, A13⟩ := row_two L1.2.1; obtain ⟨A20, A21, A22, A23⟩ := row_two L1.2.2.1
      clear hq hz
      have HD := Lib.hid (fun w' => pdiv_yes x gk hx hy h0 w')
      go_wp2_with fail
      refine (HD.out _).mono ?_
      rintro e w4 ⟨rfl, hb4⟩
      have L4 := L3.call hb4
      clear L3 L1 A00 A01 A02 A03 A10 A11 A12 A13 A20 A21 A22 A23 hb4
      have L1 := L4.2.2.2
      obtain ⟨A00, A01, A02, A03⟩ := row_two L1.1; obtain ⟨A10, A11, A12, A13⟩ := row_two L1.2.1; obtain ⟨A20, A21, A22, A23⟩ := row_two L1.2.2.1
      have s4 := row_lt L1.2.2.1
      have L5 : GcdS w ((w4.alloc (.cells (Wc (x / gk)) 72)).alloc (.cells (Wc (x % gk)) 72)) a b x gk :=
        ⟨L4.1, L4.2.1, L4.2.2.1, row_alloc (row_alloc L1.1 _) _, row_alloc (row_alloc L1.2.1 _) _, row_alloc (row_alloc L1.2.2.1 _) _, (L1.2.2.2.alloc (by omega) _).alloc (by simp; omega) _⟩
      have N0 : Row ((w4.alloc (.cells (Wc (x / gk)) 72)).alloc (.cells (Wc (x % gk)) 72)) (w4.heap.size + 1) 72 (Wc (x % gk)) := by (repeat (first | assumption | (refine row_new ?_; (first | (simp; done) | omega)) | refine row_alloc ?_ _ | refine row_drew ?_ | refine row_call ?_ (by assumption)))
      go_upto_region 3 with (fail)
      clear L4 L1 A00 A01 A02 A03 A10 A11 A12 A13 A20 A21 A22 A23
      generalize ((w4.alloc (.cells (Wc (x / gk)) 72)).alloc (.cells (Wc (x % gk)) 72)) = w5 at L5 N0 ⊢
      have L1 := L5.2.2.2
      obtain ⟨A00, A01, A02, A03⟩ := row_two L1.1; obtain ⟨A10, A11, A12, A13⟩ := row_two L1.2.1; obtain ⟨A20, A21, A22, A23⟩ := row_two L1.2.2.1
      obtain ⟨C0, C1, _, _⟩ := row_two N0
      have L6 := L5.step h0
      go_region
      have L7 := L6.drew
      clear L6 L5 N0 L1 A00 A01 A02 A03 A10 A11 A12 A13 A20 A21 A22 A23 C0 C1
      generalize ((((w5.setCell ⟨w.heap.size, 0, none⟩ (.int .u64 (hi gk))).setCell ⟨w.heap.size, 1, none⟩ (.int .u64 (lo gk))).setCell ⟨w.heap.size + 1, 0, none⟩ (.int .u64 (hi (x % gk)))).setCell ⟨w.heap.size + 1, 1, none⟩ (.int .u64 (lo (x % gk)))).drew = w7 at L7 ⊢
      go_wp2
      go_roundg (x % gk)
      case measure => exact Nat.mod_lt _ (by omega)
      case rel => exact ⟨gk, L7⟩
set_option maxHeartbeats 2000000 in
theorem rgcd (a b : Nat) (ha : a < big) (hb : b < big) (w : World) :
    Calls Try.prog 108 #[W a, W b] w fun e w' => e = .returned (W (Nat.gcd a b)) ∧ Below w.heap.size w w' := by
  go_enter Try.func108, Try.ntmps108
  go_wp2_with fail
  have L : GcdS w (((w.alloc (.cells (Wc a) 72)).alloc (.cells (Wc b) 72)).alloc (.cells #[.int .u64 0, .int .u64 0] 72)) a b a b := by
    refine ⟨ha, hb, rfl, ?_, ?_, ?_, ?_⟩
    · (repeat (first | assumption | (refine row_new ?_; (first | (simp; done) | omega)) | refine row_alloc ?_ _ | refine row_drew ?_ | refine row_call ?_ (by assumption)))
    · (repeat (first | assumption | (refine row_new ?_; (first | (simp; done) | omega)) | refine row_alloc ?_ _ | refine row_drew ?_ | refine row_call ?_ (by assumption)))
    · (repeat (first | assumption | (refine row_new ?_; (first | (simp; done) | omega)) | refine row_alloc ?_ _ | refine row_drew ?_ | refine row_call ?_ (by assumption)))
    · (repeat (first | exact Below.refl _ _ | refine Below.setCell ?_ (by first | (simp; done) | (simp; omega) | omega) _ | refine Below.alloc ?_ (by first | (simp; done) | (simp; omega) | omega) _ | refine Below.drew ?_ | refine Below.trans ?_ (Below.mono (by assumption) (by first | (simp; done) | (simp; omega) | omega))))
  generalize (((w.alloc (.cells (Wc a) 72)).alloc (.cells (Wc b) 72)).alloc (.cells #[.int .u64 0, .int .u64 0] 72)) = w2 at L ⊢
  go_loopg [] b (fun y wr => ∃ x, GcdS w wr a b x y)
  case atStart => exact ⟨a, L⟩
  case round =>
    clear L
    obtain ⟨x, L⟩ := hrel
    have hx := L.1
    have hy := L.2.1
    have HG := Lib.hid L.2.2.1
    by_cases h0 : gk = 0
    · subst h0
      have T0 := hi_0
      have T1 := lo_0
      have L1 := L.2.2.2
      obtain ⟨A00, A01, A02, A03⟩ := row_two L1.1; obtain ⟨A10, A11, A12, A13⟩ := row_two L1.2.1; obtain ⟨A20, A21, A22, A23⟩ := row_two L1.2.2.1
      go_upto_region 4 with (fail)
      have M0 := L1.1
      have M2 := L1.2.2.1
      have B2 := L1.2.2.2
      obtain ⟨C0, C1, _, _⟩ := row_two M0
      obtain ⟨D0, D1, D2, D3⟩ := row_two M2
      have e : Nat.gcd a b = x := by rw [← HG.out, Nat.gcd_zero_right]
      clear L L1 A00 A01 A02 A03 A10 A11 A12 A13 A20 A21 A22 A23
      go_wp2
      simp [bodyPost, results, Try.results108, go_sem, D0, D1, e]
      (repeat (first | exact Below.refl _ _ | refine Below.setCell ?_ (by first | (simp; done) | (simp; omega) | omega) _ | refine Below.alloc ?_ (by first | (simp; done) | (simp; omega) | omega) _ | refine Below.drew ?_ | refine Below.trans ?_ (Below.mono (by assumption) (by first | (simp; done) | (simp; omega) | omega))))
    · have hz : decide (gk = 0) = false := by simpa using h0
      have hq := run_neq_zero h0
      have L1 := L.2.2.2
      obtain ⟨A00, A01, A02, A03⟩ := row_two L1.1; obtain ⟨A10, A11, A12, A13⟩ := row_two L1.2.1; obtain ⟨A20, A21, A22, A23⟩ := row_two L1.2.2.1
      go_upto_region 2 with (fail)
      have L3 := L
      clear L
      clear hq hz
      have HD := Lib.hid (fun w' => rdiv_yes x gk hx hy h0 w')
      go_wp2_with fail
      refine (HD.out _).mono ?_
      rintro e w4 ⟨rfl, hb4⟩
      have L4 := L3.call hb4
      clear L3 L1 A00 A01 A02 A03 A10 A11 A12 A13 A20 A21 A22 A23 hb4
      have L1 := L4.2.2.2
      obtain ⟨A00, A01, A02, A03⟩ := row_two L1.1; obtain ⟨A10, A11, A12, A13⟩ := row_two L1.2.1; obtain ⟨A20, A21, A22, A23⟩ := row_two L1.2.2.1
      have s4 := row_lt L1.2.2.1
      have L5 : GcdS w ((w4.alloc (.cells (Wc (x / gk)) 72)).alloc (.cells (Wc (x % gk)) 72)) a b x gk :=
        ⟨L4.1, L4.2.1, L4.2.2.1, row_alloc (row_alloc L1.1 _) _, row_alloc (row_alloc L1.2.1 _) _, row_alloc (row_alloc L1.2.2.1 _) _, (L1.2.2.2.alloc (by omega) _).alloc (by simp; omega) _⟩
      have N0 : Row ((w4.alloc (.cells (Wc (x / gk)) 72)).alloc (.cells (Wc (x % gk)) 72)) (w4.heap.size + 1) 72 (Wc (x % gk)) := by (repeat (first | assumption | (refine row_new ?_; (first | (simp; done) | omega)) | refine row_alloc ?_ _ | refine row_drew ?_ | refine row_call ?_ (by assumption)))
      go_upto_region 3 with (fail)
      clear L4 L1 A00 A01 A02 A03 A10 A11 A12 A13 A20 A21 A22 A23
      generalize ((w4.alloc (.cells (Wc (x / gk)) 72)).alloc (.cells (Wc (x % gk)) 72)) = w5 at L5 N0 ⊢
      have L1 := L5.2.2.2
      obtain ⟨A00, A01, A02, A03⟩ := row_two L1.1; obtain ⟨A10, A11, A12, A13⟩ := row_two L1.2.1; obtain ⟨A20, A21, A22, A23⟩ := row_two L1.2.2.1
      obtain ⟨C0, C1, _, _⟩ := row_two N0
      have L6 := L5.step h0
      go_region
      have L7 := L6.drew
      clear L6 L5 N0 L1 A00 A01 A02 A03 A10 A11 A12 A13 A20 A21 A22 A23 C0 C1
      generalize ((((w5.setCell ⟨w.heap.size, 0, none⟩ (.int .u64 (hi gk))).setCell ⟨w.heap.size, 1, none⟩ (.int .u64 (lo gk))).setCell ⟨w.heap.size + 1, 0, none⟩ (.int .u64 (hi (x % gk)))).setCell ⟨w.heap.size + 1, 1, none⟩ (.int .u64 (lo (x % gk)))).drew = w7 at L7 ⊢
      go_wp2
      go_roundg (x % gk)
      case measure => exact Nat.mod_lt _ (by omega)
      case rel => exact ⟨gk, L7⟩
end Go.Proofs.Ytaiepjcnncajcaa
