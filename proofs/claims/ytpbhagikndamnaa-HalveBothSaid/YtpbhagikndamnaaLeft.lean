/- Products with powers of two, walked: the program and the reference. -/
import Derived.Test.YtpbhagikndamnaaWalkC
import Derived.Test.YtpbhagikndamnaaMathLeft
import Derived.Test.YtpbhagikndamnaaDivS
import Derived.Test.YtpbhagikndamnaaBase
import Derived.Lib.Hide
import Derived.Deep.Cut
import Derived.Deep.LoopGhost
namespace Go.Proofs.Ytpbhagikndamnaa
open Go.RowKit Go.Shelf
theorem run_eql_zero' {b : Nat} (h : b ≠ 0) (w' : World) : (binOp .eql 35 (.agg #[.int .u64 (hi b), .int .u64 (lo b)]) (.agg #[.int .u64 0, .int .u64 0])).run Try.prog w' = .ok (.bool false) w' := by
  go_simp
  exact fun h1 h2 => h (hi_inj (b := 0) h1 h2)
set_option maxHeartbeats 2000000 in
theorem pleft (a : Nat) (n : Int) (ha : a < big) (hn : -9223372036854775808 ≤ n ∧ n ≤ 9223372036854775807) (w : World) :
    Calls Try.prog 34 #[W a, .int .i64 n] w fun e w' => e = .returned (.tuple #[W (leftV a n), .bool (leftB a n)]) ∧ Below w.heap.size w w' := by
  obtain ⟨n1, n2⟩ := hn
  by_cases h0 : n < 0
  · obtain ⟨v1, v2⟩ := left_no (a := a) (n := n) (by omega)
    rw [v1, v2]
    clear v1 v2
    go_enter Try.func34, Try.ntmps34
    go_wp2
    simp [bodyPost, results, Try.results34, go_sem]
    refine ⟨⟨rfl, rfl⟩, ?_⟩
    (repeat (first | exact Below.refl _ _ | refine Below.setCell ?_ (by first | (simp; done) | (simp; omega) | omega) _ | refine Below.alloc ?_ (by first | (simp; done) | (simp; omega) | omega) _ | refine Below.drew ?_ | refine Below.trans ?_ (Below.mono (by assumption) (by first | (simp; done) | (simp; omega) | omega))))
  · have h0' : 0 ≤ n := by omega
    by_cases hz : a = 0
    · subst hz
      obtain ⟨v1, v2⟩ := left_yes (a := 0) (n := n) h0' (by unfold leftN; rw [Nat.zero_mul]; decide)
      have v3 : leftN 0 n = 0 := by unfold leftN; rw [Nat.zero_mul]
      rw [v1, v2, v3]
      clear v1 v2 v3
      go_enter Try.func34, Try.ntmps34
      go_wp2_with (go_at_call 42; refine (pzero 0 _).mono ?_; rintro e w1 ⟨rfl, hb1⟩; have hz1 := hb1.size; (try simp at hz1); have q1_0 : w.heap.size < w1.heap.size := (by omega); have r1_0 : Row w1 (w.heap.size) 35 (Wc 0) := row_call (by (repeat (first | assumption | (refine row_new ?_; (first | (simp; done) | omega)) | refine row_alloc ?_ _ | refine row_drew ?_ | refine row_call ?_ (by assumption)))) hb1; obtain ⟨c1_0a, c1_0b, f1_0a, f1_0b⟩ := row_two r1_0; have q1_1 : w.heap.size + 1 < w1.heap.size := (by omega); have r1_1 : Row w1 (w.heap.size + 1) 35 #[.int .u64 0, .int .u64 0] := row_call (by (repeat (first | assumption | (refine row_new ?_; (first | (simp; done) | omega)) | refine row_alloc ?_ _ | refine row_drew ?_ | refine row_call ?_ (by assumption)))) hb1; obtain ⟨c1_1a, c1_1b, f1_1a, f1_1b⟩ := row_two r1_1)
      simp [bodyPost, results, Try.results34, go_sem, c1_1a, c1_1b]
      (repeat (first | exact Below.refl _ _ | refine Below.setCell ?_ (by first | (simp; done) | (simp; omega) | omega) _ | refine Below.alloc ?_ (by first | (simp; done) | (simp; omega) | omega) _ | refine Below.drew ?_ | refine Below.trans ?_ (Below.mono (by assumption) (by first | (simp; done) | (simp; omega) | omega))))
    · have hd : decide (a = 0) = false := by simpa using hz
      have hfit := left_fits hz ha h0'
      have l0 := blenI_0 a
      have l1 := blenI_128 ha
      by_cases hf : leftN a n < big
      · obtain ⟨v1, v2⟩ := left_yes h0' hf
        rw [v1, v2]
        have hc : decide (128 - blenI a < n) = false := by have := hfit.1 hf; simp; omega
        clear v1 v2
        by_cases h64 : 64 ≤ n
        · obtain ⟨E1, E2⟩ := left_hi64 h64 hf
          obtain ⟨b1, b2⟩ := lo_word a
          have HE := Lib.hid E2
          have n3 : n ≤ 128 := by have := hfit.1 hf; omega
          clear E2 hf hfit
          go_enter Try.func34, Try.ntmps34
          go_wp2_with (first | (go_at_call 42; refine (pzero a _).mono ?_; rintro e w1 ⟨rfl, hb1⟩; have hz1 := hb1.size; (try simp at hz1); have q1_0 : w.heap.size < w1.heap.size := (by omega); have r1_0 : Row w1 (w.heap.size) 35 (Wc a) := row_call (by (repeat (first | assumption | (refine row_new ?_; (first | (simp; done) | omega)) | refine row_alloc ?_ _ | refine row_drew ?_ | refine row_call ?_ (by assumption)))) hb1; obtain ⟨c1_0a, c1_0b, f1_0a, f1_0b⟩ := row_two r1_0; have q1_1 : w.heap.size + 1 < w1.heap.size := (by omega); have r1_1 : Row w1 (w.heap.size + 1) 35 #[.int .u64 0, .int .u64 0] := row_call (by (repeat (first | assumption | (refine row_new ?_; (first | (simp; done) | omega)) | refine row_alloc ?_ _ | refine row_drew ?_ | refine row_call ?_ (by assumption)))) hb1; obtain ⟨c1_1a, c1_1b, f1_1a, f1_1b⟩ := row_two r1_1) | (go_at_call 43; refine (pbits a ha _).mono ?_; rintro e w2 ⟨rfl, hb2⟩; have hz2 := hb2.size; (try simp at hz2); have q2_0 : w.heap.size < w2.heap.size := (by omega); have r2_0 : Row w2 (w.heap.size) 35 (Wc a) := row_call (by (repeat (first | assumption | (refine row_new ?_; (first | (simp; done) | omega)) | refine row_alloc ?_ _ | refine row_drew ?_ | refine row_call ?_ (by assumption)))) hb2; obtain ⟨c2_0a, c2_0b, f2_0a, f2_0b⟩ := row_two r2_0; have q2_1 : w.heap.size + 1 < w2.heap.size := (by omega); have r2_1 : Row w2 (w.heap.size + 1) 35 #[.int .u64 0, .int .u64 0] := row_call (by (repeat (first | assumption | (refine row_new ?_; (first | (simp; done) | omega)) | refine row_alloc ?_ _ | refine row_drew ?_ | refine row_call ?_ (by assumption)))) hb2; obtain ⟨c2_1a, c2_1b, f2_1a, f2_1b⟩ := row_two r2_1))
          simp [bodyPost, results, Try.results34, go_sem, c2_1a, c2_1b, HE.out]
          (repeat (first | exact Below.refl _ _ | refine Below.setCell ?_ (by first | (simp; done) | (simp; omega) | omega) _ | refine Below.alloc ?_ (by first | (simp; done) | (simp; omega) | omega) _ | refine Below.drew ?_ | refine Below.trans ?_ (Below.mono (by assumption) (by first | (simp; done) | (simp; omega) | omega))))
        · obtain ⟨E1, E2⟩ := left_lo64 h0' (by omega) hf
          obtain ⟨b1, b2⟩ := lo_word a
          obtain ⟨b3, b4⟩ := hi_word ha
          have n3 : n < 64 := by omega
          have t64 : decide (64 ≤ n) = false := by simpa using h64
          clear hf hfit h64
          go_enter Try.func34, Try.ntmps34
          go_wp2_with (first | (go_at_call 42; refine (pzero a _).mono ?_; rintro e w1 ⟨rfl, hb1⟩; have hz1 := hb1.size; (try simp at hz1); have q1_0 : w.heap.size < w1.heap.size := (by omega); have r1_0 : Row w1 (w.heap.size) 35 (Wc a) := row_call (by (repeat (first | assumption | (refine row_new ?_; (first | (simp; done) | omega)) | refine row_alloc ?_ _ | refine row_drew ?_ | refine row_call ?_ (by assumption)))) hb1; obtain ⟨c1_0a, c1_0b, f1_0a, f1_0b⟩ := row_two r1_0; have q1_1 : w.heap.size + 1 < w1.heap.size := (by omega); have r1_1 : Row w1 (w.heap.size + 1) 35 #[.int .u64 0, .int .u64 0] := row_call (by (repeat (first | assumption | (refine row_new ?_; (first | (simp; done) | omega)) | refine row_alloc ?_ _ | refine row_drew ?_ | refine row_call ?_ (by assumption)))) hb1; obtain ⟨c1_1a, c1_1b, f1_1a, f1_1b⟩ := row_two r1_1) | (go_at_call 43; refine (pbits a ha _).mono ?_; rintro e w2 ⟨rfl, hb2⟩; have hz2 := hb2.size; (try simp at hz2); have q2_0 : w.heap.size < w2.heap.size := (by omega); have r2_0 : Row w2 (w.heap.size) 35 (Wc a) := row_call (by (repeat (first | assumption | (refine row_new ?_; (first | (simp; done) | omega)) | refine row_alloc ?_ _ | refine row_drew ?_ | refine row_call ?_ (by assumption)))) hb2; obtain ⟨c2_0a, c2_0b, f2_0a, f2_0b⟩ := row_two r2_0; have q2_1 : w.heap.size + 1 < w2.heap.size := (by omega); have r2_1 : Row w2 (w.heap.size + 1) 35 #[.int .u64 0, .int .u64 0] := row_call (by (repeat (first | assumption | (refine row_new ?_; (first | (simp; done) | omega)) | refine row_alloc ?_ _ | refine row_drew ?_ | refine row_call ?_ (by assumption)))) hb2; obtain ⟨c2_1a, c2_1b, f2_1a, f2_1b⟩ := row_two r2_1))
          simp [bodyPost, results, Try.results34, go_sem, c2_1a, c2_1b]
          (repeat (first | exact Below.refl _ _ | refine Below.setCell ?_ (by first | (simp; done) | (simp; omega) | omega) _ | refine Below.alloc ?_ (by first | (simp; done) | (simp; omega) | omega) _ | refine Below.drew ?_ | refine Below.trans ?_ (Below.mono (by assumption) (by first | (simp; done) | (simp; omega) | omega))))
      · obtain ⟨v1, v2⟩ := left_no (a := a) (n := n) (fun h => hf h.2)
        rw [v1, v2]
        have hc : 128 - blenI a < n := by rw [hfit] at hf; omega
        clear v1 v2 hfit hf
        go_enter Try.func34, Try.ntmps34
        go_wp2_with (first | (go_at_call 42; refine (pzero a _).mono ?_; rintro e w1 ⟨rfl, hb1⟩; have hz1 := hb1.size; (try simp at hz1); have q1_0 : w.heap.size < w1.heap.size := (by omega); have r1_0 : Row w1 (w.heap.size) 35 (Wc a) := row_call (by (repeat (first | assumption | (refine row_new ?_; (first | (simp; done) | omega)) | refine row_alloc ?_ _ | refine row_drew ?_ | refine row_call ?_ (by assumption)))) hb1; obtain ⟨c1_0a, c1_0b, f1_0a, f1_0b⟩ := row_two r1_0; have q1_1 : w.heap.size + 1 < w1.heap.size := (by omega); have r1_1 : Row w1 (w.heap.size + 1) 35 #[.int .u64 0, .int .u64 0] := row_call (by (repeat (first | assumption | (refine row_new ?_; (first | (simp; done) | omega)) | refine row_alloc ?_ _ | refine row_drew ?_ | refine row_call ?_ (by assumption)))) hb1; obtain ⟨c1_1a, c1_1b, f1_1a, f1_1b⟩ := row_two r1_1) | (go_at_call 43; refine (pbits a ha _).mono ?_; rintro e w2 ⟨rfl, hb2⟩; have hz2 := hb2.size; (try simp at hz2); have q2_0 : w.heap.size < w2.heap.size := (by omega); have r2_0 : Row w2 (w.heap.size) 35 (Wc a) := row_call (by (repeat (first | assumption | (refine row_new ?_; (first | (simp; done) | omega)) | refine row_alloc ?_ _ | refine row_drew ?_ | refine row_call ?_ (by assumption)))) hb2; obtain ⟨c2_0a, c2_0b, f2_0a, f2_0b⟩ := row_two r2_0; have q2_1 : w.heap.size + 1 < w2.heap.size := (by omega); have r2_1 : Row w2 (w.heap.size + 1) 35 #[.int .u64 0, .int .u64 0] := row_call (by (repeat (first | assumption | (refine row_new ?_; (first | (simp; done) | omega)) | refine row_alloc ?_ _ | refine row_drew ?_ | refine row_call ?_ (by assumption)))) hb2; obtain ⟨c2_1a, c2_1b, f2_1a, f2_1b⟩ := row_two r2_1))
        simp [bodyPost, results, Try.results34, go_sem, c2_1a, c2_1b]
        refine ⟨⟨rfl, rfl⟩, ?_⟩
        (repeat (first | exact Below.refl _ _ | refine Below.setCell ?_ (by first | (simp; done) | (simp; omega) | omega) _ | refine Below.alloc ?_ (by first | (simp; done) | (simp; omega) | omega) _ | refine Below.drew ?_ | refine Below.trans ?_ (Below.mono (by assumption) (by first | (simp; done) | (simp; omega) | omega))))
set_option maxHeartbeats 2000000 in
theorem rleft (a : Nat) (n : Int) (ha : a < big) (hn : -9223372036854775808 ≤ n ∧ n ≤ 9223372036854775807) (w : World) :
    Calls Try.prog 37 #[W a, .int .i64 n] w fun e w' => e = .returned (.tuple #[W (leftV a n), .bool (leftB a n)]) ∧ Below w.heap.size w w' := by
  obtain ⟨n1, n2⟩ := hn
  by_cases h0 : n < 0
  · obtain ⟨v1, v2⟩ := left_no (a := a) (n := n) (by omega)
    rw [v1, v2]
    clear v1 v2
    go_enter Try.func37, Try.ntmps37
    go_wp2
    simp [bodyPost, results, Try.results37, go_sem]
    refine ⟨⟨rfl, rfl⟩, ?_⟩
    (repeat (first | exact Below.refl _ _ | refine Below.setCell ?_ (by first | (simp; done) | (simp; omega) | omega) _ | refine Below.alloc ?_ (by first | (simp; done) | (simp; omega) | omega) _ | refine Below.drew ?_ | refine Below.trans ?_ (Below.mono (by assumption) (by first | (simp; done) | (simp; omega) | omega))))
  · have h0' : 0 ≤ n := by omega
    by_cases hz : a = 0
    · subst hz
      obtain ⟨v1, v2⟩ := left_yes (a := 0) (n := n) h0' (by unfold leftN; rw [Nat.zero_mul]; decide)
      have v3 : leftN 0 n = 0 := by unfold leftN; rw [Nat.zero_mul]
      rw [v1, v2, v3]
      clear v1 v2 v3
      have T0 := hi_0
      have T1 := lo_0
      go_enter Try.func37, Try.ntmps37
      go_wp2
      simp [bodyPost, results, Try.results37, go_sem, T0, T1]
      (repeat (first | exact Below.refl _ _ | refine Below.setCell ?_ (by first | (simp; done) | (simp; omega) | omega) _ | refine Below.alloc ?_ (by first | (simp; done) | (simp; omega) | omega) _ | refine Below.drew ?_ | refine Below.trans ?_ (Below.mono (by assumption) (by first | (simp; done) | (simp; omega) | omega))))
    · have hq := run_eql_zero' hz
      have t0 : decide (n < 0) = false := by simpa using h0
      clear h0
      go_enter Try.func37, Try.ntmps37
      go_upto_region 5 with (fail)
      have L : Row ((w.alloc (.cells (Wc a) 35)).alloc (.cells #[.int .u64 0, .int .u64 0] 35)) (w.heap.size) 35 (Wc (leftN a 0)) ∧ Row ((w.alloc (.cells (Wc a) 35)).alloc (.cells #[.int .u64 0, .int .u64 0] 35)) (w.heap.size + 1) 35 #[.int .u64 0, .int .u64 0] ∧ Below w.heap.size w ((w.alloc (.cells (Wc a) 35)).alloc (.cells #[.int .u64 0, .int .u64 0] 35)) := by
        rw [leftN_0]
        refine ⟨?_, ?_, ?_⟩
        · (repeat (first | assumption | (refine row_new ?_; (first | (simp; done) | omega)) | refine row_alloc ?_ _ | refine row_drew ?_ | refine row_call ?_ (by assumption)))
        · (repeat (first | assumption | (refine row_new ?_; (first | (simp; done) | omega)) | refine row_alloc ?_ _ | refine row_drew ?_ | refine row_call ?_ (by assumption)))
        · (repeat (first | exact Below.refl _ _ | refine Below.setCell ?_ (by first | (simp; done) | (simp; omega) | omega) _ | refine Below.alloc ?_ (by first | (simp; done) | (simp; omega) | omega) _ | refine Below.drew ?_ | refine Below.trans ?_ (Below.mono (by assumption) (by first | (simp; done) | (simp; omega) | omega))))
      generalize ((w.alloc (.cells (Wc a) 35)).alloc (.cells #[.int .u64 0, .int .u64 0] 35)) = w2 at L ⊢
      clear hq t0
      go_wp2_with fail
      go_loopw [6] (fun i wr => ∃ k : Nat, (k : Int) ≤ n ∧ i = .int .i64 k ∧ leftN a k < big ∧ Row wr (w.heap.size) 35 (Wc (leftN a k)) ∧ Row wr (w.heap.size + 1) 35 #[.int .u64 0, .int .u64 0] ∧ Below w.heap.size w wr) (fun i _ => (n - intOf i).toNat)
      case atStart => exact ⟨0, h0', rfl, by rw [show ((0 : Nat) : Int) = 0 from rfl, leftN_0]; exact ha, L⟩
      case round =>
        clear L
        obtain ⟨k, hk, rfl, hf, L⟩ := hrel
        obtain ⟨A00, A01, A02, A03⟩ := row_two L.1; obtain ⟨A10, A11, A12, A13⟩ := row_two L.2.1
        have o := L.2.2
        by_cases hlt : (k : Int) < n
        · have t1 : decide ((k : Int) < n) = true := by simpa using hlt
          have ht := topd_1 hf
          have hs := leftN_succ a k
          have HD := Lib.hid (fun w' => rdouble (leftN a k) 0 hf (by omega) (by omega) w')
          have hdb : 2 * leftN a k + 1 < big → dbl (leftN a k) 0 = leftN a ((k + 1 : Nat) : Int) := fun h => by rw [hs]; unfold dbl; rw [Nat.mod_eq_of_lt] <;> omega
          have HB := Lib.hid hdb
          have HS := Lib.hid hs
          clear hs hdb
          rcases ht with ⟨ht, hb⟩ | ⟨ht, hb⟩
          · have tt : (topd (leftN a k) != 0) = false := by rw [ht]; rfl
            go_upto_region 10 with (go_at_call 45; refine (HD.out _).mono ?_; rintro e w3 ⟨rfl, hb3⟩; have r0 := row_call L.1 hb3; have r1 := row_call L.2.1 hb3; have o3 := o.trans (hb3.mono o.size); obtain ⟨C0, C1, C2, C3⟩ := row_two r0)
            have M : Row ((w3.setCell ⟨w.heap.size, 0, none⟩ (.int .u64 (hi (dbl (leftN a k) 0)))).setCell ⟨w.heap.size, 1, none⟩ (.int .u64 (lo (dbl (leftN a k) 0)))) (w.heap.size) 35 (Wc (dbl (leftN a k) 0)) ∧ Row ((w3.setCell ⟨w.heap.size, 0, none⟩ (.int .u64 (hi (dbl (leftN a k) 0)))).setCell ⟨w.heap.size, 1, none⟩ (.int .u64 (lo (dbl (leftN a k) 0)))) (w.heap.size + 1) 35 #[.int .u64 0, .int .u64 0] ∧ Below w.heap.size w ((w3.setCell ⟨w.heap.size, 0, none⟩ (.int .u64 (hi (dbl (leftN a k) 0)))).setCell ⟨w.heap.size, 1, none⟩ (.int .u64 (lo (dbl (leftN a k) 0)))) := ⟨row_two_set r0, row_two_other r1 (by omega), (o3.setCell (by simp) _).setCell (by simp) _⟩
            generalize ((w3.setCell ⟨w.heap.size, 0, none⟩ (.int .u64 (hi (dbl (leftN a k) 0)))).setCell ⟨w.heap.size, 1, none⟩ (.int .u64 (lo (dbl (leftN a k) 0)))) = w4 at M ⊢
            rw [HB.out hb] at M
            have hnew : leftN a ((k + 1 : Nat) : Int) < big := by rw [HS.out]; omega
            clear L r0 r1 o3 o C0 C1 C2 C3 A00 A01 A02 A03 A10 A11 A12 A13 hb3 ht hb
            go_wp2
            go_roundw
            case rel => exact ⟨k + 1, by omega, by go_num, hnew, M⟩
            case measure => simp [intOf]; omega
          · have tt : (topd (leftN a k) != 0) = true := by rw [ht]; rfl
            obtain ⟨v1, v2⟩ := left_no (a := a) (n := n) (fun hh => by
              have hm := leftN_mono (a := a) (show k + 1 ≤ n.toNat by omega)
              rw [HS.out, Int.toNat_of_nonneg h0'] at hm
              omega)
            have HV := Lib.hid (And.intro v1 v2)
            clear v1 v2
            go_wp2_with (go_at_call 45; refine (HD.out _).mono ?_; rintro e w3 ⟨rfl, hb3⟩; have r0 := row_call L.1 hb3; have r1 := row_call L.2.1 hb3; have o3 := o.trans (hb3.mono o.size); obtain ⟨C0, C1, C2, C3⟩ := row_two r0; obtain ⟨D0, D1, D2, D3⟩ := row_two r1)
            simp [bodyPost, results, Try.results37, go_sem, D0, D1, HV.out.1, HV.out.2]
            first | (refine ⟨⟨rfl, rfl⟩, ?_⟩; (repeat (first | exact Below.refl _ _ | refine Below.setCell ?_ (by first | (simp; done) | (simp; omega) | omega) _ | refine Below.alloc ?_ (by first | (simp; done) | (simp; omega) | omega) _ | refine Below.drew ?_ | refine Below.trans ?_ (Below.mono (by assumption) (by first | (simp; done) | (simp; omega) | omega))))) | (repeat (first | exact Below.refl _ _ | refine Below.setCell ?_ (by first | (simp; done) | (simp; omega) | omega) _ | refine Below.alloc ?_ (by first | (simp; done) | (simp; omega) | omega) _ | refine Below.drew ?_ | refine Below.trans ?_ (Below.mono (by assumption) (by first | (simp; done) | (simp; omega) | omega))))
        · have t1 : decide ((k : Int) < n) = false := by simpa using hlt
          obtain rfl : n = (k : Int) := by omega
          obtain ⟨v1, v2⟩ := left_yes h0' hf
          have HV := Lib.hid (And.intro v1 v2)
          clear v1 v2 hlt
          go_wp2
          simp [bodyPost, results, Try.results37, go_sem, A10, A11, HV.out.1, HV.out.2]
          (repeat (first | exact Below.refl _ _ | refine Below.setCell ?_ (by first | (simp; done) | (simp; omega) | omega) _ | refine Below.alloc ?_ (by first | (simp; done) | (simp; omega) | omega) _ | refine Below.drew ?_ | refine Below.trans ?_ (Below.mono (by assumption) (by first | (simp; done) | (simp; omega) | omega))))
end Go.Proofs.Ytpbhagikndamnaa
