/- Zeros at the end, quotients by powers of two and lengths, walked: the program and the reference. The walk of math/bits.TrailingZeros64 is the kit's (Shelf/Spec/TrailingZeros), turned to this program. -/
import Derived.Test.YtoemccfpinonhaaDoorLawA
import Derived.Test.YtoemccfpinonhaaDoorLeft
import Derived.Test.YtoemccfpinonhaaDoorMathTz
import Derived.Laws.Bits64b
namespace Go.Proofs.YtoemccfpinonhaaDoor
open Go.RowKit Go.Shelf
/-- The table of math/bits in its variable. -/
def TabAt (w : World) : Prop := ∀ j, j < 64 → w.cell? ⟨0, j, none⟩ = some (.int .u8 (Lib.deBruijn64tab.getD j 0))
theorem TabAt.below {B : Nat} {w w' : World} (h : TabAt w) (hb : Below B w w') (h0 : 0 < B) : TabAt w' := fun j hj => (hb.cell (p := ⟨0, j, none⟩) h0).trans (h j hj)
theorem tz64_key (x a : Nat) (hx : x < 18446744073709551616) (hx0 : x ≠ 0) (hlow : x &&& (18446744073709551616 - x) = a) :
    IntKind.u64.wrap (bits BinOp.and IntKind.u64 (x : Int) (IntKind.u64.wrap (-(x : Int))) * 285870213051353865) / 288230376151711744 = ((a * 285870213051353865 % 18446744073709551616 / 288230376151711744 : Nat) : Int) := by
  have e1 : IntKind.u64.wrap (-(x : Int)) = ((18446744073709551616 - x : Nat) : Int) := by rw [IntKind.wrap_u64]; omega
  rw [e1, bits_and_u64_nat x _ hx (by omega), hlow, IntKind.wrap_u64]
  omega
theorem tz64_core (x k idx : Nat) (w : World) (hx0 : ((x : Int) == 0) = false)
    (key : IntKind.u64.wrap (bits BinOp.and IntKind.u64 (x : Int) (IntKind.u64.wrap (-(x : Int))) * 285870213051353865) / 288230376151711744 = (idx : Int))
    (hi : idx < 64) (hk : k < 64) (hcell : w.cell? ⟨0, idx, none⟩ = some (.int .u8 k)) :
    Calls Tryd.prog 18 #[.int .u64 x] w fun e w' => e = .returned (.int .i64 k) ∧ w' = w := by
  go_enter Tryd.func18, Tryd.ntmps18
  go_wp2_with (simp only [key])
  go_ret
  exact ⟨rfl, rfl⟩
theorem tz64 (x : Nat) (hx : x < 18446744073709551616) (hx0 : x ≠ 0) (w : World) (hT : TabAt w) :
    Calls Tryd.prog 18 #[.int .u64 x] w fun e w' => e = .returned (.int .i64 (Lib.ctz 64 x)) ∧ w' = w := by
  obtain ⟨hlow, hk⟩ := Lib.lowest_bit 64 x hx0 hx
  obtain ⟨hi, htab⟩ := Lib.deBruijn64_at _ hk
  have hcell := hT _ hi
  rw [htab] at hcell
  exact tz64_core x _ _ w (by simp; omega) (tz64_key x _ hx hx0 hlow) hi hk hcell
theorem tz_ret {k : IntKind} {a b : Int} (h : a = b) : Ending.returned (.int k a) = .returned (.int k b) := by rw [h]
set_option maxHeartbeats 1000000 in
theorem pzeros (a : Nat) (ha : a < big) (w : World) (hT : TabAt w) (h0 : 0 < w.heap.size) :
    Calls Tryd.prog 11 #[W a] w fun e w' => e = .returned (.int .i64 (tzI a)) ∧ Below w.heap.size w w' := by
  by_cases hz : a = 0
  · subst hz
    go_enter Tryd.func11, Tryd.ntmps11
    go_wp2_with (go_at_call 14; refine (pzero 0 _).mono ?_; rintro e w1 ⟨rfl, hb1⟩; have hz1 := hb1.size; (try simp at hz1); have q1_0 : w.heap.size < w1.heap.size := (by omega); have r1_0 : Row w1 (w.heap.size) 24 (Wc 0) := row_call (by (repeat (first | assumption | (refine row_new ?_; (first | (simp; done) | omega)) | refine row_alloc ?_ _ | refine row_drew ?_ | refine row_call ?_ (by assumption)))) hb1; obtain ⟨c1_0a, c1_0b, f1_0a, f1_0b⟩ := row_two r1_0)
    go_ret
    refine ⟨rfl, ?_⟩
    (repeat (first | exact Below.refl _ _ | refine Below.setCell ?_ (by first | (simp; done) | (simp; omega) | omega) _ | refine Below.alloc ?_ (by first | (simp; done) | (simp; omega) | omega) _ | refine Below.drew ?_ | refine Below.trans ?_ (Below.mono (by assumption) (by first | (simp; done) | (simp; omega) | omega))))
  · have hd : decide (a = 0) = false := by simpa using hz
    by_cases hl : lo a = 0
    · have e := Lib.hid (tz_hi ha hz hl)
      have hq : (hi a).toNat ≠ 0 := by
        have := hi_lo a
        intro x
        have := (hi_word ha).1
        omega
      have hh := hi_word ha
      have hb : (hi a).toNat < 18446744073709551616 := by have := hh.2; omega
      obtain ⟨q, hqe⟩ := Int.eq_ofNat_of_zero_le hh.1
      rw [hqe, Int.toNat_natCast] at hq hb e
      have hc : Lib.ctz 64 q < 64 := (Lib.lowest_bit 64 q hq hb).2
      have HQ := Lib.hid hqe
      generalize hcz : Lib.ctz 64 q = z at hc e
      have TZq := fun w h => tz64 q hb hq w h
      rw [hcz] at TZq
      have HT := Lib.hid TZq
      have t1 : (lo a == 0) = true := by simpa using hl
      clear TZq hcz hqe hl hz
      go_enter Tryd.func11, Tryd.ntmps11
      go_upto_region 4 with (go_at_call 14; refine (pzero a _).mono ?_; rintro e w1 ⟨rfl, hb1⟩; have hz1 := hb1.size; (try simp at hz1); have q1_0 : w.heap.size < w1.heap.size := (by omega); have r1_0 : Row w1 (w.heap.size) 24 (Wc a) := row_call (by (repeat (first | assumption | (refine row_new ?_; (first | (simp; done) | omega)) | refine row_alloc ?_ _ | refine row_drew ?_ | refine row_call ?_ (by assumption)))) hb1; obtain ⟨c1_0a, c1_0b, f1_0a, f1_0b⟩ := row_two r1_0)
      rw [HQ.out] at c1_0a
      have o1 : Below w.heap.size w w1 := by (repeat (first | exact Below.refl _ _ | refine Below.setCell ?_ (by first | (simp; done) | (simp; omega) | omega) _ | refine Below.alloc ?_ (by first | (simp; done) | (simp; omega) | omega) _ | refine Below.drew ?_ | refine Below.trans ?_ (Below.mono (by assumption) (by first | (simp; done) | (simp; omega) | omega))))
      have hT1 := hT.below o1 h0
      go_wp2_with (go_at_call 18; refine (HT.out _ hT1).mono ?_; rintro e w9 ⟨rfl, rfl⟩)
      go_ret
      exact ⟨tz_ret (by unfold tzI; rw [e.out]; omega), o1⟩
    · have e := Lib.hid (tz_lo ha hl)
      have hh := lo_word a
      have hq : (lo a).toNat ≠ 0 := by have := hh.1; omega
      have hb : (lo a).toNat < 18446744073709551616 := by have := hh.2; omega
      obtain ⟨q, hqe⟩ := Int.eq_ofNat_of_zero_le hh.1
      rw [hqe, Int.toNat_natCast] at hq hb e
      have hc : Lib.ctz 64 q < 64 := (Lib.lowest_bit 64 q hq hb).2
      have HQ := Lib.hid hqe
      generalize hcz : Lib.ctz 64 q = z at hc e
      have TZq := fun w h => tz64 q hb hq w h
      rw [hcz] at TZq
      have HT := Lib.hid TZq
      have t1 : (lo a == 0) = false := by simpa using hl
      clear TZq hcz hqe hl hz
      go_enter Tryd.func11, Tryd.ntmps11
      go_upto_region 5 with (go_at_call 14; refine (pzero a _).mono ?_; rintro e w1 ⟨rfl, hb1⟩; have hz1 := hb1.size; (try simp at hz1); have q1_0 : w.heap.size < w1.heap.size := (by omega); have r1_0 : Row w1 (w.heap.size) 24 (Wc a) := row_call (by (repeat (first | assumption | (refine row_new ?_; (first | (simp; done) | omega)) | refine row_alloc ?_ _ | refine row_drew ?_ | refine row_call ?_ (by assumption)))) hb1; obtain ⟨c1_0a, c1_0b, f1_0a, f1_0b⟩ := row_two r1_0)
      rw [HQ.out] at c1_0b
      have o1 : Below w.heap.size w w1 := by (repeat (first | exact Below.refl _ _ | refine Below.setCell ?_ (by first | (simp; done) | (simp; omega) | omega) _ | refine Below.alloc ?_ (by first | (simp; done) | (simp; omega) | omega) _ | refine Below.drew ?_ | refine Below.trans ?_ (Below.mono (by assumption) (by first | (simp; done) | (simp; omega) | omega))))
      have hT1 := hT.below o1 h0
      go_wp2_with (go_at_call 18; refine (HT.out _ hT1).mono ?_; rintro e w9 ⟨rfl, rfl⟩)
      go_ret
      exact ⟨tz_ret (by unfold tzI; rw [e.out]), o1⟩
theorem rzeros (a : Nat) (ha : a < big) (w : World) :
    Calls Tryd.prog 12 #[W a] w fun e w' => e = .returned (.int .i64 (tzI a)) ∧ Below w.heap.size w w' := by
  by_cases hz : a = 0
  · subst hz
    go_enter Tryd.func12, Tryd.ntmps12
    go_wp2_with fail
    have L : Row (w.alloc (.cells (Wc 0) 24)) w.heap.size 24 (Wc 0) := row_new rfl
    have o : Below w.heap.size w (w.alloc (.cells (Wc 0) 24)) := by (repeat (first | exact Below.refl _ _ | refine Below.setCell ?_ (by first | (simp; done) | (simp; omega) | omega) _ | refine Below.alloc ?_ (by first | (simp; done) | (simp; omega) | omega) _ | refine Below.drew ?_ | refine Below.trans ?_ (Below.mono (by assumption) (by first | (simp; done) | (simp; omega) | omega))))
    generalize (w.alloc (.cells (Wc 0) 24)) = w2 at L o ⊢
    go_loopw [3] (fun i wr => ∃ k : Nat, k ≤ 128 ∧ i = .int .i64 (k : Nat) ∧ Row wr w.heap.size 24 (Wc 0) ∧ Below w.heap.size w wr) (fun i _ => 128 - (intOf i).toNat)
    case atStart => exact ⟨0, by omega, rfl, L, o⟩
    case round =>
      clear L o
      obtain ⟨k, hk, rfl, L, o⟩ := hrel
      obtain ⟨X0, X1, X2, X3⟩ := row_two L
      by_cases hlt : k < 128
      · have i1 : (k : Int) < 128 := by omega
        have HB := Lib.hid (fun w' => rbit 0 (k : Int) ha (by omega) i1 w')
        have B := HB.out
        rw [dig_zero] at B
        have HB := Lib.hid B
        clear B
        go_wp2_with (go_at_call 17; refine (HB.out _).mono ?_; rintro e w3 ⟨rfl, hb3⟩)
        have L3 := row_call L hb3
        have o3 := o.trans (hb3.mono o.size)
        go_roundw
        case rel => exact ⟨k + 1, by omega, by go_num, L3, o3⟩
        case measure => simp [intOf]; omega
      · have i1 : ¬ (k : Int) < 128 := by omega
        go_wp2_with fail
        go_ret
        exact ⟨rfl, o⟩
  · have ht : tz a < 128 := by
      obtain ⟨m, hm, ht⟩ := tz_spec hz ha
      exact ht
    have hd0 := Lib.hid (fun i (h : i < tz a) => dig_below hz ha h)
    have hd1 := Lib.hid (dig_at hz ha)
    have HB := Lib.hid (fun (k : Int) h0 h1 w' => rbit a k ha h0 h1 w')
    unfold tzI
    generalize tz a = t at ht hd0 hd1
    clear hz
    go_enter Tryd.func12, Tryd.ntmps12
    go_wp2_with fail
    have L : Row (w.alloc (.cells (Wc a) 24)) w.heap.size 24 (Wc a) := row_new rfl
    have o : Below w.heap.size w (w.alloc (.cells (Wc a) 24)) := by (repeat (first | exact Below.refl _ _ | refine Below.setCell ?_ (by first | (simp; done) | (simp; omega) | omega) _ | refine Below.alloc ?_ (by first | (simp; done) | (simp; omega) | omega) _ | refine Below.drew ?_ | refine Below.trans ?_ (Below.mono (by assumption) (by first | (simp; done) | (simp; omega) | omega))))
    generalize (w.alloc (.cells (Wc a) 24)) = w2 at L o ⊢
    go_loopw [3] (fun i wr => ∃ k : Nat, k ≤ t ∧ i = .int .i64 (k : Nat) ∧ Row wr w.heap.size 24 (Wc a) ∧ Below w.heap.size w wr) (fun i _ => 128 - (intOf i).toNat)
    case atStart => exact ⟨0, by omega, rfl, L, o⟩
    case round =>
      clear L o
      obtain ⟨k, hk, rfl, L, o⟩ := hrel
      obtain ⟨X0, X1, X2, X3⟩ := row_two L
      have i1 : (k : Int) < 128 := by omega
      have B := HB.out (k : Int) (by omega) i1
      rw [Int.toNat_natCast] at B
      by_cases hlt : k < t
      · rw [hd0.out k hlt] at B
        have HC := Lib.hid B
        clear B
        go_wp2_with (go_at_call 17; refine (HC.out _).mono ?_; rintro e w3 ⟨rfl, hb3⟩)
        have L3 := row_call L hb3
        have o3 := o.trans (hb3.mono o.size)
        go_roundw
        case rel => exact ⟨k + 1, by omega, by go_num, L3, o3⟩
        case measure => simp [intOf]; omega
      · have e : k = t := by omega
        subst e
        rw [hd1.out] at B
        have HC := Lib.hid B
        clear B
        go_wp2_with (go_at_call 17; refine (HC.out _).mono ?_; rintro e w3 ⟨rfl, hb3⟩)
        go_ret
        exact ⟨rfl, o.trans (hb3.mono o.size)⟩
theorem rbits (a : Nat) (ha : a < big) (w : World) :
    Calls Tryd.prog 10 #[W a] w fun e w' => e = .returned (.int .i64 (blenI a)) ∧ Below w.heap.size w w' := by
  have HT := Lib.hid (bat_128 ha)
  have HB := Lib.hid (fun (k : Int) h0 h1 w' => rbit a k ha h0 h1 w')
  have HL := Lib.hid (bat_le a)
  have HS := Lib.hid (fun i => @bat_one a i)
  have HN := Lib.hid (fun i => @bat_null a i)
  go_enter Tryd.func10, Tryd.ntmps10
  go_wp2_with fail
  have L : Row (w.alloc (.cells (Wc a) 24)) w.heap.size 24 (Wc a) := row_new rfl
  have o : Below w.heap.size w (w.alloc (.cells (Wc a) 24)) := by (repeat (first | exact Below.refl _ _ | refine Below.setCell ?_ (by first | (simp; done) | (simp; omega) | omega) _ | refine Below.alloc ?_ (by first | (simp; done) | (simp; omega) | omega) _ | refine Below.drew ?_ | refine Below.trans ?_ (Below.mono (by assumption) (by first | (simp; done) | (simp; omega) | omega))))
  generalize (w.alloc (.cells (Wc a) 24)) = w2 at L o ⊢
  go_loopw [3, 4] (fun r i wr => ∃ k m : Nat, k ≤ 128 ∧ m ≤ k ∧ i = .int .i64 (k : Nat) ∧ r = .int .i64 (m : Nat) ∧ Row wr w.heap.size 24 (Wc a) ∧ Below w.heap.size w wr ∧ RowKit.Hid (bat a k = m)) (fun _ i _ => 128 - (intOf i).toNat)
  case atStart => exact ⟨0, 0, by omega, by omega, rfl, rfl, L, o, Lib.hid rfl⟩
  case round =>
    clear L o
    obtain ⟨k, m, hk, hm, rfl, rfl, L, o, HM⟩ := hrel
    obtain ⟨X0, X1, X2, X3⟩ := row_two L
    by_cases hlt : k < 128
    · have i1 : (k : Int) < 128 := by omega
      have B := HB.out (k : Int) (by omega) i1
      rw [Int.toNat_natCast] at B
      rcases dig_two a k with hd | hd
      · rw [hd] at B
        have HC := Lib.hid B
        have HD := Lib.hid hd
        clear B hd
        go_wp2_with (go_at_call 17; refine (HC.out _).mono ?_; rintro e w3 ⟨rfl, hb3⟩)
        have L3 := row_call L hb3
        have o3 := o.trans (hb3.mono o.size)
        go_roundw
        case rel => exact ⟨k + 1, m, by omega, by omega, by go_num, rfl, L3, o3, Lib.hid ((HN.out k HD.out).trans HM.out)⟩
        case measure => simp [intOf]; omega
      · rw [hd] at B
        have HC := Lib.hid B
        have HD := Lib.hid hd
        clear B hd
        go_wp2_with (go_at_call 17; refine (HC.out _).mono ?_; rintro e w3 ⟨rfl, hb3⟩)
        have L3 := row_call L hb3
        have o3 := o.trans (hb3.mono o.size)
        go_roundw
        case rel => exact ⟨k + 1, k + 1, by omega, by omega, by go_num, by go_num, L3, o3, Lib.hid (HS.out k HD.out)⟩
        case measure => simp [intOf]; omega
    · have i1 : ¬ (k : Int) < 128 := by omega
      have E := Lib.hid (show (m : Int) = blenI a by unfold blenI; rw [← HT.out, ← HM.out, show k = 128 by omega])
      go_wp2_with fail
      go_ret
      exact ⟨tz_ret E.out, o⟩
theorem pright_neg (a : Nat) (n : Int) (h : n < 0) (w : World) :
    Calls Tryd.prog 7 #[W a, .int .i64 n] w fun e w' => e = .returned (W 0) ∧ Below w.heap.size w w' := by
  go_enter Tryd.func7, Tryd.ntmps7
  go_wp2
  simp [bodyPost, results, Tryd.results7, go_sem]
  refine ⟨⟨rfl, rfl⟩, ?_⟩
  (repeat (first | exact Below.refl _ _ | refine Below.setCell ?_ (by first | (simp; done) | (simp; omega) | omega) _ | refine Below.alloc ?_ (by first | (simp; done) | (simp; omega) | omega) _ | refine Below.drew ?_ | refine Below.trans ?_ (Below.mono (by assumption) (by first | (simp; done) | (simp; omega) | omega))))
theorem pright_far (a : Nat) (n : Int) (h : 128 ≤ n) (w : World) :
    Calls Tryd.prog 7 #[W a, .int .i64 n] w fun e w' => e = .returned (W 0) ∧ Below w.heap.size w w' := by
  have h' : ¬ n < 0 := by omega
  go_enter Tryd.func7, Tryd.ntmps7
  go_wp2
  simp [bodyPost, results, Tryd.results7, go_sem]
  refine ⟨⟨rfl, rfl⟩, ?_⟩
  (repeat (first | exact Below.refl _ _ | refine Below.setCell ?_ (by first | (simp; done) | (simp; omega) | omega) _ | refine Below.alloc ?_ (by first | (simp; done) | (simp; omega) | omega) _ | refine Below.drew ?_ | refine Below.trans ?_ (Below.mono (by assumption) (by first | (simp; done) | (simp; omega) | omega))))
theorem rright_neg (a : Nat) (n : Int) (h : n < 0) (w : World) :
    Calls Tryd.prog 8 #[W a, .int .i64 n] w fun e w' => e = .returned (W 0) ∧ Below w.heap.size w w' := by
  go_enter Tryd.func8, Tryd.ntmps8
  go_wp2
  simp [bodyPost, results, Tryd.results8, go_sem]
  refine ⟨⟨rfl, rfl⟩, ?_⟩
  (repeat (first | exact Below.refl _ _ | refine Below.setCell ?_ (by first | (simp; done) | (simp; omega) | omega) _ | refine Below.alloc ?_ (by first | (simp; done) | (simp; omega) | omega) _ | refine Below.drew ?_ | refine Below.trans ?_ (Below.mono (by assumption) (by first | (simp; done) | (simp; omega) | omega))))
theorem rright_far (a : Nat) (n : Int) (h : 128 ≤ n) (w : World) :
    Calls Tryd.prog 8 #[W a, .int .i64 n] w fun e w' => e = .returned (W 0) ∧ Below w.heap.size w w' := by
  have h' : ¬ n < 0 := by omega
  go_enter Tryd.func8, Tryd.ntmps8
  go_wp2
  simp [bodyPost, results, Tryd.results8, go_sem]
  refine ⟨⟨rfl, rfl⟩, ?_⟩
  (repeat (first | exact Below.refl _ _ | refine Below.setCell ?_ (by first | (simp; done) | (simp; omega) | omega) _ | refine Below.alloc ?_ (by first | (simp; done) | (simp; omega) | omega) _ | refine Below.drew ?_ | refine Below.trans ?_ (Below.mono (by assumption) (by first | (simp; done) | (simp; omega) | omega))))
set_option maxHeartbeats 1000000 in
theorem pright_in (a : Nat) (n : Int) (ha : a < big) (h0 : 0 ≤ n) (h1 : n < 128) (w : World) :
    Calls Tryd.prog 7 #[W a, .int .i64 n] w fun e w' => e = .returned (W (rightV a n)) ∧ Below w.heap.size w w' := by
  obtain ⟨b1, b2⟩ := lo_word a
  obtain ⟨b3, b4⟩ := hi_word ha
  have t128 : decide (128 ≤ n) = false := by simp; omega
  have h0' : ¬ n < 0 := by omega
  by_cases h64 : 64 ≤ n
  · obtain ⟨E1, E2⟩ := right_hi64 ha h64 h1
    have HE := Lib.hid E2
    clear E2
    go_enter Tryd.func7, Tryd.ntmps7
    go_wp2
    simp [bodyPost, results, Tryd.results7, go_sem, HE.out]
    (repeat (first | exact Below.refl _ _ | refine Below.setCell ?_ (by first | (simp; done) | (simp; omega) | omega) _ | refine Below.alloc ?_ (by first | (simp; done) | (simp; omega) | omega) _ | refine Below.drew ?_ | refine Below.trans ?_ (Below.mono (by assumption) (by first | (simp; done) | (simp; omega) | omega))))
  · obtain ⟨E1, E2⟩ := right_lo64 ha h0 (by omega)
    have t64 : decide (64 ≤ n) = false := by simpa using h64
    have n3 : n < 64 := by omega
    clear h64
    go_enter Tryd.func7, Tryd.ntmps7
    go_wp2
    simp [bodyPost, results, Tryd.results7, go_sem]
    (repeat (first | exact Below.refl _ _ | refine Below.setCell ?_ (by first | (simp; done) | (simp; omega) | omega) _ | refine Below.alloc ?_ (by first | (simp; done) | (simp; omega) | omega) _ | refine Below.drew ?_ | refine Below.trans ?_ (Below.mono (by assumption) (by first | (simp; done) | (simp; omega) | omega))))
theorem pright (a : Nat) (n : Int) (ha : a < big) (w : World) : Calls Tryd.prog 7 #[W a, .int .i64 n] w fun e w' => e = .returned (W (rightV a n)) ∧ Below w.heap.size w w' := by
  by_cases h0 : n < 0
  · rw [right_out (a := a) (n := n) (by omega)]
    exact pright_neg a n h0 w
  · by_cases h1 : 128 ≤ n
    · rw [right_out (a := a) (n := n) (by omega)]
      exact pright_far a n h1 w
    · exact pright_in a n ha (by omega) (by omega) w
theorem rright_in (a n : Nat) (ha : a < big) (h1 : n < 128) (w : World) :
    Calls Tryd.prog 8 #[W a, .int .i64 n] w fun e w' => e = .returned (W (halfN a n)) ∧ Below w.heap.size w w' := by
  have HB := Lib.hid (fun k => @halfN_lt a k ha)
  have HS := Lib.hid (fun k => halfN_succ a k)
  have t128 : decide ((128 : Int) ≤ (n : Int)) = false := by simp; omega
  go_enter Tryd.func8, Tryd.ntmps8
  go_wp2_with fail
  have L : Row ((w.alloc (.cells (Wc a) 24)).alloc (.cells #[.int .u64 0, .int .u64 0] 24)) w.heap.size 24 (Wc (halfN a 0)) := by rw [halfN_0]; (repeat (first | assumption | (refine row_new ?_; (first | (simp; done) | omega)) | refine row_alloc ?_ _ | refine row_drew ?_ | refine row_call ?_ (by assumption)))
  have L1 : Row ((w.alloc (.cells (Wc a) 24)).alloc (.cells #[.int .u64 0, .int .u64 0] 24)) (w.heap.size + 1) 24 #[.int .u64 0, .int .u64 0] := by (repeat (first | assumption | (refine row_new ?_; (first | (simp; done) | omega)) | refine row_alloc ?_ _ | refine row_drew ?_ | refine row_call ?_ (by assumption)))
  have o : Below w.heap.size w ((w.alloc (.cells (Wc a) 24)).alloc (.cells #[.int .u64 0, .int .u64 0] 24)) := by (repeat (first | exact Below.refl _ _ | refine Below.setCell ?_ (by first | (simp; done) | (simp; omega) | omega) _ | refine Below.alloc ?_ (by first | (simp; done) | (simp; omega) | omega) _ | refine Below.drew ?_ | refine Below.trans ?_ (Below.mono (by assumption) (by first | (simp; done) | (simp; omega) | omega))))
  generalize ((w.alloc (.cells (Wc a) 24)).alloc (.cells #[.int .u64 0, .int .u64 0] 24)) = w2 at L L1 o ⊢
  go_loopw [5] (fun i wr => ∃ k : Nat, k ≤ n ∧ i = .int .i64 (k : Nat) ∧ Row wr w.heap.size 24 (Wc (halfN a k)) ∧ Row wr (w.heap.size + 1) 24 #[.int .u64 0, .int .u64 0] ∧ Below w.heap.size w wr) (fun i _ => n - (intOf i).toNat)
  case atStart => exact ⟨0, by omega, rfl, L, L1, o⟩
  case round =>
    clear L L1 o
    obtain ⟨k, hk, rfl, L, L1, o⟩ := hrel
    obtain ⟨X0, X1, X2, X3⟩ := row_two L
    obtain ⟨Y0, Y1, Y2, Y3⟩ := row_two L1
    by_cases hlt : k < n
    · have i1 : (k : Int) < (n : Int) := by omega
      have hx := HB.out k
      have hs := HS.out k
      obtain ⟨E1, E2⟩ := half_words hx
      obtain ⟨b1, b2⟩ := lo_word (halfN a k)
      obtain ⟨b3, b4⟩ := hi_word hx
      have L2 := row_two_set (u := .int .u64 (hi (halfN a (k + 1)))) (v := .int .u64 (lo (halfN a (k + 1)))) L
      rw [hs] at L2
      have hs' := Lib.hid hs
      clear hs
      generalize halfN a k = x at *
      go_wp2_with fail
      go_roundw
      case rel => exact ⟨k + 1, by omega, by go_num, by rw [hs'.out]; exact L2, row_two_other L1 (by omega), (o.setCell (by simp) _).setCell (by simp) _⟩
      case measure => simp [intOf]; omega
    · have i1 : ¬ (k : Int) < (n : Int) := by omega
      have e : k = n := by omega
      subst e
      go_wp2_with fail
      have r9 := row_two_set (u := .int .u64 (hi (halfN a k))) (v := .int .u64 (lo (halfN a k))) L1
      have o9 : Below w.heap.size w ((wr.setCell ⟨(w.heap.size + 1), 0, none⟩ (.int .u64 (hi (halfN a k)))).setCell ⟨(w.heap.size + 1), 1, none⟩ (.int .u64 (lo (halfN a k)))) := by
        (repeat (first | exact Below.refl _ _ | refine Below.setCell ?_ (by first | (simp; done) | (simp; omega) | omega) _ | refine Below.alloc ?_ (by first | (simp; done) | (simp; omega) | omega) _ | refine Below.drew ?_ | refine Below.trans ?_ (Below.mono (by assumption) (by first | (simp; done) | (simp; omega) | omega))))
      generalize ((wr.setCell ⟨(w.heap.size + 1), 0, none⟩ (.int .u64 (hi (halfN a k)))).setCell ⟨(w.heap.size + 1), 1, none⟩ (.int .u64 (lo (halfN a k)))) = w9 at r9 o9 ⊢
      obtain ⟨d1, d2, _, _⟩ := row_two r9
      exact bodyPost_ret (v := (W (halfN a k))) (by simp [results, Tryd.results8, go_sem, W, d1, d2]) rfl ⟨rfl, o9⟩
theorem rright (a : Nat) (n : Int) (ha : a < big) (w : World) : Calls Tryd.prog 8 #[W a, .int .i64 n] w fun e w' => e = .returned (W (rightV a n)) ∧ Below w.heap.size w w' := by
  by_cases h0 : n < 0
  · rw [right_out (a := a) (n := n) (by omega)]
    exact rright_neg a n h0 w
  · by_cases h1 : 128 ≤ n
    · rw [right_out (a := a) (n := n) (by omega)]
      exact rright_far a n h1 w
    · obtain ⟨m, rfl⟩ := Int.eq_ofNat_of_zero_le (Int.not_lt.1 h0)
      rw [right_in (by omega)]
      exact rright_in a m ha (by omega) w
end Go.Proofs.YtoemccfpinonhaaDoor
