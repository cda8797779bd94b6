/- The exact comparison of two products, walked: the program, the reference and the law. -/
import Derived.Test.YtoemccfpinonhaaFree
import Derived.Test.YtoemccfpinonhaaDiv
import Derived.Lib.Hide
import Derived.Test.YtoemccfpinonhaaMathCross
namespace Go.Proofs.Ytoemccfpinonhaa
open Go.RowKit Go.Shelf
theorem ret_eq {k : IntKind} {a b : Int} (h : a = b) : Ending.returned (.int k a) = .returned (.int k b) := by rw [h]
theorem neg_wrap (a : Int) (h : -9223372036854775808 ≤ a) (k : a < 0) : IntKind.u64.wrap (-IntKind.u64.wrap a) = (a.natAbs : Int) := by
  rw [IntKind.wrap_u64, IntKind.wrap_u64]
  omega
theorem psize (a : Int) (h : -9223372036854775808 ≤ a ∧ a ≤ 9223372036854775807) (w : World) :
    Calls Try.prog 50 #[.int .i64 a] w fun e w' => e = .returned (.int .u64 (a.natAbs : Int)) ∧ w' = w := by
  obtain ⟨h1, h2⟩ := h
  by_cases hn : a < 0
  all_goals
    go_enter Try.func50, Try.ntmps50
    go_wp2
    go_ret
    exact ⟨ret_eq (by first | omega | exact neg_wrap a h1 hn), rfl⟩
theorem rabs (a : Int) (h : -9223372036854775808 ≤ a ∧ a ≤ 9223372036854775807) (w : World) :
    Calls Try.prog 46 #[.int .i64 a] w fun e w' => e = .returned (.int .u64 (a.natAbs : Int)) ∧ w' = w := by
  obtain ⟨h1, h2⟩ := h
  by_cases hn : a < 0
  all_goals
    go_enter Try.func46, Try.ntmps46
    go_wp2
    go_ret
    exact ⟨ret_eq (by first | omega | exact neg_wrap a h1 hn), rfl⟩
theorem rsign (a : Int) (w : World) :
    Calls Try.prog 47 #[.int .i64 a] w fun e w' => e = .returned (.int .i64 (isign a)) ∧ w' = w := by
  rcases Int.lt_trichotomy a 0 with h | h | h
  · have e : isign a = -1 := by simp [isign, h]
    rw [e]
    clear e
    go_enter Try.func47, Try.ntmps47
    go_wp2
    go_ret
    exact ⟨rfl, rfl⟩
  · subst h
    go_enter Try.func47, Try.ntmps47
    go_wp2
    go_ret
    exact ⟨rfl, rfl⟩
  · have e : isign a = 1 := by unfold isign; rw [if_neg (by omega), if_pos h]
    rw [e]
    clear e
    go_enter Try.func47, Try.ntmps47
    go_wp2
    go_ret
    exact ⟨rfl, rfl⟩
theorem pprodn (x y : Nat) (hx : x < 18446744073709551616) (hy : y < 18446744073709551616) (w : World) :
    Calls Try.prog 28 #[.int .u64 x, .int .u64 y] w fun e w' => e = .returned (W (x * y)) ∧ Below w.heap.size w w' := pproduct x y ⟨by omega, by omega⟩ ⟨by omega, by omega⟩ w
theorem rprodn (x y : Nat) (hx : x < 18446744073709551616) (hy : y < 18446744073709551616) (w : World) :
    Calls Try.prog 29 #[.int .u64 x, .int .u64 y] w fun e w' => e = .returned (W (x * y)) ∧ Below w.heap.size w w' := rproduct x y ⟨by omega, by omega⟩ ⟨by omega, by omega⟩ w
theorem psigned (a b : Int) (ha : -9223372036854775808 ≤ a ∧ a ≤ 9223372036854775807) (hb : -9223372036854775808 ≤ b ∧ b ≤ 9223372036854775807) (w : World) :
    Calls Try.prog 45 #[.int .i64 a, .int .i64 b] w fun e w' => e = .returned (.tuple #[.bool (sneg a b), W (pabs a b)]) ∧ Below w.heap.size w w' := by
  have HA := Lib.hid (fun w => psize a ha w)
  have HB := Lib.hid (fun w => psize b hb w)
  have HP := Lib.hid (fun w => pprodn a.natAbs b.natAbs (i64_abs ha) (i64_abs hb) w)
  clear ha hb
  unfold sneg pabs
  generalize a.natAbs * b.natAbs = z at HP ⊢
  generalize a.natAbs = x at HA HP
  generalize b.natAbs = y at HB HP
  go_enter Try.func45, Try.ntmps45
  go_wp2_with (first | (go_at_call 50; (first | with_reducible refine (HA.out _).mono ?_ | with_reducible refine (HB.out _).mono ?_); rintro e w9 ⟨rfl, rfl⟩) | (go_at_call 28; refine (HP.out _).mono ?_; rintro e w1 ⟨rfl, hb1⟩; have hz1 := hb1.size; (try simp at hz1); have q1_0 : w.heap.size < w1.heap.size := (by omega); have r1_0 : Row w1 (w.heap.size) 24 #[.int .u64 0, .int .u64 0] := row_call (by (repeat (first | assumption | (refine row_new ?_; (first | (simp; done) | omega)) | refine row_alloc ?_ _ | refine row_drew ?_ | refine row_call ?_ (by assumption)))) hb1; obtain ⟨c1_0a, c1_0b, f1_0a, f1_0b⟩ := row_two r1_0))
  have r2 := row_two_set (u := .int .u64 (hi z)) (v := .int .u64 (lo z)) r1_0
  have o2 : Below w.heap.size w ((w1.setCell ⟨w.heap.size, 0, none⟩ (.int .u64 (hi z))).setCell ⟨w.heap.size, 1, none⟩ (.int .u64 (lo z))) := by
    (repeat (first | exact Below.refl _ _ | refine Below.setCell ?_ (by first | (simp; done) | (simp; omega) | omega) _ | refine Below.alloc ?_ (by first | (simp; done) | (simp; omega) | omega) _ | refine Below.drew ?_ | refine Below.trans ?_ (Below.mono (by assumption) (by first | (simp; done) | (simp; omega) | omega))))
  generalize ((w1.setCell ⟨w.heap.size, 0, none⟩ (.int .u64 (hi z))).setCell ⟨w.heap.size, 1, none⟩ (.int .u64 (lo z))) = w2 at r2 o2 ⊢
  obtain ⟨d1, d2, _, _⟩ := row_two r2
  exact bodyPost_ret (v := .tuple #[.bool (decide (a < 0) != decide (b < 0)), W z]) (by simp [results, Try.results45, go_sem, bne, W, d1, d2]) rfl ⟨rfl, o2⟩
theorem pcross_in (a b c d : Int) (s1 s2 z1 z2 : Bool) (x y : Nat)
    (H1 : RowKit.Hid (∀ w, Calls Try.prog 45 #[.int .i64 a, .int .i64 b] w fun e w' => e = .returned (.tuple #[.bool s1, W x]) ∧ Below w.heap.size w w'))
    (H2 : RowKit.Hid (∀ w, Calls Try.prog 45 #[.int .i64 c, .int .i64 d] w fun e w' => e = .returned (.tuple #[.bool s2, W y]) ∧ Below w.heap.size w w'))
    (Z1 : RowKit.Hid (∀ w, Calls Try.prog 38 #[W x] w fun e w' => e = .returned (.bool z1) ∧ Below w.heap.size w w'))
    (Z2 : RowKit.Hid (∀ w, Calls Try.prog 38 #[W y] w fun e w' => e = .returned (.bool z2) ∧ Below w.heap.size w w')) (w : World) :
    Calls Try.prog 24 #[.int .i64 a, .int .i64 b, .int .i64 c, .int .i64 d] w fun e w' => e = .returned (.int .i64 (pcrossV (s1 && !z1) (s2 && !z2) x y)) ∧ Below w.heap.size w w' := by
  cases s1 <;> cases s2 <;> cases z1 <;> cases z2
  all_goals
    go_enter Try.func24, Try.ntmps24
    go_wp2_with (first | (go_at_call 45; with_reducible refine (H1.out _).mono ?_; rintro e w1 ⟨rfl, hb1⟩; have hz1 := hb1.size; (try simp at hz1)) | (go_at_call 45; with_reducible refine (H2.out _).mono ?_; rintro e w2 ⟨rfl, hb2⟩; have hz2 := hb2.size; (try simp at hz2); have q2_0 : w1.heap.size < w2.heap.size := (by omega); have r2_0 : Row w2 (w1.heap.size) 24 (Wc x) := row_call (by (repeat (first | assumption | (refine row_new ?_; (first | (simp; done) | omega)) | refine row_alloc ?_ _ | refine row_drew ?_ | refine row_call ?_ (by assumption)))) hb2; obtain ⟨c2_0a, c2_0b, f2_0a, f2_0b⟩ := row_two r2_0) | (go_at_call 38; with_reducible refine (Z1.out _).mono ?_; rintro e w3 ⟨rfl, hb3⟩; have hz3 := hb3.size; (try simp at hz3); have q3_0 : w1.heap.size < w3.heap.size := (by omega); have r3_0 : Row w3 (w1.heap.size) 24 (Wc x) := row_call (by (repeat (first | assumption | (refine row_new ?_; (first | (simp; done) | omega)) | refine row_alloc ?_ _ | refine row_drew ?_ | refine row_call ?_ (by assumption)))) hb3; obtain ⟨c3_0a, c3_0b, f3_0a, f3_0b⟩ := row_two r3_0; have q3_1 : w2.heap.size < w3.heap.size := (by omega); have r3_1 : Row w3 (w2.heap.size) 24 (Wc y) := row_call (by (repeat (first | assumption | (refine row_new ?_; (first | (simp; done) | omega)) | refine row_alloc ?_ _ | refine row_drew ?_ | refine row_call ?_ (by assumption)))) hb3; obtain ⟨c3_1a, c3_1b, f3_1a, f3_1b⟩ := row_two r3_1) | (go_at_call 38; with_reducible refine (Z2.out _).mono ?_; rintro e w4 ⟨rfl, hb4⟩; have hz4 := hb4.size; (try simp at hz4); have q4_0 : w1.heap.size < w4.heap.size := (by omega); have r4_0 : Row w4 (w1.heap.size) 24 (Wc x) := row_call (by (repeat (first | assumption | (refine row_new ?_; (first | (simp; done) | omega)) | refine row_alloc ?_ _ | refine row_drew ?_ | refine row_call ?_ (by assumption)))) hb4; obtain ⟨c4_0a, c4_0b, f4_0a, f4_0b⟩ := row_two r4_0; have q4_1 : w2.heap.size < w4.heap.size := (by omega); have r4_1 : Row w4 (w2.heap.size) 24 (Wc y) := row_call (by (repeat (first | assumption | (refine row_new ?_; (first | (simp; done) | omega)) | refine row_alloc ?_ _ | refine row_drew ?_ | refine row_call ?_ (by assumption)))) hb4; obtain ⟨c4_1a, c4_1b, f4_1a, f4_1b⟩ := row_two r4_1) | (go_at_call 16; refine (pcmp_any _ _ _).mono ?_; rintro e w5 ⟨rfl, hb5⟩; have hz5 := hb5.size; (try simp at hz5)))
    all_goals
      go_ret
      refine ⟨rfl, ?_⟩
      (repeat (first | exact Below.refl _ _ | refine Below.setCell ?_ (by first | (simp; done) | (simp; omega) | omega) _ | refine Below.alloc ?_ (by first | (simp; done) | (simp; omega) | omega) _ | refine Below.drew ?_ | refine Below.trans ?_ (Below.mono (by assumption) (by first | (simp; done) | (simp; omega) | omega))))
theorem pcross (a b c d : Int) (ha : -9223372036854775808 ≤ a ∧ a ≤ 9223372036854775807) (hb : -9223372036854775808 ≤ b ∧ b ≤ 9223372036854775807) (hc : -9223372036854775808 ≤ c ∧ c ≤ 9223372036854775807) (hd : -9223372036854775808 ≤ d ∧ d ≤ 9223372036854775807) (w : World) :
    Calls Try.prog 24 #[.int .i64 a, .int .i64 b, .int .i64 c, .int .i64 d] w fun e w' => e = .returned (.int .i64 (icmp (a * b) (c * d))) ∧ Below w.heap.size w w' := by
  have h := pcross_in a b c d _ _ _ _ _ _ (Lib.hid fun w => psigned a b ha hb w) (Lib.hid fun w => psigned c d hc hd w) (Lib.hid fun w => pzero (pabs a b) w) (Lib.hid fun w => pzero (pabs c d) w) w
  rw [show (sneg a b && !decide (pabs a b = 0)) = pneg a b from rfl, show (sneg c d && !decide (pabs c d = 0)) = pneg c d from rfl, cross_is] at h
  exact h
set_option maxHeartbeats 1000000 in
theorem rcross_in (a b c d sa sb sc sd : Int) (xa xb xc xd x y : Nat)
    (Aa : RowKit.Hid (∀ w, Calls Try.prog 46 #[.int .i64 a] w fun e w' => e = .returned (.int .u64 (xa : Int)) ∧ w' = w)) (Ab : RowKit.Hid (∀ w, Calls Try.prog 46 #[.int .i64 b] w fun e w' => e = .returned (.int .u64 (xb : Int)) ∧ w' = w)) (Ac : RowKit.Hid (∀ w, Calls Try.prog 46 #[.int .i64 c] w fun e w' => e = .returned (.int .u64 (xc : Int)) ∧ w' = w)) (Ad : RowKit.Hid (∀ w, Calls Try.prog 46 #[.int .i64 d] w fun e w' => e = .returned (.int .u64 (xd : Int)) ∧ w' = w))
    (Sa : RowKit.Hid (∀ w, Calls Try.prog 47 #[.int .i64 a] w fun e w' => e = .returned (.int .i64 sa) ∧ w' = w)) (Sb : RowKit.Hid (∀ w, Calls Try.prog 47 #[.int .i64 b] w fun e w' => e = .returned (.int .i64 sb) ∧ w' = w)) (Sc : RowKit.Hid (∀ w, Calls Try.prog 47 #[.int .i64 c] w fun e w' => e = .returned (.int .i64 sc) ∧ w' = w)) (Sd : RowKit.Hid (∀ w, Calls Try.prog 47 #[.int .i64 d] w fun e w' => e = .returned (.int .i64 sd) ∧ w' = w))
    (P1 : RowKit.Hid (∀ w, Calls Try.prog 29 #[.int .u64 (xa : Int), .int .u64 (xb : Int)] w fun e w' => e = .returned (W x) ∧ Below w.heap.size w w'))
    (P2 : RowKit.Hid (∀ w, Calls Try.prog 29 #[.int .u64 (xc : Int), .int .u64 (xd : Int)] w fun e w' => e = .returned (W y) ∧ Below w.heap.size w w'))
    (m1 : -1 ≤ sa * sb) (m2 : sa * sb ≤ 1) (m3 : -1 ≤ sc * sd) (m4 : sc * sd ≤ 1) (m5 : -1 ≤ sa * sb * cmp x y) (m6 : sa * sb * cmp x y ≤ 1) (w : World) :
    Calls Try.prog 25 #[.int .i64 a, .int .i64 b, .int .i64 c, .int .i64 d] w fun e w' => e = .returned (.int .i64 (rcrossV (sa * sb) (sc * sd) x y)) ∧ Below w.heap.size w w' := by
  unfold rcrossV
  rcases Int.lt_trichotomy (sa * sb) (sc * sd) with h | h | h
  · rw [if_pos h]
    have h' : ¬ (sc * sd < sa * sb) := by omega
    go_enter Try.func25, Try.ntmps25
    go_wp2_with (first | (go_at_call 46; (first | with_reducible refine (Aa.out _).mono ?_ | with_reducible refine (Ab.out _).mono ?_ | with_reducible refine (Ac.out _).mono ?_ | with_reducible refine (Ad.out _).mono ?_); rintro e w9 ⟨rfl, rfl⟩) | (go_at_call 47; (first | with_reducible refine (Sa.out _).mono ?_ | with_reducible refine (Sb.out _).mono ?_ | with_reducible refine (Sc.out _).mono ?_ | with_reducible refine (Sd.out _).mono ?_); rintro e w9 ⟨rfl, rfl⟩) | (go_at_call 29; with_reducible refine (P1.out _).mono ?_; rintro e w1 ⟨rfl, hb1⟩; have hz1 := hb1.size; (try simp at hz1)) | (go_at_call 29; with_reducible refine (P2.out _).mono ?_; rintro e w2 ⟨rfl, hb2⟩; have hz2 := hb2.size; (try simp at hz2)) | (go_at_call 17; refine (rcmp_any _ _ _).mono ?_; rintro e w5 ⟨rfl, hb5⟩; have hz5 := hb5.size; (try simp at hz5)))
    go_ret
    refine ⟨rfl, ?_⟩
    (repeat (first | exact Below.refl _ _ | refine Below.setCell ?_ (by first | (simp; done) | (simp; omega) | omega) _ | refine Below.alloc ?_ (by first | (simp; done) | (simp; omega) | omega) _ | refine Below.drew ?_ | refine Below.trans ?_ (Below.mono (by assumption) (by first | (simp; done) | (simp; omega) | omega))))
  · rw [if_neg (by omega), if_neg (by omega)]
    have h1 : ¬ (sa * sb < sc * sd) := by omega
    have h2 : ¬ (sc * sd < sa * sb) := by omega
    clear h
    go_enter Try.func25, Try.ntmps25
    go_wp2_with (first | (go_at_call 46; (first | with_reducible refine (Aa.out _).mono ?_ | with_reducible refine (Ab.out _).mono ?_ | with_reducible refine (Ac.out _).mono ?_ | with_reducible refine (Ad.out _).mono ?_); rintro e w9 ⟨rfl, rfl⟩) | (go_at_call 47; (first | with_reducible refine (Sa.out _).mono ?_ | with_reducible refine (Sb.out _).mono ?_ | with_reducible refine (Sc.out _).mono ?_ | with_reducible refine (Sd.out _).mono ?_); rintro e w9 ⟨rfl, rfl⟩) | (go_at_call 29; with_reducible refine (P1.out _).mono ?_; rintro e w1 ⟨rfl, hb1⟩; have hz1 := hb1.size; (try simp at hz1)) | (go_at_call 29; with_reducible refine (P2.out _).mono ?_; rintro e w2 ⟨rfl, hb2⟩; have hz2 := hb2.size; (try simp at hz2)) | (go_at_call 17; refine (rcmp_any _ _ _).mono ?_; rintro e w5 ⟨rfl, hb5⟩; have hz5 := hb5.size; (try simp at hz5)))
    go_ret
    refine ⟨rfl, ?_⟩
    (repeat (first | exact Below.refl _ _ | refine Below.setCell ?_ (by first | (simp; done) | (simp; omega) | omega) _ | refine Below.alloc ?_ (by first | (simp; done) | (simp; omega) | omega) _ | refine Below.drew ?_ | refine Below.trans ?_ (Below.mono (by assumption) (by first | (simp; done) | (simp; omega) | omega))))
  · rw [if_neg (by omega), if_pos h]
    have h' : ¬ (sa * sb < sc * sd) := by omega
    go_enter Try.func25, Try.ntmps25
    go_wp2_with (first | (go_at_call 46; (first | with_reducible refine (Aa.out _).mono ?_ | with_reducible refine (Ab.out _).mono ?_ | with_reducible refine (Ac.out _).mono ?_ | with_reducible refine (Ad.out _).mono ?_); rintro e w9 ⟨rfl, rfl⟩) | (go_at_call 47; (first | with_reducible refine (Sa.out _).mono ?_ | with_reducible refine (Sb.out _).mono ?_ | with_reducible refine (Sc.out _).mono ?_ | with_reducible refine (Sd.out _).mono ?_); rintro e w9 ⟨rfl, rfl⟩) | (go_at_call 29; with_reducible refine (P1.out _).mono ?_; rintro e w1 ⟨rfl, hb1⟩; have hz1 := hb1.size; (try simp at hz1)) | (go_at_call 29; with_reducible refine (P2.out _).mono ?_; rintro e w2 ⟨rfl, hb2⟩; have hz2 := hb2.size; (try simp at hz2)) | (go_at_call 17; refine (rcmp_any _ _ _).mono ?_; rintro e w5 ⟨rfl, hb5⟩; have hz5 := hb5.size; (try simp at hz5)))
    go_ret
    refine ⟨rfl, ?_⟩
    (repeat (first | exact Below.refl _ _ | refine Below.setCell ?_ (by first | (simp; done) | (simp; omega) | omega) _ | refine Below.alloc ?_ (by first | (simp; done) | (simp; omega) | omega) _ | refine Below.drew ?_ | refine Below.trans ?_ (Below.mono (by assumption) (by first | (simp; done) | (simp; omega) | omega))))
theorem rcross (a b c d : Int) (ha : -9223372036854775808 ≤ a ∧ a ≤ 9223372036854775807) (hb : -9223372036854775808 ≤ b ∧ b ≤ 9223372036854775807) (hc : -9223372036854775808 ≤ c ∧ c ≤ 9223372036854775807) (hd : -9223372036854775808 ≤ d ∧ d ≤ 9223372036854775807) (w : World) :
    Calls Try.prog 25 #[.int .i64 a, .int .i64 b, .int .i64 c, .int .i64 d] w fun e w' => e = .returned (.int .i64 (icmp (a * b) (c * d))) ∧ Below w.heap.size w w' := by
  have h := rcross_in a b c d _ _ _ _ _ _ _ _ _ _ (Lib.hid fun w => rabs a ha w) (Lib.hid fun w => rabs b hb w) (Lib.hid fun w => rabs c hc w) (Lib.hid fun w => rabs d hd w) (Lib.hid fun w => rsign a w) (Lib.hid fun w => rsign b w) (Lib.hid fun w => rsign c w) (Lib.hid fun w => rsign d w) (Lib.hid fun w => rprodn a.natAbs b.natAbs (i64_abs ha) (i64_abs hb) w) (Lib.hid fun w => rprodn c.natAbs d.natAbs (i64_abs hc) (i64_abs hd) w)
    (by rw [isign_mul]; exact (isign_bd _).1) (by rw [isign_mul]; exact (isign_bd _).2) (by rw [isign_mul]; exact (isign_bd _).1) (by rw [isign_mul]; exact (isign_bd _).2)
    (by rw [isign_mul]; exact (sgn_cmp_bd _ _ _).1) (by rw [isign_mul]; exact (sgn_cmp_bd _ _ _).2) w
  rw [show a.natAbs * b.natAbs = pabs a b from rfl, show c.natAbs * d.natAbs = pabs c d from rfl, rcross_is] at h
  exact h
end Go.Proofs.Ytoemccfpinonhaa
