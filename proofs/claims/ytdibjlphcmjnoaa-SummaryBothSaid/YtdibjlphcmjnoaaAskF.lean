/- Summaries of a stream: the rank of a quantile, walked. -/
import Derived.Test.YtdibjlphcmjnoaaAskE
import Derived.Test.YtdibjlphcmjnoaaDiv
import Derived.Test.YtdibjlphcmjnoaaRDiv
set_option linter.unusedVariables false
set_option linter.unusedSimpArgs false
set_option linter.unusedSectionVars false
set_option linter.unnecessarySimpa false
namespace Go.Proofs.Ytdibjlphcmjnoaa
open Go.RowKit Go.Shelf
theorem neq_zeroT {b : Nat} (h : b ≠ 0) (w' : World) : (binOp .neq 87 (.agg #[.int .u64 (hi b), .int .u64 (lo b)]) (.agg #[.int .u64 0, .int .u64 0])).run Try.prog w' = .ok (.bool true) w' := by
  go_simp
  exact fun h1 h2 => h (hi_inj (b := 0) h1 h2)
theorem row_pair {w : World} {b : Nat} {t : TypeId} {x0 x1 : Value} (h : Row w b t #[x0, x1]) : w.cell? ⟨b, 0, none⟩ = some x0 ∧ w.cell? ⟨b, 1, none⟩ = some x1 ∧ w.frozen? ⟨b, 0, none⟩ = false ∧ w.frozen? ⟨b, 1, none⟩ = false := row_two h
set_option maxHeartbeats 1000000 in
theorem ptarget (n p q : Nat) (hq : 1 ≤ q) (hp : p ≤ q) (hq2 : q < 9223372036854775808) (hn : 1 ≤ n) (hn2 : n ≤ 1099511627776) (w : World) : Calls Try.prog 47 #[.int .i64 (n : Nat), .int .i64 (p : Nat), .int .i64 (q : Nat)] w fun e w' => e = .returned (.int .i64 (tgt p n q)) ∧ Below w.heap.size w w' := by
  have hz : p * n < big := by
    have : p * n ≤ 9223372036854775808 * 1099511627776 := Nat.mul_le_mul (by omega) (by omega)
    unfold big
    omega
  have hb1 : p * n / q ≤ n := by
    have : p * n ≤ q * n := Nat.mul_le_mul_right n hp
    exact Nat.le_trans (Nat.div_le_div_right this) (by rw [Nat.mul_div_cancel_left n (by omega)]; exact Nat.le_refl _)
  have PP := fun w => pproduct (p : Int) (n : Int) ⟨by omega, by omega⟩ ⟨by omega, by omega⟩ w
  rw [Int.toNat_natCast, Int.toNat_natCast] at PP
  have PP := Lib.hid PP
  have PO := Lib.hid (fun w => pof q (by omega) w)
  have PD := Lib.hid (fun w => pdiv_yes (p * n) q hz (by unfold big; omega) (by omega) w)
  have ht1 : p * n % q = 0 → tgt p n q = max 1 ((p * n / q : Nat) : Int) := fun h => by unfold tgt; rw [if_pos h]; rfl
  have ht2 : p * n % q ≠ 0 → tgt p n q = max 1 (((p * n / q : Nat) : Int) + 1) := fun h => by unfold tgt; rw [if_neg h]; rfl
  generalize tgt p n q = tg at ht1 ht2 ⊢
  generalize p * n / q = x at hb1 PD ht1 ht2
  generalize p * n % q = y at PD ht1 ht2
  generalize p * n = z at PD PP
  have T1 := Lib.hid ht1
  have T2 := Lib.hid ht2
  have c1 : IntKind.u64.wrap (p : Int) = (p : Int) := IntWalk.u64_in _ (by omega)
  have c2 : IntKind.u64.wrap (n : Int) = (n : Int) := IntWalk.u64_in _ (by omega)
  have c3 : IntKind.u64.wrap (q : Int) = (q : Int) := IntWalk.u64_in _ (by omega)
  have hlx := Lib.hid (lo_small (n := x) (by omega))
  have c4 : IntKind.u64.wrap ((x : Int) + 1) = (x : Int) + 1 := IntWalk.u64_in _ (by omega)
  have c5 : IntKind.i64.wrap ((x : Int) + 1) = (x : Int) + 1 := IntWalk.i64_in _ (by omega)
  have c6 : IntKind.i64.wrap (x : Int) = (x : Int) := IntWalk.i64_in _ (by omega)
  clear ht1 ht2 hz hq hp hq2 hn hn2 hb1
  go_enter Try.func47, Try.ntmps47
  go_upto_region 2 with (first | (go_at_call 57; refine (PP.out _).mono ?_; rintro e w1 ⟨rfl, hb1⟩) | (go_at_call 58; refine (PO.out _).mono ?_; rintro e w2 ⟨rfl, hb2⟩) | (go_at_call 56; refine (PD.out _).mono ?_; rintro e w3 ⟨rfl, hb3⟩))
  have o : Below w.heap.size w w3 := (hb1.trans (hb2.mono hb1.size)).trans (hb3.mono (hb1.trans (hb2.mono hb1.size)).size)
  have kx : Row ((w3.alloc (.cells #[.int .u64 (hi x), .int .u64 (lo x)] 87)).alloc (.cells #[.int .u64 (hi y), .int .u64 (lo y)] 87)) w3.heap.size 87 #[.int .u64 (hi x), .int .u64 (lo x)] := row_alloc (row_new rfl) _
  have ky : Row ((w3.alloc (.cells #[.int .u64 (hi x), .int .u64 (lo x)] 87)).alloc (.cells #[.int .u64 (hi y), .int .u64 (lo y)] 87)) (w3.heap.size + 1) 87 #[.int .u64 (hi y), .int .u64 (lo y)] := row_new (by simp)
  have zo := o.size
  replace o : Below w.heap.size w ((w3.alloc (.cells #[.int .u64 (hi x), .int .u64 (lo x)] 87)).alloc (.cells #[.int .u64 (hi y), .int .u64 (lo y)] 87)) := by (repeat (first | exact Below.refl _ _ | refine Below.setCell ?_ (by first | (simp; done) | (simp; omega) | omega) _ | refine Below.alloc ?_ (by first | (simp; done) | (simp; omega) | omega) _ | refine Below.drew ?_ | refine Below.trans ?_ (Below.mono (by assumption) (by first | (simp; done) | (simp; omega) | omega))))
  generalize ((w3.alloc (.cells #[.int .u64 (hi x), .int .u64 (lo x)] 87)).alloc (.cells #[.int .u64 (hi y), .int .u64 (lo y)] 87)) = w4 at kx ky o ⊢
  generalize w3.heap.size = b at kx ky zo ⊢
  rw [hlx.out] at kx
  obtain ⟨M0, M1, N0, N1⟩ := row_pair kx
  obtain ⟨K0, K1, L0, L1⟩ := row_pair ky
  clear kx ky hb1 hb2 hb3
  by_cases hy : y = 0
  · have e := Lib.hid (T1.out hy)
    subst hy
    have e3 : hi 0 = 0 := rfl
    have e4 : lo 0 = 0 := rfl
    rw [e3] at K0
    rw [e4] at K1
    go_wp2
    go_ret
    exact ⟨congrArg (fun z => Ending.returned (Value.int .i64 z)) e.out.symm, o⟩
  · have e := Lib.hid (T2.out hy)
    have hq := neq_zeroT hy
    go_wp2
    go_ret
    exact ⟨congrArg (fun z => Ending.returned (Value.int .i64 z)) e.out.symm, by (repeat (first | exact Below.refl _ _ | refine Below.setCell ?_ (by first | (simp; done) | (simp; omega) | omega) _ | refine Below.alloc ?_ (by first | (simp; done) | (simp; omega) | omega) _ | refine Below.drew ?_ | refine Below.trans ?_ (Below.mono (by assumption) (by first | (simp; done) | (simp; omega) | omega))))⟩
set_option maxHeartbeats 1000000 in
theorem rtarget (n p q : Nat) (hq : 1 ≤ q) (hp : p ≤ q) (hq2 : q < 9223372036854775808) (hn : 1 ≤ n) (hn2 : n ≤ 1099511627776) (w : World) : Calls Try.prog 50 #[.int .i64 (p : Nat), .int .i64 (q : Nat), .int .i64 (n : Nat)] w fun e w' => e = .returned (.int .i64 (tgt p n q)) ∧ Below w.heap.size w w' := by
  have hz : p * n < big := by
    have : p * n ≤ 9223372036854775808 * 1099511627776 := Nat.mul_le_mul (by omega) (by omega)
    unfold big
    omega
  have hb1 : p * n / q ≤ n := by
    have : p * n ≤ q * n := Nat.mul_le_mul_right n hp
    exact Nat.le_trans (Nat.div_le_div_right this) (by rw [Nat.mul_div_cancel_left n (by omega)]; exact Nat.le_refl _)
  have PP := fun w => rproduct (p : Int) (n : Int) ⟨by omega, by omega⟩ ⟨by omega, by omega⟩ w
  rw [Int.toNat_natCast, Int.toNat_natCast] at PP
  have PP := Lib.hid PP
  have PO := Lib.hid (fun w => rof q (by omega) w)
  have PD := Lib.hid (fun w => rdiv_yes (p * n) q hz (by unfold big; omega) (by omega) w)
  have ht1 : p * n % q = 0 → tgt p n q = max 1 ((p * n / q : Nat) : Int) := fun h => by unfold tgt; rw [if_pos h]; rfl
  have ht2 : p * n % q ≠ 0 → tgt p n q = max 1 (((p * n / q : Nat) : Int) + 1) := fun h => by unfold tgt; rw [if_neg h]; rfl
  generalize tgt p n q = tg at ht1 ht2 ⊢
  generalize p * n / q = x at hb1 PD ht1 ht2
  generalize p * n % q = y at PD ht1 ht2
  generalize p * n = z at PD PP
  have T1 := Lib.hid ht1
  have T2 := Lib.hid ht2
  have c1 : IntKind.u64.wrap (p : Int) = (p : Int) := IntWalk.u64_in _ (by omega)
  have c2 : IntKind.u64.wrap (n : Int) = (n : Int) := IntWalk.u64_in _ (by omega)
  have c3 : IntKind.u64.wrap (q : Int) = (q : Int) := IntWalk.u64_in _ (by omega)
  have hlx := Lib.hid (lo_small (n := x) (by omega))
  have c4 : IntKind.u64.wrap ((x : Int) + 1) = (x : Int) + 1 := IntWalk.u64_in _ (by omega)
  have c5 : IntKind.i64.wrap ((x : Int) + 1) = (x : Int) + 1 := IntWalk.i64_in _ (by omega)
  have c6 : IntKind.i64.wrap (x : Int) = (x : Int) := IntWalk.i64_in _ (by omega)
  clear ht1 ht2 hz hq hp hq2 hn hn2 hb1
  go_enter Try.func50, Try.ntmps50
  go_upto_region 2 with (first | (go_at_call 60; refine (PP.out _).mono ?_; rintro e w1 ⟨rfl, hb1⟩) | (go_at_call 61; refine (PO.out _).mono ?_; rintro e w2 ⟨rfl, hb2⟩) | (go_at_call 59; refine (PD.out _).mono ?_; rintro e w3 ⟨rfl, hb3⟩))
  have o : Below w.heap.size w w3 := (hb1.trans (hb2.mono hb1.size)).trans (hb3.mono (hb1.trans (hb2.mono hb1.size)).size)
  have kx : Row ((w3.alloc (.cells #[.int .u64 (hi x), .int .u64 (lo x)] 87)).alloc (.cells #[.int .u64 (hi y), .int .u64 (lo y)] 87)) w3.heap.size 87 #[.int .u64 (hi x), .int .u64 (lo x)] := row_alloc (row_new rfl) _
  have ky : Row ((w3.alloc (.cells #[.int .u64 (hi x), .int .u64 (lo x)] 87)).alloc (.cells #[.int .u64 (hi y), .int .u64 (lo y)] 87)) (w3.heap.size + 1) 87 #[.int .u64 (hi y), .int .u64 (lo y)] := row_new (by simp)
  have zo := o.size
  replace o : Below w.heap.size w ((w3.alloc (.cells #[.int .u64 (hi x), .int .u64 (lo x)] 87)).alloc (.cells #[.int .u64 (hi y), .int .u64 (lo y)] 87)) := by (repeat (first | exact Below.refl _ _ | refine Below.setCell ?_ (by first | (simp; done) | (simp; omega) | omega) _ | refine Below.alloc ?_ (by first | (simp; done) | (simp; omega) | omega) _ | refine Below.drew ?_ | refine Below.trans ?_ (Below.mono (by assumption) (by first | (simp; done) | (simp; omega) | omega))))
  generalize ((w3.alloc (.cells #[.int .u64 (hi x), .int .u64 (lo x)] 87)).alloc (.cells #[.int .u64 (hi y), .int .u64 (lo y)] 87)) = w4 at kx ky o ⊢
  generalize w3.heap.size = b at kx ky zo ⊢
  rw [hlx.out] at kx
  obtain ⟨M0, M1, N0, N1⟩ := row_pair kx
  obtain ⟨K0, K1, L0, L1⟩ := row_pair ky
  clear kx ky hb1 hb2 hb3
  by_cases hy : y = 0
  · have e := Lib.hid (T1.out hy)
    subst hy
    have e3 : hi 0 = 0 := rfl
    have e4 : lo 0 = 0 := rfl
    rw [e3] at K0
    rw [e4] at K1
    go_wp2
    go_ret
    exact ⟨congrArg (fun z => Ending.returned (Value.int .i64 z)) e.out.symm, o⟩
  · have e := Lib.hid (T2.out hy)
    have hq := neq_zeroT hy
    go_wp2
    go_ret
    exact ⟨congrArg (fun z => Ending.returned (Value.int .i64 z)) e.out.symm, o⟩
end Go.Proofs.Ytdibjlphcmjnoaa
