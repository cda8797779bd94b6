/- Spreads of marks: the reference's spread of a mark; the law of marks, walked. -/
import Derived.Test.YtaiepjcnncajcaaSprD
namespace Go.Proofs.Ytaiepjcnncajcaa
open Go.RowKit Go.Shelf
theorem rabs (a : Int) (h0 : 0 ≤ a) (h : a < 9223372036854775808) (w : World) : Calls Try.prog 89 #[.int .i64 a] w fun e w' => e = .returned (.int .u64 a) ∧ w' = w := by
  have t0 : ¬ a < 0 := by omega
  have wa : IntKind.u64.wrap a = a := IntWalk.u64_in _ (by omega)
  clear h h0
  go_enter Try.func89, Try.ntmps89
  go_wp2
  go_ret
  exact ⟨rfl, rfl⟩
set_option maxHeartbeats 4000000 in
theorem rreduced (a b : Nat) (ha : a < 9223372036854775808) (hb : b < 9223372036854775808) (h : b ≠ 0) (w : World) :
    Calls Try.prog 87 #[.bool false, W a, W b] w fun e w' => e = .returned (.tuple #[.agg #[.int .i64 ((a / Nat.gcd a b : Nat) : Int), .int .i64 ((b / Nat.gcd a b : Nat) : Int)], .bool true]) ∧ Below w.heap.size w w' := by
  have PG := Lib.hid (fun w => rgcd a b (by unfold big; omega) (by unfold big; omega) w)
  have g0 : Nat.gcd a b ≠ 0 := by
    intro e
    exact h (Nat.gcd_eq_zero_iff.1 e).2
  have gb : Nat.gcd a b ≤ b := Nat.gcd_le_right _ (by omega)
  have PA := Lib.hid (fun w => rdiv_yes a (Nat.gcd a b) (by unfold big; omega) (by unfold big; omega) g0 w)
  have PB := Lib.hid (fun w => rdiv_yes b (Nat.gcd a b) (by unfold big; omega) (by unfold big; omega) g0 w)
  have qa : a / Nat.gcd a b ≤ a := Nat.div_le_self _ _
  have qb : b / Nat.gcd a b ≤ b := Nat.div_le_self _ _
  generalize Nat.gcd a b = g at PG PA PB qa qb ⊢
  generalize a % g = ra at PA
  generalize b % g = rb at PB
  generalize a / g = x at PA qa ⊢
  generalize b / g = y at PB qb ⊢
  have e1 := hi_small (n := x) (by omega)
  have e2 := lo_small (n := x) (by omega)
  have e3 := hi_small (n := y) (by omega)
  have e4 := lo_small (n := y) (by omega)
  have u1 : (0 : Int) ≤ (x : Int) ∧ (x : Int) < 9223372036854775808 := by omega
  have u2 : (0 : Int) ≤ (y : Int) ∧ (y : Int) < 9223372036854775808 := by omega
  have ALL := Lib.hid (And.intro e1 (And.intro e2 (And.intro e3 (And.intro e4 (And.intro u1 u2)))))
  clear g0 gb e1 e2 e3 e4 u1 u2 qa qb ha hb
  go_enter Try.func87, Try.ntmps87
  go_upto_region 1 with (fail)
  have X : Row (((w.alloc (.cells #[.int .u64 (hi a), .int .u64 (lo a)] 72)).alloc (.cells #[.int .u64 (hi b), .int .u64 (lo b)] 72)).alloc (.cells #[.int .i64 0, .int .i64 0] 35)) w.heap.size 72 #[.int .u64 (hi a), .int .u64 (lo a)] := row_alloc (row_alloc (row_new rfl) _) _
  have Y : Row (((w.alloc (.cells #[.int .u64 (hi a), .int .u64 (lo a)] 72)).alloc (.cells #[.int .u64 (hi b), .int .u64 (lo b)] 72)).alloc (.cells #[.int .i64 0, .int .i64 0] 35)) (w.heap.size + 1) 72 #[.int .u64 (hi b), .int .u64 (lo b)] := row_alloc (row_new (by simp)) _
  have R : Row (((w.alloc (.cells #[.int .u64 (hi a), .int .u64 (lo a)] 72)).alloc (.cells #[.int .u64 (hi b), .int .u64 (lo b)] 72)).alloc (.cells #[.int .i64 0, .int .i64 0] 35)) (w.heap.size + 1 + 1) 35 #[.int .i64 0, .int .i64 0] := row_new (by simp)
  have o : Below w.heap.size w (((w.alloc (.cells #[.int .u64 (hi a), .int .u64 (lo a)] 72)).alloc (.cells #[.int .u64 (hi b), .int .u64 (lo b)] 72)).alloc (.cells #[.int .i64 0, .int .i64 0] 35)) := by (repeat (first | exact Below.refl _ _ | refine Below.setCell ?_ (by first | (simp; done) | (simp; omega) | omega) _ | refine Below.alloc ?_ (by first | (simp; done) | (simp; omega) | omega) _ | refine Below.drew ?_ | refine Below.trans ?_ (Below.mono (by assumption) (by first | (simp; done) | (simp; omega) | omega))))
  have z3 : w.heap.size + 1 + 1 < (((w.alloc (.cells #[.int .u64 (hi a), .int .u64 (lo a)] 72)).alloc (.cells #[.int .u64 (hi b), .int .u64 (lo b)] 72)).alloc (.cells #[.int .i64 0, .int .i64 0] 35)).heap.size := row_lt R
  generalize (((w.alloc (.cells #[.int .u64 (hi a), .int .u64 (lo a)] 72)).alloc (.cells #[.int .u64 (hi b), .int .u64 (lo b)] 72)).alloc (.cells #[.int .i64 0, .int .i64 0] 35)) = w3 at X Y R o z3 ⊢
  obtain ⟨X0, X1, X2, X3⟩ := row_two X
  obtain ⟨Y0, Y1, Y2, Y3⟩ := row_two Y
  go_wp2_with fail
  refine (PG.out _).mono ?_
  rintro e w4 ⟨rfl, hb4⟩
  clear X0 X1 X2 X3 Y0 Y1 Y2 Y3
  have X := row_call X hb4
  have Y := row_call Y hb4
  have R := row_call R hb4
  have o := o.trans (hb4.mono o.size)
  have z4 := hb4.size
  go_upto_region 2 with (fail)
  have X := row_alloc X (.cells #[.int .u64 (hi g), .int .u64 (lo g)] 72)
  have Y := row_alloc Y (.cells #[.int .u64 (hi g), .int .u64 (lo g)] 72)
  have R := row_alloc R (.cells #[.int .u64 (hi g), .int .u64 (lo g)] 72)
  have G : Row (w4.alloc (.cells #[.int .u64 (hi g), .int .u64 (lo g)] 72)) w4.heap.size 72 #[.int .u64 (hi g), .int .u64 (lo g)] := row_new rfl
  have o := o.alloc o.size (.cells #[.int .u64 (hi g), .int .u64 (lo g)] 72)
  generalize w4.alloc (.cells #[.int .u64 (hi g), .int .u64 (lo g)] 72) = w5 at X Y R G o ⊢
  generalize w4.heap.size = gb at G z4 ⊢
  obtain ⟨X0, X1, X2, X3⟩ := row_two X
  obtain ⟨G0, G1, G2, G3⟩ := row_two G
  go_wp2_with fail
  refine (PA.out _).mono ?_
  rintro e w6 ⟨rfl, hb6⟩
  clear X0 X1 X2 X3 G0 G1 G2 G3 X
  have Y := row_call Y hb6
  have R := row_call R hb6
  have G := row_call G hb6
  have o := o.trans (hb6.mono o.size)
  have z6 := hb6.size
  go_upto_region 3 with (fail)
  have N : Row ((w6.alloc (.cells #[.int .u64 (hi x), .int .u64 (lo x)] 72)).alloc (.cells #[.int .u64 (hi ra), .int .u64 (lo ra)] 72)) w6.heap.size 72 #[.int .u64 (hi x), .int .u64 (lo x)] := row_alloc (row_new rfl) _
  have Y := row_alloc (row_alloc Y (.cells #[.int .u64 (hi x), .int .u64 (lo x)] 72)) (.cells #[.int .u64 (hi ra), .int .u64 (lo ra)] 72)
  have R := row_alloc (row_alloc R (.cells #[.int .u64 (hi x), .int .u64 (lo x)] 72)) (.cells #[.int .u64 (hi ra), .int .u64 (lo ra)] 72)
  have G := row_alloc (row_alloc G (.cells #[.int .u64 (hi x), .int .u64 (lo x)] 72)) (.cells #[.int .u64 (hi ra), .int .u64 (lo ra)] 72)
  have o : Below w.heap.size w ((w6.alloc (.cells #[.int .u64 (hi x), .int .u64 (lo x)] 72)).alloc (.cells #[.int .u64 (hi ra), .int .u64 (lo ra)] 72)) := (o.alloc o.size _).alloc (by have := o.size; simp; omega) _
  generalize ((w6.alloc (.cells #[.int .u64 (hi x), .int .u64 (lo x)] 72)).alloc (.cells #[.int .u64 (hi ra), .int .u64 (lo ra)] 72)) = w7 at N Y R G o ⊢
  generalize w6.heap.size = nb at N z6 ⊢
  obtain ⟨Y0, Y1, Y2, Y3⟩ := row_two Y
  obtain ⟨G0, G1, G2, G3⟩ := row_two G
  go_wp2_with fail
  refine (PB.out _).mono ?_
  rintro e w8 ⟨rfl, hb8⟩
  clear Y0 Y1 Y2 Y3 G0 G1 G2 G3 G Y
  have N := row_call N hb8
  have R := row_call R hb8
  have o := o.trans (hb8.mono o.size)
  go_upto_region 4 with (fail)
  have D : Row ((w8.alloc (.cells #[.int .u64 (hi y), .int .u64 (lo y)] 72)).alloc (.cells #[.int .u64 (hi rb), .int .u64 (lo rb)] 72)) w8.heap.size 72 #[.int .u64 (hi y), .int .u64 (lo y)] := row_alloc (row_new rfl) _
  have N := row_alloc (row_alloc N (.cells #[.int .u64 (hi y), .int .u64 (lo y)] 72)) (.cells #[.int .u64 (hi rb), .int .u64 (lo rb)] 72)
  have R := row_alloc (row_alloc R (.cells #[.int .u64 (hi y), .int .u64 (lo y)] 72)) (.cells #[.int .u64 (hi rb), .int .u64 (lo rb)] 72)
  have o : Below w.heap.size w ((w8.alloc (.cells #[.int .u64 (hi y), .int .u64 (lo y)] 72)).alloc (.cells #[.int .u64 (hi rb), .int .u64 (lo rb)] 72)) := (o.alloc o.size _).alloc (by have := o.size; simp; omega) _
  generalize ((w8.alloc (.cells #[.int .u64 (hi y), .int .u64 (lo y)] 72)).alloc (.cells #[.int .u64 (hi rb), .int .u64 (lo rb)] 72)) = w9 at N D R o ⊢
  generalize w8.heap.size = db at D ⊢
  obtain ⟨e1, e2, e3, e4, u1, u2⟩ := ALL.out
  rw [e1, e2] at N
  rw [e3, e4] at D
  clear e1 e2 e3 e4
  generalize hxi : (x : Int) = xi at N u1
  generalize hyi : (y : Int) = yi at D u2
  have HXI := Lib.hid hxi
  have HYI := Lib.hid hyi
  clear hxi hyi
  have c1 : ¬ (9223372036854775808 : Int) ≤ yi := by omega
  have c2 : ¬ (9223372036854775808 : Int) < xi := by omega
  have c3 : (xi == 9223372036854775808) = false := by simp; omega
  have w1 : IntKind.i64.wrap xi = xi := IntWalk.i64_in _ (by omega)
  have w2 : IntKind.i64.wrap yi = yi := IntWalk.i64_in _ (by omega)
  obtain ⟨X0, X1, X2, X3⟩ := row_two N
  obtain ⟨Y0, Y1, Y2, Y3⟩ := row_two D
  obtain ⟨R0, R1, R2, R3⟩ := row_two R
  go_wp2
  exact bodyPost_ret (v := .tuple #[.agg #[.int .i64 xi, .int .i64 yi], .bool true]) (by simp [results, Try.results87, go_sem, R0, R1]) rfl ⟨by rw [HXI.out, HYI.out], by (repeat (first | exact Below.refl _ _ | refine Below.setCell ?_ (by first | (simp; done) | (simp; omega) | omega) _ | refine Below.alloc ?_ (by first | (simp; done) | (simp; omega) | omega) _ | refine Below.drew ?_ | refine Below.trans ?_ (Below.mono (by assumption) (by first | (simp; done) | (simp; omega) | omega))))⟩
theorem rmake (a b : Nat) (ha : a < 9223372036854775808) (hb : b < 9223372036854775808) (h : b ≠ 0) (w : World) :
    Calls Try.prog 48 #[.int .i64 a, .int .i64 b] w fun e w' => e = .returned (.tuple #[.agg #[.int .i64 ((a / Nat.gcd a b : Nat) : Int), .int .i64 ((b / Nat.gcd a b : Nat) : Int)], .bool true]) ∧ Below w.heap.size w w' := by
  have PR := fun w => rreduced a b ha hb h w
  have PA := fun w => rabs (a : Int) (by omega) (by omega) w
  have PB := fun w => rabs (b : Int) (by omega) (by omega) w
  have OA := fun w => rof a (by omega) w
  have OB := fun w => rof b (by omega) w
  generalize ((a / Nat.gcd a b : Nat) : Int) = x at PR ⊢
  generalize ((b / Nat.gcd a b : Nat) : Int) = y at PR ⊢
  have u0 : (b : Int) ≠ 0 := by omega
  have u1 : 0 ≤ (a : Int) := by omega
  have u2 : 0 ≤ (b : Int) := by omega
  generalize W a = wa at OA PR
  generalize W b = wb at OB PR
  generalize (a : Int) = ai at PA OA u1 ⊢
  generalize (b : Int) = bi at PB OB u0 u2 ⊢
  have t0 : (bi == 0) = false := by simpa using u0
  have t1 : ¬ ai < 0 := by omega
  have t2 : ¬ bi < 0 := by omega
  have PR := Lib.hid PR
  have PA := Lib.hid PA
  have PB := Lib.hid PB
  have OA := Lib.hid OA
  have OB := Lib.hid OB
  clear h ha hb u0 u1 u2
  go_enter Try.func48, Try.ntmps48
  go_wp2_with (first | (go_at_call 89; with_reducible refine (PA.out _).mono ?_; rintro e w9 ⟨rfl, h9⟩; obtain rfl := h9.symm) | (go_at_call 89; with_reducible refine (PB.out _).mono ?_; rintro e w9 ⟨rfl, h9⟩; obtain rfl := h9.symm) | (go_at_call 88; with_reducible refine (OA.out _).mono ?_; rintro e w1 ⟨rfl, hb1⟩; have hz1 := hb1.size; (try simp at hz1); have o1 : Below w.heap.size w w1 := (by (repeat (first | exact Below.refl _ _ | refine Below.setCell ?_ (by first | (simp; done) | (simp; omega) | omega) _ | refine Below.alloc ?_ (by first | (simp; done) | (simp; omega) | omega) _ | refine Below.drew ?_ | refine Below.trans ?_ (Below.mono (by assumption) (by first | (simp; done) | (simp; omega) | omega))))); have q1_0 : w.heap.size < w1.heap.size := (by omega); have r1_0 : Row w1 (w.heap.size) 35 #[.int .i64 0, .int .i64 0] := row_call (by (repeat (first | assumption | (refine row_new ?_; (first | (simp; done) | omega)) | refine row_alloc ?_ _ | refine row_drew ?_ | refine row_call ?_ (by assumption)))) hb1; obtain ⟨c1_0a, c1_0b, f1_0a, f1_0b⟩ := row_two r1_0) | (go_at_call 88; with_reducible refine (OB.out _).mono ?_; rintro e w2 ⟨rfl, hb2⟩; have hz2 := hb2.size; (try simp at hz2); have o2 : Below w.heap.size w w2 := (by (repeat (first | exact Below.refl _ _ | refine Below.setCell ?_ (by first | (simp; done) | (simp; omega) | omega) _ | refine Below.alloc ?_ (by first | (simp; done) | (simp; omega) | omega) _ | refine Below.drew ?_ | refine Below.trans ?_ (Below.mono (by assumption) (by first | (simp; done) | (simp; omega) | omega))))); have q2_0 : w.heap.size < w2.heap.size := (by omega); have r2_0 : Row w2 (w.heap.size) 35 #[.int .i64 0, .int .i64 0] := row_call (by (repeat (first | assumption | (refine row_new ?_; (first | (simp; done) | omega)) | refine row_alloc ?_ _ | refine row_drew ?_ | refine row_call ?_ (by assumption)))) hb2; obtain ⟨c2_0a, c2_0b, f2_0a, f2_0b⟩ := row_two r2_0) | (go_at_call 87; with_reducible refine (PR.out _).mono ?_; rintro e w3 ⟨rfl, hb3⟩; have hz3 := hb3.size; (try simp at hz3); have o3 : Below w.heap.size w w3 := (by (repeat (first | exact Below.refl _ _ | refine Below.setCell ?_ (by first | (simp; done) | (simp; omega) | omega) _ | refine Below.alloc ?_ (by first | (simp; done) | (simp; omega) | omega) _ | refine Below.drew ?_ | refine Below.trans ?_ (Below.mono (by assumption) (by first | (simp; done) | (simp; omega) | omega))))); have q3_0 : w.heap.size < w3.heap.size := (by omega); have r3_0 : Row w3 (w.heap.size) 35 #[.int .i64 0, .int .i64 0] := row_call (by (repeat (first | assumption | (refine row_new ?_; (first | (simp; done) | omega)) | refine row_alloc ?_ _ | refine row_drew ?_ | refine row_call ?_ (by assumption)))) hb3; obtain ⟨c3_0a, c3_0b, f3_0a, f3_0b⟩ := row_two r3_0))
  exact bodyPost_ret (v := .tuple #[.agg #[.int .i64 x, .int .i64 y], .bool true]) (by simp [results, Try.results48, go_sem, c3_0a, c3_0b]) rfl ⟨rfl, by (repeat (first | exact Below.refl _ _ | refine Below.setCell ?_ (by first | (simp; done) | (simp; omega) | omega) _ | refine Below.alloc ?_ (by first | (simp; done) | (simp; omega) | omega) _ | refine Below.drew ?_ | refine Below.trans ?_ (Below.mono (by assumption) (by first | (simp; done) | (simp; omega) | omega))))⟩
set_option maxHeartbeats 2000000 in
theorem rof_yes (sq tk n s q lw hg : Int) (w : World) (h : rightP n s q) : Calls Try.prog 16 #[.agg #[.int .i64 sq, .int .i64 tk, .int .i64 n, .int .i64 s, .int .i64 q, .int .i64 lw, .int .i64 hg]] w fun e w' => e = .returned (.tuple #[.agg #[.int .i64 (ratA n s q), .int .i64 (ratB n s q)], .bool true]) ∧ Below w.heap.size w w' := by
  unfold ratA ratB
  obtain ⟨nn, rfl⟩ : ∃ nn : Nat, n = (nn : Int) := ⟨n.toNat, by have := h.1; omega⟩
  rw [Int.toNat_natCast]
  have PR := fun w => rright sq tk (nn : Int) s q lw hg w
  rw [decide_eq_true h] at PR
  have PR := Lib.hid PR
  have b := right_top h
  have wss : IntKind.i64.wrap (s * s) = s * s := IntWalk.i64_in _ (by omega)
  have wnq : IntKind.i64.wrap ((nn : Int) * q) = (nn : Int) * q := IntWalk.i64_in _ (by omega)
  have wd : IntKind.i64.wrap ((nn : Int) * q - s * s) = (topN (nn : Int) s q : Int) := by rw [IntWalk.i64_in _ (by omega)]; unfold topN; omega
  have tb : topN (nn : Int) s q < 9223372036854775808 := by unfold topN; omega
  have PMK := fun w => rmake (topN (nn : Int) s q) nn tb (by have := h.2.1; omega) (by have := h.1; omega) w
  generalize topN (nn : Int) s q = tp at PMK wd ⊢
  generalize ((tp / Nat.gcd tp nn : Nat) : Int) = x at PMK ⊢
  generalize ((nn / Nat.gcd tp nn : Nat) : Int) = y at PMK ⊢
  generalize (nn : Int) = n at PR wnq wd PMK ⊢
  generalize (tp : Int) = tpi at wd PMK
  have PMK := Lib.hid PMK
  clear h tb b
  go_enter Try.func16, Try.ntmps16
  go_wp2_with (first | (go_at_call 47; with_reducible refine (PR.out _).mono ?_; rintro e w1 ⟨rfl, hb1⟩; have hz1 := hb1.size; (try simp at hz1); have o1 : Below w.heap.size w w1 := (by (repeat (first | exact Below.refl _ _ | refine Below.setCell ?_ (by first | (simp; done) | (simp; omega) | omega) _ | refine Below.alloc ?_ (by first | (simp; done) | (simp; omega) | omega) _ | refine Below.drew ?_ | refine Below.trans ?_ (Below.mono (by assumption) (by first | (simp; done) | (simp; omega) | omega))))); have q1_0 : w.heap.size < w1.heap.size := (by omega); have r1_0 : Row w1 (w.heap.size) 33 #[.int .i64 sq, .int .i64 tk, .int .i64 n, .int .i64 s, .int .i64 q, .int .i64 lw, .int .i64 hg] := row_call (by (repeat (first | assumption | (refine row_new ?_; (first | (simp; done) | omega)) | refine row_alloc ?_ _ | refine row_drew ?_ | refine row_call ?_ (by assumption)))) hb1; obtain ⟨c1_0a, c1_0b, c1_0c, c1_0d, c1_0e, c1_0f, c1_0g, f1_0a, f1_0b, f1_0c, f1_0d, f1_0e, f1_0f, f1_0g⟩ := row_seven r1_0; have q1_1 : w.heap.size + 1 < w1.heap.size := (by omega); have r1_1 : Row w1 (w.heap.size + 1) 35 #[.int .i64 0, .int .i64 0] := row_call (by (repeat (first | assumption | (refine row_new ?_; (first | (simp; done) | omega)) | refine row_alloc ?_ _ | refine row_drew ?_ | refine row_call ?_ (by assumption)))) hb1; obtain ⟨c1_1a, c1_1b, f1_1a, f1_1b⟩ := row_two r1_1) | (go_at_call 48; with_reducible refine (PMK.out _).mono ?_; rintro e w2 ⟨rfl, hb2⟩; have hz2 := hb2.size; (try simp at hz2); have o2 : Below w.heap.size w w2 := (by (repeat (first | exact Below.refl _ _ | refine Below.setCell ?_ (by first | (simp; done) | (simp; omega) | omega) _ | refine Below.alloc ?_ (by first | (simp; done) | (simp; omega) | omega) _ | refine Below.drew ?_ | refine Below.trans ?_ (Below.mono (by assumption) (by first | (simp; done) | (simp; omega) | omega))))); have q2_0 : w.heap.size + 1 < w2.heap.size := (by omega); have r2_0 : Row w2 (w.heap.size + 1) 35 #[.int .i64 0, .int .i64 0] := row_call (by (repeat (first | assumption | (refine row_new ?_; (first | (simp; done) | omega)) | refine row_alloc ?_ _ | refine row_drew ?_ | refine row_call ?_ (by assumption)))) hb2; obtain ⟨c2_0a, c2_0b, f2_0a, f2_0b⟩ := row_two r2_0))
  exact bodyPost_ret (v := .tuple #[.agg #[.int .i64 x, .int .i64 y], .bool true]) (by simp [results, Try.results16, go_sem, c2_0a, c2_0b]) rfl ⟨rfl, by (repeat (first | exact Below.refl _ _ | refine Below.setCell ?_ (by first | (simp; done) | (simp; omega) | omega) _ | refine Below.alloc ?_ (by first | (simp; done) | (simp; omega) | omega) _ | refine Below.drew ?_ | refine Below.trans ?_ (Below.mono (by assumption) (by first | (simp; done) | (simp; omega) | omega))))⟩
theorem rof_no (sq tk n s q lw hg : Int) (w : World) (h : ¬ rightP n s q) : Calls Try.prog 16 #[.agg #[.int .i64 sq, .int .i64 tk, .int .i64 n, .int .i64 s, .int .i64 q, .int .i64 lw, .int .i64 hg]] w fun e w' => e = .returned (.tuple #[.agg #[.int .i64 0, .int .i64 0], .bool false]) ∧ Below w.heap.size w w' := by
  have PR := fun w => rright sq tk n s q lw hg w
  rw [decide_eq_false h] at PR
  have PR := Lib.hid PR
  clear h
  go_enter Try.func16, Try.ntmps16
  go_wp2_with (go_at_call 47; with_reducible refine (PR.out _).mono ?_; rintro e w1 ⟨rfl, hb1⟩; have hz1 := hb1.size; (try simp at hz1); have o1 : Below w.heap.size w w1 := (by (repeat (first | exact Below.refl _ _ | refine Below.setCell ?_ (by first | (simp; done) | (simp; omega) | omega) _ | refine Below.alloc ?_ (by first | (simp; done) | (simp; omega) | omega) _ | refine Below.drew ?_ | refine Below.trans ?_ (Below.mono (by assumption) (by first | (simp; done) | (simp; omega) | omega))))); have q1_0 : w.heap.size < w1.heap.size := (by omega); have r1_0 : Row w1 (w.heap.size) 33 #[.int .i64 sq, .int .i64 tk, .int .i64 n, .int .i64 s, .int .i64 q, .int .i64 lw, .int .i64 hg] := row_call (by (repeat (first | assumption | (refine row_new ?_; (first | (simp; done) | omega)) | refine row_alloc ?_ _ | refine row_drew ?_ | refine row_call ?_ (by assumption)))) hb1; obtain ⟨c1_0a, c1_0b, c1_0c, c1_0d, c1_0e, c1_0f, c1_0g, f1_0a, f1_0b, f1_0c, f1_0d, f1_0e, f1_0f, f1_0g⟩ := row_seven r1_0; have q1_1 : w.heap.size + 1 < w1.heap.size := (by omega); have r1_1 : Row w1 (w.heap.size + 1) 35 #[.int .i64 0, .int .i64 0] := row_call (by (repeat (first | assumption | (refine row_new ?_; (first | (simp; done) | omega)) | refine row_alloc ?_ _ | refine row_drew ?_ | refine row_call ?_ (by assumption)))) hb1; obtain ⟨c1_1a, c1_1b, f1_1a, f1_1b⟩ := row_two r1_1)
  exact bodyPost_ret (v := .tuple #[.agg #[.int .i64 0, .int .i64 0], .bool false]) (by simp [results, Try.results16, go_sem, c1_1a, c1_1b]) rfl ⟨rfl, by (repeat (first | exact Below.refl _ _ | refine Below.setCell ?_ (by first | (simp; done) | (simp; omega) | omega) _ | refine Below.alloc ?_ (by first | (simp; done) | (simp; omega) | omega) _ | refine Below.drew ?_ | refine Below.trans ?_ (Below.mono (by assumption) (by first | (simp; done) | (simp; omega) | omega))))⟩
theorem pof_any (sq tk n s q lw hg : Int) (w : World) : Calls Try.prog 15 #[.agg #[.int .i64 sq, .int .i64 tk, .int .i64 n, .int .i64 s, .int .i64 q, .int .i64 lw, .int .i64 hg]] w fun e w' => e = .returned (.tuple #[.agg #[.int .i64 (if rightP n s q then ratA n s q else 0), .int .i64 (if rightP n s q then ratB n s q else 0)], .bool (decide (rightP n s q))]) ∧ Below w.heap.size w w' := by
  by_cases h : rightP n s q
  · rw [if_pos h, if_pos h, decide_eq_true h]; exact pof_yes sq tk n s q lw hg w h
  · rw [if_neg h, if_neg h, decide_eq_false h]; exact pof_no sq tk n s q lw hg w h
theorem rof_any (sq tk n s q lw hg : Int) (w : World) : Calls Try.prog 16 #[.agg #[.int .i64 sq, .int .i64 tk, .int .i64 n, .int .i64 s, .int .i64 q, .int .i64 lw, .int .i64 hg]] w fun e w' => e = .returned (.tuple #[.agg #[.int .i64 (if rightP n s q then ratA n s q else 0), .int .i64 (if rightP n s q then ratB n s q else 0)], .bool (decide (rightP n s q))]) ∧ Below w.heap.size w w' := by
  by_cases h : rightP n s q
  · rw [if_pos h, if_pos h, decide_eq_true h]; exact rof_yes sq tk n s q lw hg w h
  · rw [if_neg h, if_neg h, decide_eq_false h]; exact rof_no sq tk n s q lw hg w h
set_option maxHeartbeats 4000000 in
theorem spreadMarks (sqa tka na sa qa lwa hga sqb tkb nb sb qb lwb hgb k : Int) (w : World) : Calls Try.prog 4 #[.agg #[.int .i64 sqa, .int .i64 tka, .int .i64 na, .int .i64 sa, .int .i64 qa, .int .i64 lwa, .int .i64 hga], .agg #[.int .i64 sqb, .int .i64 tkb, .int .i64 nb, .int .i64 sb, .int .i64 qb, .int .i64 lwb, .int .i64 hgb], .int .i64 k] w fun e w' => e = .returned (.bool true) ∧ Below w.heap.size w w' := by
  have P1 := fun w => pof_any sqa tka na sa qa lwa hga w
  have P2 := fun w => rof_any sqa tka na sa qa lwa hga w
  generalize (if rightP na sa qa then ratA na sa qa else 0) = rx at P1 P2
  generalize (if rightP na sa qa then ratB na sa qa else 0) = ry at P1 P2
  generalize decide (rightP na sa qa) = rb at P1 P2
  have C1 := fun w => pclose sqa tka na sa qa lwa hga sqb tkb nb sb qb lwb hgb k w
  have C2 := fun w => rclose sqa tka na sa qa lwa hga sqb tkb nb sb qb lwb hgb k w
  generalize decide (closeP na sa qa nb sb qb k) = cb at C1 C2
  have P1 := Lib.hid P1
  have P2 := Lib.hid P2
  have C1 := Lib.hid C1
  have C2 := Lib.hid C2
  go_enter Try.func4, Try.ntmps4
  go_wp2_with fail
  have X : Row ((w.alloc (.cells #[.int .i64 sqa, .int .i64 tka, .int .i64 na, .int .i64 sa, .int .i64 qa, .int .i64 lwa, .int .i64 hga] 33)).alloc (.cells #[.int .i64 sqb, .int .i64 tkb, .int .i64 nb, .int .i64 sb, .int .i64 qb, .int .i64 lwb, .int .i64 hgb] 33)) (w.heap.size) 33 #[.int .i64 sqa, .int .i64 tka, .int .i64 na, .int .i64 sa, .int .i64 qa, .int .i64 lwa, .int .i64 hga] := row_alloc (row_new rfl) _
  have Y : Row ((w.alloc (.cells #[.int .i64 sqa, .int .i64 tka, .int .i64 na, .int .i64 sa, .int .i64 qa, .int .i64 lwa, .int .i64 hga] 33)).alloc (.cells #[.int .i64 sqb, .int .i64 tkb, .int .i64 nb, .int .i64 sb, .int .i64 qb, .int .i64 lwb, .int .i64 hgb] 33)) (w.heap.size + 1) 33 #[.int .i64 sqb, .int .i64 tkb, .int .i64 nb, .int .i64 sb, .int .i64 qb, .int .i64 lwb, .int .i64 hgb] := row_new (by simp)
  have o : Below w.heap.size w ((w.alloc (.cells #[.int .i64 sqa, .int .i64 tka, .int .i64 na, .int .i64 sa, .int .i64 qa, .int .i64 lwa, .int .i64 hga] 33)).alloc (.cells #[.int .i64 sqb, .int .i64 tkb, .int .i64 nb, .int .i64 sb, .int .i64 qb, .int .i64 lwb, .int .i64 hgb] 33)) := by (repeat (first | exact Below.refl _ _ | refine Below.setCell ?_ (by first | (simp; done) | (simp; omega) | omega) _ | refine Below.alloc ?_ (by first | (simp; done) | (simp; omega) | omega) _ | refine Below.drew ?_ | refine Below.trans ?_ (Below.mono (by assumption) (by first | (simp; done) | (simp; omega) | omega))))
  generalize ((w.alloc (.cells #[.int .i64 sqa, .int .i64 tka, .int .i64 na, .int .i64 sa, .int .i64 qa, .int .i64 lwa, .int .i64 hga] 33)).alloc (.cells #[.int .i64 sqb, .int .i64 tkb, .int .i64 nb, .int .i64 sb, .int .i64 qb, .int .i64 lwb, .int .i64 hgb] 33)) = w1 at X Y o ⊢
  refine (P1.out _).mono ?_
  rintro e w2 ⟨rfl, hb2⟩
  have X := row_call X hb2
  have Y := row_call Y hb2
  have o := o.trans (hb2.mono o.size)
  go_upto_region 2 with (fail)
  have A : Row (w2.alloc (.cells #[.int .i64 rx, .int .i64 ry] 35)) w2.heap.size 35 #[.int .i64 rx, .int .i64 ry] := row_new rfl
  have X := row_alloc X (.cells #[.int .i64 rx, .int .i64 ry] 35)
  have Y := row_alloc Y (.cells #[.int .i64 rx, .int .i64 ry] 35)
  have o := o.alloc o.size (.cells #[.int .i64 rx, .int .i64 ry] 35)
  generalize w2.alloc (.cells #[.int .i64 rx, .int .i64 ry] 35) = w3 at A X Y o ⊢
  generalize w2.heap.size = b7 at A ⊢
  obtain ⟨X0, X1, X2, X3, X4, X5, X6, _⟩ := row_seven X
  go_wp2_with fail
  refine (P2.out _).mono ?_
  rintro e w4 ⟨rfl, hb4⟩
  clear X0 X1 X2 X3 X4 X5 X6
  have A := row_call A hb4
  have X := row_call X hb4
  have Y := row_call Y hb4
  have o := o.trans (hb4.mono o.size)
  go_upto_region 3 with (fail)
  have B : Row (w4.alloc (.cells #[.int .i64 rx, .int .i64 ry] 35)) w4.heap.size 35 #[.int .i64 rx, .int .i64 ry] := row_new rfl
  have A := row_alloc A (.cells #[.int .i64 rx, .int .i64 ry] 35)
  have X := row_alloc X (.cells #[.int .i64 rx, .int .i64 ry] 35)
  have Y := row_alloc Y (.cells #[.int .i64 rx, .int .i64 ry] 35)
  have o := o.alloc o.size (.cells #[.int .i64 rx, .int .i64 ry] 35)
  generalize w4.alloc (.cells #[.int .i64 rx, .int .i64 ry] 35) = w5 at A B X Y o ⊢
  generalize w4.heap.size = b9 at B ⊢
  clear hb2 hb4
  have L : Row w5 (w.heap.size) 33 #[.int .i64 sqa, .int .i64 tka, .int .i64 na, .int .i64 sa, .int .i64 qa, .int .i64 lwa, .int .i64 hga] ∧ Row w5 (w.heap.size + 1) 33 #[.int .i64 sqb, .int .i64 tkb, .int .i64 nb, .int .i64 sb, .int .i64 qb, .int .i64 lwb, .int .i64 hgb] ∧ Row w5 b7 35 #[.int .i64 rx, .int .i64 ry] ∧ Row w5 b9 35 #[.int .i64 rx, .int .i64 ry] ∧ Below w.heap.size w w5 := ⟨X, Y, A, B, o⟩
  refine wp_region_free0 [0, 1, 2, 3, 4, 5, 6, 7, 8, 9, 10, 11, 12, 13, 14, 15, 16, 17, 18, 19, 20, 21] [] [0, 1, 2, 3, 4, 5, 6, 7, 8, 9, 10, 11, 12, 13, 14, 15, 16, 17, 18, 19, 20, 21] 22 (fun w' => Row w' (w.heap.size) 33 #[.int .i64 sqa, .int .i64 tka, .int .i64 na, .int .i64 sa, .int .i64 qa, .int .i64 lwa, .int .i64 hga] ∧ Row w' (w.heap.size + 1) 33 #[.int .i64 sqb, .int .i64 tkb, .int .i64 nb, .int .i64 sb, .int .i64 qb, .int .i64 lwb, .int .i64 hgb] ∧ Row w' b7 35 #[.int .i64 rx, .int .i64 ry] ∧ Row w' b9 35 #[.int .i64 rx, .int .i64 ry] ∧ Below w.heap.size w w') (by kernel_rfl) (by kernel_rfl) (fun _ _ d _ _ h => by cases d <;> exact h) ?_ ?_
  · exact ⟨L.1, L.2.1, L.2.2.1, L.2.2.2.1, L.2.2.2.2.drew⟩
  (refine plan_val ?_ rfl rfl rfl (fun w' hS => ?_) ?_; rotate_left; (obtain ⟨X0, X1, X2, X3, X4, X5, X6, _⟩ := row_seven hS.1; obtain ⟨Y0, Y1, Y2, Y3, Y4, Y5, Y6, _⟩ := row_seven hS.2.1; obtain ⟨A0, A1, A2, A3⟩ := row_two hS.2.2.1; obtain ⟨B0, B1, B2, B3⟩ := row_two hS.2.2.2.1; go_simp; try with_reducible rfl); simp only [Act.put, List.setIfInBounds_toArray, List.set_cons_zero, List.set_cons_succ])
  (refine plan_val ?_ rfl rfl rfl (fun w' hS => ?_) ?_; rotate_left; (obtain ⟨X0, X1, X2, X3, X4, X5, X6, _⟩ := row_seven hS.1; obtain ⟨Y0, Y1, Y2, Y3, Y4, Y5, Y6, _⟩ := row_seven hS.2.1; obtain ⟨A0, A1, A2, A3⟩ := row_two hS.2.2.1; obtain ⟨B0, B1, B2, B3⟩ := row_two hS.2.2.2.1; go_simp; try with_reducible rfl); simp only [Act.put, List.setIfInBounds_toArray, List.set_cons_zero, List.set_cons_succ])
  (refine plan_pure ?_ rfl rfl (fun w' => ?_) ?_; rotate_left; (go_simp; try with_reducible rfl); simp only [Act.put, List.setIfInBounds_toArray, List.set_cons_zero, List.set_cons_succ])
  (refine plan_pure ?_ rfl rfl (fun w' => ?_) ?_; rotate_left; (go_simp; try with_reducible rfl); simp only [Act.put, List.setIfInBounds_toArray, List.set_cons_zero, List.set_cons_succ])
  (refine plan_pure ?_ rfl rfl (fun w' => ?_) ?_; rotate_left; (go_simp; try with_reducible rfl); simp only [Act.put, List.setIfInBounds_toArray, List.set_cons_zero, List.set_cons_succ])
  (refine plan_pure ?_ rfl rfl (fun w' => ?_) ?_; rotate_left; (go_simp; try with_reducible rfl); simp only [Act.put, List.setIfInBounds_toArray, List.set_cons_zero, List.set_cons_succ])
  (refine plan_pure ?_ rfl rfl (fun w' => ?_) ?_; rotate_left; (go_simp; try with_reducible rfl); simp only [Act.put, List.setIfInBounds_toArray, List.set_cons_zero, List.set_cons_succ])
  (refine plan_pure ?_ rfl rfl (fun w' => ?_) ?_; rotate_left; (go_simp; try with_reducible rfl); simp only [Act.put, List.setIfInBounds_toArray, List.set_cons_zero, List.set_cons_succ])
  (refine plan_pure ?_ rfl rfl (fun w' => ?_) ?_; rotate_left; (go_simp; try with_reducible rfl); simp only [Act.put, List.setIfInBounds_toArray, List.set_cons_zero, List.set_cons_succ])
  (refine plan_val ?_ rfl rfl rfl (fun w' hS => ?_) ?_; rotate_left; (obtain ⟨X0, X1, X2, X3, X4, X5, X6, _⟩ := row_seven hS.1; obtain ⟨Y0, Y1, Y2, Y3, Y4, Y5, Y6, _⟩ := row_seven hS.2.1; obtain ⟨A0, A1, A2, A3⟩ := row_two hS.2.2.1; obtain ⟨B0, B1, B2, B3⟩ := row_two hS.2.2.2.1; go_simp; try with_reducible rfl); simp only [Act.put, List.setIfInBounds_toArray, List.set_cons_zero, List.set_cons_succ])
  (refine plan_val ?_ rfl rfl rfl (fun w' hS => ?_) ?_; rotate_left; (obtain ⟨X0, X1, X2, X3, X4, X5, X6, _⟩ := row_seven hS.1; obtain ⟨Y0, Y1, Y2, Y3, Y4, Y5, Y6, _⟩ := row_seven hS.2.1; obtain ⟨A0, A1, A2, A3⟩ := row_two hS.2.2.1; obtain ⟨B0, B1, B2, B3⟩ := row_two hS.2.2.2.1; go_simp; try with_reducible rfl); simp only [Act.put, List.setIfInBounds_toArray, List.set_cons_zero, List.set_cons_succ])
  (refine plan_pure ?_ rfl rfl (fun w' => ?_) ?_; rotate_left; (go_simp; try with_reducible rfl); simp only [Act.put, List.setIfInBounds_toArray, List.set_cons_zero, List.set_cons_succ])
  refine plan_call (.bool cb) 17 #[.agg #[.int .i64 sqa, .int .i64 tka, .int .i64 na, .int .i64 sa, .int .i64 qa, .int .i64 lwa, .int .i64 hga], .agg #[.int .i64 sqb, .int .i64 tkb, .int .i64 nb, .int .i64 sb, .int .i64 qb, .int .i64 lwb, .int .i64 hgb], .int .i64 k] rfl rfl rfl (fun _ _ h hb => ⟨row_call h.1 hb, row_call h.2.1 hb, row_call h.2.2.1 hb, row_call h.2.2.2.1 hb, h.2.2.2.2.trans (hb.mono h.2.2.2.2.size)⟩) (fun w' hS => by obtain ⟨X0, X1, X2, X3, X4, X5, X6, _⟩ := row_seven hS.1; obtain ⟨Y0, Y1, Y2, Y3, Y4, Y5, Y6, _⟩ := row_seven hS.2.1; obtain ⟨A0, A1, A2, A3⟩ := row_two hS.2.2.1; obtain ⟨B0, B1, B2, B3⟩ := row_two hS.2.2.2.1; go_simp) (fun w' hS => C1.out w') ?_
  simp only [Act.put, List.setIfInBounds_toArray, List.set_cons_zero, List.set_cons_succ]
  (refine plan_val ?_ rfl rfl rfl (fun w' hS => ?_) ?_; rotate_left; (obtain ⟨X0, X1, X2, X3, X4, X5, X6, _⟩ := row_seven hS.1; obtain ⟨Y0, Y1, Y2, Y3, Y4, Y5, Y6, _⟩ := row_seven hS.2.1; obtain ⟨A0, A1, A2, A3⟩ := row_two hS.2.2.1; obtain ⟨B0, B1, B2, B3⟩ := row_two hS.2.2.2.1; go_simp; try with_reducible rfl); simp only [Act.put, List.setIfInBounds_toArray, List.set_cons_zero, List.set_cons_succ])
  (refine plan_val ?_ rfl rfl rfl (fun w' hS => ?_) ?_; rotate_left; (obtain ⟨X0, X1, X2, X3, X4, X5, X6, _⟩ := row_seven hS.1; obtain ⟨Y0, Y1, Y2, Y3, Y4, Y5, Y6, _⟩ := row_seven hS.2.1; obtain ⟨A0, A1, A2, A3⟩ := row_two hS.2.2.1; obtain ⟨B0, B1, B2, B3⟩ := row_two hS.2.2.2.1; go_simp; try with_reducible rfl); simp only [Act.put, List.setIfInBounds_toArray, List.set_cons_zero, List.set_cons_succ])
  (refine plan_pure ?_ rfl rfl (fun w' => ?_) ?_; rotate_left; (go_simp; try with_reducible rfl); simp only [Act.put, List.setIfInBounds_toArray, List.set_cons_zero, List.set_cons_succ])
  refine plan_call (.bool cb) 18 #[.agg #[.int .i64 sqa, .int .i64 tka, .int .i64 na, .int .i64 sa, .int .i64 qa, .int .i64 lwa, .int .i64 hga], .agg #[.int .i64 sqb, .int .i64 tkb, .int .i64 nb, .int .i64 sb, .int .i64 qb, .int .i64 lwb, .int .i64 hgb], .int .i64 k] rfl rfl rfl (fun _ _ h hb => ⟨row_call h.1 hb, row_call h.2.1 hb, row_call h.2.2.1 hb, row_call h.2.2.2.1 hb, h.2.2.2.2.trans (hb.mono h.2.2.2.2.size)⟩) (fun w' hS => by obtain ⟨X0, X1, X2, X3, X4, X5, X6, _⟩ := row_seven hS.1; obtain ⟨Y0, Y1, Y2, Y3, Y4, Y5, Y6, _⟩ := row_seven hS.2.1; obtain ⟨A0, A1, A2, A3⟩ := row_two hS.2.2.1; obtain ⟨B0, B1, B2, B3⟩ := row_two hS.2.2.2.1; go_simp) (fun w' hS => C2.out w') ?_
  simp only [Act.put, List.setIfInBounds_toArray, List.set_cons_zero, List.set_cons_succ]
  (refine plan_pure ?_ rfl rfl (fun w' => ?_) ?_; rotate_left; (go_simp; try with_reducible rfl); simp only [Act.put, List.setIfInBounds_toArray, List.set_cons_zero, List.set_cons_succ])
  (refine plan_pure ?_ rfl rfl (fun w' => ?_) ?_; rotate_left; (go_simp; try with_reducible rfl); simp only [Act.put, List.setIfInBounds_toArray, List.set_cons_zero, List.set_cons_succ])
  (refine plan_pure ?_ rfl rfl (fun w' => ?_) ?_; rotate_left; (go_simp; try with_reducible rfl); simp only [Act.put, List.setIfInBounds_toArray, List.set_cons_zero, List.set_cons_succ])
  refine plan_call (.bool true) 14 #[] rfl rfl rfl (fun _ _ h hb => ⟨row_call h.1 hb, row_call h.2.1 hb, row_call h.2.2.1 hb, row_call h.2.2.2.1 hb, h.2.2.2.2.trans (hb.mono h.2.2.2.2.size)⟩) (fun w' hS => by obtain ⟨X0, X1, X2, X3, X4, X5, X6, _⟩ := row_seven hS.1; obtain ⟨Y0, Y1, Y2, Y3, Y4, Y5, Y6, _⟩ := row_seven hS.2.1; obtain ⟨A0, A1, A2, A3⟩ := row_two hS.2.2.1; obtain ⟨B0, B1, B2, B3⟩ := row_two hS.2.2.2.1; go_simp) (fun w' hS => awake14 w') ?_
  simp only [Act.put, List.setIfInBounds_toArray, List.set_cons_zero, List.set_cons_succ]
  (refine plan_pure ?_ rfl rfl (fun w' => ?_) ?_; rotate_left; (go_simp; try with_reducible rfl); simp only [Act.put, List.setIfInBounds_toArray, List.set_cons_zero, List.set_cons_succ])
  refine plan_nil ?_
  intro w6 L6
  simp only [List.drop_succ_cons, List.drop_zero]
  try simp only [Act.put, List.setIfInBounds_toArray, List.set_cons_zero, List.set_cons_succ]
  have o6 := L6.2.2.2.2
  clear L L6
  go_wp2
  go_ret
  exact ⟨rfl, o6⟩
end Go.Proofs.Ytaiepjcnncajcaa
