/- The law SpreadStates of the given program: for every input the call returns true, and each argument reads behind the call as it read before. No conditions. -/
import Derived.Test.YtaiepjcnncajcaaZSpreadStates4
section
/- Spreads of marks: the reference's spread of a mark; the law of marks, walked. -/
set_option linter.unusedVariables false
set_option linter.unusedSimpArgs false
set_option linter.unusedSectionVars false
set_option linter.unnecessarySimpa false
namespace Go.Proofs.Ytaiepjcnncajcaa
open Go.RowKit Go.Shelf
theorem rabs (a : Int) (h0 : 0 ≤ a) (h : a < 9223372036854775808) (w : World) : Calls Try.prog 89 #[.int .i64 a] w fun e w' => e = .returned (.int .u64 a) ∧ w' = w := by
  have t0 : ¬ a < 0 := by omega
  have wa : IntKind.u64.wrap a = a := IntWalk.u64_in _ (by omega)
  clear h h0
  go_enter Try.func89, Try.ntmps89
  go_wp2
  go_ret
  exact ⟨rfl, rfl⟩
set_option maxHeartbeats 4000000 in
theorem rreduced (a b : Nat) (ha : a < 9223372036854775808) (hb : b < 9223372036854775808) (h : b ≠ 0) (w : World) :
    Calls Try.prog 87 #[.bool false, W a, W b] w fun e w' => e = .returned (.tuple #[.agg #[.int .i64 ((a / Nat.gcd a b : Nat) : Int), .int .i64 ((b / Nat.gcd a b : Nat) : Int)], .bool true]) ∧ Below w.heap.size w w' := by
  have PG := Lib.hid (fun w => rgcd a b (by unfold big; omega) (by unfold big; omega) w)
  have g0 : Nat.gcd a b ≠ 0 := by
    intro e
    exact h (Nat.gcd_eq_zero_iff.1 e).2
  have gb : Nat.gcd a b ≤ b := Nat.gcd_le_right _ (by omega)
  have PA := Lib.hid (fun w => rdiv_yes a (Nat.gcd a b) (by unfold big; omega) (by unfold big; omega) g0 w)
  have PB := Lib.hid (fun w => rdiv_yes b (Nat.gcd a b) (by unfold big; omega) (by unfold big; omega) g0 w)
  have qa : a / Nat.gcd a b ≤ a := Nat.div_le_self _ _
  have qb : b / Nat.gcd a b ≤ b := Nat.div_le_self _ _
  generalize Nat.gcd a b = g at PG PA PB qa qb ⊢
  generalize a % g = ra at PA
  generalize b % g = rb at PB
  generalize a / g = x at PA qa ⊢
  generalize b / g = y at PB qb ⊢
  have e1 := hi_small (n := x) (by omega)
  have e2 := lo_small (n := x) (by omega)
  have e3 := hi_small (n := y) (by omega)
  have e4 := lo_small (n := y) (by omega)
  have u1 : (0 : Int) ≤ (x : Int) ∧ (x : Int) < 9223372036854775808 := by omega
  have u2 : (0 : Int) ≤ (y : Int) ∧ (y : Int) < 9223372036854775808 := by omega
  have ALL := Lib.hid (And.intro e1 (And.intro e2 (And.intro e3 (And.intro e4 (And.intro u1 u2)))))
  clear g0 gb e1 e2 e3 e4 u1 u2 qa qb ha hb
  go_enter Try.func87, Try.ntmps87
  go_upto_region 1 with (fail)
  have X : Row (((w.alloc (.cells #[.int .u64 (hi a), .int .u64 (lo a)] 72)).alloc (.cells #[.int .u64 (hi b), .int .u64 (lo b)] 72)).alloc (.cells #[.int .i64 0, .int .i64 0] 35)) w.heap.size 72 #[.int .u64 (hi a), .int .u64 (lo a)] := row_alloc (row_alloc (row_new rfl) _) _
  have Y : Row (((w.alloc (.cells #[.int .u64 (hi a), .int .u64 (lo a)] 72)).alloc (.cells #[.int .u64 (hi b), .int .u64 (lo b)] 72)).alloc (.cells #[.int .i64 0, .int .i64 0] 35)) (w.heap.size + 1) 72 #[.int .u64 (hi b), .int .u64 (lo b)] := row_alloc (row_new (by simp)) _
  have R : Row (((w.alloc (.cells #[.int .u64 (hi a), .int .u64 (lo a)] 72)).alloc (.cells #[.int .u64 (hi b), .int .u64 (lo b)] 72)).alloc (.cells #[.int .i64 0, .int .i64 0] 35)) (w.heap.size + 1 + 1) 35 #[.int .i64 0, .int .i64 0] := row_new (by simp)
  have o : Below w.heap.size w (((w.alloc (.cells #[.int .u64 (hi a), .int .u64 (lo a)] 72)).alloc (.cells #[.int .u64 (hi b), .int .u64 (lo b)] 72)).alloc (.cells #[.int .i64 0, .int .i64 0] 35)) := by (repeat (first | exact Below.refl _ _ | refine Below.setCell ?_ (by first | (simp; done) | (simp; omega) | omega) _ | refine Below.alloc ?_ (by first | (simp; done) | (simp; omega) | omega) _ | refine Below.drew ?_ | refine Below.trans ?_ (Below.mono (by assumption) (by first | (simp; done) | (simp; omega) | omega))))
  have z3 : w.heap.size + 1 + 1 < (((w.alloc (.cells #[.int .u64 (hi a), .int .u64 (lo a)] 72)).alloc (.cells #[.int .u64 (hi b), .int .u64 (lo b)] 72)).alloc (.cells #[.int .i64 0, .int .i64 0] 35)).heap.size := row_lt R
  generalize (((w.alloc (.cells #[.int .u64 (hi a), .int .u64 (lo a)] 72)).alloc (.cells #[.int .u64 (hi b), .int .u64 (lo b)] 72)).alloc (.cells #[.int .i64 0, .int .i64 0] 35)) = w3 at X Y R o z3 ⊢
  obtain ⟨X0, X1, X2, X3⟩ := row_two X
  obtain ⟨Y0, Y1, Y2, Y3⟩ := row_two Y
  go_wp2_with fail
  refine (PG.out _).mono ?_
  rintro e w4 ⟨rfl, hb4⟩
  clear X0 X1 X2 X3 Y0 Y1 Y2 Y3
  have X := row_call X hb4
  have Y := row_call Y hb4
  have R := row_call R hb4
  have o := o.trans (hb4.mono o.size)
  have z4 := hb4.size
  go_upto_region 2 with (fail)
  have X := row_alloc X (.cells #[.int .u64 (hi g), .int .u64 (lo g)] 72)
  have Y := row_alloc Y (.cells #[.int .u64 (hi g), .int .u64 (lo g)] 72)
  have R := row_alloc R (.cells #[.int .u64 (hi g), .int .u64 (lo g)] 72)
  have G : Row (w4.alloc (.cells #[.int .u64 (hi g), .int .u64 (lo g)] 72)) w4.heap.size 72 #[.int .u64 (hi g), .int .u64 (lo g)] := row_new rfl
  have o := o.alloc o.size (.cells #[.int .u64 (hi g), .int .u64 (lo g)] 72)
  generalize w4.alloc (.cells #[.int .u64 (hi g), .int .u64 (lo g)] 72) = w5 at X Y R G o ⊢
  generalize w4.heap.size = gb at G z4 ⊢
  obtain ⟨X0, X1, X2, X3⟩ := row_two X
  obtain ⟨G0, G1, G2, G3⟩ := row_two G
  go_wp2_with fail
  refine (PA.out _).mono ?_
  rintro e w6 ⟨rfl, hb6⟩
  clear X0 X1 X2 X3 G0 G1 G2 G3 X
  have Y := row_call Y hb6
  have R := row_call R hb6
  have G := row_call G hb6
  have o := o.trans (hb6.mono o.size)
  have z6 := hb6.size
  go_upto_region 3 with (fail)
  have N : Row ((w6.alloc (.cells #[.int .u64 (hi x), .int .u64 (lo x)] 72)).alloc (.cells #[.int .u64 (hi ra), .int .u64 (lo ra)] 72)) w6.heap.size 72 #[.int .u64 (hi x), .int .u64 (lo x)] := row_alloc (row_new rfl) _
  have Y := row_alloc (row_alloc Y (.cells #[.int .u64 (hi x), .int .u64 (lo x)] 72)) (.cells #[.int .u64 (hi ra), .int .u64 (lo ra)] 72)
  have R := row_alloc (row_alloc R (.cells #[.int .u64 (hi x), .int .u64 (lo x)] 72)) (.cells #[.int .u64 (hi ra), .int .u64 (lo ra)] 72)
  have G := row_alloc (row_alloc G (.cells #[.int .u64 (hi x), .int .u64 (lo x)] 72)) (.cells #[.int .u64 (hi ra), .int .u64 (lo ra)] 72)
  have o : Below w.heap.size w ((w6.alloc (.cells #[.int .u64 (hi x), .int .u64 (lo x)] 72)).alloc (.cells #[.int .u64 (hi ra), .int .u64 (lo ra)] 72)) := (o.alloc o.size _).alloc (by have := o.size; simp; omega) _
  generalize ((w6.alloc (.cells #[.int .u64 (hi x), .int .u64 (lo x)] 72)).alloc (.cells #[.int .u64 (hi ra), .int .u64 (lo ra)] 72)) = w7 at N Y R G o ⊢
  generalize w6.heap.size = nb at N z6 ⊢
  obtain ⟨Y0, Y1, Y2, Y3⟩ := row_two Y
  obtain ⟨G0, G1, G2, G3⟩ := row_two G
  go_wp2_with fail
  refine (PB.out _).mono ?_
  rintro e w8 ⟨rfl, hb8⟩
  clear Y0 Y1 Y2 Y3 G0 G1 G2 G3 G Y
  have N := row_call N hb8
  have R := row_call R hb8
  have o := o.trans (hb8.mono o.size)
  go_upto_region 4 with (fail)
  have D : Row ((w8.alloc (.cells #[.int .u64 (hi y), .int .u64 (lo y)] 72)).alloc (.cells #[.int .u64 (hi rb), .int .u64 (lo rb)] 72)) w8.heap.size 72 #[.int .u64 (hi y), .int .u64 (lo y)] := row_alloc (row_new rfl) _
  have N := row_alloc (row_alloc N (.cells #[.int .u64 (hi y), .int .u64 (lo y)] 72)) (.cells #[.int .u64 (hi rb), .int .u64 (lo rb)] 72)
  have R := row_alloc (row_alloc R (.cells #[.int .u64 (hi y), .int .u64 (lo y)] 72)) (.cells #[.int .u64 (hi rb), .int .u64 (lo rb)] 72)
  have o : Below w.heap.size w ((w8.alloc (.cells #[.int .u64 (hi y), .int .u64 (lo y)] 72)).alloc (.cells #[.int .u64 (hi rb), .int .u64 (lo rb)] 72)) := (o.alloc o.size _).alloc (by have := o.size; simp; omega) _
  generalize ((w8.alloc (.cells #[.int .u64 (hi y), .int .u64 (lo y)] 72)).alloc (.cells #[.int .u64 (hi rb), .int .u64 (lo rb)] 72)) = w9 at N D R o ⊢
  generalize w8.heap.size = db at D ⊢
  obtain ⟨e1, e2, e3, e4, u1, u2⟩ := ALL.out
  rw [e1, e2] at N
  rw [e3, e4] at D
  clear e1 e2 e3 e4
  generalize hxi : (x : Int) = xi at N u1
  generalize hyi : (y : Int) = yi at D u2
  have HXI := Lib.hid hxi
  have HYI := Lib.hid hyi
  clear hxi hyi
  have c1 : ¬ (9223372036854775808 : Int) ≤ yi := by omega
  have c2 : ¬ (9223372036854775808 : Int) < xi := by omega
  have c3 : (xi == 9223372036854775808) = false := by simp; omega
  have w1 : IntKind.i64.wrap xi = xi := IntWalk.i64_in _ (by omega)
  have w2 : IntKind.i64.wrap yi = yi := IntWalk.i64_in _ (by omega)
  obtain ⟨X0, X1, X2, X3⟩ := row_two N
  obtain ⟨Y0, Y1, Y2, Y3⟩ := row_two D
  obtain ⟨R0, R1, R2, R3⟩ := row_two R
  go_wp2
  exact bodyPost_ret (v := .tuple #[.agg #[.int .i64 xi, .int .i64 yi], .bool true]) (by simp [results, Try.results87, go_sem, R0, R1]) rfl ⟨by rw [HXI.out, HYI.out], by (repeat (first | exact Below.refl _ _ | refine Below.setCell ?_ (by first | (simp; done) | (simp; omega) | omega) _ | refine Below.alloc ?_ (by first | (simp; done) | (simp; omega) | omega) _ | refine Below.drew ?_ | refine Below.trans ?_ (Below.mono (by assumption) (by first | (simp; done) | (simp; omega) | omega))))⟩
theorem rmake (a b : Nat) (ha : a < 9223372036854775808) (hb : b < 9223372036854775808) (h : b ≠ 0) (w : World) :
    Calls Try.prog 48 #[.int .i64 a, .int .i64 b] w fun e w' => e = .returned (.tuple #[.agg #[.int .i64 ((a / Nat.gcd a b : Nat) : Int), .int .i64 ((b / Nat.gcd a b : Nat) : Int)], .bool true]) ∧ Below w.heap.size w w' := by
  have PR := fun w => rreduced a b ha hb h w
  have PA := fun w => rabs (a : Int) (by omega) (by omega) w
  have PB := fun w => rabs (b : Int) (by omega) (by omega) w
  have OA := fun w => rof a (by omega) w
  have OB := fun w => rof b (by omega) w
  generalize ((a / Nat.gcd a b : Nat) : Int) = x at PR ⊢
  generalize ((b / Nat.gcd a b : Nat) : Int) = y at PR ⊢
  have u0 : (b : Int) ≠ 0 := by omega
  have u1 : 0 ≤ (a : Int) := by omega
  have u2 : 0 ≤ (b : Int) := by omega
  generalize W a = wa at OA PR
  generalize W b = wb at OB PR
  generalize (a : Int) = ai at PA OA u1 ⊢
  generalize (b : Int) = bi at PB OB u0 u2 ⊢
  have t0 : (bi == 0) = false := by simpa using u0
  have t1 : ¬ ai < 0 := by omega
  have t2 : ¬ bi < 0 := by omega
  have PR := Lib.hid PR
  have PA := Lib.hid PA
  have PB := Lib.hid PB
  have OA := Lib.hid OA
  have OB := Lib.hid OB
  clear h ha hb u0 u1 u2
  go_enter Try.func48, Try.ntmps48
  go_wp2_with (first | (go_at_call 89; with_reducible refine (PA.out _).mono ?_; rintro e w9 ⟨rfl, h9⟩; obtain rfl := h9.symm) | (go_at_call 89; with_reducible refine (PB.out _).mono ?_; rintro e w9 ⟨rfl, h9⟩; obtain rfl := h9.symm) | (go_at_call 88; with_reducible refine (OA.out _).mono ?_; rintro e w1 ⟨rfl, hb1⟩; have hz1 := hb1.size; (try simp at hz1); have o1 : Below w.heap.size w w1 := (by (repeat (first | exact Below.refl _ _ | refine Below.setCell ?_ (by first | (simp; done) | (simp; omega) | omega) _ | refine Below.alloc ?_ (by first | (simp; done) | (simp; omega) | omega) _ | refine Below.drew ?_ | refine Below.trans ?_ (Below.mono (by assumption) (by first | (simp; done) | (simp; omega) | omega))))); have q1_0 : w.heap.size < w1.heap.size := (by omega); have r1_0 : Row w1 (w.heap.size) 35 #[.int .i64 0, .int .i64 0] := row_call (by (repeat (first | assumption | (refine row_new ?_; (first | (simp; done) | omega)) | refine row_alloc ?_ _ | refine row_drew ?_ | refine row_call ?_ (by assumption)))) hb1; obtain ⟨c1_0a, c1_0b, f1_0a, f1_0b⟩ := row_two r1_0) | (go_at_call 88; with_reducible refine (OB.out _).mono ?_; rintro e w2 ⟨rfl, hb2⟩; have hz2 := hb2.size; (try simp at hz2); have o2 : Below w.heap.size w w2 := (by (repeat (first | exact Below.refl _ _ | refine Below.setCell ?_ (by first | (simp; done) | (simp; omega) | omega) _ | refine Below.alloc ?_ (by first | (simp; done) | (simp; omega) | omega) _ | refine Below.drew ?_ | refine Below.trans ?_ (Below.mono (by assumption) (by first | (simp; done) | (simp; omega) | omega))))); have q2_0 : w.heap.size < w2.heap.size := (by omega); have r2_0 : Row w2 (w.heap.size) 35 #[.int .i64 0, .int .i64 0] := row_call (by (repeat (first | assumption | (refine row_new ?_; (first | (simp; done) | omega)) | refine row_alloc ?_ _ | refine row_drew ?_ | refine row_call ?_ (by assumption)))) hb2; obtain ⟨c2_0a, c2_0b, f2_0a, f2_0b⟩ := row_two r2_0) | (go_at_call 87; with_reducible refine (PR.out _).mono ?_; rintro e w3 ⟨rfl, hb3⟩; have hz3 := hb3.size; (try simp at hz3); have o3 : Below w.heap.size w w3 := (by (repeat (first | exact Below.refl _ _ | refine Below.setCell ?_ (by first | (simp; done) | (simp; omega) | omega) _ | refine Below.alloc ?_ (by first | (simp; done) | (simp; omega) | omega) _ | refine Below.drew ?_ | refine Below.trans ?_ (Below.mono (by assumption) (by first | (simp; done) | (simp; omega) | omega))))); have q3_0 : w.heap.size < w3.heap.size := (by omega); have r3_0 : Row w3 (w.heap.size) 35 #[.int .i64 0, .int .i64 0] := row_call (by (repeat (first | assumption | (refine row_new ?_; (first | (simp; done) | omega)) | refine row_alloc ?_ _ | refine row_drew ?_ | refine row_call ?_ (by assumption)))) hb3; obtain ⟨c3_0a, c3_0b, f3_0a, f3_0b⟩ := row_two r3_0))
  exact bodyPost_ret (v := .tuple #[.agg #[.int .i64 x, .int .i64 y], .bool true]) (by simp [results, Try.results48, go_sem, c3_0a, c3_0b]) rfl ⟨rfl, by (repeat (first | exact Below.refl _ _ | refine Below.setCell ?_ (by first | (simp; done) | (simp; omega) | omega) _ | refine Below.alloc ?_ (by first | (simp; done) | (simp; omega) | omega) _ | refine Below.drew ?_ | refine Below.trans ?_ (Below.mono (by assumption) (by first | (simp; done) | (simp; omega) | omega))))⟩
set_option maxHeartbeats 2000000 in
theorem rof_yes (sq tk n s q lw hg : Int) (w : World) (h : rightP n s q) : Calls Try.prog 16 #[.agg #[.int .i64 sq, .int .i64 tk, .int .i64 n, .int .i64 s, .int .i64 q, .int .i64 lw, .int .i64 hg]] w fun e w' => e = .returned (.tuple #[.agg #[.int .i64 (ratA n s q), .int .i64 (ratB n s q)], .bool true]) ∧ Below w.heap.size w w' := by
  unfold ratA ratB
  obtain ⟨nn, rfl⟩ : ∃ nn : Nat, n = (nn : Int) := ⟨n.toNat, by have := h.1; omega⟩
  rw [Int.toNat_natCast]
  have PR := fun w => rright sq tk (nn : Int) s q lw hg w
  rw [decide_eq_true h] at PR
  have PR := Lib.hid PR
  have b := right_top h
  have wss : IntKind.i64.wrap (s * s) = s * s := IntWalk.i64_in _ (by omega)
  have wnq : IntKind.i64.wrap ((nn : Int) * q) = (nn : Int) * q := IntWalk.i64_in _ (by omega)
  have wd : IntKind.i64.wrap ((nn : Int) * q - s * s) = (topN (nn : Int) s q : Int) := by rw [IntWalk.i64_in _ (by omega)]; unfold topN; omega
  have tb : topN (nn : Int) s q < 9223372036854775808 := by unfold topN; omega
  have PMK := fun w => rmake (topN (nn : Int) s q) nn tb (by have := h.2.1; omega) (by have := h.1; omega) w
  generalize topN (nn : Int) s q = tp at PMK wd ⊢
  generalize ((tp / Nat.gcd tp nn : Nat) : Int) = x at PMK ⊢
  generalize ((nn / Nat.gcd tp nn : Nat) : Int) = y at PMK ⊢
  generalize (nn : Int) = n at PR wnq wd PMK ⊢
  generalize (tp : Int) = tpi at wd PMK
  have PMK := Lib.hid PMK
  clear h tb b
  go_enter Try.func16, Try.ntmps16
  go_wp2_with (first | (go_at_call 47; with_reducible refine (PR.out _).mono ?_; rintro e w1 ⟨rfl, hb1⟩; have hz1 := hb1.size; (try simp at hz1); have o1 : Below w.heap.size w w1 := (by (repeat (first | exact Below.refl _ _ | refine Below.setCell ?_ (by first | (simp; done) | (simp; omega) | omega) _ | refine Below.alloc ?_ (by first | (simp; done) | (simp; omega) | omega) _ | refine Below.drew ?_ | refine Below.trans ?_ (Below.mono (by assumption) (by first | (simp; done) | (simp; omega) | omega))))); have q1_0 : w.heap.size < w1.heap.size := (by omega); have r1_0 : Row w1 (w.heap.size) 33 #[.int .i64 sq, .int .i64 tk, .int .i64 n, .int .i64 s, .int .i64 q, .int .i64 lw, .int .i64 hg] := row_call (by (repeat (first | assumption | (refine row_new ?_; (first | (simp; done) | omega)) | refine row_alloc ?_ _ | refine row_drew ?_ | refine row_call ?_ (by assumption)))) hb1; obtain ⟨c1_0a, c1_0b, c1_0c, c1_0d, c1_0e, c1_0f, c1_0g, f1_0a, f1_0b, f1_0c, f1_0d, f1_0e, f1_0f, f1_0g⟩ := row_seven r1_0; have q1_1 : w.heap.size + 1 < w1.heap.size := (by omega); have r1_1 : Row w1 (w.heap.size + 1) 35 #[.int .i64 0, .int .i64 0] := row_call (by (repeat (first | assumption | (refine row_new ?_; (first | (simp; done) | omega)) | refine row_alloc ?_ _ | refine row_drew ?_ | refine row_call ?_ (by assumption)))) hb1; obtain ⟨c1_1a, c1_1b, f1_1a, f1_1b⟩ := row_two r1_1) | (go_at_call 48; with_reducible refine (PMK.out _).mono ?_; rintro e w2 ⟨rfl, hb2⟩; have hz2 := hb2.size; (try simp at hz2); have o2 : Below w.heap.size w w2 := (by (repeat (first | exact Below.refl _ _ | refine Below.setCell ?_ (by first | (simp; done) | (simp; omega) | omega) _ | refine Below.alloc ?_ (by first | (simp; done) | (simp; omega) | omega) _ | refine Below.drew ?_ | refine Below.trans ?_ (Below.mono (by assumption) (by first | (simp; done) | (simp; omega) | omega))))); have q2_0 : w.heap.size + 1 < w2.heap.size := (by omega); have r2_0 : Row w2 (w.heap.size + 1) 35 #[.int .i64 0, .int .i64 0] := row_call (by (repeat (first | assumption | (refine row_new ?_; (first | (simp; done) | omega)) | refine row_alloc ?_ _ | refine row_drew ?_ | refine row_call ?_ (by assumption)))) hb2; obtain ⟨c2_0a, c2_0b, f2_0a, f2_0b⟩ := row_two r2_0))
  exact bodyPost_ret (v := .tuple #[.agg #[.int .i64 x, .int .i64 y], .bool true]) (by simp [results, Try.results16, go_sem, c2_0a, c2_0b]) rfl ⟨rfl, by (repeat (first | exact Below.refl _ _ | refine Below.setCell ?_ (by first | (simp; done) | (simp; omega) | omega) _ | refine Below.alloc ?_ (by first | (simp; done) | (simp; omega) | omega) _ | refine Below.drew ?_ | refine Below.trans ?_ (Below.mono (by assumption) (by first | (simp; done) | (simp; omega) | omega))))⟩
end Go.Proofs.Ytaiepjcnncajcaa
end
section
/- Spread histograms: the exact spread of items, and the answers, walked. -/
set_option linter.unusedVariables false
set_option linter.unusedSimpArgs false
set_option linter.unusedSectionVars false
set_option linter.unnecessarySimpa false
namespace Go.Proofs.Ytaiepjcnncajcaa
open Go.RowKit
/-- The sum of the squared differences of an item and others. -/
def dsum (x : Int) : List Itm → Int
  | [] => 0
  | y :: l => (x - y.v) * (x - y.v) + dsum x l
theorem rwholeN (n : Nat) (hn : n < 9223372036854775808) (w : World) : Calls Try.prog 78 #[.int .i64 (n : Nat)] w fun e w' => e = .returned (.agg #[.int .i64 (n : Nat), .int .i64 1, .int .i64 (n : Nat), .int .i64 1, .int .i64 (n : Nat), .int .i64 1]) ∧ Below w.heap.size w w' := by
  have P1 := Lib.hid (fun w => rratio (n : Int) w)
  have P2 := Lib.hid (fun w => rexactR n 1 w hn (by omega) (by omega) (Nat.gcd_one_right n))
  clear hn
  go_enter Try.func78, Try.ntmps78
  go_wp2_with fail
  have R : Row (w.alloc (.cells #[.int .i64 0, .int .i64 0, .int .i64 0, .int .i64 0, .int .i64 0, .int .i64 0] 45)) w.heap.size 45 #[.int .i64 0, .int .i64 0, .int .i64 0, .int .i64 0, .int .i64 0, .int .i64 0] := row_new rfl
  have o : Below w.heap.size w (w.alloc (.cells #[.int .i64 0, .int .i64 0, .int .i64 0, .int .i64 0, .int .i64 0, .int .i64 0] 45)) := by (repeat (first | exact Below.refl _ _ | refine Below.setCell ?_ (by first | (simp; done) | (simp; omega) | omega) _ | refine Below.alloc ?_ (by first | (simp; done) | (simp; omega) | omega) _ | refine Below.drew ?_ | refine Below.trans ?_ (Below.mono (by assumption) (by first | (simp; done) | (simp; omega) | omega))))
  generalize (w.alloc (.cells #[.int .i64 0, .int .i64 0, .int .i64 0, .int .i64 0, .int .i64 0, .int .i64 0] 45)) = w1 at R o ⊢
  refine (P1.out _).mono ?_
  rintro e w2 ⟨rfl, hb2⟩
  replace R := row_call R hb2
  replace o := o.trans (hb2.mono o.size)
  clear hb2
  go_wp2_with fail
  refine (P2.out _).mono ?_
  rintro e w3 ⟨rfl, hb3⟩
  replace R := row_call R hb3
  replace o := o.trans (hb3.mono o.size)
  clear hb3
  obtain ⟨R0, R1, R2, R3, R4, R5, Rf0, Rf1, Rf2, Rf3, Rf4, Rf5⟩ := row_six R
  go_wp2
  exact bodyPost_ret (v := .agg #[.int .i64 (n : Nat), .int .i64 1, .int .i64 (n : Nat), .int .i64 1, .int .i64 (n : Nat), .int .i64 1]) (by simp [results, Try.results78, go_sem, R0, R1, R2, R3, R4, R5]) rfl ⟨rfl, below_six o (by omega) _ _ _ _ _ _⟩
/-- The answer: an interval, and an error. -/
def askPV (ve : Int) (lT lN hT hN : Nat) : Value := if ve = 0 then .tuple #[.agg #[.int .i64 (rn lT lN : Nat), .int .i64 (rd lT lN : Nat), .int .i64 (rn lT lN : Nat), .int .i64 (rd lT lN : Nat), .int .i64 (rn hT hN : Nat), .int .i64 (rd hT hN : Nat)], .int .i64 0] else .tuple #[.agg #[.int .i64 0, .int .i64 0, .int .i64 0, .int .i64 0, .int .i64 0, .int .i64 0], .int .i64 ve]
theorem pofM {m : Mk} (h : rightP m.n m.s m.q) (w : World) : Calls Try.prog 15 #[.agg #[.int .i64 m.seq, .int .i64 m.t, .int .i64 m.n, .int .i64 m.s, .int .i64 m.q, .int .i64 m.lo, .int .i64 m.hi]] w fun e w' => e = .returned (.tuple #[.agg #[.int .i64 (rn (mT m) (mN m) : Nat), .int .i64 (rd (mT m) (mN m) : Nat)], .bool true]) ∧ Below w.heap.size w w' := pof_yes _ _ _ _ _ _ _ w h
theorem rofM {m : Mk} (h : rightP m.n m.s m.q) (w : World) : Calls Try.prog 16 #[.agg #[.int .i64 m.seq, .int .i64 m.t, .int .i64 m.n, .int .i64 m.s, .int .i64 m.q, .int .i64 m.lo, .int .i64 m.hi]] w fun e w' => e = .returned (.tuple #[.agg #[.int .i64 (rn (mT m) (mN m) : Nat), .int .i64 (rd (mT m) (mN m) : Nat)], .bool true]) ∧ Below w.heap.size w w' := rof_yes _ _ _ _ _ _ _ w h
set_option maxRecDepth 100000 in
theorem pspask_a (A : Option Addr) (m c : Nat) (l : List Mk) (wd k cap now seq : Int) (w : World) (hin : MIn A m c l w) (sB : I64 seq) (hv : spvalE wd k cap now seq l = 2) : Calls Try.prog 33 #[.agg #[.int .i64 wd, .int .i64 k, .int .i64 cap, .int .i64 now, .int .i64 seq, .slice A m c]] w fun e w' => e = .returned (askPV (spvalE wd k cap now seq l) (loT now wd l) (loN now wd l) (hiT now wd l) (hiN now wd l)) ∧ Below w.heap.size w w' := by
  rw [show askPV (spvalE wd k cap now seq l) (loT now wd l) (loN now wd l) (hiT now wd l) (hiN now wd l) = .tuple #[.agg #[.int .i64 0, .int .i64 0, .int .i64 0, .int .i64 0, .int .i64 0, .int .i64 0], .int .i64 2] by unfold askPV; rw [hv]; rfl]
  have P := fun w' (hb : Below w.heap.size w w') => pvalP A m c l wd k cap now seq w' (hin.below hb) sB
  rw [hv] at P
  replace P := Lib.hid P
  clear hv hin sB
  go_enter Try.func33, Try.ntmps33
  go_upto_region 1 with (fail)
  have X : Row ((w.alloc (.cells #[.int .i64 wd, .int .i64 k, .int .i64 cap, .int .i64 now, .int .i64 seq, .slice A m c] 24)).alloc (.cells #[.int .i64 0, .int .i64 0, .int .i64 0, .int .i64 0, .int .i64 0, .int .i64 0] 45)) w.heap.size 24 #[.int .i64 wd, .int .i64 k, .int .i64 cap, .int .i64 now, .int .i64 seq, .slice A m c] := row_alloc (row_new rfl) _
  have R : Row ((w.alloc (.cells #[.int .i64 wd, .int .i64 k, .int .i64 cap, .int .i64 now, .int .i64 seq, .slice A m c] 24)).alloc (.cells #[.int .i64 0, .int .i64 0, .int .i64 0, .int .i64 0, .int .i64 0, .int .i64 0] 45)) (w.heap.size + 1) 45 #[.int .i64 0, .int .i64 0, .int .i64 0, .int .i64 0, .int .i64 0, .int .i64 0] := row_new (by simp)
  have o : Below w.heap.size w ((w.alloc (.cells #[.int .i64 wd, .int .i64 k, .int .i64 cap, .int .i64 now, .int .i64 seq, .slice A m c] 24)).alloc (.cells #[.int .i64 0, .int .i64 0, .int .i64 0, .int .i64 0, .int .i64 0, .int .i64 0] 45)) := by (repeat (first | exact Below.refl _ _ | refine Below.setCell ?_ (by first | (simp; done) | (simp; omega) | omega) _ | refine Below.alloc ?_ (by first | (simp; done) | (simp; omega) | omega) _ | refine Below.drew ?_ | refine Below.trans ?_ (Below.mono (by assumption) (by first | (simp; done) | (simp; omega) | omega))))
  generalize ((w.alloc (.cells #[.int .i64 wd, .int .i64 k, .int .i64 cap, .int .i64 now, .int .i64 seq, .slice A m c] 24)).alloc (.cells #[.int .i64 0, .int .i64 0, .int .i64 0, .int .i64 0, .int .i64 0, .int .i64 0] 45)) = w0 at X R o ⊢
  obtain ⟨X0, X1, X2, X3, X4, X5, Xf0, Xf1, Xf2, Xf3, Xf4, Xf5⟩ := row_six X
  go_wp2_with fail
  refine (P.out _ o).mono ?_
  rintro e w1 ⟨rfl, hb⟩
  replace X := row_call X hb
  replace R := row_call R hb
  replace o := o.trans (hb.mono o.size)
  clear hb X0 X1 X2 X3 X4 X5 Xf0 Xf1 Xf2 Xf3 Xf4 Xf5
  obtain ⟨R0, R1, R2, R3, R4, R5, Rf0, Rf1, Rf2, Rf3, Rf4, Rf5⟩ := row_six R
  go_wp2
  exact bodyPost_ret (v := .tuple #[.agg #[.int .i64 0, .int .i64 0, .int .i64 0, .int .i64 0, .int .i64 0, .int .i64 0], .int .i64 2]) (by simp [results, Try.results33, go_sem, List.getElem?_toArray, R0, R1, R2, R3, R4, R5]) rfl ⟨rfl, below_six o (by omega) _ _ _ _ _ _⟩
set_option maxRecDepth 100000 in
theorem pspask_z (A : Option Addr) (c : Nat) (l : List Mk) (wd k cap now seq : Int) (w : World) (hin : MIn A 0 c l w) (sB : I64 seq) (hv : spvalE wd k cap now seq l = 0) : Calls Try.prog 33 #[.agg #[.int .i64 wd, .int .i64 k, .int .i64 cap, .int .i64 now, .int .i64 seq, .slice A 0 c]] w fun e w' => e = .returned (askPV (spvalE wd k cap now seq l) (loT now wd l) (loN now wd l) (hiT now wd l) (hiN now wd l)) ∧ Below w.heap.size w w' := by
  have hl : l = [] := List.eq_nil_of_length_eq_zero hin.len
  rw [show askPV (spvalE wd k cap now seq l) (loT now wd l) (loN now wd l) (hiT now wd l) (hiN now wd l) = .tuple #[.agg #[.int .i64 0, .int .i64 1, .int .i64 0, .int .i64 1, .int .i64 0, .int .i64 1], .int .i64 0] by
    unfold askPV
    rw [if_pos hv, hl]
    have e1 : loT now wd [] = 0 := by unfold loT; rw [if_pos rfl]
    have e2 : loN now wd [] = 1 := by unfold loN; rw [if_pos rfl]
    have e3 : hiT now wd [] = 0 := by unfold hiT; rw [if_pos rfl]
    have e4 : hiN now wd [] = 1 := by unfold hiN; rw [if_pos rfl]
    rw [e1, e2, e3, e4]
    rfl]
  have P := fun w' (hb : Below w.heap.size w w') => pvalP A 0 c l wd k cap now seq w' (hin.below hb) sB
  rw [hv] at P
  replace P := Lib.hid P
  have PE := Lib.hid (show ∀ w, Calls Try.prog 75 #[.agg #[.int .i64 0, .int .i64 1]] w fun e w' => e = .returned (.agg #[.int .i64 0, .int .i64 1, .int .i64 0, .int .i64 1, .int .i64 0, .int .i64 1]) ∧ Below w.heap.size w w' from fun w => pexactR 0 1 w (by omega) (by omega) (by omega) (Nat.gcd_one_right 0))
  have P0 := Lib.hid (fun w => pratio 0 w)
  clear hv hin sB hl
  go_enter Try.func33, Try.ntmps33
  go_upto_region 1 with (fail)
  have X : Row ((w.alloc (.cells #[.int .i64 wd, .int .i64 k, .int .i64 cap, .int .i64 now, .int .i64 seq, .slice A 0 c] 24)).alloc (.cells #[.int .i64 0, .int .i64 0, .int .i64 0, .int .i64 0, .int .i64 0, .int .i64 0] 45)) w.heap.size 24 #[.int .i64 wd, .int .i64 k, .int .i64 cap, .int .i64 now, .int .i64 seq, .slice A 0 c] := row_alloc (row_new rfl) _
  have R : Row ((w.alloc (.cells #[.int .i64 wd, .int .i64 k, .int .i64 cap, .int .i64 now, .int .i64 seq, .slice A 0 c] 24)).alloc (.cells #[.int .i64 0, .int .i64 0, .int .i64 0, .int .i64 0, .int .i64 0, .int .i64 0] 45)) (w.heap.size + 1) 45 #[.int .i64 0, .int .i64 0, .int .i64 0, .int .i64 0, .int .i64 0, .int .i64 0] := row_new (by simp)
  have o : Below w.heap.size w ((w.alloc (.cells #[.int .i64 wd, .int .i64 k, .int .i64 cap, .int .i64 now, .int .i64 seq, .slice A 0 c] 24)).alloc (.cells #[.int .i64 0, .int .i64 0, .int .i64 0, .int .i64 0, .int .i64 0, .int .i64 0] 45)) := by (repeat (first | exact Below.refl _ _ | refine Below.setCell ?_ (by first | (simp; done) | (simp; omega) | omega) _ | refine Below.alloc ?_ (by first | (simp; done) | (simp; omega) | omega) _ | refine Below.drew ?_ | refine Below.trans ?_ (Below.mono (by assumption) (by first | (simp; done) | (simp; omega) | omega))))
  generalize ((w.alloc (.cells #[.int .i64 wd, .int .i64 k, .int .i64 cap, .int .i64 now, .int .i64 seq, .slice A 0 c] 24)).alloc (.cells #[.int .i64 0, .int .i64 0, .int .i64 0, .int .i64 0, .int .i64 0, .int .i64 0] 45)) = w0 at X R o ⊢
  obtain ⟨X0, X1, X2, X3, X4, X5, Xf0, Xf1, Xf2, Xf3, Xf4, Xf5⟩ := row_six X
  go_wp2_with fail
  refine (P.out _ o).mono ?_
  rintro e w1 ⟨rfl, hb⟩
  replace X := row_call X hb
  replace R := row_call R hb
  replace o := o.trans (hb.mono o.size)
  clear hb X0 X1 X2 X3 X4 X5 Xf0 Xf1 Xf2 Xf3 Xf4 Xf5
  obtain ⟨X0, X1, X2, X3, X4, X5, Xf0, Xf1, Xf2, Xf3, Xf4, Xf5⟩ := row_six X
  go_wp2_with fail
  refine (P0.out _).mono ?_
  rintro e w4 ⟨rfl, hb⟩
  replace X := row_call X hb
  replace R := row_call R hb
  replace o := o.trans (hb.mono o.size)
  clear hb X0 X1 X2 X3 X4 X5 Xf0 Xf1 Xf2 Xf3 Xf4 Xf5
  go_wp2_with fail
  refine (PE.out _).mono ?_
  rintro e w5 ⟨rfl, hb⟩
  replace X := row_call X hb
  replace R := row_call R hb
  replace o := o.trans (hb.mono o.size)
  clear hb
  obtain ⟨R0, R1, R2, R3, R4, R5, Rf0, Rf1, Rf2, Rf3, Rf4, Rf5⟩ := row_six R
  go_wp2
  exact bodyPost_ret (v := .tuple #[.agg #[.int .i64 0, .int .i64 1, .int .i64 0, .int .i64 1, .int .i64 0, .int .i64 1], .int .i64 0]) (by simp [results, Try.results33, go_sem, List.getElem?_toArray, R0, R1, R2, R3, R4, R5]) rfl ⟨rfl, below_six o (by omega) _ _ _ _ _ _⟩
set_option maxRecDepth 100000 in
set_option maxHeartbeats 4000000 in
theorem pspask_l (A : Option Addr) (m c : Nat) (l : List Mk) (wd k cap now seq : Int) (w : World) (hin : MIn A m c l w) (sB : I64 seq) (hv : spvalE wd k cap now seq l = 0) (hm0 : 0 < m) (hlv : now - wd < (mkAt l 0).t) : Calls Try.prog 33 #[.agg #[.int .i64 wd, .int .i64 k, .int .i64 cap, .int .i64 now, .int .i64 seq, .slice A m c]] w fun e w' => e = .returned (askPV (spvalE wd k cap now seq l) (loT now wd l) (loN now wd l) (hiT now wd l) (hiN now wd l)) ∧ Below w.heap.size w w' := by
  obtain ⟨hG, hMV, _⟩ := of_spvalE hv
  obtain ⟨d0, d1, k0, k1, c0, c1, n0, n1⟩ := hG
  have hVL := (mvalid_iff.1 hMV).2
  have hl := hin.len
  have hne : l ≠ [] := fun e => by rw [e] at hl; simp at hl; omega
  have e1 : loT now wd l = mT (mkAt l 0) := by unfold loT; rw [if_neg hne, if_pos hlv]
  have e2 : loN now wd l = mN (mkAt l 0) := by unfold loN; rw [if_neg hne, if_pos hlv]
  have e3 : hiT now wd l = mT (mkAt l 0) := by unfold hiT; rw [if_neg hne, if_pos hlv]
  have e4 : hiN now wd l = mN (mkAt l 0) := by unfold hiN; rw [if_neg hne, if_pos hlv]
  rw [e1, e2, e3, e4, hv]
  clear e1 e2 e3 e4
  have oa := hVL.one _ (mkAt_mem (l := l) (i := 0) (by omega))
  have ra := one_right oa c1
  have rka := rat_mark ra
  have PX := fun w => pofM ra w
  have PL := fun w => plive now wd (mkAt l 0).t w n0 n1 d0 d1 oa.2.2.2.2.1 oa.2.2.2.2.2.1
  rw [decide_eq_true hlv] at PL
  unfold askPV
  rw [if_pos rfl]
  generalize rn (mT (mkAt l 0)) (mN (mkAt l 0)) = xn at PX rka ⊢
  generalize rd (mT (mkAt l 0)) (mN (mkAt l 0)) = xd at PX rka ⊢
  have PE := Lib.hid (fun w => pexactR xn xd w (by have := rka.1; omega) rka.2.1.1 (by have := rka.2.1.2; omega) rka.2.2)
  obtain ⟨ad, rfl, hadb, ht0⟩ := hin.reads.mk (i := 0) hm0
  have ht0 : MkCells w ad (mkAt l 0) := ht0
  generalize hma : mkAt l 0 = ma at ht0 PX PL
  obtain ⟨sq, tk, n, s, q, lo, hi⟩ := ma
  dsimp only at PX PL
  clear hma
  replace PX := Lib.hid PX
  replace PL := Lib.hid PL
  have HT0 := Lib.hid ht0
  have g0 : (0 : Int) < (m : Int) := by omega
  have mz : ((m : Int) == 0) = false := by simp; omega
  have P := fun w' (hb : Below w.heap.size w w') => pvalP (some ad) m c l wd k cap now seq w' (hin.below hb) sB
  rw [hv] at P
  replace P := Lib.hid P
  clear hv hin sB hMV hVL hl hne rka oa ra ht0 hlv
  go_enter Try.func33, Try.ntmps33
  go_upto_region 1 with (fail)
  have X : Row ((w.alloc (.cells #[.int .i64 wd, .int .i64 k, .int .i64 cap, .int .i64 now, .int .i64 seq, .slice (some ad) m c] 24)).alloc (.cells #[.int .i64 0, .int .i64 0, .int .i64 0, .int .i64 0, .int .i64 0, .int .i64 0] 45)) w.heap.size 24 #[.int .i64 wd, .int .i64 k, .int .i64 cap, .int .i64 now, .int .i64 seq, .slice (some ad) m c] := row_alloc (row_new rfl) _
  have R : Row ((w.alloc (.cells #[.int .i64 wd, .int .i64 k, .int .i64 cap, .int .i64 now, .int .i64 seq, .slice (some ad) m c] 24)).alloc (.cells #[.int .i64 0, .int .i64 0, .int .i64 0, .int .i64 0, .int .i64 0, .int .i64 0] 45)) (w.heap.size + 1) 45 #[.int .i64 0, .int .i64 0, .int .i64 0, .int .i64 0, .int .i64 0, .int .i64 0] := row_new (by simp)
  have o : Below w.heap.size w ((w.alloc (.cells #[.int .i64 wd, .int .i64 k, .int .i64 cap, .int .i64 now, .int .i64 seq, .slice (some ad) m c] 24)).alloc (.cells #[.int .i64 0, .int .i64 0, .int .i64 0, .int .i64 0, .int .i64 0, .int .i64 0] 45)) := by (repeat (first | exact Below.refl _ _ | refine Below.setCell ?_ (by first | (simp; done) | (simp; omega) | omega) _ | refine Below.alloc ?_ (by first | (simp; done) | (simp; omega) | omega) _ | refine Below.drew ?_ | refine Below.trans ?_ (Below.mono (by assumption) (by first | (simp; done) | (simp; omega) | omega))))
  generalize ((w.alloc (.cells #[.int .i64 wd, .int .i64 k, .int .i64 cap, .int .i64 now, .int .i64 seq, .slice (some ad) m c] 24)).alloc (.cells #[.int .i64 0, .int .i64 0, .int .i64 0, .int .i64 0, .int .i64 0, .int .i64 0] 45)) = w0 at X R o ⊢
  obtain ⟨X0, X1, X2, X3, X4, X5, Xf0, Xf1, Xf2, Xf3, Xf4, Xf5⟩ := row_six X
  go_wp2_with fail
  refine (P.out _ o).mono ?_
  rintro e w1 ⟨rfl, hb⟩
  replace X := row_call X hb
  replace R := row_call R hb
  replace o := o.trans (hb.mono o.size)
  clear hb X0 X1 X2 X3 X4 X5 Xf0 Xf1 Xf2 Xf3 Xf4 Xf5
  obtain ⟨q0, q1, q2, q3, q4, q5, q6⟩ := HT0.out.below o hadb
  dsimp only at q0 q1 q2 q3 q4 q5 q6
  obtain ⟨X0, X1, X2, X3, X4, X5, Xf0, Xf1, Xf2, Xf3, Xf4, Xf5⟩ := row_six X
  go_upto_region 7 with (fail)
  clear X0 X1 X2 X3 X4 X5 Xf0 Xf1 Xf2 Xf3 Xf4 Xf5
  have Fr : Row (w1.alloc (.cells #[.int .i64 sq, .int .i64 tk, .int .i64 n, .int .i64 s, .int .i64 q, .int .i64 lo, .int .i64 hi] 33)) w1.heap.size 33 #[.int .i64 sq, .int .i64 tk, .int .i64 n, .int .i64 s, .int .i64 q, .int .i64 lo, .int .i64 hi] := row_new rfl
  replace X := row_alloc X (.cells #[.int .i64 sq, .int .i64 tk, .int .i64 n, .int .i64 s, .int .i64 q, .int .i64 lo, .int .i64 hi] 33)
  replace R := row_alloc R (.cells #[.int .i64 sq, .int .i64 tk, .int .i64 n, .int .i64 s, .int .i64 q, .int .i64 lo, .int .i64 hi] 33)
  replace o := o.alloc o.size (.cells #[.int .i64 sq, .int .i64 tk, .int .i64 n, .int .i64 s, .int .i64 q, .int .i64 lo, .int .i64 hi] 33)
  generalize w1.alloc (.cells #[.int .i64 sq, .int .i64 tk, .int .i64 n, .int .i64 s, .int .i64 q, .int .i64 lo, .int .i64 hi] 33) = w2 at X R Fr o ⊢
  generalize w1.heap.size = fb at Fr ⊢
  clear q0 q1 q2 q3 q4 q5 q6
  obtain ⟨F0, F1, F2, F3, F4, F5, F6, Ff0, Ff1, Ff2, Ff3, Ff4, Ff5, Ff6⟩ := row_seven Fr
  go_wp2_with fail
  refine (PX.out _).mono ?_
  rintro e w3 ⟨rfl, hb⟩
  replace X := row_call X hb
  replace R := row_call R hb
  replace Fr := row_call Fr hb
  replace o := o.trans (hb.mono o.size)
  clear hb F0 F1 F2 F3 F4 F5 F6 Ff0 Ff1 Ff2 Ff3 Ff4 Ff5 Ff6
  go_upto_region 8 with (fail)
  have Hi : Row (w3.alloc (.cells #[.int .i64 xn, .int .i64 xd] 35)) w3.heap.size 35 #[.int .i64 xn, .int .i64 xd] := row_new rfl
  replace X := row_alloc X (.cells #[.int .i64 xn, .int .i64 xd] 35)
  replace R := row_alloc R (.cells #[.int .i64 xn, .int .i64 xd] 35)
  replace Fr := row_alloc Fr (.cells #[.int .i64 xn, .int .i64 xd] 35)
  replace o := o.alloc o.size (.cells #[.int .i64 xn, .int .i64 xd] 35)
  generalize w3.alloc (.cells #[.int .i64 xn, .int .i64 xd] 35) = w4 at X R Fr Hi o ⊢
  generalize w3.heap.size = ib at Hi ⊢
  obtain ⟨X0, X1, X2, X3, X4, X5, Xf0, Xf1, Xf2, Xf3, Xf4, Xf5⟩ := row_six X
  obtain ⟨F0, F1, F2, F3, F4, F5, F6, Ff0, Ff1, Ff2, Ff3, Ff4, Ff5, Ff6⟩ := row_seven Fr
  go_upto_region 9 with (go_at_call 77; with_reducible refine (PL.out _).mono ?_; rintro e w9 ⟨rfl, h9⟩; obtain rfl := h9.symm)
  clear X0 X1 X2 X3 X4 X5 Xf0 Xf1 Xf2 Xf3 Xf4 Xf5 F0 F1 F2 F3 F4 F5 F6 Ff0 Ff1 Ff2 Ff3 Ff4 Ff5 Ff6
  obtain ⟨H0, H1, Hf0, Hf1⟩ := row_two Hi
  go_wp2_with fail
  refine (PE.out _).mono ?_
  rintro e w5 ⟨rfl, hb⟩
  replace X := row_call X hb
  replace R := row_call R hb
  replace Fr := row_call Fr hb
  replace Hi := row_call Hi hb
  replace o := o.trans (hb.mono o.size)
  clear hb H0 H1 Hf0 Hf1
  obtain ⟨R0, R1, R2, R3, R4, R5, Rf0, Rf1, Rf2, Rf3, Rf4, Rf5⟩ := row_six R
  go_wp2
  exact bodyPost_ret (v := .tuple #[.agg #[.int .i64 xn, .int .i64 xd, .int .i64 xn, .int .i64 xd, .int .i64 xn, .int .i64 xd], .int .i64 0]) (by simp [results, Try.results33, go_sem, List.getElem?_toArray, R0, R1, R2, R3, R4, R5]) rfl ⟨rfl, below_six o (by omega) _ _ _ _ _ _⟩
set_option maxRecDepth 100000 in
set_option maxHeartbeats 4000000 in
theorem pspask_n (A : Option Addr) (m c : Nat) (l : List Mk) (wd k cap now seq : Int) (w : World) (hin : MIn A m c l w) (sB : I64 seq) (hv : spvalE wd k cap now seq l = 0) (hm0 : 0 < m) (hlv : ¬ now - wd < (mkAt l 0).t) (hnx : (mkAt l 1).seq = (mkAt l 0).seq + 1) : Calls Try.prog 33 #[.agg #[.int .i64 wd, .int .i64 k, .int .i64 cap, .int .i64 now, .int .i64 seq, .slice A m c]] w fun e w' => e = .returned (askPV (spvalE wd k cap now seq l) (loT now wd l) (loN now wd l) (hiT now wd l) (hiN now wd l)) ∧ Below w.heap.size w w' := by
  obtain ⟨hG, hMV, _⟩ := of_spvalE hv
  obtain ⟨d0, d1, k0, k1, c0, c1, n0, n1⟩ := hG
  have hVL := (mvalid_iff.1 hMV).2
  have hl := hin.len
  have hne : l ≠ [] := fun e => by rw [e] at hl; simp at hl; omega
  have hm1 : 1 < m := by
    apply Nat.lt_of_not_le; intro hc
    obtain ⟨a, rfl⟩ : ∃ a, l = [a] := List.length_eq_one_iff.1 (by omega)
    exact hlv (hVL.alone a rfl)
  have e1 : loT now wd l = mT (mkAt l 1) := by unfold loT; rw [if_neg hne, if_neg hlv]
  have e2 : loN now wd l = mN (mkAt l 1) := by unfold loN; rw [if_neg hne, if_neg hlv]
  have e3 : hiT now wd l = mT (mkAt l 1) := by unfold hiT; rw [if_neg hne, if_neg hlv, if_pos hnx]
  have e4 : hiN now wd l = mN (mkAt l 1) := by unfold hiN; rw [if_neg hne, if_neg hlv, if_pos hnx]
  rw [e1, e2, e3, e4, hv]
  clear e1 e2 e3 e4
  have oa := hVL.one _ (mkAt_mem (l := l) (i := 0) (by omega))
  have ra := one_right oa c1
  have rka := rat_mark ra
  have PX := fun w => pofM ra w
  have PL := fun w => plive now wd (mkAt l 0).t w n0 n1 d0 d1 oa.2.2.2.2.1 oa.2.2.2.2.2.1
  rw [decide_eq_false hlv] at PL
  have ob := hVL.one _ (mkAt_mem (l := l) (i := 1) (by omega))
  have rb := one_right ob c1
  have rkb := rat_mark rb
  have PY := fun w => pofM rb w
  unfold askPV
  rw [if_pos rfl]
  generalize rn (mT (mkAt l 0)) (mN (mkAt l 0)) = xn at PX rka ⊢
  generalize rd (mT (mkAt l 0)) (mN (mkAt l 0)) = xd at PX rka ⊢
  generalize rn (mT (mkAt l 1)) (mN (mkAt l 1)) = yn at PY rkb ⊢
  generalize rd (mT (mkAt l 1)) (mN (mkAt l 1)) = yd at PY rkb ⊢
  have PE := Lib.hid (fun w => pexactR yn yd w (by have := rkb.1; omega) rkb.2.1.1 (by have := rkb.2.1.2; omega) rkb.2.2)
  obtain ⟨ad, rfl, hadb, ht0⟩ := hin.reads.mk (i := 0) hm0
  have ht0 : MkCells w ad (mkAt l 0) := ht0
  obtain ⟨ad', e', hadb', ht1⟩ := hin.reads.mk (i := 1) hm1
  obtain rfl := Option.some.inj e'
  have ht1 : MkCells w (ad.add (1 * 7)) (mkAt l 1) := ht1
  have hsb := (mvalid_iff.1 hMV).1.2
  have hs1 := oa.1
  have hs2 := oa.2.1
  generalize hma : mkAt l 0 = ma at ht0 PX PL hnx hs1 hs2
  generalize hmb : mkAt l 1 = mb at ht1 PY hnx
  obtain ⟨osq, otk, on, os, oq, olo, ohi⟩ := mb
  obtain ⟨sq, tk, n, s, q, lo, hi⟩ := ma
  dsimp only at PX PL PY hnx hs1 hs2
  have wsq : IntKind.i64.wrap (sq + 1) = sq + 1 := IntWalk.i64_in _ (by omega)
  have tsq : (osq == sq + 1) = true := by simp; omega
  replace PY := Lib.hid PY
  have HT1 := Lib.hid ht1
  have g1 : (1 : Int) < (m : Int) := by omega
  clear hma hmb hnx hs1 hs2 hsb ht1 e' rkb ob rb
  replace PX := Lib.hid PX
  replace PL := Lib.hid PL
  have HT0 := Lib.hid ht0
  have g0 : (0 : Int) < (m : Int) := by omega
  have mz : ((m : Int) == 0) = false := by simp; omega
  have P := fun w' (hb : Below w.heap.size w w') => pvalP (some ad) m c l wd k cap now seq w' (hin.below hb) sB
  rw [hv] at P
  replace P := Lib.hid P
  clear hv hin sB hMV hVL hl hne rka oa ra ht0 hlv
  go_enter Try.func33, Try.ntmps33
  go_upto_region 1 with (fail)
  have X : Row ((w.alloc (.cells #[.int .i64 wd, .int .i64 k, .int .i64 cap, .int .i64 now, .int .i64 seq, .slice (some ad) m c] 24)).alloc (.cells #[.int .i64 0, .int .i64 0, .int .i64 0, .int .i64 0, .int .i64 0, .int .i64 0] 45)) w.heap.size 24 #[.int .i64 wd, .int .i64 k, .int .i64 cap, .int .i64 now, .int .i64 seq, .slice (some ad) m c] := row_alloc (row_new rfl) _
  have R : Row ((w.alloc (.cells #[.int .i64 wd, .int .i64 k, .int .i64 cap, .int .i64 now, .int .i64 seq, .slice (some ad) m c] 24)).alloc (.cells #[.int .i64 0, .int .i64 0, .int .i64 0, .int .i64 0, .int .i64 0, .int .i64 0] 45)) (w.heap.size + 1) 45 #[.int .i64 0, .int .i64 0, .int .i64 0, .int .i64 0, .int .i64 0, .int .i64 0] := row_new (by simp)
  have o : Below w.heap.size w ((w.alloc (.cells #[.int .i64 wd, .int .i64 k, .int .i64 cap, .int .i64 now, .int .i64 seq, .slice (some ad) m c] 24)).alloc (.cells #[.int .i64 0, .int .i64 0, .int .i64 0, .int .i64 0, .int .i64 0, .int .i64 0] 45)) := by (repeat (first | exact Below.refl _ _ | refine Below.setCell ?_ (by first | (simp; done) | (simp; omega) | omega) _ | refine Below.alloc ?_ (by first | (simp; done) | (simp; omega) | omega) _ | refine Below.drew ?_ | refine Below.trans ?_ (Below.mono (by assumption) (by first | (simp; done) | (simp; omega) | omega))))
  generalize ((w.alloc (.cells #[.int .i64 wd, .int .i64 k, .int .i64 cap, .int .i64 now, .int .i64 seq, .slice (some ad) m c] 24)).alloc (.cells #[.int .i64 0, .int .i64 0, .int .i64 0, .int .i64 0, .int .i64 0, .int .i64 0] 45)) = w0 at X R o ⊢
  obtain ⟨X0, X1, X2, X3, X4, X5, Xf0, Xf1, Xf2, Xf3, Xf4, Xf5⟩ := row_six X
  go_wp2_with fail
  refine (P.out _ o).mono ?_
  rintro e w1 ⟨rfl, hb⟩
  replace X := row_call X hb
  replace R := row_call R hb
  replace o := o.trans (hb.mono o.size)
  clear hb X0 X1 X2 X3 X4 X5 Xf0 Xf1 Xf2 Xf3 Xf4 Xf5
  obtain ⟨q0, q1, q2, q3, q4, q5, q6⟩ := HT0.out.below o hadb
  dsimp only at q0 q1 q2 q3 q4 q5 q6
  obtain ⟨X0, X1, X2, X3, X4, X5, Xf0, Xf1, Xf2, Xf3, Xf4, Xf5⟩ := row_six X
  go_upto_region 7 with (fail)
  clear X0 X1 X2 X3 X4 X5 Xf0 Xf1 Xf2 Xf3 Xf4 Xf5
  have Fr : Row (w1.alloc (.cells #[.int .i64 sq, .int .i64 tk, .int .i64 n, .int .i64 s, .int .i64 q, .int .i64 lo, .int .i64 hi] 33)) w1.heap.size 33 #[.int .i64 sq, .int .i64 tk, .int .i64 n, .int .i64 s, .int .i64 q, .int .i64 lo, .int .i64 hi] := row_new rfl
  replace X := row_alloc X (.cells #[.int .i64 sq, .int .i64 tk, .int .i64 n, .int .i64 s, .int .i64 q, .int .i64 lo, .int .i64 hi] 33)
  replace R := row_alloc R (.cells #[.int .i64 sq, .int .i64 tk, .int .i64 n, .int .i64 s, .int .i64 q, .int .i64 lo, .int .i64 hi] 33)
  replace o := o.alloc o.size (.cells #[.int .i64 sq, .int .i64 tk, .int .i64 n, .int .i64 s, .int .i64 q, .int .i64 lo, .int .i64 hi] 33)
  generalize w1.alloc (.cells #[.int .i64 sq, .int .i64 tk, .int .i64 n, .int .i64 s, .int .i64 q, .int .i64 lo, .int .i64 hi] 33) = w2 at X R Fr o ⊢
  generalize w1.heap.size = fb at Fr ⊢
  clear q0 q1 q2 q3 q4 q5 q6
  obtain ⟨F0, F1, F2, F3, F4, F5, F6, Ff0, Ff1, Ff2, Ff3, Ff4, Ff5, Ff6⟩ := row_seven Fr
  go_wp2_with fail
  refine (PX.out _).mono ?_
  rintro e w3 ⟨rfl, hb⟩
  replace X := row_call X hb
  replace R := row_call R hb
  replace Fr := row_call Fr hb
  replace o := o.trans (hb.mono o.size)
  clear hb F0 F1 F2 F3 F4 F5 F6 Ff0 Ff1 Ff2 Ff3 Ff4 Ff5 Ff6
  go_upto_region 8 with (fail)
  have Hi : Row (w3.alloc (.cells #[.int .i64 xn, .int .i64 xd] 35)) w3.heap.size 35 #[.int .i64 xn, .int .i64 xd] := row_new rfl
  replace X := row_alloc X (.cells #[.int .i64 xn, .int .i64 xd] 35)
  replace R := row_alloc R (.cells #[.int .i64 xn, .int .i64 xd] 35)
  replace Fr := row_alloc Fr (.cells #[.int .i64 xn, .int .i64 xd] 35)
  replace o := o.alloc o.size (.cells #[.int .i64 xn, .int .i64 xd] 35)
  generalize w3.alloc (.cells #[.int .i64 xn, .int .i64 xd] 35) = w4 at X R Fr Hi o ⊢
  generalize w3.heap.size = ib at Hi ⊢
  obtain ⟨X0, X1, X2, X3, X4, X5, Xf0, Xf1, Xf2, Xf3, Xf4, Xf5⟩ := row_six X
  obtain ⟨F0, F1, F2, F3, F4, F5, F6, Ff0, Ff1, Ff2, Ff3, Ff4, Ff5, Ff6⟩ := row_seven Fr
  go_upto_region 10 with (go_at_call 77; with_reducible refine (PL.out _).mono ?_; rintro e w9 ⟨rfl, h9⟩; obtain rfl := h9.symm)
  obtain ⟨s0, s1, s2, s3, s4, s5, s6⟩ := HT1.out.below o hadb'
  dsimp only at s0 s1 s2 s3 s4 s5 s6
  replace s0 : w4.cell? ⟨ad.block, ad.off + 7, none⟩ = some (.int .i64 osq) := s0
  replace s1 : w4.cell? ⟨ad.block, ad.off + 7 + 1, none⟩ = some (.int .i64 otk) := s1
  replace s2 : w4.cell? ⟨ad.block, ad.off + 7 + 2, none⟩ = some (.int .i64 on) := s2
  replace s3 : w4.cell? ⟨ad.block, ad.off + 7 + 3, none⟩ = some (.int .i64 os) := s3
  replace s4 : w4.cell? ⟨ad.block, ad.off + 7 + 4, none⟩ = some (.int .i64 oq) := s4
  replace s5 : w4.cell? ⟨ad.block, ad.off + 7 + 5, none⟩ = some (.int .i64 olo) := s5
  replace s6 : w4.cell? ⟨ad.block, ad.off + 7 + 6, none⟩ = some (.int .i64 ohi) := s6
  clear X0 X1 X2 X3 X4 X5 Xf0 Xf1 Xf2 Xf3 Xf4 Xf5 F0 F1 F2 F3 F4 F5 F6 Ff0 Ff1 Ff2 Ff3 Ff4 Ff5 Ff6
  obtain ⟨X0, X1, X2, X3, X4, X5, Xf0, Xf1, Xf2, Xf3, Xf4, Xf5⟩ := row_six X
  go_upto_region 11 with (fail)
  clear X0 X1 X2 X3 X4 X5 Xf0 Xf1 Xf2 Xf3 Xf4 Xf5
  have Sr : Row (w4.alloc (.cells #[.int .i64 osq, .int .i64 otk, .int .i64 on, .int .i64 os, .int .i64 oq, .int .i64 olo, .int .i64 ohi] 33)) w4.heap.size 33 #[.int .i64 osq, .int .i64 otk, .int .i64 on, .int .i64 os, .int .i64 oq, .int .i64 olo, .int .i64 ohi] := row_new rfl
  replace X := row_alloc X (.cells #[.int .i64 osq, .int .i64 otk, .int .i64 on, .int .i64 os, .int .i64 oq, .int .i64 olo, .int .i64 ohi] 33)
  replace R := row_alloc R (.cells #[.int .i64 osq, .int .i64 otk, .int .i64 on, .int .i64 os, .int .i64 oq, .int .i64 olo, .int .i64 ohi] 33)
  replace Fr := row_alloc Fr (.cells #[.int .i64 osq, .int .i64 otk, .int .i64 on, .int .i64 os, .int .i64 oq, .int .i64 olo, .int .i64 ohi] 33)
  replace Hi := row_alloc Hi (.cells #[.int .i64 osq, .int .i64 otk, .int .i64 on, .int .i64 os, .int .i64 oq, .int .i64 olo, .int .i64 ohi] 33)
  replace o := o.alloc o.size (.cells #[.int .i64 osq, .int .i64 otk, .int .i64 on, .int .i64 os, .int .i64 oq, .int .i64 olo, .int .i64 ohi] 33)
  generalize w4.alloc (.cells #[.int .i64 osq, .int .i64 otk, .int .i64 on, .int .i64 os, .int .i64 oq, .int .i64 olo, .int .i64 ohi] 33) = w5 at X R Fr Hi Sr o ⊢
  generalize w4.heap.size = gb at Sr ⊢
  clear s0 s1 s2 s3 s4 s5 s6
  obtain ⟨S0, S1, S2, S3, S4, S5, S6, Sf0, Sf1, Sf2, Sf3, Sf4, Sf5, Sf6⟩ := row_seven Sr
  go_wp2_with fail
  refine (PY.out _).mono ?_
  rintro e w6 ⟨rfl, hb⟩
  replace X := row_call X hb
  replace R := row_call R hb
  replace Fr := row_call Fr hb
  replace Hi := row_call Hi hb
  replace Sr := row_call Sr hb
  replace o := o.trans (hb.mono o.size)
  clear hb S0 S1 S2 S3 S4 S5 S6 Sf0 Sf1 Sf2 Sf3 Sf4 Sf5 Sf6
  go_upto_region 12 with (fail)
  have Lo : Row (w6.alloc (.cells #[.int .i64 yn, .int .i64 yd] 35)) w6.heap.size 35 #[.int .i64 yn, .int .i64 yd] := row_new rfl
  replace X := row_alloc X (.cells #[.int .i64 yn, .int .i64 yd] 35)
  replace R := row_alloc R (.cells #[.int .i64 yn, .int .i64 yd] 35)
  replace Fr := row_alloc Fr (.cells #[.int .i64 yn, .int .i64 yd] 35)
  replace Hi := row_alloc Hi (.cells #[.int .i64 yn, .int .i64 yd] 35)
  replace Sr := row_alloc Sr (.cells #[.int .i64 yn, .int .i64 yd] 35)
  replace o := o.alloc o.size (.cells #[.int .i64 yn, .int .i64 yd] 35)
  generalize w6.alloc (.cells #[.int .i64 yn, .int .i64 yd] 35) = w7 at X R Fr Hi Sr Lo o ⊢
  generalize w6.heap.size = jb at Lo ⊢
  obtain ⟨F0, F1, F2, F3, F4, F5, F6, Ff0, Ff1, Ff2, Ff3, Ff4, Ff5, Ff6⟩ := row_seven Fr
  obtain ⟨S0, S1, S2, S3, S4, S5, S6, Sf0, Sf1, Sf2, Sf3, Sf4, Sf5, Sf6⟩ := row_seven Sr
  go_upto_region 13 with (fail)
  clear F0 F1 F2 F3 F4 F5 F6 Ff0 Ff1 Ff2 Ff3 Ff4 Ff5 Ff6 S0 S1 S2 S3 S4 S5 S6 Sf0 Sf1 Sf2 Sf3 Sf4 Sf5 Sf6
  obtain ⟨L0, L1, Lf0, Lf1⟩ := row_two Lo
  go_wp2_with fail
  refine (PE.out _).mono ?_
  rintro e w8 ⟨rfl, hb⟩
  replace X := row_call X hb
  replace R := row_call R hb
  replace Fr := row_call Fr hb
  replace Hi := row_call Hi hb
  replace Sr := row_call Sr hb
  replace Lo := row_call Lo hb
  replace o := o.trans (hb.mono o.size)
  clear hb L0 L1 Lf0 Lf1
  obtain ⟨R0, R1, R2, R3, R4, R5, Rf0, Rf1, Rf2, Rf3, Rf4, Rf5⟩ := row_six R
  go_wp2
  exact bodyPost_ret (v := .tuple #[.agg #[.int .i64 yn, .int .i64 yd, .int .i64 yn, .int .i64 yd, .int .i64 yn, .int .i64 yd], .int .i64 0]) (by simp [results, Try.results33, go_sem, List.getElem?_toArray, R0, R1, R2, R3, R4, R5]) rfl ⟨rfl, below_six o (by omega) _ _ _ _ _ _⟩
set_option maxRecDepth 100000 in
set_option maxHeartbeats 4000000 in
theorem pspask_w (A : Option Addr) (m c : Nat) (l : List Mk) (wd k cap now seq : Int) (w : World) (hin : MIn A m c l w) (sB : I64 seq) (hv : spvalE wd k cap now seq l = 0) (hm0 : 0 < m) (hlv : ¬ now - wd < (mkAt l 0).t) (hnx : ¬ (mkAt l 1).seq = (mkAt l 0).seq + 1) : Calls Try.prog 33 #[.agg #[.int .i64 wd, .int .i64 k, .int .i64 cap, .int .i64 now, .int .i64 seq, .slice A m c]] w fun e w' => e = .returned (askPV (spvalE wd k cap now seq l) (loT now wd l) (loN now wd l) (hiT now wd l) (hiN now wd l)) ∧ Below w.heap.size w w' := by
  obtain ⟨hG, hMV, _⟩ := of_spvalE hv
  obtain ⟨d0, d1, k0, k1, c0, c1, n0, n1⟩ := hG
  have hVL := (mvalid_iff.1 hMV).2
  have hl := hin.len
  have hne : l ≠ [] := fun e => by rw [e] at hl; simp at hl; omega
  have hm1 : 1 < m := by
    apply Nat.lt_of_not_le; intro hc
    obtain ⟨a, rfl⟩ : ∃ a, l = [a] := List.length_eq_one_iff.1 (by omega)
    exact hlv (hVL.alone a rfl)
  have e1 : loT now wd l = mT (mkAt l 1) := by unfold loT; rw [if_neg hne, if_neg hlv]
  have e2 : loN now wd l = mN (mkAt l 1) := by unfold loN; rw [if_neg hne, if_neg hlv]
  have e3 : hiT now wd l = mT (mkAt l 0) := by unfold hiT; rw [if_neg hne, if_neg hlv, if_neg hnx]
  have e4 : hiN now wd l = mN (mkAt l 0) := by unfold hiN; rw [if_neg hne, if_neg hlv, if_neg hnx]
  rw [e1, e2, e3, e4, hv]
  clear e1 e2 e3 e4
  have oa := hVL.one _ (mkAt_mem (l := l) (i := 0) (by omega))
  have ra := one_right oa c1
  have rka := rat_mark ra
  have PX := fun w => pofM ra w
  have PL := fun w => plive now wd (mkAt l 0).t w n0 n1 d0 d1 oa.2.2.2.2.1 oa.2.2.2.2.2.1
  rw [decide_eq_false hlv] at PL
  have ob := hVL.one _ (mkAt_mem (l := l) (i := 1) (by omega))
  have rb := one_right ob c1
  have rkb := rat_mark rb
  have PY := fun w => pofM rb w
  unfold askPV
  rw [if_pos rfl]
  generalize rn (mT (mkAt l 0)) (mN (mkAt l 0)) = xn at PX rka ⊢
  generalize rd (mT (mkAt l 0)) (mN (mkAt l 0)) = xd at PX rka ⊢
  generalize rn (mT (mkAt l 1)) (mN (mkAt l 1)) = yn at PY rkb ⊢
  generalize rd (mT (mkAt l 1)) (mN (mkAt l 1)) = yd at PY rkb ⊢
  obtain ⟨ad, rfl, hadb, ht0⟩ := hin.reads.mk (i := 0) hm0
  have ht0 : MkCells w ad (mkAt l 0) := ht0
  obtain ⟨ad', e', hadb', ht1⟩ := hin.reads.mk (i := 1) hm1
  obtain rfl := Option.some.inj e'
  have ht1 : MkCells w (ad.add (1 * 7)) (mkAt l 1) := ht1
  have hsb := (mvalid_iff.1 hMV).1.2
  have hs1 := oa.1
  have hs2 := oa.2.1
  generalize hma : mkAt l 0 = ma at ht0 PX PL hnx hs1 hs2
  generalize hmb : mkAt l 1 = mb at ht1 PY hnx
  obtain ⟨osq, otk, on, os, oq, olo, ohi⟩ := mb
  obtain ⟨sq, tk, n, s, q, lo, hi⟩ := ma
  dsimp only at PX PL PY hnx hs1 hs2
  have wsq : IntKind.i64.wrap (sq + 1) = sq + 1 := IntWalk.i64_in _ (by omega)
  have tsq : (osq == sq + 1) = false := by simp; omega
  replace PY := Lib.hid PY
  have HT1 := Lib.hid ht1
  have g1 : (1 : Int) < (m : Int) := by omega
  clear hma hmb hnx hs1 hs2 hsb ht1 e' rkb ob rb
  replace PX := Lib.hid PX
  replace PL := Lib.hid PL
  have HT0 := Lib.hid ht0
  have g0 : (0 : Int) < (m : Int) := by omega
  have mz : ((m : Int) == 0) = false := by simp; omega
  have P := fun w' (hb : Below w.heap.size w w') => pvalP (some ad) m c l wd k cap now seq w' (hin.below hb) sB
  rw [hv] at P
  replace P := Lib.hid P
  clear hv hin sB hMV hVL hl hne rka oa ra ht0 hlv
  go_enter Try.func33, Try.ntmps33
  go_upto_region 1 with (fail)
  have X : Row ((w.alloc (.cells #[.int .i64 wd, .int .i64 k, .int .i64 cap, .int .i64 now, .int .i64 seq, .slice (some ad) m c] 24)).alloc (.cells #[.int .i64 0, .int .i64 0, .int .i64 0, .int .i64 0, .int .i64 0, .int .i64 0] 45)) w.heap.size 24 #[.int .i64 wd, .int .i64 k, .int .i64 cap, .int .i64 now, .int .i64 seq, .slice (some ad) m c] := row_alloc (row_new rfl) _
  have R : Row ((w.alloc (.cells #[.int .i64 wd, .int .i64 k, .int .i64 cap, .int .i64 now, .int .i64 seq, .slice (some ad) m c] 24)).alloc (.cells #[.int .i64 0, .int .i64 0, .int .i64 0, .int .i64 0, .int .i64 0, .int .i64 0] 45)) (w.heap.size + 1) 45 #[.int .i64 0, .int .i64 0, .int .i64 0, .int .i64 0, .int .i64 0, .int .i64 0] := row_new (by simp)
  have o : Below w.heap.size w ((w.alloc (.cells #[.int .i64 wd, .int .i64 k, .int .i64 cap, .int .i64 now, .int .i64 seq, .slice (some ad) m c] 24)).alloc (.cells #[.int .i64 0, .int .i64 0, .int .i64 0, .int .i64 0, .int .i64 0, .int .i64 0] 45)) := by (repeat (first | exact Below.refl _ _ | refine Below.setCell ?_ (by first | (simp; done) | (simp; omega) | omega) _ | refine Below.alloc ?_ (by first | (simp; done) | (simp; omega) | omega) _ | refine Below.drew ?_ | refine Below.trans ?_ (Below.mono (by assumption) (by first | (simp; done) | (simp; omega) | omega))))
  generalize ((w.alloc (.cells #[.int .i64 wd, .int .i64 k, .int .i64 cap, .int .i64 now, .int .i64 seq, .slice (some ad) m c] 24)).alloc (.cells #[.int .i64 0, .int .i64 0, .int .i64 0, .int .i64 0, .int .i64 0, .int .i64 0] 45)) = w0 at X R o ⊢
  obtain ⟨X0, X1, X2, X3, X4, X5, Xf0, Xf1, Xf2, Xf3, Xf4, Xf5⟩ := row_six X
  go_wp2_with fail
  refine (P.out _ o).mono ?_
  rintro e w1 ⟨rfl, hb⟩
  replace X := row_call X hb
  replace R := row_call R hb
  replace o := o.trans (hb.mono o.size)
  clear hb X0 X1 X2 X3 X4 X5 Xf0 Xf1 Xf2 Xf3 Xf4 Xf5
  obtain ⟨q0, q1, q2, q3, q4, q5, q6⟩ := HT0.out.below o hadb
  dsimp only at q0 q1 q2 q3 q4 q5 q6
  obtain ⟨X0, X1, X2, X3, X4, X5, Xf0, Xf1, Xf2, Xf3, Xf4, Xf5⟩ := row_six X
  go_upto_region 7 with (fail)
  clear X0 X1 X2 X3 X4 X5 Xf0 Xf1 Xf2 Xf3 Xf4 Xf5
  have Fr : Row (w1.alloc (.cells #[.int .i64 sq, .int .i64 tk, .int .i64 n, .int .i64 s, .int .i64 q, .int .i64 lo, .int .i64 hi] 33)) w1.heap.size 33 #[.int .i64 sq, .int .i64 tk, .int .i64 n, .int .i64 s, .int .i64 q, .int .i64 lo, .int .i64 hi] := row_new rfl
  replace X := row_alloc X (.cells #[.int .i64 sq, .int .i64 tk, .int .i64 n, .int .i64 s, .int .i64 q, .int .i64 lo, .int .i64 hi] 33)
  replace R := row_alloc R (.cells #[.int .i64 sq, .int .i64 tk, .int .i64 n, .int .i64 s, .int .i64 q, .int .i64 lo, .int .i64 hi] 33)
  replace o := o.alloc o.size (.cells #[.int .i64 sq, .int .i64 tk, .int .i64 n, .int .i64 s, .int .i64 q, .int .i64 lo, .int .i64 hi] 33)
  generalize w1.alloc (.cells #[.int .i64 sq, .int .i64 tk, .int .i64 n, .int .i64 s, .int .i64 q, .int .i64 lo, .int .i64 hi] 33) = w2 at X R Fr o ⊢
  generalize w1.heap.size = fb at Fr ⊢
  clear q0 q1 q2 q3 q4 q5 q6
  obtain ⟨F0, F1, F2, F3, F4, F5, F6, Ff0, Ff1, Ff2, Ff3, Ff4, Ff5, Ff6⟩ := row_seven Fr
  go_wp2_with fail
  refine (PX.out _).mono ?_
  rintro e w3 ⟨rfl, hb⟩
  replace X := row_call X hb
  replace R := row_call R hb
  replace Fr := row_call Fr hb
  replace o := o.trans (hb.mono o.size)
  clear hb F0 F1 F2 F3 F4 F5 F6 Ff0 Ff1 Ff2 Ff3 Ff4 Ff5 Ff6
  go_upto_region 8 with (fail)
  have Hi : Row (w3.alloc (.cells #[.int .i64 xn, .int .i64 xd] 35)) w3.heap.size 35 #[.int .i64 xn, .int .i64 xd] := row_new rfl
  replace X := row_alloc X (.cells #[.int .i64 xn, .int .i64 xd] 35)
  replace R := row_alloc R (.cells #[.int .i64 xn, .int .i64 xd] 35)
  replace Fr := row_alloc Fr (.cells #[.int .i64 xn, .int .i64 xd] 35)
  replace o := o.alloc o.size (.cells #[.int .i64 xn, .int .i64 xd] 35)
  generalize w3.alloc (.cells #[.int .i64 xn, .int .i64 xd] 35) = w4 at X R Fr Hi o ⊢
  generalize w3.heap.size = ib at Hi ⊢
  obtain ⟨X0, X1, X2, X3, X4, X5, Xf0, Xf1, Xf2, Xf3, Xf4, Xf5⟩ := row_six X
  obtain ⟨F0, F1, F2, F3, F4, F5, F6, Ff0, Ff1, Ff2, Ff3, Ff4, Ff5, Ff6⟩ := row_seven Fr
  go_upto_region 10 with (go_at_call 77; with_reducible refine (PL.out _).mono ?_; rintro e w9 ⟨rfl, h9⟩; obtain rfl := h9.symm)
  obtain ⟨s0, s1, s2, s3, s4, s5, s6⟩ := HT1.out.below o hadb'
  dsimp only at s0 s1 s2 s3 s4 s5 s6
  replace s0 : w4.cell? ⟨ad.block, ad.off + 7, none⟩ = some (.int .i64 osq) := s0
  replace s1 : w4.cell? ⟨ad.block, ad.off + 7 + 1, none⟩ = some (.int .i64 otk) := s1
  replace s2 : w4.cell? ⟨ad.block, ad.off + 7 + 2, none⟩ = some (.int .i64 on) := s2
  replace s3 : w4.cell? ⟨ad.block, ad.off + 7 + 3, none⟩ = some (.int .i64 os) := s3
  replace s4 : w4.cell? ⟨ad.block, ad.off + 7 + 4, none⟩ = some (.int .i64 oq) := s4
  replace s5 : w4.cell? ⟨ad.block, ad.off + 7 + 5, none⟩ = some (.int .i64 olo) := s5
  replace s6 : w4.cell? ⟨ad.block, ad.off + 7 + 6, none⟩ = some (.int .i64 ohi) := s6
  clear X0 X1 X2 X3 X4 X5 Xf0 Xf1 Xf2 Xf3 Xf4 Xf5 F0 F1 F2 F3 F4 F5 F6 Ff0 Ff1 Ff2 Ff3 Ff4 Ff5 Ff6
  obtain ⟨X0, X1, X2, X3, X4, X5, Xf0, Xf1, Xf2, Xf3, Xf4, Xf5⟩ := row_six X
  go_upto_region 11 with (fail)
  clear X0 X1 X2 X3 X4 X5 Xf0 Xf1 Xf2 Xf3 Xf4 Xf5
  have Sr : Row (w4.alloc (.cells #[.int .i64 osq, .int .i64 otk, .int .i64 on, .int .i64 os, .int .i64 oq, .int .i64 olo, .int .i64 ohi] 33)) w4.heap.size 33 #[.int .i64 osq, .int .i64 otk, .int .i64 on, .int .i64 os, .int .i64 oq, .int .i64 olo, .int .i64 ohi] := row_new rfl
  replace X := row_alloc X (.cells #[.int .i64 osq, .int .i64 otk, .int .i64 on, .int .i64 os, .int .i64 oq, .int .i64 olo, .int .i64 ohi] 33)
  replace R := row_alloc R (.cells #[.int .i64 osq, .int .i64 otk, .int .i64 on, .int .i64 os, .int .i64 oq, .int .i64 olo, .int .i64 ohi] 33)
  replace Fr := row_alloc Fr (.cells #[.int .i64 osq, .int .i64 otk, .int .i64 on, .int .i64 os, .int .i64 oq, .int .i64 olo, .int .i64 ohi] 33)
  replace Hi := row_alloc Hi (.cells #[.int .i64 osq, .int .i64 otk, .int .i64 on, .int .i64 os, .int .i64 oq, .int .i64 olo, .int .i64 ohi] 33)
  replace o := o.alloc o.size (.cells #[.int .i64 osq, .int .i64 otk, .int .i64 on, .int .i64 os, .int .i64 oq, .int .i64 olo, .int .i64 ohi] 33)
  generalize w4.alloc (.cells #[.int .i64 osq, .int .i64 otk, .int .i64 on, .int .i64 os, .int .i64 oq, .int .i64 olo, .int .i64 ohi] 33) = w5 at X R Fr Hi Sr o ⊢
  generalize w4.heap.size = gb at Sr ⊢
  clear s0 s1 s2 s3 s4 s5 s6
  obtain ⟨S0, S1, S2, S3, S4, S5, S6, Sf0, Sf1, Sf2, Sf3, Sf4, Sf5, Sf6⟩ := row_seven Sr
  go_wp2_with fail
  refine (PY.out _).mono ?_
  rintro e w6 ⟨rfl, hb⟩
  replace X := row_call X hb
  replace R := row_call R hb
  replace Fr := row_call Fr hb
  replace Hi := row_call Hi hb
  replace Sr := row_call Sr hb
  replace o := o.trans (hb.mono o.size)
  clear hb S0 S1 S2 S3 S4 S5 S6 Sf0 Sf1 Sf2 Sf3 Sf4 Sf5 Sf6
  go_upto_region 12 with (fail)
  have Lo : Row (w6.alloc (.cells #[.int .i64 yn, .int .i64 yd] 35)) w6.heap.size 35 #[.int .i64 yn, .int .i64 yd] := row_new rfl
  replace X := row_alloc X (.cells #[.int .i64 yn, .int .i64 yd] 35)
  replace R := row_alloc R (.cells #[.int .i64 yn, .int .i64 yd] 35)
  replace Fr := row_alloc Fr (.cells #[.int .i64 yn, .int .i64 yd] 35)
  replace Hi := row_alloc Hi (.cells #[.int .i64 yn, .int .i64 yd] 35)
  replace Sr := row_alloc Sr (.cells #[.int .i64 yn, .int .i64 yd] 35)
  replace o := o.alloc o.size (.cells #[.int .i64 yn, .int .i64 yd] 35)
  generalize w6.alloc (.cells #[.int .i64 yn, .int .i64 yd] 35) = w7 at X R Fr Hi Sr Lo o ⊢
  generalize w6.heap.size = jb at Lo ⊢
  obtain ⟨F0, F1, F2, F3, F4, F5, F6, Ff0, Ff1, Ff2, Ff3, Ff4, Ff5, Ff6⟩ := row_seven Fr
  obtain ⟨S0, S1, S2, S3, S4, S5, S6, Sf0, Sf1, Sf2, Sf3, Sf4, Sf5, Sf6⟩ := row_seven Sr
  go_upto_region 14 with (fail)
  clear F0 F1 F2 F3 F4 F5 F6 Ff0 Ff1 Ff2 Ff3 Ff4 Ff5 Ff6 S0 S1 S2 S3 S4 S5 S6 Sf0 Sf1 Sf2 Sf3 Sf4 Sf5 Sf6
  obtain ⟨L0, L1, Lf0, Lf1⟩ := row_two Lo
  obtain ⟨H0, H1, Hf0, Hf1⟩ := row_two Hi
  obtain ⟨R0, R1, R2, R3, R4, R5, Rf0, Rf1, Rf2, Rf3, Rf4, Rf5⟩ := row_six R
  go_wp2
  exact bodyPost_ret (v := .tuple #[.agg #[.int .i64 yn, .int .i64 yd, .int .i64 yn, .int .i64 yd, .int .i64 xn, .int .i64 xd], .int .i64 0]) (by simp [results, Try.results33, go_sem, List.getElem?_toArray, R0, R1, R2, R3, R4, R5]) rfl ⟨rfl, below_six o (by omega) _ _ _ _ _ _⟩
theorem pspask (A : Option Addr) (m c : Nat) (l : List Mk) (wd k cap now seq : Int) (w : World) (hin : MIn A m c l w) (sB : I64 seq) : Calls Try.prog 33 #[.agg #[.int .i64 wd, .int .i64 k, .int .i64 cap, .int .i64 now, .int .i64 seq, .slice A m c]] w fun e w' => e = .returned (askPV (spvalE wd k cap now seq l) (loT now wd l) (loN now wd l) (hiT now wd l) (hiN now wd l)) ∧ Below w.heap.size w w' := by
  rcases spvalE_two (wd := wd) (k := k) (cap := cap) (now := now) (seq := seq) (l := l) with hv | hv
  · by_cases m0 : m = 0
    · subst m0; exact pspask_z A c l wd k cap now seq w hin sB hv
    · by_cases hlv : now - wd < (mkAt l 0).t
      · exact pspask_l A m c l wd k cap now seq w hin sB hv (by omega) hlv
      · by_cases hnx : (mkAt l 1).seq = (mkAt l 0).seq + 1
        · exact pspask_n A m c l wd k cap now seq w hin sB hv (by omega) hlv hnx
        · exact pspask_w A m c l wd k cap now seq w hin sB hv (by omega) hlv hnx
  · exact pspask_a A m c l wd k cap now seq w hin sB hv
set_option maxRecDepth 100000 in
theorem rspask_a (A : Option Addr) (m c : Nat) (l : List Mk) (wd k cap now seq : Int) (w : World) (hin : MIn A m c l w) (sB : I64 seq) (hv : spvalE wd k cap now seq l = 2) : Calls Try.prog 34 #[.agg #[.int .i64 wd, .int .i64 k, .int .i64 cap, .int .i64 now, .int .i64 seq, .slice A m c]] w fun e w' => e = .returned (askPV (spvalE wd k cap now seq l) (loT now wd l) (loN now wd l) (hiT now wd l) (hiN now wd l)) ∧ Below w.heap.size w w' := by
  rw [show askPV (spvalE wd k cap now seq l) (loT now wd l) (loN now wd l) (hiT now wd l) (hiN now wd l) = .tuple #[.agg #[.int .i64 0, .int .i64 0, .int .i64 0, .int .i64 0, .int .i64 0, .int .i64 0], .int .i64 2] by unfold askPV; rw [hv]; rfl]
  have P := fun w' (hb : Below w.heap.size w w') => rvalP A m c l wd k cap now seq w' (hin.below hb) sB
  rw [hv] at P
  replace P := Lib.hid P
  clear hv hin sB
  go_enter Try.func34, Try.ntmps34
  go_upto_region 1 with (fail)
  have X : Row ((w.alloc (.cells #[.int .i64 wd, .int .i64 k, .int .i64 cap, .int .i64 now, .int .i64 seq, .slice A m c] 24)).alloc (.cells #[.int .i64 0, .int .i64 0, .int .i64 0, .int .i64 0, .int .i64 0, .int .i64 0] 45)) w.heap.size 24 #[.int .i64 wd, .int .i64 k, .int .i64 cap, .int .i64 now, .int .i64 seq, .slice A m c] := row_alloc (row_new rfl) _
  have R : Row ((w.alloc (.cells #[.int .i64 wd, .int .i64 k, .int .i64 cap, .int .i64 now, .int .i64 seq, .slice A m c] 24)).alloc (.cells #[.int .i64 0, .int .i64 0, .int .i64 0, .int .i64 0, .int .i64 0, .int .i64 0] 45)) (w.heap.size + 1) 45 #[.int .i64 0, .int .i64 0, .int .i64 0, .int .i64 0, .int .i64 0, .int .i64 0] := row_new (by simp)
  have o : Below w.heap.size w ((w.alloc (.cells #[.int .i64 wd, .int .i64 k, .int .i64 cap, .int .i64 now, .int .i64 seq, .slice A m c] 24)).alloc (.cells #[.int .i64 0, .int .i64 0, .int .i64 0, .int .i64 0, .int .i64 0, .int .i64 0] 45)) := by (repeat (first | exact Below.refl _ _ | refine Below.setCell ?_ (by first | (simp; done) | (simp; omega) | omega) _ | refine Below.alloc ?_ (by first | (simp; done) | (simp; omega) | omega) _ | refine Below.drew ?_ | refine Below.trans ?_ (Below.mono (by assumption) (by first | (simp; done) | (simp; omega) | omega))))
  generalize ((w.alloc (.cells #[.int .i64 wd, .int .i64 k, .int .i64 cap, .int .i64 now, .int .i64 seq, .slice A m c] 24)).alloc (.cells #[.int .i64 0, .int .i64 0, .int .i64 0, .int .i64 0, .int .i64 0, .int .i64 0] 45)) = w0 at X R o ⊢
  obtain ⟨X0, X1, X2, X3, X4, X5, Xf0, Xf1, Xf2, Xf3, Xf4, Xf5⟩ := row_six X
  go_wp2_with fail
  refine (P.out _ o).mono ?_
  rintro e w1 ⟨rfl, hb⟩
  replace X := row_call X hb
  replace R := row_call R hb
  replace o := o.trans (hb.mono o.size)
  clear hb X0 X1 X2 X3 X4 X5 Xf0 Xf1 Xf2 Xf3 Xf4 Xf5
  obtain ⟨R0, R1, R2, R3, R4, R5, Rf0, Rf1, Rf2, Rf3, Rf4, Rf5⟩ := row_six R
  go_wp2
  exact bodyPost_ret (v := .tuple #[.agg #[.int .i64 0, .int .i64 0, .int .i64 0, .int .i64 0, .int .i64 0, .int .i64 0], .int .i64 2]) (by simp [results, Try.results34, go_sem, List.getElem?_toArray, R0, R1, R2, R3, R4, R5]) rfl ⟨rfl, below_six o (by omega) _ _ _ _ _ _⟩
set_option maxRecDepth 100000 in
theorem rspask_z (A : Option Addr) (c : Nat) (l : List Mk) (wd k cap now seq : Int) (w : World) (hin : MIn A 0 c l w) (sB : I64 seq) (hv : spvalE wd k cap now seq l = 0) : Calls Try.prog 34 #[.agg #[.int .i64 wd, .int .i64 k, .int .i64 cap, .int .i64 now, .int .i64 seq, .slice A 0 c]] w fun e w' => e = .returned (askPV (spvalE wd k cap now seq l) (loT now wd l) (loN now wd l) (hiT now wd l) (hiN now wd l)) ∧ Below w.heap.size w w' := by
  have hl : l = [] := List.eq_nil_of_length_eq_zero hin.len
  rw [show askPV (spvalE wd k cap now seq l) (loT now wd l) (loN now wd l) (hiT now wd l) (hiN now wd l) = .tuple #[.agg #[.int .i64 0, .int .i64 1, .int .i64 0, .int .i64 1, .int .i64 0, .int .i64 1], .int .i64 0] by
    unfold askPV
    rw [if_pos hv, hl]
    have e1 : loT now wd [] = 0 := by unfold loT; rw [if_pos rfl]
    have e2 : loN now wd [] = 1 := by unfold loN; rw [if_pos rfl]
    have e3 : hiT now wd [] = 0 := by unfold hiT; rw [if_pos rfl]
    have e4 : hiN now wd [] = 1 := by unfold hiN; rw [if_pos rfl]
    rw [e1, e2, e3, e4]
    rfl]
  have P := fun w' (hb : Below w.heap.size w w') => rvalP A 0 c l wd k cap now seq w' (hin.below hb) sB
  rw [hv] at P
  replace P := Lib.hid P
  have PE := Lib.hid (show ∀ w, Calls Try.prog 78 #[.int .i64 0] w fun e w' => e = .returned (.agg #[.int .i64 0, .int .i64 1, .int .i64 0, .int .i64 1, .int .i64 0, .int .i64 1]) ∧ Below w.heap.size w w' from fun w => rwholeN 0 (by omega) w)
  have P0 := Lib.hid (fun w => pratio 0 w)
  clear hv hin sB hl
  go_enter Try.func34, Try.ntmps34
  go_upto_region 1 with (fail)
  have X : Row ((w.alloc (.cells #[.int .i64 wd, .int .i64 k, .int .i64 cap, .int .i64 now, .int .i64 seq, .slice A 0 c] 24)).alloc (.cells #[.int .i64 0, .int .i64 0, .int .i64 0, .int .i64 0, .int .i64 0, .int .i64 0] 45)) w.heap.size 24 #[.int .i64 wd, .int .i64 k, .int .i64 cap, .int .i64 now, .int .i64 seq, .slice A 0 c] := row_alloc (row_new rfl) _
  have R : Row ((w.alloc (.cells #[.int .i64 wd, .int .i64 k, .int .i64 cap, .int .i64 now, .int .i64 seq, .slice A 0 c] 24)).alloc (.cells #[.int .i64 0, .int .i64 0, .int .i64 0, .int .i64 0, .int .i64 0, .int .i64 0] 45)) (w.heap.size + 1) 45 #[.int .i64 0, .int .i64 0, .int .i64 0, .int .i64 0, .int .i64 0, .int .i64 0] := row_new (by simp)
  have o : Below w.heap.size w ((w.alloc (.cells #[.int .i64 wd, .int .i64 k, .int .i64 cap, .int .i64 now, .int .i64 seq, .slice A 0 c] 24)).alloc (.cells #[.int .i64 0, .int .i64 0, .int .i64 0, .int .i64 0, .int .i64 0, .int .i64 0] 45)) := by (repeat (first | exact Below.refl _ _ | refine Below.setCell ?_ (by first | (simp; done) | (simp; omega) | omega) _ | refine Below.alloc ?_ (by first | (simp; done) | (simp; omega) | omega) _ | refine Below.drew ?_ | refine Below.trans ?_ (Below.mono (by assumption) (by first | (simp; done) | (simp; omega) | omega))))
  generalize ((w.alloc (.cells #[.int .i64 wd, .int .i64 k, .int .i64 cap, .int .i64 now, .int .i64 seq, .slice A 0 c] 24)).alloc (.cells #[.int .i64 0, .int .i64 0, .int .i64 0, .int .i64 0, .int .i64 0, .int .i64 0] 45)) = w0 at X R o ⊢
  obtain ⟨X0, X1, X2, X3, X4, X5, Xf0, Xf1, Xf2, Xf3, Xf4, Xf5⟩ := row_six X
  go_wp2_with fail
  refine (P.out _ o).mono ?_
  rintro e w1 ⟨rfl, hb⟩
  replace X := row_call X hb
  replace R := row_call R hb
  replace o := o.trans (hb.mono o.size)
  clear hb X0 X1 X2 X3 X4 X5 Xf0 Xf1 Xf2 Xf3 Xf4 Xf5
  obtain ⟨X0, X1, X2, X3, X4, X5, Xf0, Xf1, Xf2, Xf3, Xf4, Xf5⟩ := row_six X
  go_wp2_with fail
  refine (PE.out _).mono ?_
  rintro e w5 ⟨rfl, hb⟩
  replace X := row_call X hb
  replace R := row_call R hb
  replace o := o.trans (hb.mono o.size)
  clear hb X0 X1 X2 X3 X4 X5 Xf0 Xf1 Xf2 Xf3 Xf4 Xf5
  obtain ⟨R0, R1, R2, R3, R4, R5, Rf0, Rf1, Rf2, Rf3, Rf4, Rf5⟩ := row_six R
  go_wp2
  exact bodyPost_ret (v := .tuple #[.agg #[.int .i64 0, .int .i64 1, .int .i64 0, .int .i64 1, .int .i64 0, .int .i64 1], .int .i64 0]) (by simp [results, Try.results34, go_sem, List.getElem?_toArray, R0, R1, R2, R3, R4, R5]) rfl ⟨rfl, below_six o (by omega) _ _ _ _ _ _⟩
set_option maxRecDepth 100000 in
set_option maxHeartbeats 4000000 in
theorem rspask_l (A : Option Addr) (m c : Nat) (l : List Mk) (wd k cap now seq : Int) (w : World) (hin : MIn A m c l w) (sB : I64 seq) (hv : spvalE wd k cap now seq l = 0) (hm0 : 0 < m) (hlv : now - wd < (mkAt l 0).t) : Calls Try.prog 34 #[.agg #[.int .i64 wd, .int .i64 k, .int .i64 cap, .int .i64 now, .int .i64 seq, .slice A m c]] w fun e w' => e = .returned (askPV (spvalE wd k cap now seq l) (loT now wd l) (loN now wd l) (hiT now wd l) (hiN now wd l)) ∧ Below w.heap.size w w' := by
  obtain ⟨hG, hMV, _⟩ := of_spvalE hv
  obtain ⟨d0, d1, k0, k1, c0, c1, n0, n1⟩ := hG
  have hVL := (mvalid_iff.1 hMV).2
  have hl := hin.len
  have hne : l ≠ [] := fun e => by rw [e] at hl; simp at hl; omega
  have e1 : loT now wd l = mT (mkAt l 0) := by unfold loT; rw [if_neg hne, if_pos hlv]
  have e2 : loN now wd l = mN (mkAt l 0) := by unfold loN; rw [if_neg hne, if_pos hlv]
  have e3 : hiT now wd l = mT (mkAt l 0) := by unfold hiT; rw [if_neg hne, if_pos hlv]
  have e4 : hiN now wd l = mN (mkAt l 0) := by unfold hiN; rw [if_neg hne, if_pos hlv]
  rw [e1, e2, e3, e4, hv]
  clear e1 e2 e3 e4
  have oa := hVL.one _ (mkAt_mem (l := l) (i := 0) (by omega))
  have ra := one_right oa c1
  have rka := rat_mark ra
  have PX := fun w => rofM ra w
  have PL := fun w => rlive now wd (mkAt l 0).t w n0 n1 d0 d1 oa.2.2.2.2.1 oa.2.2.2.2.2.1
  rw [decide_eq_true hlv] at PL
  unfold askPV
  rw [if_pos rfl]
  generalize rn (mT (mkAt l 0)) (mN (mkAt l 0)) = xn at PX rka ⊢
  generalize rd (mT (mkAt l 0)) (mN (mkAt l 0)) = xd at PX rka ⊢
  have PE := Lib.hid (fun w => rexactR xn xd w (by have := rka.1; omega) rka.2.1.1 (by have := rka.2.1.2; omega) rka.2.2)
  obtain ⟨ad, rfl, hadb, ht0⟩ := hin.reads.mk (i := 0) hm0
  have ht0 : MkCells w ad (mkAt l 0) := ht0
  generalize hma : mkAt l 0 = ma at ht0 PX PL
  obtain ⟨sq, tk, n, s, q, lo, hi⟩ := ma
  dsimp only at PX PL
  clear hma
  replace PX := Lib.hid PX
  replace PL := Lib.hid PL
  have HT0 := Lib.hid ht0
  have g0 : (0 : Int) < (m : Int) := by omega
  have mz : ((m : Int) == 0) = false := by simp; omega
  have P := fun w' (hb : Below w.heap.size w w') => rvalP (some ad) m c l wd k cap now seq w' (hin.below hb) sB
  rw [hv] at P
  replace P := Lib.hid P
  clear hv hin sB hMV hVL hl hne rka oa ra ht0 hlv
  go_enter Try.func34, Try.ntmps34
  go_upto_region 1 with (fail)
  have X : Row ((w.alloc (.cells #[.int .i64 wd, .int .i64 k, .int .i64 cap, .int .i64 now, .int .i64 seq, .slice (some ad) m c] 24)).alloc (.cells #[.int .i64 0, .int .i64 0, .int .i64 0, .int .i64 0, .int .i64 0, .int .i64 0] 45)) w.heap.size 24 #[.int .i64 wd, .int .i64 k, .int .i64 cap, .int .i64 now, .int .i64 seq, .slice (some ad) m c] := row_alloc (row_new rfl) _
  have R : Row ((w.alloc (.cells #[.int .i64 wd, .int .i64 k, .int .i64 cap, .int .i64 now, .int .i64 seq, .slice (some ad) m c] 24)).alloc (.cells #[.int .i64 0, .int .i64 0, .int .i64 0, .int .i64 0, .int .i64 0, .int .i64 0] 45)) (w.heap.size + 1) 45 #[.int .i64 0, .int .i64 0, .int .i64 0, .int .i64 0, .int .i64 0, .int .i64 0] := row_new (by simp)
  have o : Below w.heap.size w ((w.alloc (.cells #[.int .i64 wd, .int .i64 k, .int .i64 cap, .int .i64 now, .int .i64 seq, .slice (some ad) m c] 24)).alloc (.cells #[.int .i64 0, .int .i64 0, .int .i64 0, .int .i64 0, .int .i64 0, .int .i64 0] 45)) := by (repeat (first | exact Below.refl _ _ | refine Below.setCell ?_ (by first | (simp; done) | (simp; omega) | omega) _ | refine Below.alloc ?_ (by first | (simp; done) | (simp; omega) | omega) _ | refine Below.drew ?_ | refine Below.trans ?_ (Below.mono (by assumption) (by first | (simp; done) | (simp; omega) | omega))))
  generalize ((w.alloc (.cells #[.int .i64 wd, .int .i64 k, .int .i64 cap, .int .i64 now, .int .i64 seq, .slice (some ad) m c] 24)).alloc (.cells #[.int .i64 0, .int .i64 0, .int .i64 0, .int .i64 0, .int .i64 0, .int .i64 0] 45)) = w0 at X R o ⊢
  obtain ⟨X0, X1, X2, X3, X4, X5, Xf0, Xf1, Xf2, Xf3, Xf4, Xf5⟩ := row_six X
  go_wp2_with fail
  refine (P.out _ o).mono ?_
  rintro e w1 ⟨rfl, hb⟩
  replace X := row_call X hb
  replace R := row_call R hb
  replace o := o.trans (hb.mono o.size)
  clear hb X0 X1 X2 X3 X4 X5 Xf0 Xf1 Xf2 Xf3 Xf4 Xf5
  obtain ⟨q0, q1, q2, q3, q4, q5, q6⟩ := HT0.out.below o hadb
  dsimp only at q0 q1 q2 q3 q4 q5 q6
  obtain ⟨X0, X1, X2, X3, X4, X5, Xf0, Xf1, Xf2, Xf3, Xf4, Xf5⟩ := row_six X
  go_wp2_with fail
  refine (PX.out _).mono ?_
  rintro e w3 ⟨rfl, hb⟩
  replace X := row_call X hb
  replace R := row_call R hb
  replace o := o.trans (hb.mono o.size)
  clear hb X0 X1 X2 X3 X4 X5 Xf0 Xf1 Xf2 Xf3 Xf4 Xf5
  clear q0 q1 q2 q3 q4 q5 q6
  go_upto_region 7 with (fail)
  have Hi : Row (w3.alloc (.cells #[.int .i64 xn, .int .i64 xd] 35)) w3.heap.size 35 #[.int .i64 xn, .int .i64 xd] := row_new rfl
  replace X := row_alloc X (.cells #[.int .i64 xn, .int .i64 xd] 35)
  replace R := row_alloc R (.cells #[.int .i64 xn, .int .i64 xd] 35)
  replace o := o.alloc o.size (.cells #[.int .i64 xn, .int .i64 xd] 35)
  generalize w3.alloc (.cells #[.int .i64 xn, .int .i64 xd] 35) = w4 at X R Hi o ⊢
  generalize w3.heap.size = ib at Hi ⊢
  obtain ⟨q0, q1, q2, q3, q4, q5, q6⟩ := HT0.out.below o hadb
  dsimp only at q0 q1 q2 q3 q4 q5 q6
  obtain ⟨X0, X1, X2, X3, X4, X5, Xf0, Xf1, Xf2, Xf3, Xf4, Xf5⟩ := row_six X
  go_quiet ((go_at_call 79; exact Calls.quiet_of_same (PL.out _)))
  replace X : Row (w4.drewN nq) _ _ _ := X
  replace R : Row (w4.drewN nq) _ _ _ := R
  replace Hi : Row (w4.drewN nq) _ _ _ := Hi
  replace o := o.trans (⟨rfl, rfl, rfl, Nat.le_refl _, fun _ _ => rfl⟩ : Below _ w4 (w4.drewN nq))
  generalize w4.drewN nq = w4b at X R Hi o ⊢
  clear X0 X1 X2 X3 X4 X5 Xf0 Xf1 Xf2 Xf3 Xf4 Xf5
  clear q0 q1 q2 q3 q4 q5 q6
  obtain ⟨H0, H1, Hf0, Hf1⟩ := row_two Hi
  go_wp2_with fail
  refine (PE.out _).mono ?_
  rintro e w5 ⟨rfl, hb⟩
  replace X := row_call X hb
  replace R := row_call R hb
  replace Hi := row_call Hi hb
  replace o := o.trans (hb.mono o.size)
  clear hb H0 H1 Hf0 Hf1
  obtain ⟨R0, R1, R2, R3, R4, R5, Rf0, Rf1, Rf2, Rf3, Rf4, Rf5⟩ := row_six R
  go_wp2
  exact bodyPost_ret (v := .tuple #[.agg #[.int .i64 xn, .int .i64 xd, .int .i64 xn, .int .i64 xd, .int .i64 xn, .int .i64 xd], .int .i64 0]) (by simp [results, Try.results34, go_sem, List.getElem?_toArray, R0, R1, R2, R3, R4, R5]) rfl ⟨rfl, below_six o (by omega) _ _ _ _ _ _⟩
set_option maxRecDepth 100000 in
set_option maxHeartbeats 4000000 in
theorem rspask_n (A : Option Addr) (m c : Nat) (l : List Mk) (wd k cap now seq : Int) (w : World) (hin : MIn A m c l w) (sB : I64 seq) (hv : spvalE wd k cap now seq l = 0) (hm0 : 0 < m) (hlv : ¬ now - wd < (mkAt l 0).t) (hnx : (mkAt l 1).seq = (mkAt l 0).seq + 1) : Calls Try.prog 34 #[.agg #[.int .i64 wd, .int .i64 k, .int .i64 cap, .int .i64 now, .int .i64 seq, .slice A m c]] w fun e w' => e = .returned (askPV (spvalE wd k cap now seq l) (loT now wd l) (loN now wd l) (hiT now wd l) (hiN now wd l)) ∧ Below w.heap.size w w' := by
  obtain ⟨hG, hMV, _⟩ := of_spvalE hv
  obtain ⟨d0, d1, k0, k1, c0, c1, n0, n1⟩ := hG
  have hVL := (mvalid_iff.1 hMV).2
  have hl := hin.len
  have hne : l ≠ [] := fun e => by rw [e] at hl; simp at hl; omega
  have hm1 : 1 < m := by
    apply Nat.lt_of_not_le; intro hc
    obtain ⟨a, rfl⟩ : ∃ a, l = [a] := List.length_eq_one_iff.1 (by omega)
    exact hlv (hVL.alone a rfl)
  have e1 : loT now wd l = mT (mkAt l 1) := by unfold loT; rw [if_neg hne, if_neg hlv]
  have e2 : loN now wd l = mN (mkAt l 1) := by unfold loN; rw [if_neg hne, if_neg hlv]
  have e3 : hiT now wd l = mT (mkAt l 1) := by unfold hiT; rw [if_neg hne, if_neg hlv, if_pos hnx]
  have e4 : hiN now wd l = mN (mkAt l 1) := by unfold hiN; rw [if_neg hne, if_neg hlv, if_pos hnx]
  rw [e1, e2, e3, e4, hv]
  clear e1 e2 e3 e4
  have oa := hVL.one _ (mkAt_mem (l := l) (i := 0) (by omega))
  have ra := one_right oa c1
  have rka := rat_mark ra
  have PX := fun w => rofM ra w
  have PL := fun w => rlive now wd (mkAt l 0).t w n0 n1 d0 d1 oa.2.2.2.2.1 oa.2.2.2.2.2.1
  rw [decide_eq_false hlv] at PL
  have ob := hVL.one _ (mkAt_mem (l := l) (i := 1) (by omega))
  have rb := one_right ob c1
  have rkb := rat_mark rb
  have PY := fun w => rofM rb w
  unfold askPV
  rw [if_pos rfl]
  generalize rn (mT (mkAt l 0)) (mN (mkAt l 0)) = xn at PX rka ⊢
  generalize rd (mT (mkAt l 0)) (mN (mkAt l 0)) = xd at PX rka ⊢
  generalize rn (mT (mkAt l 1)) (mN (mkAt l 1)) = yn at PY rkb ⊢
  generalize rd (mT (mkAt l 1)) (mN (mkAt l 1)) = yd at PY rkb ⊢
  have PE := Lib.hid (fun w => rexactR yn yd w (by have := rkb.1; omega) rkb.2.1.1 (by have := rkb.2.1.2; omega) rkb.2.2)
  obtain ⟨ad, rfl, hadb, ht0⟩ := hin.reads.mk (i := 0) hm0
  have ht0 : MkCells w ad (mkAt l 0) := ht0
  obtain ⟨ad', e', hadb', ht1⟩ := hin.reads.mk (i := 1) hm1
  obtain rfl := Option.some.inj e'
  have ht1 : MkCells w (ad.add (1 * 7)) (mkAt l 1) := ht1
  have hsb := (mvalid_iff.1 hMV).1.2
  have hs1 := oa.1
  have hs2 := oa.2.1
  generalize hma : mkAt l 0 = ma at ht0 PX PL hnx hs1 hs2
  generalize hmb : mkAt l 1 = mb at ht1 PY hnx
  obtain ⟨osq, otk, on, os, oq, olo, ohi⟩ := mb
  obtain ⟨sq, tk, n, s, q, lo, hi⟩ := ma
  dsimp only at PX PL PY hnx hs1 hs2
  have wsq : IntKind.i64.wrap (sq + 1) = sq + 1 := IntWalk.i64_in _ (by omega)
  have tsq : (osq == sq + 1) = true := by simp; omega
  replace PY := Lib.hid PY
  have HT1 := Lib.hid ht1
  have g1 : (1 : Int) < (m : Int) := by omega
  clear hma hmb hnx hs1 hs2 hsb ht1 e' rkb ob rb
  replace PX := Lib.hid PX
  replace PL := Lib.hid PL
  have HT0 := Lib.hid ht0
  have g0 : (0 : Int) < (m : Int) := by omega
  have mz : ((m : Int) == 0) = false := by simp; omega
  have P := fun w' (hb : Below w.heap.size w w') => rvalP (some ad) m c l wd k cap now seq w' (hin.below hb) sB
  rw [hv] at P
  replace P := Lib.hid P
  clear hv hin sB hMV hVL hl hne rka oa ra ht0 hlv
  go_enter Try.func34, Try.ntmps34
  go_upto_region 1 with (fail)
  have X : Row ((w.alloc (.cells #[.int .i64 wd, .int .i64 k, .int .i64 cap, .int .i64 now, .int .i64 seq, .slice (some ad) m c] 24)).alloc (.cells #[.int .i64 0, .int .i64 0, .int .i64 0, .int .i64 0, .int .i64 0, .int .i64 0] 45)) w.heap.size 24 #[.int .i64 wd, .int .i64 k, .int .i64 cap, .int .i64 now, .int .i64 seq, .slice (some ad) m c] := row_alloc (row_new rfl) _
  have R : Row ((w.alloc (.cells #[.int .i64 wd, .int .i64 k, .int .i64 cap, .int .i64 now, .int .i64 seq, .slice (some ad) m c] 24)).alloc (.cells #[.int .i64 0, .int .i64 0, .int .i64 0, .int .i64 0, .int .i64 0, .int .i64 0] 45)) (w.heap.size + 1) 45 #[.int .i64 0, .int .i64 0, .int .i64 0, .int .i64 0, .int .i64 0, .int .i64 0] := row_new (by simp)
  have o : Below w.heap.size w ((w.alloc (.cells #[.int .i64 wd, .int .i64 k, .int .i64 cap, .int .i64 now, .int .i64 seq, .slice (some ad) m c] 24)).alloc (.cells #[.int .i64 0, .int .i64 0, .int .i64 0, .int .i64 0, .int .i64 0, .int .i64 0] 45)) := by (repeat (first | exact Below.refl _ _ | refine Below.setCell ?_ (by first | (simp; done) | (simp; omega) | omega) _ | refine Below.alloc ?_ (by first | (simp; done) | (simp; omega) | omega) _ | refine Below.drew ?_ | refine Below.trans ?_ (Below.mono (by assumption) (by first | (simp; done) | (simp; omega) | omega))))
  generalize ((w.alloc (.cells #[.int .i64 wd, .int .i64 k, .int .i64 cap, .int .i64 now, .int .i64 seq, .slice (some ad) m c] 24)).alloc (.cells #[.int .i64 0, .int .i64 0, .int .i64 0, .int .i64 0, .int .i64 0, .int .i64 0] 45)) = w0 at X R o ⊢
  obtain ⟨X0, X1, X2, X3, X4, X5, Xf0, Xf1, Xf2, Xf3, Xf4, Xf5⟩ := row_six X
  go_wp2_with fail
  refine (P.out _ o).mono ?_
  rintro e w1 ⟨rfl, hb⟩
  replace X := row_call X hb
  replace R := row_call R hb
  replace o := o.trans (hb.mono o.size)
  clear hb X0 X1 X2 X3 X4 X5 Xf0 Xf1 Xf2 Xf3 Xf4 Xf5
  obtain ⟨q0, q1, q2, q3, q4, q5, q6⟩ := HT0.out.below o hadb
  dsimp only at q0 q1 q2 q3 q4 q5 q6
  obtain ⟨X0, X1, X2, X3, X4, X5, Xf0, Xf1, Xf2, Xf3, Xf4, Xf5⟩ := row_six X
  go_wp2_with fail
  refine (PX.out _).mono ?_
  rintro e w3 ⟨rfl, hb⟩
  replace X := row_call X hb
  replace R := row_call R hb
  replace o := o.trans (hb.mono o.size)
  clear hb X0 X1 X2 X3 X4 X5 Xf0 Xf1 Xf2 Xf3 Xf4 Xf5
  clear q0 q1 q2 q3 q4 q5 q6
  go_upto_region 7 with (fail)
  have Hi : Row (w3.alloc (.cells #[.int .i64 xn, .int .i64 xd] 35)) w3.heap.size 35 #[.int .i64 xn, .int .i64 xd] := row_new rfl
  replace X := row_alloc X (.cells #[.int .i64 xn, .int .i64 xd] 35)
  replace R := row_alloc R (.cells #[.int .i64 xn, .int .i64 xd] 35)
  replace o := o.alloc o.size (.cells #[.int .i64 xn, .int .i64 xd] 35)
  generalize w3.alloc (.cells #[.int .i64 xn, .int .i64 xd] 35) = w4 at X R Hi o ⊢
  generalize w3.heap.size = ib at Hi ⊢
  obtain ⟨q0, q1, q2, q3, q4, q5, q6⟩ := HT0.out.below o hadb
  dsimp only at q0 q1 q2 q3 q4 q5 q6
  obtain ⟨X0, X1, X2, X3, X4, X5, Xf0, Xf1, Xf2, Xf3, Xf4, Xf5⟩ := row_six X
  go_quiet ((go_at_call 79; exact Calls.quiet_of_same (PL.out _)))
  replace X : Row (w4.drewN nq) _ _ _ := X
  replace R : Row (w4.drewN nq) _ _ _ := R
  replace Hi : Row (w4.drewN nq) _ _ _ := Hi
  replace o := o.trans (⟨rfl, rfl, rfl, Nat.le_refl _, fun _ _ => rfl⟩ : Below _ w4 (w4.drewN nq))
  generalize w4.drewN nq = w4b at X R Hi o ⊢
  clear X0 X1 X2 X3 X4 X5 Xf0 Xf1 Xf2 Xf3 Xf4 Xf5
  clear q0 q1 q2 q3 q4 q5 q6
  obtain ⟨s0, s1, s2, s3, s4, s5, s6⟩ := HT1.out.below o hadb'
  dsimp only at s0 s1 s2 s3 s4 s5 s6
  replace s0 : w4b.cell? ⟨ad.block, ad.off + 7, none⟩ = some (.int .i64 osq) := s0
  replace s1 : w4b.cell? ⟨ad.block, ad.off + 7 + 1, none⟩ = some (.int .i64 otk) := s1
  replace s2 : w4b.cell? ⟨ad.block, ad.off + 7 + 2, none⟩ = some (.int .i64 on) := s2
  replace s3 : w4b.cell? ⟨ad.block, ad.off + 7 + 3, none⟩ = some (.int .i64 os) := s3
  replace s4 : w4b.cell? ⟨ad.block, ad.off + 7 + 4, none⟩ = some (.int .i64 oq) := s4
  replace s5 : w4b.cell? ⟨ad.block, ad.off + 7 + 5, none⟩ = some (.int .i64 olo) := s5
  replace s6 : w4b.cell? ⟨ad.block, ad.off + 7 + 6, none⟩ = some (.int .i64 ohi) := s6
  obtain ⟨X0, X1, X2, X3, X4, X5, Xf0, Xf1, Xf2, Xf3, Xf4, Xf5⟩ := row_six X
  go_wp2_with fail
  refine (PY.out _).mono ?_
  rintro e w6 ⟨rfl, hb⟩
  replace X := row_call X hb
  replace R := row_call R hb
  replace Hi := row_call Hi hb
  replace o := o.trans (hb.mono o.size)
  clear hb X0 X1 X2 X3 X4 X5 Xf0 Xf1 Xf2 Xf3 Xf4 Xf5
  clear s0 s1 s2 s3 s4 s5 s6
  go_upto_region 10 with (fail)
  have Lo : Row (w6.alloc (.cells #[.int .i64 yn, .int .i64 yd] 35)) w6.heap.size 35 #[.int .i64 yn, .int .i64 yd] := row_new rfl
  replace X := row_alloc X (.cells #[.int .i64 yn, .int .i64 yd] 35)
  replace R := row_alloc R (.cells #[.int .i64 yn, .int .i64 yd] 35)
  replace Hi := row_alloc Hi (.cells #[.int .i64 yn, .int .i64 yd] 35)
  replace o := o.alloc o.size (.cells #[.int .i64 yn, .int .i64 yd] 35)
  generalize w6.alloc (.cells #[.int .i64 yn, .int .i64 yd] 35) = w7 at X R Hi Lo o ⊢
  generalize w6.heap.size = jb at Lo ⊢
  obtain ⟨q0, q1, q2, q3, q4, q5, q6⟩ := HT0.out.below o hadb
  dsimp only at q0 q1 q2 q3 q4 q5 q6
  obtain ⟨s0, s1, s2, s3, s4, s5, s6⟩ := HT1.out.below o hadb'
  dsimp only at s0 s1 s2 s3 s4 s5 s6
  replace s0 : w7.cell? ⟨ad.block, ad.off + 7, none⟩ = some (.int .i64 osq) := s0
  replace s1 : w7.cell? ⟨ad.block, ad.off + 7 + 1, none⟩ = some (.int .i64 otk) := s1
  replace s2 : w7.cell? ⟨ad.block, ad.off + 7 + 2, none⟩ = some (.int .i64 on) := s2
  replace s3 : w7.cell? ⟨ad.block, ad.off + 7 + 3, none⟩ = some (.int .i64 os) := s3
  replace s4 : w7.cell? ⟨ad.block, ad.off + 7 + 4, none⟩ = some (.int .i64 oq) := s4
  replace s5 : w7.cell? ⟨ad.block, ad.off + 7 + 5, none⟩ = some (.int .i64 olo) := s5
  replace s6 : w7.cell? ⟨ad.block, ad.off + 7 + 6, none⟩ = some (.int .i64 ohi) := s6
  obtain ⟨X0, X1, X2, X3, X4, X5, Xf0, Xf1, Xf2, Xf3, Xf4, Xf5⟩ := row_six X
  go_quiet (fail)
  replace X : Row (w7.drewN nq) _ _ _ := X
  replace R : Row (w7.drewN nq) _ _ _ := R
  replace Hi : Row (w7.drewN nq) _ _ _ := Hi
  replace Lo : Row (w7.drewN nq) _ _ _ := Lo
  replace o := o.trans (⟨rfl, rfl, rfl, Nat.le_refl _, fun _ _ => rfl⟩ : Below _ w7 (w7.drewN nq))
  generalize w7.drewN nq = w8 at X R Hi Lo o ⊢
  clear X0 X1 X2 X3 X4 X5 Xf0 Xf1 Xf2 Xf3 Xf4 Xf5
  clear q0 q1 q2 q3 q4 q5 q6
  clear s0 s1 s2 s3 s4 s5 s6
  obtain ⟨L0, L1, Lf0, Lf1⟩ := row_two Lo
  go_wp2_with fail
  refine (PE.out _).mono ?_
  rintro e w9 ⟨rfl, hb⟩
  replace X := row_call X hb
  replace R := row_call R hb
  replace Hi := row_call Hi hb
  replace Lo := row_call Lo hb
  replace o := o.trans (hb.mono o.size)
  clear hb L0 L1 Lf0 Lf1
  obtain ⟨R0, R1, R2, R3, R4, R5, Rf0, Rf1, Rf2, Rf3, Rf4, Rf5⟩ := row_six R
  go_wp2
  exact bodyPost_ret (v := .tuple #[.agg #[.int .i64 yn, .int .i64 yd, .int .i64 yn, .int .i64 yd, .int .i64 yn, .int .i64 yd], .int .i64 0]) (by simp [results, Try.results34, go_sem, List.getElem?_toArray, R0, R1, R2, R3, R4, R5]) rfl ⟨rfl, below_six o (by omega) _ _ _ _ _ _⟩
set_option maxRecDepth 100000 in
set_option maxHeartbeats 4000000 in
theorem rspask_w (A : Option Addr) (m c : Nat) (l : List Mk) (wd k cap now seq : Int) (w : World) (hin : MIn A m c l w) (sB : I64 seq) (hv : spvalE wd k cap now seq l = 0) (hm0 : 0 < m) (hlv : ¬ now - wd < (mkAt l 0).t) (hnx : ¬ (mkAt l 1).seq = (mkAt l 0).seq + 1) : Calls Try.prog 34 #[.agg #[.int .i64 wd, .int .i64 k, .int .i64 cap, .int .i64 now, .int .i64 seq, .slice A m c]] w fun e w' => e = .returned (askPV (spvalE wd k cap now seq l) (loT now wd l) (loN now wd l) (hiT now wd l) (hiN now wd l)) ∧ Below w.heap.size w w' := by
  obtain ⟨hG, hMV, _⟩ := of_spvalE hv
  obtain ⟨d0, d1, k0, k1, c0, c1, n0, n1⟩ := hG
  have hVL := (mvalid_iff.1 hMV).2
  have hl := hin.len
  have hne : l ≠ [] := fun e => by rw [e] at hl; simp at hl; omega
  have hm1 : 1 < m := by
    apply Nat.lt_of_not_le; intro hc
    obtain ⟨a, rfl⟩ : ∃ a, l = [a] := List.length_eq_one_iff.1 (by omega)
    exact hlv (hVL.alone a rfl)
  have e1 : loT now wd l = mT (mkAt l 1) := by unfold loT; rw [if_neg hne, if_neg hlv]
  have e2 : loN now wd l = mN (mkAt l 1) := by unfold loN; rw [if_neg hne, if_neg hlv]
  have e3 : hiT now wd l = mT (mkAt l 0) := by unfold hiT; rw [if_neg hne, if_neg hlv, if_neg hnx]
  have e4 : hiN now wd l = mN (mkAt l 0) := by unfold hiN; rw [if_neg hne, if_neg hlv, if_neg hnx]
  rw [e1, e2, e3, e4, hv]
  clear e1 e2 e3 e4
  have oa := hVL.one _ (mkAt_mem (l := l) (i := 0) (by omega))
  have ra := one_right oa c1
  have rka := rat_mark ra
  have PX := fun w => rofM ra w
  have PL := fun w => rlive now wd (mkAt l 0).t w n0 n1 d0 d1 oa.2.2.2.2.1 oa.2.2.2.2.2.1
  rw [decide_eq_false hlv] at PL
  have ob := hVL.one _ (mkAt_mem (l := l) (i := 1) (by omega))
  have rb := one_right ob c1
  have rkb := rat_mark rb
  have PY := fun w => rofM rb w
  unfold askPV
  rw [if_pos rfl]
  generalize rn (mT (mkAt l 0)) (mN (mkAt l 0)) = xn at PX rka ⊢
  generalize rd (mT (mkAt l 0)) (mN (mkAt l 0)) = xd at PX rka ⊢
  generalize rn (mT (mkAt l 1)) (mN (mkAt l 1)) = yn at PY rkb ⊢
  generalize rd (mT (mkAt l 1)) (mN (mkAt l 1)) = yd at PY rkb ⊢
  obtain ⟨ad, rfl, hadb, ht0⟩ := hin.reads.mk (i := 0) hm0
  have ht0 : MkCells w ad (mkAt l 0) := ht0
  obtain ⟨ad', e', hadb', ht1⟩ := hin.reads.mk (i := 1) hm1
  obtain rfl := Option.some.inj e'
  have ht1 : MkCells w (ad.add (1 * 7)) (mkAt l 1) := ht1
  have hsb := (mvalid_iff.1 hMV).1.2
  have hs1 := oa.1
  have hs2 := oa.2.1
  generalize hma : mkAt l 0 = ma at ht0 PX PL hnx hs1 hs2
  generalize hmb : mkAt l 1 = mb at ht1 PY hnx
  obtain ⟨osq, otk, on, os, oq, olo, ohi⟩ := mb
  obtain ⟨sq, tk, n, s, q, lo, hi⟩ := ma
  dsimp only at PX PL PY hnx hs1 hs2
  have wsq : IntKind.i64.wrap (sq + 1) = sq + 1 := IntWalk.i64_in _ (by omega)
  have tsq : (osq == sq + 1) = false := by simp; omega
  replace PY := Lib.hid PY
  have HT1 := Lib.hid ht1
  have g1 : (1 : Int) < (m : Int) := by omega
  clear hma hmb hnx hs1 hs2 hsb ht1 e' rkb ob rb
  replace PX := Lib.hid PX
  replace PL := Lib.hid PL
  have HT0 := Lib.hid ht0
  have g0 : (0 : Int) < (m : Int) := by omega
  have mz : ((m : Int) == 0) = false := by simp; omega
  have P := fun w' (hb : Below w.heap.size w w') => rvalP (some ad) m c l wd k cap now seq w' (hin.below hb) sB
  rw [hv] at P
  replace P := Lib.hid P
  clear hv hin sB hMV hVL hl hne rka oa ra ht0 hlv
  go_enter Try.func34, Try.ntmps34
  go_upto_region 1 with (fail)
  have X : Row ((w.alloc (.cells #[.int .i64 wd, .int .i64 k, .int .i64 cap, .int .i64 now, .int .i64 seq, .slice (some ad) m c] 24)).alloc (.cells #[.int .i64 0, .int .i64 0, .int .i64 0, .int .i64 0, .int .i64 0, .int .i64 0] 45)) w.heap.size 24 #[.int .i64 wd, .int .i64 k, .int .i64 cap, .int .i64 now, .int .i64 seq, .slice (some ad) m c] := row_alloc (row_new rfl) _
  have R : Row ((w.alloc (.cells #[.int .i64 wd, .int .i64 k, .int .i64 cap, .int .i64 now, .int .i64 seq, .slice (some ad) m c] 24)).alloc (.cells #[.int .i64 0, .int .i64 0, .int .i64 0, .int .i64 0, .int .i64 0, .int .i64 0] 45)) (w.heap.size + 1) 45 #[.int .i64 0, .int .i64 0, .int .i64 0, .int .i64 0, .int .i64 0, .int .i64 0] := row_new (by simp)
  have o : Below w.heap.size w ((w.alloc (.cells #[.int .i64 wd, .int .i64 k, .int .i64 cap, .int .i64 now, .int .i64 seq, .slice (some ad) m c] 24)).alloc (.cells #[.int .i64 0, .int .i64 0, .int .i64 0, .int .i64 0, .int .i64 0, .int .i64 0] 45)) := by (repeat (first | exact Below.refl _ _ | refine Below.setCell ?_ (by first | (simp; done) | (simp; omega) | omega) _ | refine Below.alloc ?_ (by first | (simp; done) | (simp; omega) | omega) _ | refine Below.drew ?_ | refine Below.trans ?_ (Below.mono (by assumption) (by first | (simp; done) | (simp; omega) | omega))))
  generalize ((w.alloc (.cells #[.int .i64 wd, .int .i64 k, .int .i64 cap, .int .i64 now, .int .i64 seq, .slice (some ad) m c] 24)).alloc (.cells #[.int .i64 0, .int .i64 0, .int .i64 0, .int .i64 0, .int .i64 0, .int .i64 0] 45)) = w0 at X R o ⊢
  obtain ⟨X0, X1, X2, X3, X4, X5, Xf0, Xf1, Xf2, Xf3, Xf4, Xf5⟩ := row_six X
  go_wp2_with fail
  refine (P.out _ o).mono ?_
  rintro e w1 ⟨rfl, hb⟩
  replace X := row_call X hb
  replace R := row_call R hb
  replace o := o.trans (hb.mono o.size)
  clear hb X0 X1 X2 X3 X4 X5 Xf0 Xf1 Xf2 Xf3 Xf4 Xf5
  obtain ⟨q0, q1, q2, q3, q4, q5, q6⟩ := HT0.out.below o hadb
  dsimp only at q0 q1 q2 q3 q4 q5 q6
  obtain ⟨X0, X1, X2, X3, X4, X5, Xf0, Xf1, Xf2, Xf3, Xf4, Xf5⟩ := row_six X
  go_wp2_with fail
  refine (PX.out _).mono ?_
  rintro e w3 ⟨rfl, hb⟩
  replace X := row_call X hb
  replace R := row_call R hb
  replace o := o.trans (hb.mono o.size)
  clear hb X0 X1 X2 X3 X4 X5 Xf0 Xf1 Xf2 Xf3 Xf4 Xf5
  clear q0 q1 q2 q3 q4 q5 q6
  go_upto_region 7 with (fail)
  have Hi : Row (w3.alloc (.cells #[.int .i64 xn, .int .i64 xd] 35)) w3.heap.size 35 #[.int .i64 xn, .int .i64 xd] := row_new rfl
  replace X := row_alloc X (.cells #[.int .i64 xn, .int .i64 xd] 35)
  replace R := row_alloc R (.cells #[.int .i64 xn, .int .i64 xd] 35)
  replace o := o.alloc o.size (.cells #[.int .i64 xn, .int .i64 xd] 35)
  generalize w3.alloc (.cells #[.int .i64 xn, .int .i64 xd] 35) = w4 at X R Hi o ⊢
  generalize w3.heap.size = ib at Hi ⊢
  obtain ⟨q0, q1, q2, q3, q4, q5, q6⟩ := HT0.out.below o hadb
  dsimp only at q0 q1 q2 q3 q4 q5 q6
  obtain ⟨X0, X1, X2, X3, X4, X5, Xf0, Xf1, Xf2, Xf3, Xf4, Xf5⟩ := row_six X
  go_quiet ((go_at_call 79; exact Calls.quiet_of_same (PL.out _)))
  replace X : Row (w4.drewN nq) _ _ _ := X
  replace R : Row (w4.drewN nq) _ _ _ := R
  replace Hi : Row (w4.drewN nq) _ _ _ := Hi
  replace o := o.trans (⟨rfl, rfl, rfl, Nat.le_refl _, fun _ _ => rfl⟩ : Below _ w4 (w4.drewN nq))
  generalize w4.drewN nq = w4b at X R Hi o ⊢
  clear X0 X1 X2 X3 X4 X5 Xf0 Xf1 Xf2 Xf3 Xf4 Xf5
  clear q0 q1 q2 q3 q4 q5 q6
  obtain ⟨s0, s1, s2, s3, s4, s5, s6⟩ := HT1.out.below o hadb'
  dsimp only at s0 s1 s2 s3 s4 s5 s6
  replace s0 : w4b.cell? ⟨ad.block, ad.off + 7, none⟩ = some (.int .i64 osq) := s0
  replace s1 : w4b.cell? ⟨ad.block, ad.off + 7 + 1, none⟩ = some (.int .i64 otk) := s1
  replace s2 : w4b.cell? ⟨ad.block, ad.off + 7 + 2, none⟩ = some (.int .i64 on) := s2
  replace s3 : w4b.cell? ⟨ad.block, ad.off + 7 + 3, none⟩ = some (.int .i64 os) := s3
  replace s4 : w4b.cell? ⟨ad.block, ad.off + 7 + 4, none⟩ = some (.int .i64 oq) := s4
  replace s5 : w4b.cell? ⟨ad.block, ad.off + 7 + 5, none⟩ = some (.int .i64 olo) := s5
  replace s6 : w4b.cell? ⟨ad.block, ad.off + 7 + 6, none⟩ = some (.int .i64 ohi) := s6
  obtain ⟨X0, X1, X2, X3, X4, X5, Xf0, Xf1, Xf2, Xf3, Xf4, Xf5⟩ := row_six X
  go_wp2_with fail
  refine (PY.out _).mono ?_
  rintro e w6 ⟨rfl, hb⟩
  replace X := row_call X hb
  replace R := row_call R hb
  replace Hi := row_call Hi hb
  replace o := o.trans (hb.mono o.size)
  clear hb X0 X1 X2 X3 X4 X5 Xf0 Xf1 Xf2 Xf3 Xf4 Xf5
  clear s0 s1 s2 s3 s4 s5 s6
  go_upto_region 10 with (fail)
  have Lo : Row (w6.alloc (.cells #[.int .i64 yn, .int .i64 yd] 35)) w6.heap.size 35 #[.int .i64 yn, .int .i64 yd] := row_new rfl
  replace X := row_alloc X (.cells #[.int .i64 yn, .int .i64 yd] 35)
  replace R := row_alloc R (.cells #[.int .i64 yn, .int .i64 yd] 35)
  replace Hi := row_alloc Hi (.cells #[.int .i64 yn, .int .i64 yd] 35)
  replace o := o.alloc o.size (.cells #[.int .i64 yn, .int .i64 yd] 35)
  generalize w6.alloc (.cells #[.int .i64 yn, .int .i64 yd] 35) = w7 at X R Hi Lo o ⊢
  generalize w6.heap.size = jb at Lo ⊢
  obtain ⟨q0, q1, q2, q3, q4, q5, q6⟩ := HT0.out.below o hadb
  dsimp only at q0 q1 q2 q3 q4 q5 q6
  obtain ⟨s0, s1, s2, s3, s4, s5, s6⟩ := HT1.out.below o hadb'
  dsimp only at s0 s1 s2 s3 s4 s5 s6
  replace s0 : w7.cell? ⟨ad.block, ad.off + 7, none⟩ = some (.int .i64 osq) := s0
  replace s1 : w7.cell? ⟨ad.block, ad.off + 7 + 1, none⟩ = some (.int .i64 otk) := s1
  replace s2 : w7.cell? ⟨ad.block, ad.off + 7 + 2, none⟩ = some (.int .i64 on) := s2
  replace s3 : w7.cell? ⟨ad.block, ad.off + 7 + 3, none⟩ = some (.int .i64 os) := s3
  replace s4 : w7.cell? ⟨ad.block, ad.off + 7 + 4, none⟩ = some (.int .i64 oq) := s4
  replace s5 : w7.cell? ⟨ad.block, ad.off + 7 + 5, none⟩ = some (.int .i64 olo) := s5
  replace s6 : w7.cell? ⟨ad.block, ad.off + 7 + 6, none⟩ = some (.int .i64 ohi) := s6
  obtain ⟨X0, X1, X2, X3, X4, X5, Xf0, Xf1, Xf2, Xf3, Xf4, Xf5⟩ := row_six X
  go_quiet (fail)
  replace X : Row (w7.drewN nq) _ _ _ := X
  replace R : Row (w7.drewN nq) _ _ _ := R
  replace Hi : Row (w7.drewN nq) _ _ _ := Hi
  replace Lo : Row (w7.drewN nq) _ _ _ := Lo
  replace o := o.trans (⟨rfl, rfl, rfl, Nat.le_refl _, fun _ _ => rfl⟩ : Below _ w7 (w7.drewN nq))
  generalize w7.drewN nq = w8 at X R Hi Lo o ⊢
  clear X0 X1 X2 X3 X4 X5 Xf0 Xf1 Xf2 Xf3 Xf4 Xf5
  clear q0 q1 q2 q3 q4 q5 q6
  clear s0 s1 s2 s3 s4 s5 s6
  obtain ⟨L0, L1, Lf0, Lf1⟩ := row_two Lo
  obtain ⟨H0, H1, Hf0, Hf1⟩ := row_two Hi
  obtain ⟨R0, R1, R2, R3, R4, R5, Rf0, Rf1, Rf2, Rf3, Rf4, Rf5⟩ := row_six R
  go_wp2
  exact bodyPost_ret (v := .tuple #[.agg #[.int .i64 yn, .int .i64 yd, .int .i64 yn, .int .i64 yd, .int .i64 xn, .int .i64 xd], .int .i64 0]) (by simp [results, Try.results34, go_sem, List.getElem?_toArray, R0, R1, R2, R3, R4, R5]) rfl ⟨rfl, below_six o (by omega) _ _ _ _ _ _⟩
theorem rspask (A : Option Addr) (m c : Nat) (l : List Mk) (wd k cap now seq : Int) (w : World) (hin : MIn A m c l w) (sB : I64 seq) : Calls Try.prog 34 #[.agg #[.int .i64 wd, .int .i64 k, .int .i64 cap, .int .i64 now, .int .i64 seq, .slice A m c]] w fun e w' => e = .returned (askPV (spvalE wd k cap now seq l) (loT now wd l) (loN now wd l) (hiT now wd l) (hiN now wd l)) ∧ Below w.heap.size w w' := by
  rcases spvalE_two (wd := wd) (k := k) (cap := cap) (now := now) (seq := seq) (l := l) with hv | hv
  · by_cases m0 : m = 0
    · subst m0; exact rspask_z A c l wd k cap now seq w hin sB hv
    · by_cases hlv : now - wd < (mkAt l 0).t
      · exact rspask_l A m c l wd k cap now seq w hin sB hv (by omega) hlv
      · by_cases hnx : (mkAt l 1).seq = (mkAt l 0).seq + 1
        · exact rspask_n A m c l wd k cap now seq w hin sB hv (by omega) hlv hnx
        · exact rspask_w A m c l wd k cap now seq w hin sB hv (by omega) hlv hnx
  · exact rspask_a A m c l wd k cap now seq w hin sB hv
end Go.Proofs.Ytaiepjcnncajcaa
end
section
/- Marks of smooth histograms: equal lists, walked. -/
set_option linter.unusedVariables false
set_option linter.unusedSimpArgs false
set_option linter.unusedSectionVars false
set_option linter.unnecessarySimpa false
namespace Go.Proofs.Ytaiepjcnncajcaa
open Go.RowKit
set_option maxHeartbeats 2000000 in
theorem rsamemk (A A' : Option Addr) (m c c' : Nat) (l : List Mk) (w : World) (h : MIn A m c l w) (h' : MIn A' m c' l w) : Calls Try.prog 41 #[.slice A m c, .slice A' m c'] w fun e w' => e = .returned (.bool true) ∧ Below w.heap.size w w' := by
  have HR := Lib.hid h
  have HR' := Lib.hid h'
  have hn := h.max
  clear h h'
  go_enter Try.func41, Try.ntmps41
  go_wp2
  go_loopw [13] (fun i wr => ∃ k : Nat, k ≤ m ∧ i = .int .i64 (k : Nat) ∧ Below w.heap.size w wr) (fun i _ => m - (intOf i).toNat)
  case atStart => exact ⟨0, by omega, rfl, Below.refl _ _⟩
  case round =>
    obtain ⟨k, hk, rfl, o⟩ := hrel
    by_cases hlt : k < m
    · obtain ⟨ad, rfl, hadb, mx⟩ := HR.out.reads.mk hlt
      obtain ⟨ad', rfl, hadb', my⟩ := HR'.out.reads.mk hlt
      generalize mkAt l k = x at mx my
      obtain ⟨sq, tk, n, s, q, lo, hi⟩ := x
      have MX := Lib.hid mx
      have MY := Lib.hid my
      have HAB : RowKit.Hid ((ad.add (k * 7)).block < w.heap.size) := Lib.hid (by rw [block_of_add]; exact hadb)
      have HAB' : RowKit.Hid ((ad'.add (k * 7)).block < w.heap.size) := Lib.hid (by rw [block_of_add]; exact hadb')
      have i1 : (k : Int) < (m : Int) := by omega
      have i2 : (0 : Int) ≤ (k : Int) := by omega
      clear mx my
      go_upto_region 6 with (fail)
      refine wp_region_free0 [0, 1, 2, 4, 5, 6, 3, 7] [] [0, 1, 2, 3, 4, 5, 6, 7] 8 (fun w' => Below wr.heap.size wr w') (by kernel_rfl) (by kernel_rfl) (fun _ _ d _ _ h => by cases d <;> exact h) ?_ ?_
      · exact (Below.refl _ _).drew
      (refine plan_pure ?_ rfl rfl (fun w' => ?_) ?_; rotate_left; (go_simp; try with_reducible rfl); simp only [Act.put, List.setIfInBounds_toArray, List.set_cons_zero, List.set_cons_succ])
      (refine plan_pure ?_ rfl rfl (fun w' => ?_) ?_; rotate_left; (go_simp; try with_reducible rfl); simp only [Act.put, List.setIfInBounds_toArray, List.set_cons_zero, List.set_cons_succ])
      (refine plan_pure ?_ rfl rfl (fun w' => ?_) ?_; rotate_left; (go_simp; try with_reducible rfl); simp only [Act.put, List.setIfInBounds_toArray, List.set_cons_zero, List.set_cons_succ])
      (refine plan_pure ?_ rfl rfl (fun w' => ?_) ?_; rotate_left; (go_simp; try with_reducible rfl); simp only [Act.put, List.setIfInBounds_toArray, List.set_cons_zero, List.set_cons_succ])
      (refine plan_pure ?_ rfl rfl (fun w' => ?_) ?_; rotate_left; (go_simp; try with_reducible rfl); simp only [Act.put, List.setIfInBounds_toArray, List.set_cons_zero, List.set_cons_succ])
      (refine plan_pure ?_ rfl rfl (fun w' => ?_) ?_; rotate_left; (go_simp; try with_reducible rfl); simp only [Act.put, List.setIfInBounds_toArray, List.set_cons_zero, List.set_cons_succ])
      (refine plan_val ?_ rfl rfl rfl (fun w' hS => ?_) ?_; rotate_left; (obtain ⟨p0, p1, p2, p3, p4, p5, p6⟩ := MX.out.below (o.trans (hS.mono o.size)) HAB.out; obtain ⟨q0, q1, q2, q3, q4, q5, q6⟩ := MY.out.below (o.trans (hS.mono o.size)) HAB'.out; dsimp only at p0 p1 p2 p3 p4 p5 p6 q0 q1 q2 q3 q4 q5 q6; go_simp; try with_reducible rfl); simp only [Act.put, List.setIfInBounds_toArray, List.set_cons_zero, List.set_cons_succ])
      (refine plan_val ?_ rfl rfl rfl (fun w' hS => ?_) ?_; rotate_left; (obtain ⟨p0, p1, p2, p3, p4, p5, p6⟩ := MX.out.below (o.trans (hS.mono o.size)) HAB.out; obtain ⟨q0, q1, q2, q3, q4, q5, q6⟩ := MY.out.below (o.trans (hS.mono o.size)) HAB'.out; dsimp only at p0 p1 p2 p3 p4 p5 p6 q0 q1 q2 q3 q4 q5 q6; go_simp; try with_reducible rfl); simp only [Act.put, List.setIfInBounds_toArray, List.set_cons_zero, List.set_cons_succ])
      refine plan_nil ?_
      intro w3 L3
      simp only [List.drop_succ_cons, List.drop_zero]
      try simp only [Act.put, List.setIfInBounds_toArray, List.set_cons_zero, List.set_cons_succ]
      replace o := o.trans (L3.mono o.size)
      clear L3
      go_wp2
      go_roundw
      case rel => exact ⟨k + 1, by omega, by go_num, o⟩
      case measure => simp [intOf]; omega
    · have i1 : ¬ (k : Int) < (m : Int) := by omega
      go_wp2
      go_ret
      exact ⟨rfl, o⟩
end Go.Proofs.Ytaiepjcnncajcaa
end
section
/- Spread histograms: equal states; the law of states, walked. -/
set_option linter.unusedVariables false
set_option linter.unusedSimpArgs false
set_option linter.unusedSectionVars false
set_option linter.unnecessarySimpa false
namespace Go.Proofs.Ytaiepjcnncajcaa
open Go.RowKit
set_option maxRecDepth 100000 in
theorem rsameP (rw rk rc rn rs : Int) (A : Option Addr) (m c : Nat) (A' : Option Addr) (m' c' : Nat) (l : List Mk) (w : World) (h : MIn A m c l w) (h' : MIn A' m' c' l w) :
    Calls Try.prog 11 #[.agg #[.int .i64 rw, .int .i64 rk, .int .i64 rc, .int .i64 rn, .int .i64 rs, .slice A m c], .agg #[.int .i64 rw, .int .i64 rk, .int .i64 rc, .int .i64 rn, .int .i64 rs, .slice A' m' c']] w fun e w' => e = .returned (.bool true) ∧ Below w.heap.size w w' := by
  obtain rfl : m' = m := h'.len.symm.trans h.len
  have N := Lib.hid (fun w1 (hb : Below w.heap.size w w1) => rsamemk A A' m' c c' l w1 (h.below hb) (h'.below hb))
  clear h h'
  go_enter Try.func11, Try.ntmps11
  go_wp2_with (go_at_call 41; with_reducible refine (N.out _ (by (repeat (first | exact Below.refl _ _ | refine Below.setCell ?_ (by first | (simp; done) | (simp; omega) | omega) _ | refine Below.alloc ?_ (by first | (simp; done) | (simp; omega) | omega) _ | refine Below.drew ?_ | refine Below.trans ?_ (Below.mono (by assumption) (by first | (simp; done) | (simp; omega) | omega)))))).mono ?_; rintro e w1 ⟨rfl, hb1⟩; have hz1 := hb1.size; (try simp at hz1); have o1 : Below w.heap.size w w1 := (by (repeat (first | exact Below.refl _ _ | refine Below.setCell ?_ (by first | (simp; done) | (simp; omega) | omega) _ | refine Below.alloc ?_ (by first | (simp; done) | (simp; omega) | omega) _ | refine Below.drew ?_ | refine Below.trans ?_ (Below.mono (by assumption) (by first | (simp; done) | (simp; omega) | omega))))))
  go_ret
  exact ⟨rfl, by (repeat (first | exact Below.refl _ _ | refine Below.setCell ?_ (by first | (simp; done) | (simp; omega) | omega) _ | refine Below.alloc ?_ (by first | (simp; done) | (simp; omega) | omega) _ | refine Below.drew ?_ | refine Below.trans ?_ (Below.mono (by assumption) (by first | (simp; done) | (simp; omega) | omega))))⟩
theorem few14_yes (A : Option Addr) (m c : Nat) (l : List Mk) (wd k cap now seq : Int) (w : World) (h : m ≤ 300) : Calls Try.prog 30 #[.agg #[.int .i64 wd, .int .i64 k, .int .i64 cap, .int .i64 now, .int .i64 seq, .slice A m c]] w fun e w' => e = .returned (.bool true) ∧ Below w.heap.size w w' := by
  have i1 : (m : Int) ≤ 300 := by omega
  clear h
  go_enter Try.func30, Try.ntmps30
  go_wp2
  go_ret
  exact ⟨by first | rfl | exact ret_bool (by simp; omega), (Below.refl _ _).alloc (Nat.le_refl _) _⟩
theorem few14_no (A : Option Addr) (m c : Nat) (l : List Mk) (wd k cap now seq : Int) (w : World) (h : ¬ m ≤ 300) : Calls Try.prog 30 #[.agg #[.int .i64 wd, .int .i64 k, .int .i64 cap, .int .i64 now, .int .i64 seq, .slice A m c]] w fun e w' => e = .returned (.bool false) ∧ Below w.heap.size w w' := by
  have i1 : ¬ (m : Int) ≤ 300 := by omega
  clear h
  go_enter Try.func30, Try.ntmps30
  go_wp2
  go_ret
  exact ⟨by first | rfl | exact ret_bool (by simp; omega), (Below.refl _ _).alloc (Nat.le_refl _) _⟩
theorem spreadStates_no (A : Option Addr) (m c : Nat) (l : List Mk) (wd k cap now seq : Int) (tt v : Int) (w : World) (hm : ¬ m ≤ 300) : Calls Try.prog 7 #[.agg #[.int .i64 wd, .int .i64 k, .int .i64 cap, .int .i64 now, .int .i64 seq, .slice A m c], .int .i64 tt, .int .i64 v] w fun e w' => e = .returned (.bool true) ∧ Below w.heap.size w w' := by
  go_enter Try.func7, Try.ntmps7
  go_wp2_with fail
  have X : Row (w.alloc (.cells #[.int .i64 wd, .int .i64 k, .int .i64 cap, .int .i64 now, .int .i64 seq, .slice A m c] 24)) w.heap.size 24 #[.int .i64 wd, .int .i64 k, .int .i64 cap, .int .i64 now, .int .i64 seq, .slice A m c] := row_new rfl
  have o : Below w.heap.size w (w.alloc (.cells #[.int .i64 wd, .int .i64 k, .int .i64 cap, .int .i64 now, .int .i64 seq, .slice A m c] 24)) := by (repeat (first | exact Below.refl _ _ | refine Below.setCell ?_ (by first | (simp; done) | (simp; omega) | omega) _ | refine Below.alloc ?_ (by first | (simp; done) | (simp; omega) | omega) _ | refine Below.drew ?_ | refine Below.trans ?_ (Below.mono (by assumption) (by first | (simp; done) | (simp; omega) | omega))))
  generalize (w.alloc (.cells #[.int .i64 wd, .int .i64 k, .int .i64 cap, .int .i64 now, .int .i64 seq, .slice A m c] 24)) = w0 at X o ⊢
  refine (few14_no A m c l wd k cap now seq w0 hm).mono ?_
  rintro e w1 ⟨rfl, hb1⟩
  replace X := row_call X hb1
  replace o := o.trans (hb1.mono o.size)
  clear hb1
  clear X hm
  go_wp2_with fail
  refine (awake14 _).mono ?_
  rintro e w2 ⟨rfl, hb2⟩
  replace o := o.trans (hb2.mono o.size)
  go_wp2
  go_ret
  exact ⟨rfl, o⟩
theorem askPV_form (ve : Int) (lT lN hT hN : Nat) : ∃ b0 b1 b2 b3 b4 b5 e0 : Int, askPV ve lT lN hT hN = .tuple #[.agg #[.int .i64 b0, .int .i64 b1, .int .i64 b2, .int .i64 b3, .int .i64 b4, .int .i64 b5], .int .i64 e0] := by
  unfold askPV
  split
  · exact ⟨_, _, _, _, _, _, _, rfl⟩
  · exact ⟨_, _, _, _, _, _, _, rfl⟩
set_option maxRecDepth 100000 in
set_option maxHeartbeats 16000000 in
theorem spreadStates_yes (A : Option Addr) (m c : Nat) (l : List Mk) (wd k cap now seq : Int) (tt v : Int) (w : World) (hin : MIn A m c l w) (sB : I64 seq) (hm : m ≤ 300) : Calls Try.prog 7 #[.agg #[.int .i64 wd, .int .i64 k, .int .i64 cap, .int .i64 now, .int .i64 seq, .slice A m c], .int .i64 tt, .int .i64 v] w fun e w' => e = .returned (.bool true) ∧ Below w.heap.size w w' := by
  have P1 := fun w' (hb : Below w.heap.size w w') => psptick A m c l wd k cap now seq tt w' (hin.below hb) sB (by omega)
  have P2 := fun w' (hb : Below w.heap.size w w') => rsptick A m c l wd k cap now seq tt w' (hin.below hb) sB (by omega)
  have P3 := fun w' (hb : Below w.heap.size w w') => pspadd A m c l wd k cap now seq v w' (hin.below hb) sB (by omega)
  have P4 := fun w' (hb : Below w.heap.size w w') => rspadd A m c l wd k cap now seq v w' (hin.below hb) sB (by omega)
  have PA := fun w' (hb : Below w.heap.size w w') => pspask A m c l wd k cap now seq w' (hin.below hb) sB
  have RA := fun w' (hb : Below w.heap.size w w') => rspask A m c l wd k cap now seq w' (hin.below hb) sB
  have VP := fun w' (hb : Below w.heap.size w w') => pvalP A m c l wd k cap now seq w' (hin.below hb) sB
  have VR := fun w' (hb : Below w.heap.size w w') => rvalP A m c l wd k cap now seq w' (hin.below hb) sB
  obtain ⟨b0, b1, b2, b3, b4, b5, e0, hV⟩ := askPV_form (spvalE wd k cap now seq l) (loT now wd l) (loN now wd l) (hiT now wd l) (hiN now wd l)
  rw [hV] at PA RA
  generalize spvalE wd k cap now seq l = ve at VP VR hV
  clear hV
  generalize spTick wd k cap now seq l tt = r at P1 P2
  generalize spAdd wd k cap now seq l v = s at P3 P4
  obtain ⟨rw, rk, rc, rn, rs, ms, rf⟩ := r
  obtain ⟨sw, sk, sc, sn, ss, ns, sf⟩ := s
  replace P1 := Lib.hid P1
  replace P2 := Lib.hid P2
  replace P3 := Lib.hid P3
  replace P4 := Lib.hid P4
  replace PA := Lib.hid PA
  replace RA := Lib.hid RA
  replace VP := Lib.hid VP
  replace VR := Lib.hid VR
  clear hin sB
  go_enter Try.func7, Try.ntmps7
  go_wp2_with fail
  have X : Row (w.alloc (.cells #[.int .i64 wd, .int .i64 k, .int .i64 cap, .int .i64 now, .int .i64 seq, .slice A m c] 24)) w.heap.size 24 #[.int .i64 wd, .int .i64 k, .int .i64 cap, .int .i64 now, .int .i64 seq, .slice A m c] := row_new rfl
  have o : Below w.heap.size w (w.alloc (.cells #[.int .i64 wd, .int .i64 k, .int .i64 cap, .int .i64 now, .int .i64 seq, .slice A m c] 24)) := by (repeat (first | exact Below.refl _ _ | refine Below.setCell ?_ (by first | (simp; done) | (simp; omega) | omega) _ | refine Below.alloc ?_ (by first | (simp; done) | (simp; omega) | omega) _ | refine Below.drew ?_ | refine Below.trans ?_ (Below.mono (by assumption) (by first | (simp; done) | (simp; omega) | omega))))
  generalize (w.alloc (.cells #[.int .i64 wd, .int .i64 k, .int .i64 cap, .int .i64 now, .int .i64 seq, .slice A m c] 24)) = w0 at X o ⊢
  refine (few14_yes A m c l wd k cap now seq w0 hm).mono ?_
  rintro e w1 ⟨rfl, hb1⟩
  replace X := row_call X hb1
  replace o := o.trans (hb1.mono o.size)
  clear hb1
  clear hm
  obtain ⟨X0, X1, X2, X3, X4, X5, Xf0, Xf1, Xf2, Xf3, Xf4, Xf5⟩ := row_six X
  go_wp2_with fail
  refine (P1.out _ o).mono ?_
  intro e w2 hq
  obtain ⟨A3, m3, c3, rfl, in3, hb, fr⟩ := hq
  dsimp only at in3
  clear fr X0 Xf0 X1 Xf1 X2 Xf2 X3 Xf3 X4 Xf4 X5 Xf5
  replace X := row_call X hb
  replace o := o.trans (hb.mono o.size)
  clear hb
  go_upto_region 4 with (fail)
  have Ya : Row (w2.alloc (.cells #[.int .i64 rw, .int .i64 rk, .int .i64 rc, .int .i64 rn, .int .i64 rs, .slice A3 m3 c3] 24)) w2.heap.size 24 #[.int .i64 rw, .int .i64 rk, .int .i64 rc, .int .i64 rn, .int .i64 rs, .slice A3 m3 c3] := row_new rfl
  replace X := row_alloc X (.cells #[.int .i64 rw, .int .i64 rk, .int .i64 rc, .int .i64 rn, .int .i64 rs, .slice A3 m3 c3] 24)
  replace in3 := in3.below ((Below.refl _ _).alloc (Nat.le_refl _) (.cells #[.int .i64 rw, .int .i64 rk, .int .i64 rc, .int .i64 rn, .int .i64 rs, .slice A3 m3 c3] 24))
  replace o := o.alloc o.size (.cells #[.int .i64 rw, .int .i64 rk, .int .i64 rc, .int .i64 rn, .int .i64 rs, .slice A3 m3 c3] 24)
  generalize (w2.alloc (.cells #[.int .i64 rw, .int .i64 rk, .int .i64 rc, .int .i64 rn, .int .i64 rs, .slice A3 m3 c3] 24)) = w3 at X Ya  in3 o ⊢
  generalize w2.heap.size = Yab at Ya ⊢
  obtain ⟨X0, X1, X2, X3, X4, X5, Xf0, Xf1, Xf2, Xf3, Xf4, Xf5⟩ := row_six X
  go_wp2_with fail
  refine (P2.out _ o).mono ?_
  intro e w4 hq
  obtain ⟨A4, m4, c4, rfl, in4, hb, fr⟩ := hq
  dsimp only at in4
  clear fr X0 Xf0 X1 Xf1 X2 Xf2 X3 Xf3 X4 Xf4 X5 Xf5
  replace X := row_call X hb
  replace Ya := row_call Ya hb
  replace in3 := in3.below hb
  replace o := o.trans (hb.mono o.size)
  clear hb
  go_upto_region 5 with (fail)
  have Yb : Row (w4.alloc (.cells #[.int .i64 rw, .int .i64 rk, .int .i64 rc, .int .i64 rn, .int .i64 rs, .slice A4 m4 c4] 24)) w4.heap.size 24 #[.int .i64 rw, .int .i64 rk, .int .i64 rc, .int .i64 rn, .int .i64 rs, .slice A4 m4 c4] := row_new rfl
  replace X := row_alloc X (.cells #[.int .i64 rw, .int .i64 rk, .int .i64 rc, .int .i64 rn, .int .i64 rs, .slice A4 m4 c4] 24)
  replace Ya := row_alloc Ya (.cells #[.int .i64 rw, .int .i64 rk, .int .i64 rc, .int .i64 rn, .int .i64 rs, .slice A4 m4 c4] 24)
  replace in3 := in3.below ((Below.refl _ _).alloc (Nat.le_refl _) (.cells #[.int .i64 rw, .int .i64 rk, .int .i64 rc, .int .i64 rn, .int .i64 rs, .slice A4 m4 c4] 24))
  replace in4 := in4.below ((Below.refl _ _).alloc (Nat.le_refl _) (.cells #[.int .i64 rw, .int .i64 rk, .int .i64 rc, .int .i64 rn, .int .i64 rs, .slice A4 m4 c4] 24))
  replace o := o.alloc o.size (.cells #[.int .i64 rw, .int .i64 rk, .int .i64 rc, .int .i64 rn, .int .i64 rs, .slice A4 m4 c4] 24)
  generalize (w4.alloc (.cells #[.int .i64 rw, .int .i64 rk, .int .i64 rc, .int .i64 rn, .int .i64 rs, .slice A4 m4 c4] 24)) = w5 at X Yb Ya in3 in4 o ⊢
  generalize w4.heap.size = Ybb at Yb ⊢
  obtain ⟨X0, X1, X2, X3, X4, X5, Xf0, Xf1, Xf2, Xf3, Xf4, Xf5⟩ := row_six X
  go_wp2_with fail
  refine (P3.out _ o).mono ?_
  intro e w6 hq
  obtain ⟨A5, m5, c5, rfl, in5, hb, fr⟩ := hq
  dsimp only at in5
  clear fr X0 Xf0 X1 Xf1 X2 Xf2 X3 Xf3 X4 Xf4 X5 Xf5
  replace X := row_call X hb
  replace Ya := row_call Ya hb
  replace Yb := row_call Yb hb
  replace in3 := in3.below hb
  replace in4 := in4.below hb
  replace o := o.trans (hb.mono o.size)
  clear hb
  go_upto_region 6 with (fail)
  have Yc : Row (w6.alloc (.cells #[.int .i64 sw, .int .i64 sk, .int .i64 sc, .int .i64 sn, .int .i64 ss, .slice A5 m5 c5] 24)) w6.heap.size 24 #[.int .i64 sw, .int .i64 sk, .int .i64 sc, .int .i64 sn, .int .i64 ss, .slice A5 m5 c5] := row_new rfl
  replace X := row_alloc X (.cells #[.int .i64 sw, .int .i64 sk, .int .i64 sc, .int .i64 sn, .int .i64 ss, .slice A5 m5 c5] 24)
  replace Ya := row_alloc Ya (.cells #[.int .i64 sw, .int .i64 sk, .int .i64 sc, .int .i64 sn, .int .i64 ss, .slice A5 m5 c5] 24)
  replace Yb := row_alloc Yb (.cells #[.int .i64 sw, .int .i64 sk, .int .i64 sc, .int .i64 sn, .int .i64 ss, .slice A5 m5 c5] 24)
  replace in3 := in3.below ((Below.refl _ _).alloc (Nat.le_refl _) (.cells #[.int .i64 sw, .int .i64 sk, .int .i64 sc, .int .i64 sn, .int .i64 ss, .slice A5 m5 c5] 24))
  replace in4 := in4.below ((Below.refl _ _).alloc (Nat.le_refl _) (.cells #[.int .i64 sw, .int .i64 sk, .int .i64 sc, .int .i64 sn, .int .i64 ss, .slice A5 m5 c5] 24))
  replace in5 := in5.below ((Below.refl _ _).alloc (Nat.le_refl _) (.cells #[.int .i64 sw, .int .i64 sk, .int .i64 sc, .int .i64 sn, .int .i64 ss, .slice A5 m5 c5] 24))
  replace o := o.alloc o.size (.cells #[.int .i64 sw, .int .i64 sk, .int .i64 sc, .int .i64 sn, .int .i64 ss, .slice A5 m5 c5] 24)
  generalize (w6.alloc (.cells #[.int .i64 sw, .int .i64 sk, .int .i64 sc, .int .i64 sn, .int .i64 ss, .slice A5 m5 c5] 24)) = w7 at X Yc Ya Yb in3 in4 in5 o ⊢
  generalize w6.heap.size = Ycb at Yc ⊢
  obtain ⟨X0, X1, X2, X3, X4, X5, Xf0, Xf1, Xf2, Xf3, Xf4, Xf5⟩ := row_six X
  go_wp2_with fail
  refine (P4.out _ o).mono ?_
  intro e w8 hq
  obtain ⟨A6, m6, c6, rfl, in6, hb, fr⟩ := hq
  dsimp only at in6
  clear fr X0 Xf0 X1 Xf1 X2 Xf2 X3 Xf3 X4 Xf4 X5 Xf5
  replace X := row_call X hb
  replace Ya := row_call Ya hb
  replace Yb := row_call Yb hb
  replace Yc := row_call Yc hb
  replace in3 := in3.below hb
  replace in4 := in4.below hb
  replace in5 := in5.below hb
  replace o := o.trans (hb.mono o.size)
  clear hb
  go_upto_region 7 with (fail)
  have Yd : Row (w8.alloc (.cells #[.int .i64 sw, .int .i64 sk, .int .i64 sc, .int .i64 sn, .int .i64 ss, .slice A6 m6 c6] 24)) w8.heap.size 24 #[.int .i64 sw, .int .i64 sk, .int .i64 sc, .int .i64 sn, .int .i64 ss, .slice A6 m6 c6] := row_new rfl
  replace X := row_alloc X (.cells #[.int .i64 sw, .int .i64 sk, .int .i64 sc, .int .i64 sn, .int .i64 ss, .slice A6 m6 c6] 24)
  replace Ya := row_alloc Ya (.cells #[.int .i64 sw, .int .i64 sk, .int .i64 sc, .int .i64 sn, .int .i64 ss, .slice A6 m6 c6] 24)
  replace Yb := row_alloc Yb (.cells #[.int .i64 sw, .int .i64 sk, .int .i64 sc, .int .i64 sn, .int .i64 ss, .slice A6 m6 c6] 24)
  replace Yc := row_alloc Yc (.cells #[.int .i64 sw, .int .i64 sk, .int .i64 sc, .int .i64 sn, .int .i64 ss, .slice A6 m6 c6] 24)
  replace in3 := in3.below ((Below.refl _ _).alloc (Nat.le_refl _) (.cells #[.int .i64 sw, .int .i64 sk, .int .i64 sc, .int .i64 sn, .int .i64 ss, .slice A6 m6 c6] 24))
  replace in4 := in4.below ((Below.refl _ _).alloc (Nat.le_refl _) (.cells #[.int .i64 sw, .int .i64 sk, .int .i64 sc, .int .i64 sn, .int .i64 ss, .slice A6 m6 c6] 24))
  replace in5 := in5.below ((Below.refl _ _).alloc (Nat.le_refl _) (.cells #[.int .i64 sw, .int .i64 sk, .int .i64 sc, .int .i64 sn, .int .i64 ss, .slice A6 m6 c6] 24))
  replace in6 := in6.below ((Below.refl _ _).alloc (Nat.le_refl _) (.cells #[.int .i64 sw, .int .i64 sk, .int .i64 sc, .int .i64 sn, .int .i64 ss, .slice A6 m6 c6] 24))
  replace o := o.alloc o.size (.cells #[.int .i64 sw, .int .i64 sk, .int .i64 sc, .int .i64 sn, .int .i64 ss, .slice A6 m6 c6] 24)
  generalize (w8.alloc (.cells #[.int .i64 sw, .int .i64 sk, .int .i64 sc, .int .i64 sn, .int .i64 ss, .slice A6 m6 c6] 24)) = w10 at X Yd Ya Yb Yc in3 in4 in5 in6 o ⊢
  generalize w8.heap.size = Ydb at Yd ⊢
  obtain ⟨X0, X1, X2, X3, X4, X5, Xf0, Xf1, Xf2, Xf3, Xf4, Xf5⟩ := row_six X
  go_wp2_with fail
  refine (PA.out _ o).mono ?_
  rintro e w11 ⟨rfl, hb⟩
  replace X := row_call X hb
  replace Ya := row_call Ya hb
  replace Yb := row_call Yb hb
  replace Yc := row_call Yc hb
  replace Yd := row_call Yd hb
  replace in3 := in3.below hb
  replace in4 := in4.below hb
  replace in5 := in5.below hb
  replace in6 := in6.below hb
  replace o := o.trans (hb.mono o.size)
  clear hb X0 Xf0 X1 Xf1 X2 Xf2 X3 Xf3 X4 Xf4 X5 Xf5
  go_upto_region 8 with (fail)
  have Yp : Row (w11.alloc (.cells #[.int .i64 b0, .int .i64 b1, .int .i64 b2, .int .i64 b3, .int .i64 b4, .int .i64 b5] 45)) w11.heap.size 45 #[.int .i64 b0, .int .i64 b1, .int .i64 b2, .int .i64 b3, .int .i64 b4, .int .i64 b5] := row_new rfl
  replace X := row_alloc X (.cells #[.int .i64 b0, .int .i64 b1, .int .i64 b2, .int .i64 b3, .int .i64 b4, .int .i64 b5] 45)
  replace Ya := row_alloc Ya (.cells #[.int .i64 b0, .int .i64 b1, .int .i64 b2, .int .i64 b3, .int .i64 b4, .int .i64 b5] 45)
  replace Yb := row_alloc Yb (.cells #[.int .i64 b0, .int .i64 b1, .int .i64 b2, .int .i64 b3, .int .i64 b4, .int .i64 b5] 45)
  replace Yc := row_alloc Yc (.cells #[.int .i64 b0, .int .i64 b1, .int .i64 b2, .int .i64 b3, .int .i64 b4, .int .i64 b5] 45)
  replace Yd := row_alloc Yd (.cells #[.int .i64 b0, .int .i64 b1, .int .i64 b2, .int .i64 b3, .int .i64 b4, .int .i64 b5] 45)
  replace in3 := in3.below ((Below.refl _ _).alloc (Nat.le_refl _) (.cells #[.int .i64 b0, .int .i64 b1, .int .i64 b2, .int .i64 b3, .int .i64 b4, .int .i64 b5] 45))
  replace in4 := in4.below ((Below.refl _ _).alloc (Nat.le_refl _) (.cells #[.int .i64 b0, .int .i64 b1, .int .i64 b2, .int .i64 b3, .int .i64 b4, .int .i64 b5] 45))
  replace in5 := in5.below ((Below.refl _ _).alloc (Nat.le_refl _) (.cells #[.int .i64 b0, .int .i64 b1, .int .i64 b2, .int .i64 b3, .int .i64 b4, .int .i64 b5] 45))
  replace in6 := in6.below ((Below.refl _ _).alloc (Nat.le_refl _) (.cells #[.int .i64 b0, .int .i64 b1, .int .i64 b2, .int .i64 b3, .int .i64 b4, .int .i64 b5] 45))
  replace o := o.alloc o.size (.cells #[.int .i64 b0, .int .i64 b1, .int .i64 b2, .int .i64 b3, .int .i64 b4, .int .i64 b5] 45)
  generalize w11.alloc (.cells #[.int .i64 b0, .int .i64 b1, .int .i64 b2, .int .i64 b3, .int .i64 b4, .int .i64 b5] 45) = w12 at X Yp Ya Yb Yc Yd in3 in4 in5 in6 o ⊢
  generalize w11.heap.size = Ypb at Yp ⊢
  obtain ⟨X0, X1, X2, X3, X4, X5, Xf0, Xf1, Xf2, Xf3, Xf4, Xf5⟩ := row_six X
  go_wp2_with fail
  refine (RA.out _ o).mono ?_
  rintro e w13 ⟨rfl, hb⟩
  replace X := row_call X hb
  replace Ya := row_call Ya hb
  replace Yb := row_call Yb hb
  replace Yc := row_call Yc hb
  replace Yd := row_call Yd hb
  replace Yp := row_call Yp hb
  replace in3 := in3.below hb
  replace in4 := in4.below hb
  replace in5 := in5.below hb
  replace in6 := in6.below hb
  replace o := o.trans (hb.mono o.size)
  clear hb X0 Xf0 X1 Xf1 X2 Xf2 X3 Xf3 X4 Xf4 X5 Xf5
  go_upto_region 9 with (fail)
  have Yq : Row (w13.alloc (.cells #[.int .i64 b0, .int .i64 b1, .int .i64 b2, .int .i64 b3, .int .i64 b4, .int .i64 b5] 45)) w13.heap.size 45 #[.int .i64 b0, .int .i64 b1, .int .i64 b2, .int .i64 b3, .int .i64 b4, .int .i64 b5] := row_new rfl
  replace X := row_alloc X (.cells #[.int .i64 b0, .int .i64 b1, .int .i64 b2, .int .i64 b3, .int .i64 b4, .int .i64 b5] 45)
  replace Ya := row_alloc Ya (.cells #[.int .i64 b0, .int .i64 b1, .int .i64 b2, .int .i64 b3, .int .i64 b4, .int .i64 b5] 45)
  replace Yb := row_alloc Yb (.cells #[.int .i64 b0, .int .i64 b1, .int .i64 b2, .int .i64 b3, .int .i64 b4, .int .i64 b5] 45)
  replace Yc := row_alloc Yc (.cells #[.int .i64 b0, .int .i64 b1, .int .i64 b2, .int .i64 b3, .int .i64 b4, .int .i64 b5] 45)
  replace Yd := row_alloc Yd (.cells #[.int .i64 b0, .int .i64 b1, .int .i64 b2, .int .i64 b3, .int .i64 b4, .int .i64 b5] 45)
  replace Yp := row_alloc Yp (.cells #[.int .i64 b0, .int .i64 b1, .int .i64 b2, .int .i64 b3, .int .i64 b4, .int .i64 b5] 45)
  replace in3 := in3.below ((Below.refl _ _).alloc (Nat.le_refl _) (.cells #[.int .i64 b0, .int .i64 b1, .int .i64 b2, .int .i64 b3, .int .i64 b4, .int .i64 b5] 45))
  replace in4 := in4.below ((Below.refl _ _).alloc (Nat.le_refl _) (.cells #[.int .i64 b0, .int .i64 b1, .int .i64 b2, .int .i64 b3, .int .i64 b4, .int .i64 b5] 45))
  replace in5 := in5.below ((Below.refl _ _).alloc (Nat.le_refl _) (.cells #[.int .i64 b0, .int .i64 b1, .int .i64 b2, .int .i64 b3, .int .i64 b4, .int .i64 b5] 45))
  replace in6 := in6.below ((Below.refl _ _).alloc (Nat.le_refl _) (.cells #[.int .i64 b0, .int .i64 b1, .int .i64 b2, .int .i64 b3, .int .i64 b4, .int .i64 b5] 45))
  replace o := o.alloc o.size (.cells #[.int .i64 b0, .int .i64 b1, .int .i64 b2, .int .i64 b3, .int .i64 b4, .int .i64 b5] 45)
  generalize w13.alloc (.cells #[.int .i64 b0, .int .i64 b1, .int .i64 b2, .int .i64 b3, .int .i64 b4, .int .i64 b5] 45) = wr at X Yq Ya Yb Yc Yd Yp in3 in4 in5 in6 o ⊢
  generalize w13.heap.size = Yqb at Yq ⊢
  have S1 := Lib.hid (fun w' (hb : Below wr.heap.size wr w') => rsameP rw rk rc rn rs A3 m3 c3 A4 m4 c4 ms w' (in3.below hb) (in4.below hb))
  have S2 := Lib.hid (fun w' (hb : Below wr.heap.size wr w') => rsameP sw sk sc sn ss A5 m5 c5 A6 m6 c6 ns w' (in5.below hb) (in6.below hb))
  have OW := Lib.hid o
  clear in3 in4 in5 in6 o P1 P2 P3 P4 PA RA
  refine wp_region_free0 [0, 1, 2, 3, 4, 5, 6, 7, 8, 9, 10, 11, 12, 13, 14, 15, 16, 17, 18, 19, 20, 21, 22, 23, 24, 25, 26, 27, 28, 29, 30, 31, 32, 33, 34, 35, 36, 37] [] [0, 1, 2, 3, 4, 5, 6, 7, 8, 9, 10, 11, 12, 13, 14, 15, 16, 17, 18, 19, 20, 21, 22, 23, 24, 25, 26, 27, 28, 29, 30, 31, 32, 33, 34, 35, 36, 37] 38 (fun w' => Below wr.heap.size wr w') (by kernel_rfl) (by kernel_rfl) (fun _ _ d _ _ h => by cases d <;> exact h) ?_ ?_
  · exact (Below.refl _ _).drew
  (refine plan_val ?_ rfl rfl rfl (fun w' hS => ?_) ?_; rotate_left; (obtain ⟨X0, X1, X2, X3, X4, X5, Xf0, Xf1, Xf2, Xf3, Xf4, Xf5⟩ := row_six (row_call X hS); obtain ⟨Ya0, Ya1, Ya2, Ya3, Ya4, Ya5, Yaf0, Yaf1, Yaf2, Yaf3, Yaf4, Yaf5⟩ := row_six (row_call Ya hS); obtain ⟨Yb0, Yb1, Yb2, Yb3, Yb4, Yb5, Ybf0, Ybf1, Ybf2, Ybf3, Ybf4, Ybf5⟩ := row_six (row_call Yb hS); obtain ⟨Yc0, Yc1, Yc2, Yc3, Yc4, Yc5, Ycf0, Ycf1, Ycf2, Ycf3, Ycf4, Ycf5⟩ := row_six (row_call Yc hS); obtain ⟨Yd0, Yd1, Yd2, Yd3, Yd4, Yd5, Ydf0, Ydf1, Ydf2, Ydf3, Ydf4, Ydf5⟩ := row_six (row_call Yd hS); obtain ⟨Yp0, Yp1, Yp2, Yp3, Yp4, Yp5, Ypf0, Ypf1, Ypf2, Ypf3, Ypf4, Ypf5⟩ := row_six (row_call Yp hS); obtain ⟨Yq0, Yq1, Yq2, Yq3, Yq4, Yq5, Yqf0, Yqf1, Yqf2, Yqf3, Yqf4, Yqf5⟩ := row_six (row_call Yq hS); go_simp; try with_reducible rfl); simp only [Act.put, List.setIfInBounds_toArray, List.set_cons_zero, List.set_cons_succ])
  refine plan_call (.int .i64 ve) 27 #[.agg #[.int .i64 wd, .int .i64 k, .int .i64 cap, .int .i64 now, .int .i64 seq, .slice A m c]] rfl rfl rfl (fun _ _ h hb => h.trans (hb.mono h.size)) (fun w' hS => by obtain ⟨X0, X1, X2, X3, X4, X5, Xf0, Xf1, Xf2, Xf3, Xf4, Xf5⟩ := row_six (row_call X hS); obtain ⟨Ya0, Ya1, Ya2, Ya3, Ya4, Ya5, Yaf0, Yaf1, Yaf2, Yaf3, Yaf4, Yaf5⟩ := row_six (row_call Ya hS); obtain ⟨Yb0, Yb1, Yb2, Yb3, Yb4, Yb5, Ybf0, Ybf1, Ybf2, Ybf3, Ybf4, Ybf5⟩ := row_six (row_call Yb hS); obtain ⟨Yc0, Yc1, Yc2, Yc3, Yc4, Yc5, Ycf0, Ycf1, Ycf2, Ycf3, Ycf4, Ycf5⟩ := row_six (row_call Yc hS); obtain ⟨Yd0, Yd1, Yd2, Yd3, Yd4, Yd5, Ydf0, Ydf1, Ydf2, Ydf3, Ydf4, Ydf5⟩ := row_six (row_call Yd hS); obtain ⟨Yp0, Yp1, Yp2, Yp3, Yp4, Yp5, Ypf0, Ypf1, Ypf2, Ypf3, Ypf4, Ypf5⟩ := row_six (row_call Yp hS); obtain ⟨Yq0, Yq1, Yq2, Yq3, Yq4, Yq5, Yqf0, Yqf1, Yqf2, Yqf3, Yqf4, Yqf5⟩ := row_six (row_call Yq hS); go_simp) (fun w' hS => VP.out w' (OW.out.trans (hS.mono OW.out.size))) ?_
  simp only [Act.put, List.setIfInBounds_toArray, List.set_cons_zero, List.set_cons_succ]
  (refine plan_val ?_ rfl rfl rfl (fun w' hS => ?_) ?_; rotate_left; (obtain ⟨X0, X1, X2, X3, X4, X5, Xf0, Xf1, Xf2, Xf3, Xf4, Xf5⟩ := row_six (row_call X hS); obtain ⟨Ya0, Ya1, Ya2, Ya3, Ya4, Ya5, Yaf0, Yaf1, Yaf2, Yaf3, Yaf4, Yaf5⟩ := row_six (row_call Ya hS); obtain ⟨Yb0, Yb1, Yb2, Yb3, Yb4, Yb5, Ybf0, Ybf1, Ybf2, Ybf3, Ybf4, Ybf5⟩ := row_six (row_call Yb hS); obtain ⟨Yc0, Yc1, Yc2, Yc3, Yc4, Yc5, Ycf0, Ycf1, Ycf2, Ycf3, Ycf4, Ycf5⟩ := row_six (row_call Yc hS); obtain ⟨Yd0, Yd1, Yd2, Yd3, Yd4, Yd5, Ydf0, Ydf1, Ydf2, Ydf3, Ydf4, Ydf5⟩ := row_six (row_call Yd hS); obtain ⟨Yp0, Yp1, Yp2, Yp3, Yp4, Yp5, Ypf0, Ypf1, Ypf2, Ypf3, Ypf4, Ypf5⟩ := row_six (row_call Yp hS); obtain ⟨Yq0, Yq1, Yq2, Yq3, Yq4, Yq5, Yqf0, Yqf1, Yqf2, Yqf3, Yqf4, Yqf5⟩ := row_six (row_call Yq hS); go_simp; try with_reducible rfl); simp only [Act.put, List.setIfInBounds_toArray, List.set_cons_zero, List.set_cons_succ])
  refine plan_call (.int .i64 ve) 28 #[.agg #[.int .i64 wd, .int .i64 k, .int .i64 cap, .int .i64 now, .int .i64 seq, .slice A m c]] rfl rfl rfl (fun _ _ h hb => h.trans (hb.mono h.size)) (fun w' hS => by obtain ⟨X0, X1, X2, X3, X4, X5, Xf0, Xf1, Xf2, Xf3, Xf4, Xf5⟩ := row_six (row_call X hS); obtain ⟨Ya0, Ya1, Ya2, Ya3, Ya4, Ya5, Yaf0, Yaf1, Yaf2, Yaf3, Yaf4, Yaf5⟩ := row_six (row_call Ya hS); obtain ⟨Yb0, Yb1, Yb2, Yb3, Yb4, Yb5, Ybf0, Ybf1, Ybf2, Ybf3, Ybf4, Ybf5⟩ := row_six (row_call Yb hS); obtain ⟨Yc0, Yc1, Yc2, Yc3, Yc4, Yc5, Ycf0, Ycf1, Ycf2, Ycf3, Ycf4, Ycf5⟩ := row_six (row_call Yc hS); obtain ⟨Yd0, Yd1, Yd2, Yd3, Yd4, Yd5, Ydf0, Ydf1, Ydf2, Ydf3, Ydf4, Ydf5⟩ := row_six (row_call Yd hS); obtain ⟨Yp0, Yp1, Yp2, Yp3, Yp4, Yp5, Ypf0, Ypf1, Ypf2, Ypf3, Ypf4, Ypf5⟩ := row_six (row_call Yp hS); obtain ⟨Yq0, Yq1, Yq2, Yq3, Yq4, Yq5, Yqf0, Yqf1, Yqf2, Yqf3, Yqf4, Yqf5⟩ := row_six (row_call Yq hS); go_simp) (fun w' hS => VR.out w' (OW.out.trans (hS.mono OW.out.size))) ?_
  simp only [Act.put, List.setIfInBounds_toArray, List.set_cons_zero, List.set_cons_succ]
  (refine plan_pure ?_ rfl rfl (fun w' => ?_) ?_; rotate_left; (go_simp; try with_reducible rfl); simp only [Act.put, List.setIfInBounds_toArray, List.set_cons_zero, List.set_cons_succ])
  (refine plan_pure ?_ rfl rfl (fun w' => ?_) ?_; rotate_left; (go_simp; try with_reducible rfl); simp only [Act.put, List.setIfInBounds_toArray, List.set_cons_zero, List.set_cons_succ])
  (refine plan_val ?_ rfl rfl rfl (fun w' hS => ?_) ?_; rotate_left; (obtain ⟨X0, X1, X2, X3, X4, X5, Xf0, Xf1, Xf2, Xf3, Xf4, Xf5⟩ := row_six (row_call X hS); obtain ⟨Ya0, Ya1, Ya2, Ya3, Ya4, Ya5, Yaf0, Yaf1, Yaf2, Yaf3, Yaf4, Yaf5⟩ := row_six (row_call Ya hS); obtain ⟨Yb0, Yb1, Yb2, Yb3, Yb4, Yb5, Ybf0, Ybf1, Ybf2, Ybf3, Ybf4, Ybf5⟩ := row_six (row_call Yb hS); obtain ⟨Yc0, Yc1, Yc2, Yc3, Yc4, Yc5, Ycf0, Ycf1, Ycf2, Ycf3, Ycf4, Ycf5⟩ := row_six (row_call Yc hS); obtain ⟨Yd0, Yd1, Yd2, Yd3, Yd4, Yd5, Ydf0, Ydf1, Ydf2, Ydf3, Ydf4, Ydf5⟩ := row_six (row_call Yd hS); obtain ⟨Yp0, Yp1, Yp2, Yp3, Yp4, Yp5, Ypf0, Ypf1, Ypf2, Ypf3, Ypf4, Ypf5⟩ := row_six (row_call Yp hS); obtain ⟨Yq0, Yq1, Yq2, Yq3, Yq4, Yq5, Yqf0, Yqf1, Yqf2, Yqf3, Yqf4, Yqf5⟩ := row_six (row_call Yq hS); go_simp; try with_reducible rfl); simp only [Act.put, List.setIfInBounds_toArray, List.set_cons_zero, List.set_cons_succ])
  (refine plan_val ?_ rfl rfl rfl (fun w' hS => ?_) ?_; rotate_left; (obtain ⟨X0, X1, X2, X3, X4, X5, Xf0, Xf1, Xf2, Xf3, Xf4, Xf5⟩ := row_six (row_call X hS); obtain ⟨Ya0, Ya1, Ya2, Ya3, Ya4, Ya5, Yaf0, Yaf1, Yaf2, Yaf3, Yaf4, Yaf5⟩ := row_six (row_call Ya hS); obtain ⟨Yb0, Yb1, Yb2, Yb3, Yb4, Yb5, Ybf0, Ybf1, Ybf2, Ybf3, Ybf4, Ybf5⟩ := row_six (row_call Yb hS); obtain ⟨Yc0, Yc1, Yc2, Yc3, Yc4, Yc5, Ycf0, Ycf1, Ycf2, Ycf3, Ycf4, Ycf5⟩ := row_six (row_call Yc hS); obtain ⟨Yd0, Yd1, Yd2, Yd3, Yd4, Yd5, Ydf0, Ydf1, Ydf2, Ydf3, Ydf4, Ydf5⟩ := row_six (row_call Yd hS); obtain ⟨Yp0, Yp1, Yp2, Yp3, Yp4, Yp5, Ypf0, Ypf1, Ypf2, Ypf3, Ypf4, Ypf5⟩ := row_six (row_call Yp hS); obtain ⟨Yq0, Yq1, Yq2, Yq3, Yq4, Yq5, Yqf0, Yqf1, Yqf2, Yqf3, Yqf4, Yqf5⟩ := row_six (row_call Yq hS); go_simp; try with_reducible rfl); simp only [Act.put, List.setIfInBounds_toArray, List.set_cons_zero, List.set_cons_succ])
  refine plan_call (.bool true) 11 #[.agg #[.int .i64 rw, .int .i64 rk, .int .i64 rc, .int .i64 rn, .int .i64 rs, .slice A3 m3 c3], .agg #[.int .i64 rw, .int .i64 rk, .int .i64 rc, .int .i64 rn, .int .i64 rs, .slice A4 m4 c4]] rfl rfl rfl (fun _ _ h hb => h.trans (hb.mono h.size)) (fun w' hS => by obtain ⟨X0, X1, X2, X3, X4, X5, Xf0, Xf1, Xf2, Xf3, Xf4, Xf5⟩ := row_six (row_call X hS); obtain ⟨Ya0, Ya1, Ya2, Ya3, Ya4, Ya5, Yaf0, Yaf1, Yaf2, Yaf3, Yaf4, Yaf5⟩ := row_six (row_call Ya hS); obtain ⟨Yb0, Yb1, Yb2, Yb3, Yb4, Yb5, Ybf0, Ybf1, Ybf2, Ybf3, Ybf4, Ybf5⟩ := row_six (row_call Yb hS); obtain ⟨Yc0, Yc1, Yc2, Yc3, Yc4, Yc5, Ycf0, Ycf1, Ycf2, Ycf3, Ycf4, Ycf5⟩ := row_six (row_call Yc hS); obtain ⟨Yd0, Yd1, Yd2, Yd3, Yd4, Yd5, Ydf0, Ydf1, Ydf2, Ydf3, Ydf4, Ydf5⟩ := row_six (row_call Yd hS); obtain ⟨Yp0, Yp1, Yp2, Yp3, Yp4, Yp5, Ypf0, Ypf1, Ypf2, Ypf3, Ypf4, Ypf5⟩ := row_six (row_call Yp hS); obtain ⟨Yq0, Yq1, Yq2, Yq3, Yq4, Yq5, Yqf0, Yqf1, Yqf2, Yqf3, Yqf4, Yqf5⟩ := row_six (row_call Yq hS); go_simp) (fun w' hS => S1.out w' hS) ?_
  simp only [Act.put, List.setIfInBounds_toArray, List.set_cons_zero, List.set_cons_succ]
  (refine plan_pure ?_ rfl rfl (fun w' => ?_) ?_; rotate_left; (go_simp; try with_reducible rfl); simp only [Act.put, List.setIfInBounds_toArray, List.set_cons_zero, List.set_cons_succ])
  (refine plan_pure ?_ rfl rfl (fun w' => ?_) ?_; rotate_left; (go_simp; try with_reducible rfl); simp only [Act.put, List.setIfInBounds_toArray, List.set_cons_zero, List.set_cons_succ])
  (refine plan_pure ?_ rfl rfl (fun w' => ?_) ?_; rotate_left; (go_simp; try with_reducible rfl); simp only [Act.put, List.setIfInBounds_toArray, List.set_cons_zero, List.set_cons_succ])
  (refine plan_pure ?_ rfl rfl (fun w' => ?_) ?_; rotate_left; (go_simp; try with_reducible rfl); simp only [Act.put, List.setIfInBounds_toArray, List.set_cons_zero, List.set_cons_succ])
  (refine plan_pure ?_ rfl rfl (fun w' => ?_) ?_; rotate_left; (go_simp; try with_reducible rfl); simp only [Act.put, List.setIfInBounds_toArray, List.set_cons_zero, List.set_cons_succ])
  (refine plan_pure ?_ rfl rfl (fun w' => ?_) ?_; rotate_left; (go_simp; try with_reducible rfl); simp only [Act.put, List.setIfInBounds_toArray, List.set_cons_zero, List.set_cons_succ])
  (refine plan_pure ?_ rfl rfl (fun w' => ?_) ?_; rotate_left; (go_simp; try with_reducible rfl); simp only [Act.put, List.setIfInBounds_toArray, List.set_cons_zero, List.set_cons_succ])
  (refine plan_val ?_ rfl rfl rfl (fun w' hS => ?_) ?_; rotate_left; (obtain ⟨X0, X1, X2, X3, X4, X5, Xf0, Xf1, Xf2, Xf3, Xf4, Xf5⟩ := row_six (row_call X hS); obtain ⟨Ya0, Ya1, Ya2, Ya3, Ya4, Ya5, Yaf0, Yaf1, Yaf2, Yaf3, Yaf4, Yaf5⟩ := row_six (row_call Ya hS); obtain ⟨Yb0, Yb1, Yb2, Yb3, Yb4, Yb5, Ybf0, Ybf1, Ybf2, Ybf3, Ybf4, Ybf5⟩ := row_six (row_call Yb hS); obtain ⟨Yc0, Yc1, Yc2, Yc3, Yc4, Yc5, Ycf0, Ycf1, Ycf2, Ycf3, Ycf4, Ycf5⟩ := row_six (row_call Yc hS); obtain ⟨Yd0, Yd1, Yd2, Yd3, Yd4, Yd5, Ydf0, Ydf1, Ydf2, Ydf3, Ydf4, Ydf5⟩ := row_six (row_call Yd hS); obtain ⟨Yp0, Yp1, Yp2, Yp3, Yp4, Yp5, Ypf0, Ypf1, Ypf2, Ypf3, Ypf4, Ypf5⟩ := row_six (row_call Yp hS); obtain ⟨Yq0, Yq1, Yq2, Yq3, Yq4, Yq5, Yqf0, Yqf1, Yqf2, Yqf3, Yqf4, Yqf5⟩ := row_six (row_call Yq hS); go_simp; try with_reducible rfl); simp only [Act.put, List.setIfInBounds_toArray, List.set_cons_zero, List.set_cons_succ])
  (refine plan_val ?_ rfl rfl rfl (fun w' hS => ?_) ?_; rotate_left; (obtain ⟨X0, X1, X2, X3, X4, X5, Xf0, Xf1, Xf2, Xf3, Xf4, Xf5⟩ := row_six (row_call X hS); obtain ⟨Ya0, Ya1, Ya2, Ya3, Ya4, Ya5, Yaf0, Yaf1, Yaf2, Yaf3, Yaf4, Yaf5⟩ := row_six (row_call Ya hS); obtain ⟨Yb0, Yb1, Yb2, Yb3, Yb4, Yb5, Ybf0, Ybf1, Ybf2, Ybf3, Ybf4, Ybf5⟩ := row_six (row_call Yb hS); obtain ⟨Yc0, Yc1, Yc2, Yc3, Yc4, Yc5, Ycf0, Ycf1, Ycf2, Ycf3, Ycf4, Ycf5⟩ := row_six (row_call Yc hS); obtain ⟨Yd0, Yd1, Yd2, Yd3, Yd4, Yd5, Ydf0, Ydf1, Ydf2, Ydf3, Ydf4, Ydf5⟩ := row_six (row_call Yd hS); obtain ⟨Yp0, Yp1, Yp2, Yp3, Yp4, Yp5, Ypf0, Ypf1, Ypf2, Ypf3, Ypf4, Ypf5⟩ := row_six (row_call Yp hS); obtain ⟨Yq0, Yq1, Yq2, Yq3, Yq4, Yq5, Yqf0, Yqf1, Yqf2, Yqf3, Yqf4, Yqf5⟩ := row_six (row_call Yq hS); go_simp; try with_reducible rfl); simp only [Act.put, List.setIfInBounds_toArray, List.set_cons_zero, List.set_cons_succ])
  refine plan_call (.bool true) 11 #[.agg #[.int .i64 sw, .int .i64 sk, .int .i64 sc, .int .i64 sn, .int .i64 ss, .slice A5 m5 c5], .agg #[.int .i64 sw, .int .i64 sk, .int .i64 sc, .int .i64 sn, .int .i64 ss, .slice A6 m6 c6]] rfl rfl rfl (fun _ _ h hb => h.trans (hb.mono h.size)) (fun w' hS => by obtain ⟨X0, X1, X2, X3, X4, X5, Xf0, Xf1, Xf2, Xf3, Xf4, Xf5⟩ := row_six (row_call X hS); obtain ⟨Ya0, Ya1, Ya2, Ya3, Ya4, Ya5, Yaf0, Yaf1, Yaf2, Yaf3, Yaf4, Yaf5⟩ := row_six (row_call Ya hS); obtain ⟨Yb0, Yb1, Yb2, Yb3, Yb4, Yb5, Ybf0, Ybf1, Ybf2, Ybf3, Ybf4, Ybf5⟩ := row_six (row_call Yb hS); obtain ⟨Yc0, Yc1, Yc2, Yc3, Yc4, Yc5, Ycf0, Ycf1, Ycf2, Ycf3, Ycf4, Ycf5⟩ := row_six (row_call Yc hS); obtain ⟨Yd0, Yd1, Yd2, Yd3, Yd4, Yd5, Ydf0, Ydf1, Ydf2, Ydf3, Ydf4, Ydf5⟩ := row_six (row_call Yd hS); obtain ⟨Yp0, Yp1, Yp2, Yp3, Yp4, Yp5, Ypf0, Ypf1, Ypf2, Ypf3, Ypf4, Ypf5⟩ := row_six (row_call Yp hS); obtain ⟨Yq0, Yq1, Yq2, Yq3, Yq4, Yq5, Yqf0, Yqf1, Yqf2, Yqf3, Yqf4, Yqf5⟩ := row_six (row_call Yq hS); go_simp) (fun w' hS => S2.out w' hS) ?_
  simp only [Act.put, List.setIfInBounds_toArray, List.set_cons_zero, List.set_cons_succ]
  (refine plan_pure ?_ rfl rfl (fun w' => ?_) ?_; rotate_left; (go_simp; try with_reducible rfl); simp only [Act.put, List.setIfInBounds_toArray, List.set_cons_zero, List.set_cons_succ])
  (refine plan_pure ?_ rfl rfl (fun w' => ?_) ?_; rotate_left; (go_simp; try with_reducible rfl); simp only [Act.put, List.setIfInBounds_toArray, List.set_cons_zero, List.set_cons_succ])
  (refine plan_pure ?_ rfl rfl (fun w' => ?_) ?_; rotate_left; (go_simp; try with_reducible rfl); simp only [Act.put, List.setIfInBounds_toArray, List.set_cons_zero, List.set_cons_succ])
  (refine plan_pure ?_ rfl rfl (fun w' => ?_) ?_; rotate_left; (go_simp; try with_reducible rfl); simp only [Act.put, List.setIfInBounds_toArray, List.set_cons_zero, List.set_cons_succ])
  (refine plan_pure ?_ rfl rfl (fun w' => ?_) ?_; rotate_left; (go_simp; try with_reducible rfl); simp only [Act.put, List.setIfInBounds_toArray, List.set_cons_zero, List.set_cons_succ])
  (refine plan_pure ?_ rfl rfl (fun w' => ?_) ?_; rotate_left; (go_simp; try with_reducible rfl); simp only [Act.put, List.setIfInBounds_toArray, List.set_cons_zero, List.set_cons_succ])
  (refine plan_pure ?_ rfl rfl (fun w' => ?_) ?_; rotate_left; (go_simp; try with_reducible rfl); simp only [Act.put, List.setIfInBounds_toArray, List.set_cons_zero, List.set_cons_succ])
  (refine plan_val ?_ rfl rfl rfl (fun w' hS => ?_) ?_; rotate_left; (obtain ⟨X0, X1, X2, X3, X4, X5, Xf0, Xf1, Xf2, Xf3, Xf4, Xf5⟩ := row_six (row_call X hS); obtain ⟨Ya0, Ya1, Ya2, Ya3, Ya4, Ya5, Yaf0, Yaf1, Yaf2, Yaf3, Yaf4, Yaf5⟩ := row_six (row_call Ya hS); obtain ⟨Yb0, Yb1, Yb2, Yb3, Yb4, Yb5, Ybf0, Ybf1, Ybf2, Ybf3, Ybf4, Ybf5⟩ := row_six (row_call Yb hS); obtain ⟨Yc0, Yc1, Yc2, Yc3, Yc4, Yc5, Ycf0, Ycf1, Ycf2, Ycf3, Ycf4, Ycf5⟩ := row_six (row_call Yc hS); obtain ⟨Yd0, Yd1, Yd2, Yd3, Yd4, Yd5, Ydf0, Ydf1, Ydf2, Ydf3, Ydf4, Ydf5⟩ := row_six (row_call Yd hS); obtain ⟨Yp0, Yp1, Yp2, Yp3, Yp4, Yp5, Ypf0, Ypf1, Ypf2, Ypf3, Ypf4, Ypf5⟩ := row_six (row_call Yp hS); obtain ⟨Yq0, Yq1, Yq2, Yq3, Yq4, Yq5, Yqf0, Yqf1, Yqf2, Yqf3, Yqf4, Yqf5⟩ := row_six (row_call Yq hS); go_simp; try with_reducible rfl); simp only [Act.put, List.setIfInBounds_toArray, List.set_cons_zero, List.set_cons_succ])
  (refine plan_val ?_ rfl rfl rfl (fun w' hS => ?_) ?_; rotate_left; (obtain ⟨X0, X1, X2, X3, X4, X5, Xf0, Xf1, Xf2, Xf3, Xf4, Xf5⟩ := row_six (row_call X hS); obtain ⟨Ya0, Ya1, Ya2, Ya3, Ya4, Ya5, Yaf0, Yaf1, Yaf2, Yaf3, Yaf4, Yaf5⟩ := row_six (row_call Ya hS); obtain ⟨Yb0, Yb1, Yb2, Yb3, Yb4, Yb5, Ybf0, Ybf1, Ybf2, Ybf3, Ybf4, Ybf5⟩ := row_six (row_call Yb hS); obtain ⟨Yc0, Yc1, Yc2, Yc3, Yc4, Yc5, Ycf0, Ycf1, Ycf2, Ycf3, Ycf4, Ycf5⟩ := row_six (row_call Yc hS); obtain ⟨Yd0, Yd1, Yd2, Yd3, Yd4, Yd5, Ydf0, Ydf1, Ydf2, Ydf3, Ydf4, Ydf5⟩ := row_six (row_call Yd hS); obtain ⟨Yp0, Yp1, Yp2, Yp3, Yp4, Yp5, Ypf0, Ypf1, Ypf2, Ypf3, Ypf4, Ypf5⟩ := row_six (row_call Yp hS); obtain ⟨Yq0, Yq1, Yq2, Yq3, Yq4, Yq5, Yqf0, Yqf1, Yqf2, Yqf3, Yqf4, Yqf5⟩ := row_six (row_call Yq hS); go_simp; try with_reducible rfl); simp only [Act.put, List.setIfInBounds_toArray, List.set_cons_zero, List.set_cons_succ])
  (refine plan_pure ?_ rfl rfl (fun w' => ?_) ?_; rotate_left; (go_simp; try with_reducible rfl); simp only [Act.put, List.setIfInBounds_toArray, List.set_cons_zero, List.set_cons_succ])
  (refine plan_pure ?_ rfl rfl (fun w' => ?_) ?_; rotate_left; (go_simp; try with_reducible rfl); simp only [Act.put, List.setIfInBounds_toArray, List.set_cons_zero, List.set_cons_succ])
  (refine plan_pure ?_ rfl rfl (fun w' => ?_) ?_; rotate_left; (go_simp; try with_reducible rfl); simp only [Act.put, List.setIfInBounds_toArray, List.set_cons_zero, List.set_cons_succ])
  (refine plan_pure ?_ rfl rfl (fun w' => ?_) ?_; rotate_left; (go_simp; try with_reducible rfl); simp only [Act.put, List.setIfInBounds_toArray, List.set_cons_zero, List.set_cons_succ])
  (refine plan_pure ?_ rfl rfl (fun w' => ?_) ?_; rotate_left; (go_simp; try with_reducible rfl); simp only [Act.put, List.setIfInBounds_toArray, List.set_cons_zero, List.set_cons_succ])
  (refine plan_pure ?_ rfl rfl (fun w' => ?_) ?_; rotate_left; (go_simp; try with_reducible rfl); simp only [Act.put, List.setIfInBounds_toArray, List.set_cons_zero, List.set_cons_succ])
  (refine plan_pure ?_ rfl rfl (fun w' => ?_) ?_; rotate_left; (go_simp; try with_reducible rfl); simp only [Act.put, List.setIfInBounds_toArray, List.set_cons_zero, List.set_cons_succ])
  (refine plan_pure ?_ rfl rfl (fun w' => ?_) ?_; rotate_left; (go_simp; try with_reducible rfl); simp only [Act.put, List.setIfInBounds_toArray, List.set_cons_zero, List.set_cons_succ])
  refine plan_call (.bool true) 14 #[] rfl rfl rfl (fun _ _ h hb => h.trans (hb.mono h.size)) (fun w' hS => by obtain ⟨X0, X1, X2, X3, X4, X5, Xf0, Xf1, Xf2, Xf3, Xf4, Xf5⟩ := row_six (row_call X hS); obtain ⟨Ya0, Ya1, Ya2, Ya3, Ya4, Ya5, Yaf0, Yaf1, Yaf2, Yaf3, Yaf4, Yaf5⟩ := row_six (row_call Ya hS); obtain ⟨Yb0, Yb1, Yb2, Yb3, Yb4, Yb5, Ybf0, Ybf1, Ybf2, Ybf3, Ybf4, Ybf5⟩ := row_six (row_call Yb hS); obtain ⟨Yc0, Yc1, Yc2, Yc3, Yc4, Yc5, Ycf0, Ycf1, Ycf2, Ycf3, Ycf4, Ycf5⟩ := row_six (row_call Yc hS); obtain ⟨Yd0, Yd1, Yd2, Yd3, Yd4, Yd5, Ydf0, Ydf1, Ydf2, Ydf3, Ydf4, Ydf5⟩ := row_six (row_call Yd hS); obtain ⟨Yp0, Yp1, Yp2, Yp3, Yp4, Yp5, Ypf0, Ypf1, Ypf2, Ypf3, Ypf4, Ypf5⟩ := row_six (row_call Yp hS); obtain ⟨Yq0, Yq1, Yq2, Yq3, Yq4, Yq5, Yqf0, Yqf1, Yqf2, Yqf3, Yqf4, Yqf5⟩ := row_six (row_call Yq hS); go_simp) (fun w' hS => awake14 w') ?_
  simp only [Act.put, List.setIfInBounds_toArray, List.set_cons_zero, List.set_cons_succ]
  (refine plan_pure ?_ rfl rfl (fun w' => ?_) ?_; rotate_left; (go_simp; try with_reducible rfl); simp only [Act.put, List.setIfInBounds_toArray, List.set_cons_zero, List.set_cons_succ])
  refine plan_nil ?_
  intro w9 L
  simp only [List.drop_succ_cons, List.drop_zero]
  try simp only [Act.put, List.setIfInBounds_toArray, List.set_cons_zero, List.set_cons_succ]
  have o2 := OW.out.trans (L.mono OW.out.size)
  clear L X Ya Yb Yc Yd Yp Yq OW VP VR S1 S2
  go_wp2
  go_ret
  exact ⟨rfl, o2⟩
theorem spreadStates (A : Option Addr) (m c : Nat) (l : List Mk) (wd k cap now seq : Int) (tt v : Int) (w : World) (hin : MIn A m c l w) (sB : I64 seq) : Calls Try.prog 7 #[.agg #[.int .i64 wd, .int .i64 k, .int .i64 cap, .int .i64 now, .int .i64 seq, .slice A m c], .int .i64 tt, .int .i64 v] w fun e w' => e = .returned (.bool true) ∧ Below w.heap.size w w' := by
  by_cases hm : m ≤ 300
  · exact spreadStates_yes A m c l wd k cap now seq tt v w hin sB hm
  · exact spreadStates_no A m c l wd k cap now seq tt v w hm
end Go.Proofs.Ytaiepjcnncajcaa
end
section
/- A state opened to what it reads (open_slice_fields is the guide's, extra-structs.md, copied as that page bids). -/
set_option linter.unusedVariables false
set_option linter.unusedSimpArgs false
set_option linter.unusedSectionVars false
set_option linter.unnecessarySimpa false
namespace Go.Proofs.Ytaiepjcnncajcaa
open Go.ChangeShapes Go.WideShapes Go.Deep Go.RowKit Go.Joins
section
variable {H : Type} {enc : TypeId × Value → H} {P : Program} {w : World} {base : Nat} {spare : Nat → Bool} {held : Bool}
theorem open_slice_fields {t e : TypeId} {fs : Array Field} {fuel : Nat} {cs : List Value} {x : DataW H × List MemPlace} (ht : P.underlying t = some (.slice e)) (he : P.underlying e = some (.struct fs))
    (hone : oneCellFields P fs = true) (hC : P.cellsOf e = fs.size) (h : DataW.trod enc P w base spare held fuel t cs = some x) :
    (cs = [.slice none 0 0] ∧ x = (.nil, [])) ∨
    ∃ (a : Addr) (len cap m : Nat) (D : Nat → DataW H) (Pl : Nat → List MemPlace), cs = [.slice (some a) len cap] ∧ base ≤ a.block ∧ len ≤ cap ∧ cap ≤ maxLen ∧ m = (if spare a.block then cap else len) ∧
      x = (.slice ((List.range len).map D) ((List.range (m - len)).map fun j => D (len + j)), MemPlace.row a (m * fs.size) ++ (List.range m).flatMap Pl) ∧
      ∀ i, i < m → ∃ (ys : List (DataW H × List MemPlace)) (n : Nat), D i = .agg (ys.map (·.1)) ∧ Pl i = ys.flatMap (·.2) ∧ ys.length = fs.size ∧
        ∀ (j : Nat) (f : Field), fs[j]? = some f → ∃ (v : Value) (y : DataW H × List MemPlace), w.cell? (a.add (i * fs.size + j)) = some v ∧ ys[j]? = some y ∧ DataW.trod enc P w base spare held n f.type [v] = some y := by
  rcases open_slice ht h with h0 | ⟨a, len, cap, m, n, D, Pl, hcs, hb, hl, hm, hmm, hx, hi⟩
  · exact .inl h0
  · refine .inr ⟨a, len, cap, m, D, Pl, hcs, hb, hl, hm, hmm, by rw [hC] at hx; exact hx, fun i him => ?_⟩
    obtain ⟨cs', hc, ht'⟩ := hi i him
    rw [hC] at hc
    obtain ⟨ys, n', hn', hy, hlen, hyl, hf⟩ := DataW.trod_struct he ht'
    obtain ⟨_, hcl, hat⟩ := World.cells?_some hc
    simp only [Prod.mk.injEq] at hy
    refine ⟨ys, n', hy.1, hy.2, hyl, fun j f hj => ?_⟩
    obtain ⟨ho, hk⟩ := hone_of hone j f hj
    have hjl : j < fs.size := (Array.getElem?_eq_some_iff.1 hj).1
    have hcell := hat j hjl
    have hv : cs'[j]? = some (cs'[j]'(by omega)) := List.getElem?_eq_getElem (by omega)
    have h1 := hf j f hj
    rw [ho, hk] at h1
    have hone' : (cs'.drop j).take 1 = [cs'[j]'(by omega)] := by
      rw [List.drop_eq_getElem_cons (by omega)]
      rfl
    rw [hone'] at h1
    have hys : ys[j]? = some (ys[j]'(by omega)) := List.getElem?_eq_getElem (by omega)
    refine ⟨_, _, ?_, hys, h1.trans hys⟩
    rw [← Go.Deep.add_add, hcell, hv]
end


theorem cellsI : Try.prog.cellsOf 2 = 1 := by kernel_rfl
theorem cellsJ : Try.prog.cellsOf 3 = 1 := by kernel_rfl
theorem cellsM : Try.prog.cellsOf 33 = 7 := by kernel_rfl
theorem cellsMs : Try.prog.cellsOf 22 = 1 := by kernel_rfl
theorem i64_wf3 {x : Int} (h : (Lit.int .i64 x).wf = true) : I64 x := by
  simp [Lit.wf, IntKind.min, IntKind.max, IntKind.signed, IntKind.bits] at h
  exact ⟨by omega, by omega⟩
theorem list6 {α : Type} {l : List α} (h : l.length = 6) : ∃ a b c d e f, l = [a, b, c, d, e, f] := by
  match l, h with
  | [a, b, c, d, e, f], _ => exact ⟨a, b, c, d, e, f, rfl⟩
section
variable {H : Type} {enc : TypeId × Value → H} {W : World}
theorem mk_left {l : List Mk} {t : Mk} {i : Nat} (h : i < l.length) : mkAt (l ++ [t]) i = mkAt l i := mkAt_append_left h
theorem mk_last {l : List Mk} {t : Mk} : mkAt (l ++ [t]) l.length = t := by
  rw [mkAt_append_right (Nat.le_refl _), Nat.sub_self]
  rfl
theorem mks_of {P : Nat → Mk → Prop} : ∀ n, (∀ i, i < n → ∃ x, P i x) → ∃ l : List Mk, l.length = n ∧ ∀ i, i < n → P i (mkAt l i)
  | 0, _ => ⟨[], rfl, fun i h => absurd h (by omega)⟩
  | n + 1, h => by
    obtain ⟨l, h1, h2⟩ := mks_of n (fun i hi => h i (by omega))
    obtain ⟨x, hx⟩ := h n (by omega)
    refine ⟨l ++ [x], by simp [h1], fun i hi => ?_⟩
    by_cases c : i < n
    · rw [mk_left (by omega)]
      exact h2 i c
    · obtain rfl : i = l.length := by omega
      rw [mk_last, h1]
      exact hx
theorem mks_open {fuel : Nat} {v : Value} {y : DataW H × List MemPlace} (hf : DataW.trod enc Try.prog W 0 (fun _ => true) true fuel 22 [v] = some y) :
    ∃ A m c l, v = .slice A m c ∧ MIn A m c l W := by
  rcases open_slice_fields Try.underlying22 Try.underlying33 (by kernel_rfl) cellsM hf with ⟨h1, _⟩ | ⟨a', len, cap, m, D, Pl, h1, _, hl, hc, hm0, _, hi⟩
  · obtain rfl : v = .slice none 0 0 := by simpa using h1
    exact ⟨none, 0, 0, [], rfl, by simpa [mcells_nil] using Reads.none_, fun i => by unfold mkAt; simp; exact M64_zero, Nat.le_refl _, Nat.zero_le _⟩
  · obtain rfl : v = .slice (some a') len cap := by simpa using h1
    have hm : len ≤ m := by
      rw [hm0, if_pos rfl]
      exact hl
    have hh : ∀ i, i < len → ∃ x : Mk, (W.cell? (a'.add (i * 7)) = some (.int .i64 x.seq) ∧ W.cell? (a'.add (i * 7 + 1)) = some (.int .i64 x.t) ∧ W.cell? (a'.add (i * 7 + 2)) = some (.int .i64 x.n) ∧ W.cell? (a'.add (i * 7 + 3)) = some (.int .i64 x.s) ∧ W.cell? (a'.add (i * 7 + 4)) = some (.int .i64 x.q) ∧ W.cell? (a'.add (i * 7 + 5)) = some (.int .i64 x.lo) ∧ W.cell? (a'.add (i * 7 + 6)) = some (.int .i64 x.hi)) ∧ M64 x := by
      intro i hi'
      obtain ⟨ys, n, _, _, _, hf⟩ := hi i (by omega)
      obtain ⟨v0, y0, c0, _, t0⟩ := hf 0 _ rfl
      obtain ⟨v1, y1, c1, _, t1⟩ := hf 1 _ rfl
      obtain ⟨v2, y2, c2, _, t2⟩ := hf 2 _ rfl
      obtain ⟨v3, y3, c3, _, t3⟩ := hf 3 _ rfl
      obtain ⟨v4, y4, c4, _, t4⟩ := hf 4 _ rfl
      obtain ⟨v5, y5, c5, _, t5⟩ := hf 5 _ rfl
      obtain ⟨v6, y6, c6, _, t6⟩ := hf 6 _ rfl
      obtain ⟨x0, e0, _, w0⟩ := DataW.trod_int Try.underlying2 t0
      obtain ⟨x1, e1, _, w1⟩ := DataW.trod_int Try.underlying2 t1
      obtain ⟨x2, e2, _, w2⟩ := DataW.trod_int Try.underlying2 t2
      obtain ⟨x3, e3, _, w3⟩ := DataW.trod_int Try.underlying2 t3
      obtain ⟨x4, e4, _, w4⟩ := DataW.trod_int Try.underlying2 t4
      obtain ⟨x5, e5, _, w5⟩ := DataW.trod_int Try.underlying2 t5
      obtain ⟨x6, e6, _, w6⟩ := DataW.trod_int Try.underlying2 t6
      simp at e0 e1 e2 e3 e4 e5 e6
      subst e0 e1 e2 e3 e4 e5 e6
      exact ⟨⟨x0, x1, x2, x3, x4, x5, x6⟩, ⟨c0, c1, c2, c3, c4, c5, c6⟩, i64_wf3 w0, i64_wf3 w1, i64_wf3 w2, i64_wf3 w3, i64_wf3 w4, i64_wf3 w5, i64_wf3 w6⟩
    obtain ⟨l, hl1, hl2⟩ := mks_of len hh
    have hb : ∀ i, M64 (mkAt l i) := by
      intro i
      by_cases c : i < len
      · exact (hl2 i c).2
      · have : mkAt l i = Mk.zero := by unfold mkAt; rw [List.getD_eq_getElem?_getD, List.getElem?_eq_none (by omega)]; rfl
        rw [this]
        exact M64_zero
    refine ⟨some a', len, cap, l, rfl, ⟨by rw [mcells_len, hl1], fun h0 => ⟨a', rfl, ?_, fun j u hu => ?_⟩⟩, hb, hl, hc⟩
    · have := World.block_lt_of_cell? W _ (hl2 0 h0).1.1
      rw [block_of_add] at this
      exact this
    · have hj : j < len * 7 := by
        have := (List.getElem?_eq_some_iff.1 hu).1
        rw [mcells_len, hl1] at this
        exact this
      have hat := mcells_at l (j / 7) (by omega)
      have hcl := (hl2 (j / 7) (by omega)).1
      have h3 : j % 7 = 0 ∨ j % 7 = 1 ∨ j % 7 = 2 ∨ j % 7 = 3 ∨ j % 7 = 4 ∨ j % 7 = 5 ∨ j % 7 = 6 := by omega
      rcases h3 with hp | hp | hp | hp | hp | hp | hp
      · have e : j / 7 * 7 = j := by omega
        rw [e] at hat hcl
        rw [hu] at hat
        rw [hcl.1, hat.1]
      · have e : j / 7 * 7 + 1 = j := by omega
        rw [e] at hat hcl
        rw [hu] at hat
        rw [hcl.2.1, hat.2.1]
      · have e : j / 7 * 7 + 2 = j := by omega
        rw [e] at hat hcl
        rw [hu] at hat
        rw [hcl.2.2.1, hat.2.2.1]
      · have e : j / 7 * 7 + 3 = j := by omega
        rw [e] at hat hcl
        rw [hu] at hat
        rw [hcl.2.2.2.1, hat.2.2.2.1]
      · have e : j / 7 * 7 + 4 = j := by omega
        rw [e] at hat hcl
        rw [hu] at hat
        rw [hcl.2.2.2.2.1, hat.2.2.2.2.1]
      · have e : j / 7 * 7 + 5 = j := by omega
        rw [e] at hat hcl
        rw [hu] at hat
        rw [hcl.2.2.2.2.2.1, hat.2.2.2.2.2.1]
      · have e : j / 7 * 7 + 6 = j := by omega
        rw [e] at hat hcl
        rw [hu] at hat
        rw [hcl.2.2.2.2.2.2, hat.2.2.2.2.2.2]
theorem cellsspread : Try.prog.cellsOf 24 = 6 := by kernel_rfl
set_option maxRecDepth 100000 in
theorem spread_open {r : Reach} {b0 : Nat} {v : Value} {d : DataW H} {p : List MemPlace} (hv : Value.okWide Try.prog W r b0 24 v) (h : DataW.Trod enc Try.prog W 0 (fun _ => true) true 24 v d p) :
    ∃ (x0 x1 x2 x3 x4 : Int) (A : Option Addr) (m c : Nat) (l : List Mk), v = .agg #[.int .i64 x0, .int .i64 x1, .int .i64 x2, .int .i64 x3, .int .i64 x4, .slice A m c] ∧ MIn A m c l W ∧ I64 x0 ∧ I64 x1 ∧ I64 x2 ∧ I64 x3 ∧ I64 x4 := by
  obtain ⟨⟨l⟩, rfl, hsz⟩ := okWide_struct Try.underlying24 hv
  obtain ⟨c0, c1, c2, c3, c4, c5, rfl⟩ := list6 (show l.length = 6 from hsz.trans cellsspread)
  obtain ⟨fuel, hf⟩ := h
  obtain ⟨xs, n, _, hx, hl, hlen, hfs⟩ := DataW.trod_struct Try.underlying24 hf
  obtain ⟨y0, y1, y2, y3, y4, y5, rfl⟩ := list6 (show xs.length = 6 from hlen)
  have e0 := hfs 0 _ rfl
  have e1 := hfs 1 _ rfl
  have e2 := hfs 2 _ rfl
  have e3 := hfs 3 _ rfl
  have e4 := hfs 4 _ rfl
  have e5 := hfs 5 _ rfl
  simp [Value.cells, cellsI, cellsJ, cellsMs] at e0 e1 e2 e3 e4 e5
  obtain ⟨x0, z0, _, w0⟩ := DataW.trod_int Try.underlying2 e0
  obtain ⟨x1, z1, _, w1⟩ := DataW.trod_int Try.underlying3 e1
  obtain ⟨x2, z2, _, w2⟩ := DataW.trod_int Try.underlying3 e2
  obtain ⟨x3, z3, _, w3⟩ := DataW.trod_int Try.underlying2 e3
  obtain ⟨x4, z4, _, w4⟩ := DataW.trod_int Try.underlying2 e4
  obtain ⟨A, m, c, l, rfl, hin⟩ := mks_open e5
  simp at z0 z1 z2 z3 z4
  subst z0 z1 z2 z3 z4
  exact ⟨x0, x1, x2, x3, x4, A, m, c, l, rfl, hin, i64_wf3 w0, i64_wf3 w1, i64_wf3 w2, i64_wf3 w3, i64_wf3 w4⟩
end
end Go.Proofs.Ytaiepjcnncajcaa
end
section
/- The law SpreadStates of the given program: for every input the call returns true, and each argument reads behind the call as it read before. No conditions. -/
set_option linter.unusedVariables false
set_option linter.unusedSimpArgs false
set_option linter.unusedSectionVars false
set_option linter.unnecessarySimpa false
namespace Go.Proofs.Ytaiepjcnncajcaa.lSpreadStates
open Go.ChangeShapes Go.WideShapes Go.ChangeAt Go.RowKit Go.Joins Go.WideMaps Go.WideElems Go.Deep

theorem own : ownKnob Try.prog.godebug = none := by kernel_rfl
theorem laid_out : laidOutB Try.prog = true := by kernel_rfl
theorem readable : (Try.f7.params.toList.all fun t => Try.prog.readableRec t && decide (t < Try.prog.types.size)) = true := by kernel_rfl
set_option maxRecDepth 100000 in
theorem lifted (os : Os) (started : os.Started) (H : Type) (enc : TypeId × Value → H) :
    ReturnsInHanded {} Try.checked os 7 .any (Rows.spreadStatesSpec.pre6 enc Try.prog Try.f7 Rows.spreadStatesRow.domain false) (Rows.spreadStatesSpec.post enc Try.prog Try.f7 false true false false) := by
  refine returnsInHanded_of_change (C := Try.checked) own started (by kernel_rfl) Try.func7
    (ChangeSpec.witness6 (enc := enc) (C := Try.checked) false ⟨#[], #[.agg #[.int .i64 0, .int .i64 0, .int .i64 0, .int .i64 0, .int .i64 0, .slice none 0 0], .int .i64 0, .int .i64 0], []⟩ 8 (by kernel_rfl) (by kernel_rfl) (by kernel_rfl) (by kernel_rfl)) ?_
  intro W base args ds gs before hval0 hW hcnd _
  have hval : ∀ (j : Nat) t v, Try.f7.params[j]? = some t → args[j]? = some v → Value.okWide Try.prog W .any base t v := hval0
  have hW' := hW
  obtain ⟨p, q, hA0, hV, rfl, hfz, hnd⟩ := hW
  have hA : DataW.TrodAll enc Try.prog W 0 (fun _ => true) true Try.f7.params.toList args.toList ds p := hA0
  have hAA := hA
  rw [Try.params7] at hA hval
  obtain ⟨v0, v1, v2, d0, d1, d2, p0, p1, p2, rfl, rfl, rfl, h0, h1, h2⟩ := trodAll_three hA
  obtain ⟨rfl, rfl⟩ := trodVars_none hV
  obtain ⟨a0_0, a0_1, a0_2, a0_3, a0_4, A0, m0, c0, l0, rfl, hin0, _, _, _, _, sb0⟩ := spread_open (hval 0 24 v0 rfl rfl) h0
  obtain ⟨x1, rfl, rfl, rfl, wx1⟩ := open_int Try.underlying2 (hval 1 2 v1 rfl rfl) h1
  obtain ⟨x2, rfl, rfl, rfl, wx2⟩ := open_int Try.underlying2 (hval 2 2 v2 rfl rfl) h2
  clear hA0 hval0
  refine (spreadStates A0 m0 c0 l0 a0_0 a0_1 a0_2 a0_3 a0_4 x1 x2 W hin0 sb0).mono fun e W' ⟨he, hb⟩ => ?_
  subst he
  refine ⟨_, rfl, post_of_below (pa := _) (pv := []) hW' (fun _ _ _ => trodAll_mk1 (shut_bool Try.underlying4 _)) (fun sp hsp => ?_) (fun _ _ => rfl) rfl hb (ok_one (by kernel_rfl) rfl (okWide_bool_mk Try.underlying4 _))⟩
  exact trodAll_stays laid_out hb (fun t ht => by have := List.all_eq_true.1 readable t ht; simpa using this) hAA (fun x hx => hW'.lt x (List.mem_append_left _ hx)) (fun x hx => hsp x (List.mem_append_left _ hx))

theorem holds : Rows.SpreadStatesSaid :=
  OpenClaim.holds_of_wide 7 Try.f7 rfl rfl rfl rfl rfl rfl rfl ⟨rfl, rfl, rfl, rfl, rfl⟩ rfl rfl rfl rfl rfl (by kernel_rfl) Try.func7 (by kernel_rfl)
    (of_decide_eq_true (by kernel_rfl)) (by unfold Func.isWrapper; first | (rw [if_pos (by decide +kernel)]; kernel_rfl) | (rw [if_neg (by decide +kernel)]; exact ⟨rfl, rfl⟩))
    (fun os started H enc _ => lifted os started H enc)
#print axioms holds
end Go.Proofs.Ytaiepjcnncajcaa.lSpreadStates
end
