/- Counters with polynomial decay: comparing two; the example; the laws of the empty counters and of states, walked. -/
import Derived.Test.YtejoomlaanmbkaaPolyD
namespace Go.Proofs.Ytejoomlaanmbkaa
open Go.RowKit Go.Shelf
/-- What a call leaves: a counter and an error. -/
def PAny (r : POut) (w : World) (e : Ending) (w' : World) : Prop :=
  ∃ A n c, e = .returned (.tuple #[.agg #[.int .i64 r.p, .int .i64 r.land, .int .i64 r.now, .slice A n c], .int .i64 r.f]) ∧ PIn r.p r.land r.now A n c r.ms w' ∧ Below w.heap.size w w'
theorem PRet.any {r : POut} {w w' : World} {e : Ending} (h : PRet r w e w') : PAny r w e w' := by
  obtain ⟨A, n, c, h1, h2, h3, _⟩ := h
  exact ⟨A, n, c, h1, h2, h3⟩
theorem pany_at {r : POut} {p land now f : Int} {ms : List Nat} {w w' : World} {e : Ending} (hr : r = ⟨p, land, now, ms, f⟩) (h : PAny r w e w') :
    ∃ A n c, e = .returned (.tuple #[.agg #[.int .i64 p, .int .i64 land, .int .i64 now, .slice A n c], .int .i64 f]) ∧ PIn p land now A n c ms w' ∧ Below w.heap.size w w' := by
  subst hr
  exact h
theorem rpadv (p land now : Int) (A : Option Addr) (n c : Nat) (ms : List Nat) (to : Int) (w : World) (hin : PIn p land now A n c ms w) : Calls Try.prog 15 #[.agg #[.int .i64 p, .int .i64 land, .int .i64 now, .slice A n c], .int .i64 to] w fun e w' => PAny (qadv p land now ms to) w e w' := by
  rcases pvalE_two (p := p) (land := land) (now := now) (ms := ms) with hv | hv
  · by_cases h0 : to < now
    · exact (rpadv_low p land now A n c ms to w hin hv h0).mono fun e w' h => h.any
    · by_cases h1 : 16777216 < to
      · exact (rpadv_high p land now A n c ms to w hin hv h1).mono fun e w' h => h.any
      · rw [qadv_ok hv (by omega) (by omega)]
        exact (rpadv_ok p land now A n c ms to w hin hv (by omega) (by omega)).mono fun e w' h => ⟨A, n, c, h.1, h.2.1, h.2.2⟩
  · exact (rpadv_bad p land now A n c ms to w hin hv).mono fun e w' h => h.any
theorem rsamewide (A A' : Option Addr) (n c c' : Nat) (ms : List Nat) (w : World) (hr : Reads w w.heap.size 2 A n (wcells ms)) (hr' : Reads w w.heap.size 2 A' n (wcells ms)) (hn : n ≤ 9223372036854775807) :
    Calls Try.prog 33 #[.slice A n c, .slice A' n c'] w fun e w' => e = .returned (.bool true) ∧ Below w.heap.size w w' := by
  have HR := Lib.hid hr
  have HR' := Lib.hid hr'
  clear hr hr'
  go_enter Try.func33, Try.ntmps33
  go_wp2
  go_loopw [13] (fun i wr => ∃ k : Nat, k ≤ n ∧ i = .int .i64 (k : Nat) ∧ Below w.heap.size w wr) (fun i _ => n - (intOf i).toNat)
  case atStart => exact ⟨0, by omega, rfl, Below.refl _ _⟩
  case round =>
    obtain ⟨k, hk, rfl, o⟩ := hrel
    by_cases hlt : k < n
    · obtain ⟨ad, rfl, hadb, mx⟩ := HR.out.mom hlt
      obtain ⟨ad', rfl, hadb', my⟩ := HR'.out.mom hlt
      generalize momAt ms k = x at mx my
      have MX := Lib.hid mx
      have MY := Lib.hid my
      have HAB : RowKit.Hid ((ad.add (k * 2)).block < w.heap.size) := Lib.hid (by rw [block_of_add]; exact hadb)
      have HAB' : RowKit.Hid ((ad'.add (k * 2)).block < w.heap.size) := Lib.hid (by rw [block_of_add]; exact hadb')
      have i1 : (k : Int) < (n : Int) := by omega
      have i2 : (0 : Int) ≤ (k : Int) := by omega
      clear mx my
      go_upto_region 6 with (fail)
      refine wp_region_free0 [0, 1, 2, 4, 5, 6, 3, 7] [] [0, 1, 2, 3, 4, 5, 6, 7] 8 (fun w' => Below wr.heap.size wr w') (by kernel_rfl) (by kernel_rfl) (fun _ _ d _ _ h => by cases d <;> exact h) ?_ ?_
      · exact (Below.refl _ _).drew
      (refine plan_pure ?_ rfl rfl (fun w' => ?_) ?_; rotate_left; (go_simp; try with_reducible rfl); simp only [Act.put, List.setIfInBounds_toArray, List.set_cons_zero, List.set_cons_succ])
      (refine plan_pure ?_ rfl rfl (fun w' => ?_) ?_; rotate_left; (go_simp; try with_reducible rfl); simp only [Act.put, List.setIfInBounds_toArray, List.set_cons_zero, List.set_cons_succ])
      (refine plan_pure ?_ rfl rfl (fun w' => ?_) ?_; rotate_left; (go_simp; try with_reducible rfl); simp only [Act.put, List.setIfInBounds_toArray, List.set_cons_zero, List.set_cons_succ])
      (refine plan_pure ?_ rfl rfl (fun w' => ?_) ?_; rotate_left; (go_simp; try with_reducible rfl); simp only [Act.put, List.setIfInBounds_toArray, List.set_cons_zero, List.set_cons_succ])
      (refine plan_pure ?_ rfl rfl (fun w' => ?_) ?_; rotate_left; (go_simp; try with_reducible rfl); simp only [Act.put, List.setIfInBounds_toArray, List.set_cons_zero, List.set_cons_succ])
      (refine plan_pure ?_ rfl rfl (fun w' => ?_) ?_; rotate_left; (go_simp; try with_reducible rfl); simp only [Act.put, List.setIfInBounds_toArray, List.set_cons_zero, List.set_cons_succ])
      (refine plan_val ?_ rfl rfl rfl (fun w' hS => ?_) ?_; rotate_left; (obtain ⟨p0, p1⟩ := MX.out.below (o.trans (hS.mono o.size)) HAB.out; obtain ⟨q0, q1⟩ := MY.out.below (o.trans (hS.mono o.size)) HAB'.out; go_simp; try with_reducible rfl); simp only [Act.put, List.setIfInBounds_toArray, List.set_cons_zero, List.set_cons_succ])
      (refine plan_val ?_ rfl rfl rfl (fun w' hS => ?_) ?_; rotate_left; (obtain ⟨p0, p1⟩ := MX.out.below (o.trans (hS.mono o.size)) HAB.out; obtain ⟨q0, q1⟩ := MY.out.below (o.trans (hS.mono o.size)) HAB'.out; go_simp; try with_reducible rfl); simp only [Act.put, List.setIfInBounds_toArray, List.set_cons_zero, List.set_cons_succ])
      refine plan_nil ?_
      intro w3 L3
      simp only [List.drop_succ_cons, List.drop_zero]
      try simp only [Act.put, List.setIfInBounds_toArray, List.set_cons_zero, List.set_cons_succ]
      replace o := o.trans (L3.mono o.size)
      clear L3
      go_wp2
      go_roundw
      case rel => exact ⟨k + 1, by omega, by go_num, o⟩
      case measure => simp [intOf]; omega
    · have i1 : ¬ (k : Int) < (n : Int) := by omega
      go_wp2
      go_ret
      exact ⟨rfl, o⟩
theorem rpsame (p land now : Int) (A : Option Addr) (n c : Nat) (A' : Option Addr) (n' c' : Nat) (ms : List Nat) (w : World) (h : PIn p land now A n c ms w) (h' : PIn p land now A' n' c' ms w) :
    Calls Try.prog 11 #[.agg #[.int .i64 p, .int .i64 land, .int .i64 now, .slice A n c], .agg #[.int .i64 p, .int .i64 land, .int .i64 now, .slice A' n' c']] w fun e w' => e = .returned (.bool true) ∧ Below w.heap.size w w' := by
  obtain rfl : n' = n := h'.len.symm.trans h.len
  have N := Lib.hid (fun w1 (hb : Below w.heap.size w w1) => rsamewide A A' n' c c' ms w1 ((h.reads.below hb).more hb.size) ((h'.reads.below hb).more hb.size) h.nB)
  clear h h'
  go_enter Try.func11, Try.ntmps11
  go_wp2_with (go_at_call 33; refine (N.out _ (by (repeat (first | exact Below.refl _ _ | refine Below.setCell ?_ (by first | (simp; done) | (simp; omega) | omega) _ | refine Below.alloc ?_ (by first | (simp; done) | (simp; omega) | omega) _ | refine Below.drew ?_ | refine Below.trans ?_ (Below.mono (by assumption) (by first | (simp; done) | (simp; omega) | omega)))))).mono ?_; rintro e w1 ⟨rfl, hb1⟩; have hz1 := hb1.size; (try simp at hz1))
  go_ret
  exact ⟨rfl, by (repeat (first | exact Below.refl _ _ | refine Below.setCell ?_ (by first | (simp; done) | (simp; omega) | omega) _ | refine Below.alloc ?_ (by first | (simp; done) | (simp; omega) | omega) _ | refine Below.drew ?_ | refine Below.trans ?_ (Below.mono (by assumption) (by first | (simp; done) | (simp; omega) | omega))))⟩
theorem few_yes (p land now : Int) (A : Option Addr) (n c : Nat) (ms : List Nat) (w : World) (h : n ≤ 50) : Calls Try.prog 13 #[.agg #[.int .i64 p, .int .i64 land, .int .i64 now, .slice A n c]] w fun e w' => e = .returned (.bool true) ∧ Below w.heap.size w w' := by
  have h1 : (n : Int) ≤ 50 := by omega
  go_enter Try.func13, Try.ntmps13
  go_wp2
  go_ret
  exact ⟨rfl, by (repeat (first | exact Below.refl _ _ | refine Below.setCell ?_ (by first | (simp; done) | (simp; omega) | omega) _ | refine Below.alloc ?_ (by first | (simp; done) | (simp; omega) | omega) _ | refine Below.drew ?_ | refine Below.trans ?_ (Below.mono (by assumption) (by first | (simp; done) | (simp; omega) | omega))))⟩
theorem few_no (p land now : Int) (A : Option Addr) (n c : Nat) (ms : List Nat) (w : World) (h : 50 < n) : Calls Try.prog 13 #[.agg #[.int .i64 p, .int .i64 land, .int .i64 now, .slice A n c]] w fun e w' => e = .returned (.bool false) ∧ Below w.heap.size w w' := by
  have h1 : ¬ (n : Int) ≤ 50 := by omega
  go_enter Try.func13, Try.ntmps13
  go_wp2
  go_ret
  exact ⟨ret_bool (by first | (simp; done) | (simp; omega)), by (repeat (first | exact Below.refl _ _ | refine Below.setCell ?_ (by first | (simp; done) | (simp; omega) | omega) _ | refine Below.alloc ?_ (by first | (simp; done) | (simp; omega) | omega) _ | refine Below.drew ?_ | refine Below.trans ?_ (Below.mono (by assumption) (by first | (simp; done) | (simp; omega) | omega))))⟩
theorem hi13 : hi 13 = 0 := by decide
theorem lo13 : lo 13 = 13 := by decide
theorem hi3 : hi 3 = 0 := by decide
theorem lo3 : lo 3 = 3 := by decide
set_option maxHeartbeats 2000000 in
theorem awake15 (w : World) : Calls Try.prog 12 #[] w fun e w' => e = .returned (.bool true) ∧ Below w.heap.size w w' := by
  go_enter Try.func12, Try.ntmps12
  go_wp2_with fail
  refine (ppnew 1 0 _).mono ?_
  intro e w1 hq
  obtain ⟨A1, n1, c1, rfl, i1, hb1, f1⟩ := pret_at (by kernel_rfl : qnew 1 0 = ⟨1, 0, 0, [0, 0], 0⟩) hq
  clear hq
  have o := hb1
  replace f1 := fun a e => (f1 a e).2
  go_upto_region 2 with (fail)
  have x : Row (w1.alloc (.cells #[.int .i64 1, .int .i64 0, .int .i64 0, .slice A1 n1 c1] 24)) w1.heap.size 24 #[.int .i64 1, .int .i64 0, .int .i64 0, .slice A1 n1 c1] := row_new rfl
  replace o := o.alloc o.size (.cells #[.int .i64 1, .int .i64 0, .int .i64 0, .slice A1 n1 c1] 24)
  replace i1 := i1.below ((Below.refl _ _).alloc (Nat.le_refl _) (.cells #[.int .i64 1, .int .i64 0, .int .i64 0, .slice A1 n1 c1] 24))
  have zb := hb1.size
  have zx : w1.heap.size < (w1.alloc (.cells #[.int .i64 1, .int .i64 0, .int .i64 0, .slice A1 n1 c1] 24)).heap.size := by simp
  generalize w1.alloc (.cells #[.int .i64 1, .int .i64 0, .int .i64 0, .slice A1 n1 c1] 24) = v1 at x o i1 zx ⊢
  generalize w1.heap.size = bx at x zb zx ⊢
  clear hb1
  obtain ⟨X0, X1, X2, X3, Xf0, Xf1, Xf2, Xf3⟩ := row_four x
  go_wp2_with fail
  refine (ppadd 1 0 0 A1 n1 c1 [0, 0] 4 _ i1).mono ?_
  intro e w2 hq
  obtain ⟨A2, n2, c2, rfl, i2, hb2, f2⟩ := pret_at (by kernel_rfl : qadd 1 0 0 [0, 0] 4 = ⟨1, 0, 0, [4, 4], 0⟩) hq
  clear hq
  replace x := row_call x hb2
  replace o := o.trans (hb2.mono o.size)
  have g2 := far f2 zx
  have zx := row_lt x
  clear X0 X1 X2 X3 Xf0 Xf1 Xf2 Xf3
  obtain ⟨X0, X1, X2, X3, Xf0, Xf1, Xf2, Xf3⟩ := row_four x
  go_upto_region 3 with (fail)
  have x : Row ((((w2.setCell ⟨bx, 0, none⟩ (.int .i64 1)).setCell ⟨bx, 1, none⟩ (.int .i64 0)).setCell ⟨bx, 2, none⟩ (.int .i64 0)).setCell ⟨bx, 3, none⟩ (.slice A2 n2 c2)) bx 24 #[.int .i64 1, .int .i64 0, .int .i64 0, .slice A2 n2 c2] := row_four_set (u0 := (.int .i64 1)) (u1 := (.int .i64 0)) (u2 := (.int .i64 0)) (u3 := (.slice A2 n2 c2)) x
  replace o := below_four o zb (.int .i64 1) (.int .i64 0) (.int .i64 0) (.slice A2 n2 c2)
  replace i2 := i2.row g2 (.int .i64 1) (.int .i64 0) (.int .i64 0) (.slice A2 n2 c2)
  replace zx : bx < ((((w2.setCell ⟨bx, 0, none⟩ (.int .i64 1)).setCell ⟨bx, 1, none⟩ (.int .i64 0)).setCell ⟨bx, 2, none⟩ (.int .i64 0)).setCell ⟨bx, 3, none⟩ (.slice A2 n2 c2)).heap.size := by rw [size_four]; exact zx
  clear X0 X1 X2 X3 Xf0 Xf1 Xf2 Xf3
  generalize ((((w2.setCell ⟨bx, 0, none⟩ (.int .i64 1)).setCell ⟨bx, 1, none⟩ (.int .i64 0)).setCell ⟨bx, 2, none⟩ (.int .i64 0)).setCell ⟨bx, 3, none⟩ (.slice A2 n2 c2)) = v2 at x o i2 zx ⊢
  clear hb2 f2
  obtain ⟨X0, X1, X2, X3, Xf0, Xf1, Xf2, Xf3⟩ := row_four x
  go_wp2_with fail
  refine (ppadv 1 0 0 A2 n2 c2 [4, 4] 2 _ i2).mono ?_
  intro e w3 hq
  obtain ⟨A3, n3, c3, rfl, i3, hb3, f3⟩ := pret_at (by kernel_rfl : qadv 1 0 0 [4, 4] 2 = ⟨1, 0, 2, [4, 4], 0⟩) hq
  clear hq
  replace x := row_call x hb3
  replace o := o.trans (hb3.mono o.size)
  have g3 := far f3 zx
  have zx := row_lt x
  clear X0 X1 X2 X3 Xf0 Xf1 Xf2 Xf3
  obtain ⟨X0, X1, X2, X3, Xf0, Xf1, Xf2, Xf3⟩ := row_four x
  go_upto_region 4 with (fail)
  have x : Row ((((w3.setCell ⟨bx, 0, none⟩ (.int .i64 1)).setCell ⟨bx, 1, none⟩ (.int .i64 0)).setCell ⟨bx, 2, none⟩ (.int .i64 2)).setCell ⟨bx, 3, none⟩ (.slice A3 n3 c3)) bx 24 #[.int .i64 1, .int .i64 0, .int .i64 2, .slice A3 n3 c3] := row_four_set (u0 := (.int .i64 1)) (u1 := (.int .i64 0)) (u2 := (.int .i64 2)) (u3 := (.slice A3 n3 c3)) x
  replace o := below_four o zb (.int .i64 1) (.int .i64 0) (.int .i64 2) (.slice A3 n3 c3)
  replace i3 := i3.row g3 (.int .i64 1) (.int .i64 0) (.int .i64 2) (.slice A3 n3 c3)
  replace zx : bx < ((((w3.setCell ⟨bx, 0, none⟩ (.int .i64 1)).setCell ⟨bx, 1, none⟩ (.int .i64 0)).setCell ⟨bx, 2, none⟩ (.int .i64 2)).setCell ⟨bx, 3, none⟩ (.slice A3 n3 c3)).heap.size := by rw [size_four]; exact zx
  clear X0 X1 X2 X3 Xf0 Xf1 Xf2 Xf3
  generalize ((((w3.setCell ⟨bx, 0, none⟩ (.int .i64 1)).setCell ⟨bx, 1, none⟩ (.int .i64 0)).setCell ⟨bx, 2, none⟩ (.int .i64 2)).setCell ⟨bx, 3, none⟩ (.slice A3 n3 c3)) = v3 at x o i3 zx ⊢
  clear hb3 f3
  obtain ⟨X0, X1, X2, X3, Xf0, Xf1, Xf2, Xf3⟩ := row_four x
  go_wp2_with fail
  refine (ppadd 1 0 2 A3 n3 c3 [4, 4] 3 _ i3).mono ?_
  intro e w4 hq
  obtain ⟨A4, n4, c4, rfl, i4, hb4, f4⟩ := pret_at (by kernel_rfl : qadd 1 0 2 [4, 4] 3 = ⟨1, 0, 2, [7, 13], 0⟩) hq
  clear hq
  replace x := row_call x hb4
  replace o := o.trans (hb4.mono o.size)
  have g4 := far f4 zx
  have zx := row_lt x
  clear X0 X1 X2 X3 Xf0 Xf1 Xf2 Xf3
  obtain ⟨X0, X1, X2, X3, Xf0, Xf1, Xf2, Xf3⟩ := row_four x
  go_upto_region 5 with (fail)
  have x : Row ((((w4.setCell ⟨bx, 0, none⟩ (.int .i64 1)).setCell ⟨bx, 1, none⟩ (.int .i64 0)).setCell ⟨bx, 2, none⟩ (.int .i64 2)).setCell ⟨bx, 3, none⟩ (.slice A4 n4 c4)) bx 24 #[.int .i64 1, .int .i64 0, .int .i64 2, .slice A4 n4 c4] := row_four_set (u0 := (.int .i64 1)) (u1 := (.int .i64 0)) (u2 := (.int .i64 2)) (u3 := (.slice A4 n4 c4)) x
  replace o := below_four o zb (.int .i64 1) (.int .i64 0) (.int .i64 2) (.slice A4 n4 c4)
  replace i4 := i4.row g4 (.int .i64 1) (.int .i64 0) (.int .i64 2) (.slice A4 n4 c4)
  replace zx : bx < ((((w4.setCell ⟨bx, 0, none⟩ (.int .i64 1)).setCell ⟨bx, 1, none⟩ (.int .i64 0)).setCell ⟨bx, 2, none⟩ (.int .i64 2)).setCell ⟨bx, 3, none⟩ (.slice A4 n4 c4)).heap.size := by rw [size_four]; exact zx
  clear X0 X1 X2 X3 Xf0 Xf1 Xf2 Xf3
  generalize ((((w4.setCell ⟨bx, 0, none⟩ (.int .i64 1)).setCell ⟨bx, 1, none⟩ (.int .i64 0)).setCell ⟨bx, 2, none⟩ (.int .i64 2)).setCell ⟨bx, 3, none⟩ (.slice A4 n4 c4)) = v4 at x o i4 zx ⊢
  clear hb4 f4
  obtain ⟨X0, X1, X2, X3, Xf0, Xf1, Xf2, Xf3⟩ := row_four x
  go_wp2_with fail
  have C5 := ppask 1 0 2 A4 n4 c4 [7, 13] _ i4
  rw [show qask 1 0 2 [7, 13] = ⟨13, 3, 0⟩ from by kernel_rfl] at C5
  simp only [FR, hi13, lo13, hi3, lo3] at C5
  refine C5.mono ?_
  rintro e w5 ⟨rfl, hb5⟩
  have hz5 := hb5.size
  replace o := o.trans (hb5.mono o.size)
  clear C5 X0 X1 X2 X3 Xf0 Xf1 Xf2 Xf3 hb5
  go_wp2
  go_ret
  exact ⟨rfl, by (repeat (first | exact Below.refl _ _ | refine Below.setCell ?_ (by first | (simp; done) | (simp; omega) | omega) _ | refine Below.alloc ?_ (by first | (simp; done) | (simp; omega) | omega) _ | refine Below.drew ?_ | refine Below.trans ?_ (Below.mono (by assumption) (by first | (simp; done) | (simp; omega) | omega))))⟩
set_option maxHeartbeats 2000000 in
theorem polyNew (p now : Int) (w : World) : Calls Try.prog 3 #[.int .i64 p, .int .i64 now] w fun e w' => e = .returned (.bool true) ∧ Below w.heap.size w w' := by
  have C1 := fun w => (ppnew p now w).mono fun e w' h => h.any
  have C2 := fun w => (rpnew p now w).mono fun e w' h => h.any
  generalize qnew p now = r at C1 C2
  obtain ⟨pa, la, ta, zs, f⟩ := r
  have C1 := Lib.hid C1
  have C2 := Lib.hid C2
  go_enter Try.func3, Try.ntmps3
  go_wp2_with fail
  refine (C1.out _).mono ?_
  intro e w1 hq
  obtain ⟨A1, n1, c1, rfl, i1, hb1⟩ := pany_at rfl hq
  clear hq
  have o := hb1
  go_upto_region 2 with (fail)
  replace o := o.alloc o.size (.cells #[.int .i64 pa, .int .i64 la, .int .i64 ta, .slice A1 n1 c1] 24)
  replace i1 := i1.below ((Below.refl _ _).alloc (Nat.le_refl _) (.cells #[.int .i64 pa, .int .i64 la, .int .i64 ta, .slice A1 n1 c1] 24))
  have y1 : Row (w1.alloc (.cells #[.int .i64 pa, .int .i64 la, .int .i64 ta, .slice A1 n1 c1] 24)) w1.heap.size 24 #[.int .i64 pa, .int .i64 la, .int .i64 ta, .slice A1 n1 c1] := row_new rfl
  generalize w1.alloc (.cells #[.int .i64 pa, .int .i64 la, .int .i64 ta, .slice A1 n1 c1] 24) = v1 at o i1 y1 ⊢
  generalize w1.heap.size = b1 at y1 ⊢
  go_wp2_with fail
  refine (C2.out _).mono ?_
  intro e w2 hq
  obtain ⟨A2, n2, c2, rfl, i2, hb2⟩ := pany_at rfl hq
  clear hq
  replace o := o.trans (hb2.mono o.size)
  replace i1 := i1.below hb2
  replace y1 := row_call y1 hb2
  go_upto_region 3 with (fail)
  replace o := o.alloc o.size (.cells #[.int .i64 pa, .int .i64 la, .int .i64 ta, .slice A2 n2 c2] 24)
  replace i1 := i1.below ((Below.refl _ _).alloc (Nat.le_refl _) (.cells #[.int .i64 pa, .int .i64 la, .int .i64 ta, .slice A2 n2 c2] 24))
  replace i2 := i2.below ((Below.refl _ _).alloc (Nat.le_refl _) (.cells #[.int .i64 pa, .int .i64 la, .int .i64 ta, .slice A2 n2 c2] 24))
  replace y1 := row_alloc y1 (.cells #[.int .i64 pa, .int .i64 la, .int .i64 ta, .slice A2 n2 c2] 24)
  have y2 : Row (w2.alloc (.cells #[.int .i64 pa, .int .i64 la, .int .i64 ta, .slice A2 n2 c2] 24)) w2.heap.size 24 #[.int .i64 pa, .int .i64 la, .int .i64 ta, .slice A2 n2 c2] := row_new rfl
  generalize w2.alloc (.cells #[.int .i64 pa, .int .i64 la, .int .i64 ta, .slice A2 n2 c2] 24) = v2 at o i1 i2 y1 y2 ⊢
  generalize w2.heap.size = b2 at y2 ⊢
  have G1 := Lib.hid i1
  have G2 := Lib.hid i2
  clear i1 i2 hb1 hb2
  have zb := o.size
  obtain ⟨X0, X1, X2, X3, Xf0, Xf1, Xf2, Xf3⟩ := row_four y1
  obtain ⟨Y0, Y1, Y2, Y3, Yf0, Yf1, Yf2, Yf3⟩ := row_four y2
  go_wp2_with (first | (go_at_call 11; refine (rpsame _ _ _ A1 n1 c1 A2 n2 c2 zs _ G1.out G2.out).mono ?_; rintro e w4 ⟨rfl, hb4⟩; have hz4 := hb4.size) | (go_at_call 12; refine (awake15 _).mono ?_; rintro e w5 ⟨rfl, hb5⟩; have hz5 := hb5.size))
  go_ret
  exact ⟨rfl, by (repeat (first | exact Below.refl _ _ | refine Below.setCell ?_ (by first | (simp; done) | (simp; omega) | omega) _ | refine Below.alloc ?_ (by first | (simp; done) | (simp; omega) | omega) _ | refine Below.drew ?_ | refine Below.trans ?_ (Below.mono (by assumption) (by first | (simp; done) | (simp; omega) | omega))))⟩
set_option maxHeartbeats 8000000 in
set_option maxRecDepth 100000 in
theorem polyStates_few (p land now : Int) (A : Option Addr) (n c : Nat) (ms : List Nat) (to v : Int) (w : World) (hin : PIn p land now A n c ms w) (hf : n ≤ 50) : Calls Try.prog 4 #[.agg #[.int .i64 p, .int .i64 land, .int .i64 now, .slice A n c], .int .i64 to, .int .i64 v] w fun e w' => e = .returned (.bool true) ∧ Below w.heap.size w w' := by
  have FW := Lib.hid (fun w => few_yes p land now A n c ms w hf)
  have PA := fun w1 (hb : Below w.heap.size w w1) => (ppadv p land now A n c ms to w1 (hin.below hb)).mono fun e w' h => h.any
  have RA := fun w1 (hb : Below w.heap.size w w1) => rpadv p land now A n c ms to w1 (hin.below hb)
  generalize qadv p land now ms to = r at PA RA
  obtain ⟨pa, la, ta, ma, fa⟩ := r
  have PC := fun w1 (hb : Below w.heap.size w w1) => (ppadd p land now A n c ms v w1 (hin.below hb)).mono fun e w' h => h.any
  have RC := fun w1 (hb : Below w.heap.size w w1) => (rpadd p land now A n c ms v w1 (hin.below hb)).mono fun e w' h => h.any
  generalize qadd p land now ms v = r at PC RC
  obtain ⟨pb, lb, tb, mb, fb⟩ := r
  have PQ := fun w1 (hb : Below w.heap.size w w1) => ppask p land now A n c ms w1 (hin.below hb)
  have RQ := fun w1 (hb : Below w.heap.size w w1) => rpask p land now A n c ms w1 (hin.below hb)
  generalize qask p land now ms = r at PQ RQ
  obtain ⟨qx, qy, qf⟩ := r
  have VP := fun w1 (hb : Below w.heap.size w w1) => ppval p land now A n c ms w1 (hin.below hb)
  have VR := fun w1 (hb : Below w.heap.size w w1) => rpval p land now A n c ms w1 (hin.below hb)
  generalize pvalE p land now ms = ve at VP VR
  have PA := Lib.hid PA
  have RA := Lib.hid RA
  have PC := Lib.hid PC
  have RC := Lib.hid RC
  have PQ := Lib.hid PQ
  have RQ := Lib.hid RQ
  have VP := Lib.hid VP
  have VR := Lib.hid VR
  clear hin hf
  go_enter Try.func4, Try.ntmps4
  go_wp2_with fail
  refine (FW.out _).mono ?_
  rintro e wl ⟨rfl, hbl⟩
  have x : Row wl w.heap.size 24 #[.int .i64 p, .int .i64 land, .int .i64 now, .slice A n c] := row_call (row_new rfl) hbl
  have o : Below w.heap.size w wl := by (repeat (first | exact Below.refl _ _ | refine Below.setCell ?_ (by first | (simp; done) | (simp; omega) | omega) _ | refine Below.alloc ?_ (by first | (simp; done) | (simp; omega) | omega) _ | refine Below.drew ?_ | refine Below.trans ?_ (Below.mono (by assumption) (by first | (simp; done) | (simp; omega) | omega))))
  obtain ⟨X0, X1, X2, X3, Xf0, Xf1, Xf2, Xf3⟩ := row_four x
  clear hbl
  go_wp2_with fail
  refine (PA.out _ (by exact o)).mono ?_
  intro e w1 hq
  obtain ⟨A1, n1, c1, rfl, i1, hb1⟩ := pany_at rfl hq
  clear hq
  replace o := o.trans (hb1.mono o.size)
  replace x := row_call x hb1
  clear X0 X1 X2 X3 Xf0 Xf1 Xf2 Xf3 hb1
  obtain ⟨X0, X1, X2, X3, Xf0, Xf1, Xf2, Xf3⟩ := row_four x
  go_upto_region 4 with (fail)
  replace o := o.alloc o.size (.cells #[.int .i64 pa, .int .i64 la, .int .i64 ta, .slice A1 n1 c1] 24)
  replace x := row_alloc x (.cells #[.int .i64 pa, .int .i64 la, .int .i64 ta, .slice A1 n1 c1] 24)
  replace i1 := i1.below ((Below.refl _ _).alloc (Nat.le_refl _) (.cells #[.int .i64 pa, .int .i64 la, .int .i64 ta, .slice A1 n1 c1] 24))
  have y1 : Row (w1.alloc (.cells #[.int .i64 pa, .int .i64 la, .int .i64 ta, .slice A1 n1 c1] 24)) w1.heap.size 24 #[.int .i64 pa, .int .i64 la, .int .i64 ta, .slice A1 n1 c1] := row_new rfl
  generalize w1.alloc (.cells #[.int .i64 pa, .int .i64 la, .int .i64 ta, .slice A1 n1 c1] 24) = v1 at o x i1 y1 ⊢
  generalize w1.heap.size = b1 at y1 ⊢
  clear X0 X1 X2 X3 Xf0 Xf1 Xf2 Xf3
  obtain ⟨X0, X1, X2, X3, Xf0, Xf1, Xf2, Xf3⟩ := row_four x
  go_wp2_with fail
  refine (RA.out _ (by exact o)).mono ?_
  intro e w2 hq
  obtain ⟨A2, n2, c2, rfl, i2, hb2⟩ := pany_at rfl hq
  clear hq
  replace o := o.trans (hb2.mono o.size)
  replace x := row_call x hb2
  replace i1 := i1.below hb2
  replace y1 := row_call y1 hb2
  clear X0 X1 X2 X3 Xf0 Xf1 Xf2 Xf3 hb2
  obtain ⟨X0, X1, X2, X3, Xf0, Xf1, Xf2, Xf3⟩ := row_four x
  go_upto_region 5 with (fail)
  replace o := o.alloc o.size (.cells #[.int .i64 pa, .int .i64 la, .int .i64 ta, .slice A2 n2 c2] 24)
  replace x := row_alloc x (.cells #[.int .i64 pa, .int .i64 la, .int .i64 ta, .slice A2 n2 c2] 24)
  replace i1 := i1.below ((Below.refl _ _).alloc (Nat.le_refl _) (.cells #[.int .i64 pa, .int .i64 la, .int .i64 ta, .slice A2 n2 c2] 24))
  replace y1 := row_alloc y1 (.cells #[.int .i64 pa, .int .i64 la, .int .i64 ta, .slice A2 n2 c2] 24)
  replace i2 := i2.below ((Below.refl _ _).alloc (Nat.le_refl _) (.cells #[.int .i64 pa, .int .i64 la, .int .i64 ta, .slice A2 n2 c2] 24))
  have y2 : Row (w2.alloc (.cells #[.int .i64 pa, .int .i64 la, .int .i64 ta, .slice A2 n2 c2] 24)) w2.heap.size 24 #[.int .i64 pa, .int .i64 la, .int .i64 ta, .slice A2 n2 c2] := row_new rfl
  generalize w2.alloc (.cells #[.int .i64 pa, .int .i64 la, .int .i64 ta, .slice A2 n2 c2] 24) = v2 at o x i1 y1 i2 y2 ⊢
  generalize w2.heap.size = b2 at y2 ⊢
  clear X0 X1 X2 X3 Xf0 Xf1 Xf2 Xf3
  obtain ⟨X0, X1, X2, X3, Xf0, Xf1, Xf2, Xf3⟩ := row_four x
  go_wp2_with fail
  refine (PC.out _ (by exact o)).mono ?_
  intro e w3 hq
  obtain ⟨A3, n3, c3, rfl, i3, hb3⟩ := pany_at rfl hq
  clear hq
  replace o := o.trans (hb3.mono o.size)
  replace x := row_call x hb3
  replace i1 := i1.below hb3
  replace y1 := row_call y1 hb3
  replace i2 := i2.below hb3
  replace y2 := row_call y2 hb3
  clear X0 X1 X2 X3 Xf0 Xf1 Xf2 Xf3 hb3
  obtain ⟨X0, X1, X2, X3, Xf0, Xf1, Xf2, Xf3⟩ := row_four x
  go_upto_region 6 with (fail)
  replace o := o.alloc o.size (.cells #[.int .i64 pb, .int .i64 lb, .int .i64 tb, .slice A3 n3 c3] 24)
  replace x := row_alloc x (.cells #[.int .i64 pb, .int .i64 lb, .int .i64 tb, .slice A3 n3 c3] 24)
  replace i1 := i1.below ((Below.refl _ _).alloc (Nat.le_refl _) (.cells #[.int .i64 pb, .int .i64 lb, .int .i64 tb, .slice A3 n3 c3] 24))
  replace y1 := row_alloc y1 (.cells #[.int .i64 pb, .int .i64 lb, .int .i64 tb, .slice A3 n3 c3] 24)
  replace i2 := i2.below ((Below.refl _ _).alloc (Nat.le_refl _) (.cells #[.int .i64 pb, .int .i64 lb, .int .i64 tb, .slice A3 n3 c3] 24))
  replace y2 := row_alloc y2 (.cells #[.int .i64 pb, .int .i64 lb, .int .i64 tb, .slice A3 n3 c3] 24)
  replace i3 := i3.below ((Below.refl _ _).alloc (Nat.le_refl _) (.cells #[.int .i64 pb, .int .i64 lb, .int .i64 tb, .slice A3 n3 c3] 24))
  have y3 : Row (w3.alloc (.cells #[.int .i64 pb, .int .i64 lb, .int .i64 tb, .slice A3 n3 c3] 24)) w3.heap.size 24 #[.int .i64 pb, .int .i64 lb, .int .i64 tb, .slice A3 n3 c3] := row_new rfl
  generalize w3.alloc (.cells #[.int .i64 pb, .int .i64 lb, .int .i64 tb, .slice A3 n3 c3] 24) = v3 at o x i1 y1 i2 y2 i3 y3 ⊢
  generalize w3.heap.size = b3 at y3 ⊢
  clear X0 X1 X2 X3 Xf0 Xf1 Xf2 Xf3
  obtain ⟨X0, X1, X2, X3, Xf0, Xf1, Xf2, Xf3⟩ := row_four x
  go_wp2_with fail
  refine (RC.out _ (by exact o)).mono ?_
  intro e w4 hq
  obtain ⟨A4, n4, c4, rfl, i4, hb4⟩ := pany_at rfl hq
  clear hq
  replace o := o.trans (hb4.mono o.size)
  replace x := row_call x hb4
  replace i1 := i1.below hb4
  replace y1 := row_call y1 hb4
  replace i2 := i2.below hb4
  replace y2 := row_call y2 hb4
  replace i3 := i3.below hb4
  replace y3 := row_call y3 hb4
  clear X0 X1 X2 X3 Xf0 Xf1 Xf2 Xf3 hb4
  obtain ⟨X0, X1, X2, X3, Xf0, Xf1, Xf2, Xf3⟩ := row_four x
  go_upto_region 7 with (fail)
  replace o := o.alloc o.size (.cells #[.int .i64 pb, .int .i64 lb, .int .i64 tb, .slice A4 n4 c4] 24)
  replace x := row_alloc x (.cells #[.int .i64 pb, .int .i64 lb, .int .i64 tb, .slice A4 n4 c4] 24)
  replace i1 := i1.below ((Below.refl _ _).alloc (Nat.le_refl _) (.cells #[.int .i64 pb, .int .i64 lb, .int .i64 tb, .slice A4 n4 c4] 24))
  replace y1 := row_alloc y1 (.cells #[.int .i64 pb, .int .i64 lb, .int .i64 tb, .slice A4 n4 c4] 24)
  replace i2 := i2.below ((Below.refl _ _).alloc (Nat.le_refl _) (.cells #[.int .i64 pb, .int .i64 lb, .int .i64 tb, .slice A4 n4 c4] 24))
  replace y2 := row_alloc y2 (.cells #[.int .i64 pb, .int .i64 lb, .int .i64 tb, .slice A4 n4 c4] 24)
  replace i3 := i3.below ((Below.refl _ _).alloc (Nat.le_refl _) (.cells #[.int .i64 pb, .int .i64 lb, .int .i64 tb, .slice A4 n4 c4] 24))
  replace y3 := row_alloc y3 (.cells #[.int .i64 pb, .int .i64 lb, .int .i64 tb, .slice A4 n4 c4] 24)
  replace i4 := i4.below ((Below.refl _ _).alloc (Nat.le_refl _) (.cells #[.int .i64 pb, .int .i64 lb, .int .i64 tb, .slice A4 n4 c4] 24))
  have y4 : Row (w4.alloc (.cells #[.int .i64 pb, .int .i64 lb, .int .i64 tb, .slice A4 n4 c4] 24)) w4.heap.size 24 #[.int .i64 pb, .int .i64 lb, .int .i64 tb, .slice A4 n4 c4] := row_new rfl
  generalize w4.alloc (.cells #[.int .i64 pb, .int .i64 lb, .int .i64 tb, .slice A4 n4 c4] 24) = v4 at o x i1 y1 i2 y2 i3 y3 i4 y4 ⊢
  generalize w4.heap.size = b4 at y4 ⊢
  clear X0 X1 X2 X3 Xf0 Xf1 Xf2 Xf3
  obtain ⟨X0, X1, X2, X3, Xf0, Xf1, Xf2, Xf3⟩ := row_four x
  go_wp2_with fail
  refine (PQ.out _ (by exact o)).mono ?_
  rintro e w5 ⟨rfl, hb5⟩
  replace o := o.trans (hb5.mono o.size)
  replace x := row_call x hb5
  replace i1 := i1.below hb5
  replace y1 := row_call y1 hb5
  replace i2 := i2.below hb5
  replace y2 := row_call y2 hb5
  replace i3 := i3.below hb5
  replace y3 := row_call y3 hb5
  replace i4 := i4.below hb5
  replace y4 := row_call y4 hb5
  clear X0 X1 X2 X3 Xf0 Xf1 Xf2 Xf3 hb5
  obtain ⟨X0, X1, X2, X3, Xf0, Xf1, Xf2, Xf3⟩ := row_four x
  go_upto_region 8 with (fail)
  replace o := o.alloc o.size (.cells #[.int .u64 (hi qx), .int .u64 (lo qx), .int .u64 (hi qy), .int .u64 (lo qy)] 37)
  replace x := row_alloc x (.cells #[.int .u64 (hi qx), .int .u64 (lo qx), .int .u64 (hi qy), .int .u64 (lo qy)] 37)
  replace i1 := i1.below ((Below.refl _ _).alloc (Nat.le_refl _) (.cells #[.int .u64 (hi qx), .int .u64 (lo qx), .int .u64 (hi qy), .int .u64 (lo qy)] 37))
  replace y1 := row_alloc y1 (.cells #[.int .u64 (hi qx), .int .u64 (lo qx), .int .u64 (hi qy), .int .u64 (lo qy)] 37)
  replace i2 := i2.below ((Below.refl _ _).alloc (Nat.le_refl _) (.cells #[.int .u64 (hi qx), .int .u64 (lo qx), .int .u64 (hi qy), .int .u64 (lo qy)] 37))
  replace y2 := row_alloc y2 (.cells #[.int .u64 (hi qx), .int .u64 (lo qx), .int .u64 (hi qy), .int .u64 (lo qy)] 37)
  replace i3 := i3.below ((Below.refl _ _).alloc (Nat.le_refl _) (.cells #[.int .u64 (hi qx), .int .u64 (lo qx), .int .u64 (hi qy), .int .u64 (lo qy)] 37))
  replace y3 := row_alloc y3 (.cells #[.int .u64 (hi qx), .int .u64 (lo qx), .int .u64 (hi qy), .int .u64 (lo qy)] 37)
  replace i4 := i4.below ((Below.refl _ _).alloc (Nat.le_refl _) (.cells #[.int .u64 (hi qx), .int .u64 (lo qx), .int .u64 (hi qy), .int .u64 (lo qy)] 37))
  replace y4 := row_alloc y4 (.cells #[.int .u64 (hi qx), .int .u64 (lo qx), .int .u64 (hi qy), .int .u64 (lo qy)] 37)
  have y5 : Row (w5.alloc (.cells #[.int .u64 (hi qx), .int .u64 (lo qx), .int .u64 (hi qy), .int .u64 (lo qy)] 37)) w5.heap.size 37 #[.int .u64 (hi qx), .int .u64 (lo qx), .int .u64 (hi qy), .int .u64 (lo qy)] := row_new rfl
  generalize w5.alloc (.cells #[.int .u64 (hi qx), .int .u64 (lo qx), .int .u64 (hi qy), .int .u64 (lo qy)] 37) = v5 at o x i1 y1 i2 y2 i3 y3 i4 y4 y5 ⊢
  generalize w5.heap.size = b5 at y5 ⊢
  clear X0 X1 X2 X3 Xf0 Xf1 Xf2 Xf3
  obtain ⟨X0, X1, X2, X3, Xf0, Xf1, Xf2, Xf3⟩ := row_four x
  go_wp2_with fail
  refine (RQ.out _ (by exact o)).mono ?_
  rintro e w6 ⟨rfl, hb6⟩
  replace o := o.trans (hb6.mono o.size)
  replace x := row_call x hb6
  replace i1 := i1.below hb6
  replace y1 := row_call y1 hb6
  replace i2 := i2.below hb6
  replace y2 := row_call y2 hb6
  replace i3 := i3.below hb6
  replace y3 := row_call y3 hb6
  replace i4 := i4.below hb6
  replace y4 := row_call y4 hb6
  replace y5 := row_call y5 hb6
  clear X0 X1 X2 X3 Xf0 Xf1 Xf2 Xf3 hb6
  obtain ⟨X0, X1, X2, X3, Xf0, Xf1, Xf2, Xf3⟩ := row_four x
  go_upto_region 9 with (fail)
  replace o := o.alloc o.size (.cells #[.int .u64 (hi qx), .int .u64 (lo qx), .int .u64 (hi qy), .int .u64 (lo qy)] 37)
  replace x := row_alloc x (.cells #[.int .u64 (hi qx), .int .u64 (lo qx), .int .u64 (hi qy), .int .u64 (lo qy)] 37)
  replace i1 := i1.below ((Below.refl _ _).alloc (Nat.le_refl _) (.cells #[.int .u64 (hi qx), .int .u64 (lo qx), .int .u64 (hi qy), .int .u64 (lo qy)] 37))
  replace y1 := row_alloc y1 (.cells #[.int .u64 (hi qx), .int .u64 (lo qx), .int .u64 (hi qy), .int .u64 (lo qy)] 37)
  replace i2 := i2.below ((Below.refl _ _).alloc (Nat.le_refl _) (.cells #[.int .u64 (hi qx), .int .u64 (lo qx), .int .u64 (hi qy), .int .u64 (lo qy)] 37))
  replace y2 := row_alloc y2 (.cells #[.int .u64 (hi qx), .int .u64 (lo qx), .int .u64 (hi qy), .int .u64 (lo qy)] 37)
  replace i3 := i3.below ((Below.refl _ _).alloc (Nat.le_refl _) (.cells #[.int .u64 (hi qx), .int .u64 (lo qx), .int .u64 (hi qy), .int .u64 (lo qy)] 37))
  replace y3 := row_alloc y3 (.cells #[.int .u64 (hi qx), .int .u64 (lo qx), .int .u64 (hi qy), .int .u64 (lo qy)] 37)
  replace i4 := i4.below ((Below.refl _ _).alloc (Nat.le_refl _) (.cells #[.int .u64 (hi qx), .int .u64 (lo qx), .int .u64 (hi qy), .int .u64 (lo qy)] 37))
  replace y4 := row_alloc y4 (.cells #[.int .u64 (hi qx), .int .u64 (lo qx), .int .u64 (hi qy), .int .u64 (lo qy)] 37)
  replace y5 := row_alloc y5 (.cells #[.int .u64 (hi qx), .int .u64 (lo qx), .int .u64 (hi qy), .int .u64 (lo qy)] 37)
  have y6 : Row (w6.alloc (.cells #[.int .u64 (hi qx), .int .u64 (lo qx), .int .u64 (hi qy), .int .u64 (lo qy)] 37)) w6.heap.size 37 #[.int .u64 (hi qx), .int .u64 (lo qx), .int .u64 (hi qy), .int .u64 (lo qy)] := row_new rfl
  generalize w6.alloc (.cells #[.int .u64 (hi qx), .int .u64 (lo qx), .int .u64 (hi qy), .int .u64 (lo qy)] 37) = v6 at o x i1 y1 i2 y2 i3 y3 i4 y4 y5 y6 ⊢
  generalize w6.heap.size = b6 at y6 ⊢
  clear X0 X1 X2 X3 Xf0 Xf1 Xf2 Xf3
  have G1 := Lib.hid i1
  have G2 := Lib.hid i2
  have G3 := Lib.hid i3
  have G4 := Lib.hid i4
  clear i1 i2 i3 i4
  refine wp_region_free0 [0, 1, 2, 3, 4, 5, 6, 7, 8, 9, 10, 11, 12, 13, 14, 15, 16, 17, 18, 19, 20, 21, 22, 23, 24, 25, 26, 27, 28, 29, 30, 31, 32, 33, 34, 35, 36, 37] [] [0, 1, 2, 3, 4, 5, 6, 7, 8, 9, 10, 11, 12, 13, 14, 15, 16, 17, 18, 19, 20, 21, 22, 23, 24, 25, 26, 27, 28, 29, 30, 31, 32, 33, 34, 35, 36, 37] 38 (fun w' => Below v6.heap.size v6 w') (by kernel_rfl) (by kernel_rfl) (fun _ _ d _ _ h => by cases d <;> exact h) ?_ ?_
  · exact (Below.refl _ _).drew
  (refine plan_val ?_ rfl rfl rfl (fun w' hS => ?_) ?_; rotate_left; (obtain ⟨X0, X1, X2, X3, Xf0, Xf1, Xf2, Xf3⟩ := row_four (row_call x hS); obtain ⟨Y10, Y11, Y12, Y13, Y1f0, Y1f1, Y1f2, Y1f3⟩ := row_four (row_call y1 hS); obtain ⟨Y20, Y21, Y22, Y23, Y2f0, Y2f1, Y2f2, Y2f3⟩ := row_four (row_call y2 hS); obtain ⟨Y30, Y31, Y32, Y33, Y3f0, Y3f1, Y3f2, Y3f3⟩ := row_four (row_call y3 hS); obtain ⟨Y40, Y41, Y42, Y43, Y4f0, Y4f1, Y4f2, Y4f3⟩ := row_four (row_call y4 hS); obtain ⟨Y50, Y51, Y52, Y53, Y5f0, Y5f1, Y5f2, Y5f3⟩ := row_four (row_call y5 hS); obtain ⟨Y60, Y61, Y62, Y63, Y6f0, Y6f1, Y6f2, Y6f3⟩ := row_four (row_call y6 hS); go_simp; try with_reducible rfl); simp only [Act.put, List.setIfInBounds_toArray, List.set_cons_zero, List.set_cons_succ])
  refine plan_call (.int .i64 ve) 20 #[.agg #[.int .i64 p, .int .i64 land, .int .i64 now, .slice A n c]] rfl rfl rfl (fun _ _ h hb => h.trans (hb.mono h.size)) (fun w' hS => by obtain ⟨X0, X1, X2, X3, Xf0, Xf1, Xf2, Xf3⟩ := row_four (row_call x hS); obtain ⟨Y10, Y11, Y12, Y13, Y1f0, Y1f1, Y1f2, Y1f3⟩ := row_four (row_call y1 hS); obtain ⟨Y20, Y21, Y22, Y23, Y2f0, Y2f1, Y2f2, Y2f3⟩ := row_four (row_call y2 hS); obtain ⟨Y30, Y31, Y32, Y33, Y3f0, Y3f1, Y3f2, Y3f3⟩ := row_four (row_call y3 hS); obtain ⟨Y40, Y41, Y42, Y43, Y4f0, Y4f1, Y4f2, Y4f3⟩ := row_four (row_call y4 hS); obtain ⟨Y50, Y51, Y52, Y53, Y5f0, Y5f1, Y5f2, Y5f3⟩ := row_four (row_call y5 hS); obtain ⟨Y60, Y61, Y62, Y63, Y6f0, Y6f1, Y6f2, Y6f3⟩ := row_four (row_call y6 hS); go_simp) (fun w' hS => VP.out w' (o.trans (hS.mono o.size))) ?_
  simp only [Act.put, List.setIfInBounds_toArray, List.set_cons_zero, List.set_cons_succ]
  (refine plan_val ?_ rfl rfl rfl (fun w' hS => ?_) ?_; rotate_left; (obtain ⟨X0, X1, X2, X3, Xf0, Xf1, Xf2, Xf3⟩ := row_four (row_call x hS); obtain ⟨Y10, Y11, Y12, Y13, Y1f0, Y1f1, Y1f2, Y1f3⟩ := row_four (row_call y1 hS); obtain ⟨Y20, Y21, Y22, Y23, Y2f0, Y2f1, Y2f2, Y2f3⟩ := row_four (row_call y2 hS); obtain ⟨Y30, Y31, Y32, Y33, Y3f0, Y3f1, Y3f2, Y3f3⟩ := row_four (row_call y3 hS); obtain ⟨Y40, Y41, Y42, Y43, Y4f0, Y4f1, Y4f2, Y4f3⟩ := row_four (row_call y4 hS); obtain ⟨Y50, Y51, Y52, Y53, Y5f0, Y5f1, Y5f2, Y5f3⟩ := row_four (row_call y5 hS); obtain ⟨Y60, Y61, Y62, Y63, Y6f0, Y6f1, Y6f2, Y6f3⟩ := row_four (row_call y6 hS); go_simp; try with_reducible rfl); simp only [Act.put, List.setIfInBounds_toArray, List.set_cons_zero, List.set_cons_succ])
  refine plan_call (.int .i64 ve) 21 #[.agg #[.int .i64 p, .int .i64 land, .int .i64 now, .slice A n c]] rfl rfl rfl (fun _ _ h hb => h.trans (hb.mono h.size)) (fun w' hS => by obtain ⟨X0, X1, X2, X3, Xf0, Xf1, Xf2, Xf3⟩ := row_four (row_call x hS); obtain ⟨Y10, Y11, Y12, Y13, Y1f0, Y1f1, Y1f2, Y1f3⟩ := row_four (row_call y1 hS); obtain ⟨Y20, Y21, Y22, Y23, Y2f0, Y2f1, Y2f2, Y2f3⟩ := row_four (row_call y2 hS); obtain ⟨Y30, Y31, Y32, Y33, Y3f0, Y3f1, Y3f2, Y3f3⟩ := row_four (row_call y3 hS); obtain ⟨Y40, Y41, Y42, Y43, Y4f0, Y4f1, Y4f2, Y4f3⟩ := row_four (row_call y4 hS); obtain ⟨Y50, Y51, Y52, Y53, Y5f0, Y5f1, Y5f2, Y5f3⟩ := row_four (row_call y5 hS); obtain ⟨Y60, Y61, Y62, Y63, Y6f0, Y6f1, Y6f2, Y6f3⟩ := row_four (row_call y6 hS); go_simp) (fun w' hS => VR.out w' (o.trans (hS.mono o.size))) ?_
  simp only [Act.put, List.setIfInBounds_toArray, List.set_cons_zero, List.set_cons_succ]
  (refine plan_pure ?_ rfl rfl (fun w' => ?_) ?_; rotate_left; (go_simp; try with_reducible rfl); simp only [Act.put, List.setIfInBounds_toArray, List.set_cons_zero, List.set_cons_succ])
  (refine plan_pure ?_ rfl rfl (fun w' => ?_) ?_; rotate_left; (go_simp; try with_reducible rfl); simp only [Act.put, List.setIfInBounds_toArray, List.set_cons_zero, List.set_cons_succ])
  (refine plan_val ?_ rfl rfl rfl (fun w' hS => ?_) ?_; rotate_left; (obtain ⟨X0, X1, X2, X3, Xf0, Xf1, Xf2, Xf3⟩ := row_four (row_call x hS); obtain ⟨Y10, Y11, Y12, Y13, Y1f0, Y1f1, Y1f2, Y1f3⟩ := row_four (row_call y1 hS); obtain ⟨Y20, Y21, Y22, Y23, Y2f0, Y2f1, Y2f2, Y2f3⟩ := row_four (row_call y2 hS); obtain ⟨Y30, Y31, Y32, Y33, Y3f0, Y3f1, Y3f2, Y3f3⟩ := row_four (row_call y3 hS); obtain ⟨Y40, Y41, Y42, Y43, Y4f0, Y4f1, Y4f2, Y4f3⟩ := row_four (row_call y4 hS); obtain ⟨Y50, Y51, Y52, Y53, Y5f0, Y5f1, Y5f2, Y5f3⟩ := row_four (row_call y5 hS); obtain ⟨Y60, Y61, Y62, Y63, Y6f0, Y6f1, Y6f2, Y6f3⟩ := row_four (row_call y6 hS); go_simp; try with_reducible rfl); simp only [Act.put, List.setIfInBounds_toArray, List.set_cons_zero, List.set_cons_succ])
  (refine plan_val ?_ rfl rfl rfl (fun w' hS => ?_) ?_; rotate_left; (obtain ⟨X0, X1, X2, X3, Xf0, Xf1, Xf2, Xf3⟩ := row_four (row_call x hS); obtain ⟨Y10, Y11, Y12, Y13, Y1f0, Y1f1, Y1f2, Y1f3⟩ := row_four (row_call y1 hS); obtain ⟨Y20, Y21, Y22, Y23, Y2f0, Y2f1, Y2f2, Y2f3⟩ := row_four (row_call y2 hS); obtain ⟨Y30, Y31, Y32, Y33, Y3f0, Y3f1, Y3f2, Y3f3⟩ := row_four (row_call y3 hS); obtain ⟨Y40, Y41, Y42, Y43, Y4f0, Y4f1, Y4f2, Y4f3⟩ := row_four (row_call y4 hS); obtain ⟨Y50, Y51, Y52, Y53, Y5f0, Y5f1, Y5f2, Y5f3⟩ := row_four (row_call y5 hS); obtain ⟨Y60, Y61, Y62, Y63, Y6f0, Y6f1, Y6f2, Y6f3⟩ := row_four (row_call y6 hS); go_simp; try with_reducible rfl); simp only [Act.put, List.setIfInBounds_toArray, List.set_cons_zero, List.set_cons_succ])
  refine plan_call (.bool true) 11 #[.agg #[.int .i64 pa, .int .i64 la, .int .i64 ta, .slice A1 n1 c1], .agg #[.int .i64 pa, .int .i64 la, .int .i64 ta, .slice A2 n2 c2]] rfl rfl rfl (fun _ _ h hb => h.trans (hb.mono h.size)) (fun w' hS => by obtain ⟨X0, X1, X2, X3, Xf0, Xf1, Xf2, Xf3⟩ := row_four (row_call x hS); obtain ⟨Y10, Y11, Y12, Y13, Y1f0, Y1f1, Y1f2, Y1f3⟩ := row_four (row_call y1 hS); obtain ⟨Y20, Y21, Y22, Y23, Y2f0, Y2f1, Y2f2, Y2f3⟩ := row_four (row_call y2 hS); obtain ⟨Y30, Y31, Y32, Y33, Y3f0, Y3f1, Y3f2, Y3f3⟩ := row_four (row_call y3 hS); obtain ⟨Y40, Y41, Y42, Y43, Y4f0, Y4f1, Y4f2, Y4f3⟩ := row_four (row_call y4 hS); obtain ⟨Y50, Y51, Y52, Y53, Y5f0, Y5f1, Y5f2, Y5f3⟩ := row_four (row_call y5 hS); obtain ⟨Y60, Y61, Y62, Y63, Y6f0, Y6f1, Y6f2, Y6f3⟩ := row_four (row_call y6 hS); go_simp) (fun w' hS => rpsame pa la ta A1 n1 c1 A2 n2 c2 ma w' (G1.out.below hS) (G2.out.below hS)) ?_
  simp only [Act.put, List.setIfInBounds_toArray, List.set_cons_zero, List.set_cons_succ]
  (refine plan_pure ?_ rfl rfl (fun w' => ?_) ?_; rotate_left; (go_simp; try with_reducible rfl); simp only [Act.put, List.setIfInBounds_toArray, List.set_cons_zero, List.set_cons_succ])
  (refine plan_pure ?_ rfl rfl (fun w' => ?_) ?_; rotate_left; (go_simp; try with_reducible rfl); simp only [Act.put, List.setIfInBounds_toArray, List.set_cons_zero, List.set_cons_succ])
  (refine plan_pure ?_ rfl rfl (fun w' => ?_) ?_; rotate_left; (go_simp; try with_reducible rfl); simp only [Act.put, List.setIfInBounds_toArray, List.set_cons_zero, List.set_cons_succ])
  (refine plan_pure ?_ rfl rfl (fun w' => ?_) ?_; rotate_left; (go_simp; try with_reducible rfl); simp only [Act.put, List.setIfInBounds_toArray, List.set_cons_zero, List.set_cons_succ])
  (refine plan_pure ?_ rfl rfl (fun w' => ?_) ?_; rotate_left; (go_simp; try with_reducible rfl); simp only [Act.put, List.setIfInBounds_toArray, List.set_cons_zero, List.set_cons_succ])
  (refine plan_pure ?_ rfl rfl (fun w' => ?_) ?_; rotate_left; (go_simp; try with_reducible rfl); simp only [Act.put, List.setIfInBounds_toArray, List.set_cons_zero, List.set_cons_succ])
  (refine plan_pure ?_ rfl rfl (fun w' => ?_) ?_; rotate_left; (go_simp; try with_reducible rfl); simp only [Act.put, List.setIfInBounds_toArray, List.set_cons_zero, List.set_cons_succ])
  (refine plan_val ?_ rfl rfl rfl (fun w' hS => ?_) ?_; rotate_left; (obtain ⟨X0, X1, X2, X3, Xf0, Xf1, Xf2, Xf3⟩ := row_four (row_call x hS); obtain ⟨Y10, Y11, Y12, Y13, Y1f0, Y1f1, Y1f2, Y1f3⟩ := row_four (row_call y1 hS); obtain ⟨Y20, Y21, Y22, Y23, Y2f0, Y2f1, Y2f2, Y2f3⟩ := row_four (row_call y2 hS); obtain ⟨Y30, Y31, Y32, Y33, Y3f0, Y3f1, Y3f2, Y3f3⟩ := row_four (row_call y3 hS); obtain ⟨Y40, Y41, Y42, Y43, Y4f0, Y4f1, Y4f2, Y4f3⟩ := row_four (row_call y4 hS); obtain ⟨Y50, Y51, Y52, Y53, Y5f0, Y5f1, Y5f2, Y5f3⟩ := row_four (row_call y5 hS); obtain ⟨Y60, Y61, Y62, Y63, Y6f0, Y6f1, Y6f2, Y6f3⟩ := row_four (row_call y6 hS); go_simp; try with_reducible rfl); simp only [Act.put, List.setIfInBounds_toArray, List.set_cons_zero, List.set_cons_succ])
  (refine plan_val ?_ rfl rfl rfl (fun w' hS => ?_) ?_; rotate_left; (obtain ⟨X0, X1, X2, X3, Xf0, Xf1, Xf2, Xf3⟩ := row_four (row_call x hS); obtain ⟨Y10, Y11, Y12, Y13, Y1f0, Y1f1, Y1f2, Y1f3⟩ := row_four (row_call y1 hS); obtain ⟨Y20, Y21, Y22, Y23, Y2f0, Y2f1, Y2f2, Y2f3⟩ := row_four (row_call y2 hS); obtain ⟨Y30, Y31, Y32, Y33, Y3f0, Y3f1, Y3f2, Y3f3⟩ := row_four (row_call y3 hS); obtain ⟨Y40, Y41, Y42, Y43, Y4f0, Y4f1, Y4f2, Y4f3⟩ := row_four (row_call y4 hS); obtain ⟨Y50, Y51, Y52, Y53, Y5f0, Y5f1, Y5f2, Y5f3⟩ := row_four (row_call y5 hS); obtain ⟨Y60, Y61, Y62, Y63, Y6f0, Y6f1, Y6f2, Y6f3⟩ := row_four (row_call y6 hS); go_simp; try with_reducible rfl); simp only [Act.put, List.setIfInBounds_toArray, List.set_cons_zero, List.set_cons_succ])
  refine plan_call (.bool true) 11 #[.agg #[.int .i64 pb, .int .i64 lb, .int .i64 tb, .slice A3 n3 c3], .agg #[.int .i64 pb, .int .i64 lb, .int .i64 tb, .slice A4 n4 c4]] rfl rfl rfl (fun _ _ h hb => h.trans (hb.mono h.size)) (fun w' hS => by obtain ⟨X0, X1, X2, X3, Xf0, Xf1, Xf2, Xf3⟩ := row_four (row_call x hS); obtain ⟨Y10, Y11, Y12, Y13, Y1f0, Y1f1, Y1f2, Y1f3⟩ := row_four (row_call y1 hS); obtain ⟨Y20, Y21, Y22, Y23, Y2f0, Y2f1, Y2f2, Y2f3⟩ := row_four (row_call y2 hS); obtain ⟨Y30, Y31, Y32, Y33, Y3f0, Y3f1, Y3f2, Y3f3⟩ := row_four (row_call y3 hS); obtain ⟨Y40, Y41, Y42, Y43, Y4f0, Y4f1, Y4f2, Y4f3⟩ := row_four (row_call y4 hS); obtain ⟨Y50, Y51, Y52, Y53, Y5f0, Y5f1, Y5f2, Y5f3⟩ := row_four (row_call y5 hS); obtain ⟨Y60, Y61, Y62, Y63, Y6f0, Y6f1, Y6f2, Y6f3⟩ := row_four (row_call y6 hS); go_simp) (fun w' hS => rpsame pb lb tb A3 n3 c3 A4 n4 c4 mb w' (G3.out.below hS) (G4.out.below hS)) ?_
  simp only [Act.put, List.setIfInBounds_toArray, List.set_cons_zero, List.set_cons_succ]
  (refine plan_pure ?_ rfl rfl (fun w' => ?_) ?_; rotate_left; (go_simp; try with_reducible rfl); simp only [Act.put, List.setIfInBounds_toArray, List.set_cons_zero, List.set_cons_succ])
  (refine plan_pure ?_ rfl rfl (fun w' => ?_) ?_; rotate_left; (go_simp; try with_reducible rfl); simp only [Act.put, List.setIfInBounds_toArray, List.set_cons_zero, List.set_cons_succ])
  (refine plan_pure ?_ rfl rfl (fun w' => ?_) ?_; rotate_left; (go_simp; try with_reducible rfl); simp only [Act.put, List.setIfInBounds_toArray, List.set_cons_zero, List.set_cons_succ])
  (refine plan_pure ?_ rfl rfl (fun w' => ?_) ?_; rotate_left; (go_simp; try with_reducible rfl); simp only [Act.put, List.setIfInBounds_toArray, List.set_cons_zero, List.set_cons_succ])
  (refine plan_pure ?_ rfl rfl (fun w' => ?_) ?_; rotate_left; (go_simp; try with_reducible rfl); simp only [Act.put, List.setIfInBounds_toArray, List.set_cons_zero, List.set_cons_succ])
  (refine plan_pure ?_ rfl rfl (fun w' => ?_) ?_; rotate_left; (go_simp; try with_reducible rfl); simp only [Act.put, List.setIfInBounds_toArray, List.set_cons_zero, List.set_cons_succ])
  (refine plan_pure ?_ rfl rfl (fun w' => ?_) ?_; rotate_left; (go_simp; try with_reducible rfl); simp only [Act.put, List.setIfInBounds_toArray, List.set_cons_zero, List.set_cons_succ])
  (refine plan_val ?_ rfl rfl rfl (fun w' hS => ?_) ?_; rotate_left; (obtain ⟨X0, X1, X2, X3, Xf0, Xf1, Xf2, Xf3⟩ := row_four (row_call x hS); obtain ⟨Y10, Y11, Y12, Y13, Y1f0, Y1f1, Y1f2, Y1f3⟩ := row_four (row_call y1 hS); obtain ⟨Y20, Y21, Y22, Y23, Y2f0, Y2f1, Y2f2, Y2f3⟩ := row_four (row_call y2 hS); obtain ⟨Y30, Y31, Y32, Y33, Y3f0, Y3f1, Y3f2, Y3f3⟩ := row_four (row_call y3 hS); obtain ⟨Y40, Y41, Y42, Y43, Y4f0, Y4f1, Y4f2, Y4f3⟩ := row_four (row_call y4 hS); obtain ⟨Y50, Y51, Y52, Y53, Y5f0, Y5f1, Y5f2, Y5f3⟩ := row_four (row_call y5 hS); obtain ⟨Y60, Y61, Y62, Y63, Y6f0, Y6f1, Y6f2, Y6f3⟩ := row_four (row_call y6 hS); go_simp; try with_reducible rfl); simp only [Act.put, List.setIfInBounds_toArray, List.set_cons_zero, List.set_cons_succ])
  (refine plan_val ?_ rfl rfl rfl (fun w' hS => ?_) ?_; rotate_left; (obtain ⟨X0, X1, X2, X3, Xf0, Xf1, Xf2, Xf3⟩ := row_four (row_call x hS); obtain ⟨Y10, Y11, Y12, Y13, Y1f0, Y1f1, Y1f2, Y1f3⟩ := row_four (row_call y1 hS); obtain ⟨Y20, Y21, Y22, Y23, Y2f0, Y2f1, Y2f2, Y2f3⟩ := row_four (row_call y2 hS); obtain ⟨Y30, Y31, Y32, Y33, Y3f0, Y3f1, Y3f2, Y3f3⟩ := row_four (row_call y3 hS); obtain ⟨Y40, Y41, Y42, Y43, Y4f0, Y4f1, Y4f2, Y4f3⟩ := row_four (row_call y4 hS); obtain ⟨Y50, Y51, Y52, Y53, Y5f0, Y5f1, Y5f2, Y5f3⟩ := row_four (row_call y5 hS); obtain ⟨Y60, Y61, Y62, Y63, Y6f0, Y6f1, Y6f2, Y6f3⟩ := row_four (row_call y6 hS); go_simp; try with_reducible rfl); simp only [Act.put, List.setIfInBounds_toArray, List.set_cons_zero, List.set_cons_succ])
  (refine plan_pure ?_ rfl rfl (fun w' => ?_) ?_; rotate_left; (go_simp; try with_reducible rfl); simp only [Act.put, List.setIfInBounds_toArray, List.set_cons_zero, List.set_cons_succ])
  (refine plan_pure ?_ rfl rfl (fun w' => ?_) ?_; rotate_left; (go_simp; try with_reducible rfl); simp only [Act.put, List.setIfInBounds_toArray, List.set_cons_zero, List.set_cons_succ])
  (refine plan_pure ?_ rfl rfl (fun w' => ?_) ?_; rotate_left; (go_simp; try with_reducible rfl); simp only [Act.put, List.setIfInBounds_toArray, List.set_cons_zero, List.set_cons_succ])
  (refine plan_pure ?_ rfl rfl (fun w' => ?_) ?_; rotate_left; (go_simp; try with_reducible rfl); simp only [Act.put, List.setIfInBounds_toArray, List.set_cons_zero, List.set_cons_succ])
  (refine plan_pure ?_ rfl rfl (fun w' => ?_) ?_; rotate_left; (go_simp; try with_reducible rfl); simp only [Act.put, List.setIfInBounds_toArray, List.set_cons_zero, List.set_cons_succ])
  (refine plan_pure ?_ rfl rfl (fun w' => ?_) ?_; rotate_left; (go_simp; try with_reducible rfl); simp only [Act.put, List.setIfInBounds_toArray, List.set_cons_zero, List.set_cons_succ])
  (refine plan_pure ?_ rfl rfl (fun w' => ?_) ?_; rotate_left; (go_simp; try with_reducible rfl); simp only [Act.put, List.setIfInBounds_toArray, List.set_cons_zero, List.set_cons_succ])
  (refine plan_pure ?_ rfl rfl (fun w' => ?_) ?_; rotate_left; (go_simp; try with_reducible rfl); simp only [Act.put, List.setIfInBounds_toArray, List.set_cons_zero, List.set_cons_succ])
  refine plan_call (.bool true) 12 #[] rfl rfl rfl (fun _ _ h hb => h.trans (hb.mono h.size)) (fun w' hS => by obtain ⟨X0, X1, X2, X3, Xf0, Xf1, Xf2, Xf3⟩ := row_four (row_call x hS); obtain ⟨Y10, Y11, Y12, Y13, Y1f0, Y1f1, Y1f2, Y1f3⟩ := row_four (row_call y1 hS); obtain ⟨Y20, Y21, Y22, Y23, Y2f0, Y2f1, Y2f2, Y2f3⟩ := row_four (row_call y2 hS); obtain ⟨Y30, Y31, Y32, Y33, Y3f0, Y3f1, Y3f2, Y3f3⟩ := row_four (row_call y3 hS); obtain ⟨Y40, Y41, Y42, Y43, Y4f0, Y4f1, Y4f2, Y4f3⟩ := row_four (row_call y4 hS); obtain ⟨Y50, Y51, Y52, Y53, Y5f0, Y5f1, Y5f2, Y5f3⟩ := row_four (row_call y5 hS); obtain ⟨Y60, Y61, Y62, Y63, Y6f0, Y6f1, Y6f2, Y6f3⟩ := row_four (row_call y6 hS); go_simp) (fun w' hS => awake15 w') ?_
  simp only [Act.put, List.setIfInBounds_toArray, List.set_cons_zero, List.set_cons_succ]
  (refine plan_pure ?_ rfl rfl (fun w' => ?_) ?_; rotate_left; (go_simp; try with_reducible rfl); simp only [Act.put, List.setIfInBounds_toArray, List.set_cons_zero, List.set_cons_succ])
  refine plan_nil ?_
  intro w10 L10
  simp only [List.drop_succ_cons, List.drop_zero]
  try simp only [Act.put, List.setIfInBounds_toArray, List.set_cons_zero, List.set_cons_succ]
  replace o := o.trans (L10.mono o.size)
  clear L10
  go_wp2
  go_ret
  exact ⟨rfl, o⟩
theorem polyStates_many (p land now : Int) (A : Option Addr) (n c : Nat) (ms : List Nat) (to v : Int) (w : World) (hf : 50 < n) : Calls Try.prog 4 #[.agg #[.int .i64 p, .int .i64 land, .int .i64 now, .slice A n c], .int .i64 to, .int .i64 v] w fun e w' => e = .returned (.bool true) ∧ Below w.heap.size w w' := by
  have FW := Lib.hid (fun w => few_no p land now A n c ms w hf)
  clear hf
  go_enter Try.func4, Try.ntmps4
  go_wp2_with (first | (go_at_call 13; refine (FW.out _).mono ?_; rintro e w1 ⟨rfl, hb1⟩; have hz1 := hb1.size; (try simp at hz1)) | (go_at_call 12; refine (awake15 _).mono ?_; rintro e w2 ⟨rfl, hb2⟩; have hz2 := hb2.size))
  go_ret
  exact ⟨rfl, by (repeat (first | exact Below.refl _ _ | refine Below.setCell ?_ (by first | (simp; done) | (simp; omega) | omega) _ | refine Below.alloc ?_ (by first | (simp; done) | (simp; omega) | omega) _ | refine Below.drew ?_ | refine Below.trans ?_ (Below.mono (by assumption) (by first | (simp; done) | (simp; omega) | omega))))⟩
theorem polyStates (p land now : Int) (A : Option Addr) (n c : Nat) (ms : List Nat) (to v : Int) (w : World) (hin : PIn p land now A n c ms w) : Calls Try.prog 4 #[.agg #[.int .i64 p, .int .i64 land, .int .i64 now, .slice A n c], .int .i64 to, .int .i64 v] w fun e w' => e = .returned (.bool true) ∧ Below w.heap.size w w' := by
  by_cases h : n ≤ 50
  · exact polyStates_few p land now A n c ms to v w hin h
  · exact polyStates_many p land now A n c ms to v w (by omega)
end Go.Proofs.Ytejoomlaanmbkaa
