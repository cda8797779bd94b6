/- Powers, walked: the program and the reference. -/
import Derived.Test.YtejoomlaanmbkaaMul
import Derived.Test.YtejoomlaanmbkaaRMul
import Derived.Test.YtejoomlaanmbkaaMathPow
import Derived.Deep.LoopGhost
namespace Go.Proofs.Ytejoomlaanmbkaa
open Go.RowKit Go.Shelf
/-- The state of the search for a power. -/
def PowS (w w' : World) (q x : Nat) : Prop := Row w' w.heap.size 35 #[.int .u64 0, .int .u64 0] ∧ Row w' q 35 (Wc x) ∧ Below w.heap.size w w'
theorem PowS.call {w w' w'' : World} {q x : Nat} (h : PowS w w' q x) (k : Below w'.heap.size w' w'') : PowS w w'' q x := ⟨row_call h.1 k, row_call h.2.1 k, h.2.2.trans (k.mono h.2.2.size)⟩
theorem PowS.alloc {w w' : World} {q x : Nat} (h : PowS w w' q x) (o : Obj) : PowS w (w'.alloc o) q x := ⟨row_alloc h.1 o, row_alloc h.2.1 o, h.2.2.alloc h.2.2.size o⟩
theorem PowS.drew {w w' : World} {q x : Nat} (h : PowS w w' q x) : PowS w w'.drew q x := ⟨h.1, h.2.1, h.2.2.drew⟩
theorem PowS.other {w w' : World} {q x g : Nat} {u v : Value} (h : PowS w w' q x) (h1 : w.heap.size < g) (h2 : q ≠ g) : PowS w ((w'.setCell ⟨g, 0, none⟩ u).setCell ⟨g, 1, none⟩ v) q x :=
  ⟨row_two_other h.1 (by omega), row_two_other h.2.1 h2, (h.2.2.setCell (by simp; omega) _).setCell (by simp; omega) _⟩
theorem PowS.set {w w' : World} {q x : Nat} (y : Nat) (h : PowS w w' q x) (h1 : w.heap.size < q) : PowS w ((w'.setCell ⟨q, 0, none⟩ (.int .u64 (hi y))).setCell ⟨q, 1, none⟩ (.int .u64 (lo y))) q y :=
  ⟨row_two_other h.1 (by omega), row_two_set h.2.1, (h.2.2.setCell (by simp; omega) _).setCell (by simp; omega) _⟩
theorem ppow_neg (a n : Int) (h : n < 0) (w : World) :
    Calls Try.prog 36 #[.int .u64 a, .int .i64 n] w fun e w' => e = .returned (.tuple #[W 0, .bool false]) ∧ Below w.heap.size w w' := by
  go_enter Try.func36, Try.ntmps36
  go_wp2
  simp [bodyPost, results, Try.results36, go_sem]
  refine ⟨⟨rfl, rfl⟩, ?_⟩
  (repeat (first | exact Below.refl _ _ | refine Below.setCell ?_ (by first | (simp; done) | (simp; omega) | omega) _ | refine Below.alloc ?_ (by first | (simp; done) | (simp; omega) | omega) _ | refine Below.drew ?_ | refine Below.trans ?_ (Below.mono (by assumption) (by first | (simp; done) | (simp; omega) | omega))))
theorem rpow_neg (a n : Int) (h : n < 0) (w : World) :
    Calls Try.prog 41 #[.int .u64 a, .int .i64 n] w fun e w' => e = .returned (.tuple #[W 0, .bool false]) ∧ Below w.heap.size w w' := by
  go_enter Try.func41, Try.ntmps41
  go_wp2
  simp [bodyPost, results, Try.results41, go_sem]
  refine ⟨⟨rfl, rfl⟩, ?_⟩
  (repeat (first | exact Below.refl _ _ | refine Below.setCell ?_ (by first | (simp; done) | (simp; omega) | omega) _ | refine Below.alloc ?_ (by first | (simp; done) | (simp; omega) | omega) _ | refine Below.drew ?_ | refine Below.trans ?_ (Below.mono (by assumption) (by first | (simp; done) | (simp; omega) | omega))))
theorem ppow_null (n : Nat) (h : 0 < n) (w : World) :
    Calls Try.prog 36 #[.int .u64 0, .int .i64 n] w fun e w' => e = .returned (.tuple #[W 0, .bool true]) ∧ Below w.heap.size w w' := by
  have h' : ¬ ((n : Int) < 0) := by omega
  have h'' : (0 : Int) < n := by omega
  go_enter Try.func36, Try.ntmps36
  go_wp2_with fail
  simp [bodyPost, results, Try.results36, go_sem]
  refine ⟨⟨rfl, rfl⟩, ?_⟩
  (repeat (first | exact Below.refl _ _ | refine Below.setCell ?_ (by first | (simp; done) | (simp; omega) | omega) _ | refine Below.alloc ?_ (by first | (simp; done) | (simp; omega) | omega) _ | refine Below.drew ?_ | refine Below.trans ?_ (Below.mono (by assumption) (by first | (simp; done) | (simp; omega) | omega))))
theorem ppow_zero  (w : World) :
    Calls Try.prog 36 #[.int .u64 0, .int .i64 0] w fun e w' => e = .returned (.tuple #[W 1, .bool true]) ∧ Below w.heap.size w w' := by
  go_enter Try.func36, Try.ntmps36
  go_wp2_with (go_at_call 38; refine (pof 1 (by decide) _).mono ?_; rintro e w1 ⟨rfl, hb1⟩; have hz1 := hb1.size; (try simp at hz1); have q1_0 : w.heap.size < w1.heap.size := (by omega); have r1_0 : Row w1 (w.heap.size) 35 #[.int .u64 0, .int .u64 0] := row_call (by (repeat (first | assumption | (refine row_new ?_; (first | (simp; done) | omega)) | refine row_alloc ?_ _ | refine row_drew ?_ | refine row_call ?_ (by assumption)))) hb1; obtain ⟨c1_0a, c1_0b, f1_0a, f1_0b⟩ := row_two r1_0)
  have r9 := row_two_set (u := .int .u64 (hi 1)) (v := .int .u64 (lo 1)) r1_0
  have o9 : Below w.heap.size w ((w1.setCell ⟨w.heap.size, 0, none⟩ (.int .u64 (hi 1))).setCell ⟨w.heap.size, 1, none⟩ (.int .u64 (lo 1))) := by
    (repeat (first | exact Below.refl _ _ | refine Below.setCell ?_ (by first | (simp; done) | (simp; omega) | omega) _ | refine Below.alloc ?_ (by first | (simp; done) | (simp; omega) | omega) _ | refine Below.drew ?_ | refine Below.trans ?_ (Below.mono (by assumption) (by first | (simp; done) | (simp; omega) | omega))))
  generalize ((w1.setCell ⟨w.heap.size, 0, none⟩ (.int .u64 (hi 1))).setCell ⟨w.heap.size, 1, none⟩ (.int .u64 (lo 1))) = w9 at r9 o9 ⊢
  obtain ⟨d1, d2, _, _⟩ := row_two r9
  exact bodyPost_ret (v := (.tuple #[W 1, .bool true])) (by simp [results, Try.results36, go_sem, W, d1, d2]) rfl ⟨rfl, o9⟩
theorem ppow_one (n : Nat) (w : World) :
    Calls Try.prog 36 #[.int .u64 1, .int .i64 n] w fun e w' => e = .returned (.tuple #[W 1, .bool true]) ∧ Below w.heap.size w w' := by
  have h' : ¬ ((n : Int) < 0) := by omega
  go_enter Try.func36, Try.ntmps36
  go_wp2_with (go_at_call 38; refine (pof 1 (by decide) _).mono ?_; rintro e w1 ⟨rfl, hb1⟩; have hz1 := hb1.size; (try simp at hz1); have q1_0 : w.heap.size < w1.heap.size := (by omega); have r1_0 : Row w1 (w.heap.size) 35 #[.int .u64 0, .int .u64 0] := row_call (by (repeat (first | assumption | (refine row_new ?_; (first | (simp; done) | omega)) | refine row_alloc ?_ _ | refine row_drew ?_ | refine row_call ?_ (by assumption)))) hb1; obtain ⟨c1_0a, c1_0b, f1_0a, f1_0b⟩ := row_two r1_0)
  have r9 := row_two_set (u := .int .u64 (hi 1)) (v := .int .u64 (lo 1)) r1_0
  have o9 : Below w.heap.size w ((w1.setCell ⟨w.heap.size, 0, none⟩ (.int .u64 (hi 1))).setCell ⟨w.heap.size, 1, none⟩ (.int .u64 (lo 1))) := by
    (repeat (first | exact Below.refl _ _ | refine Below.setCell ?_ (by first | (simp; done) | (simp; omega) | omega) _ | refine Below.alloc ?_ (by first | (simp; done) | (simp; omega) | omega) _ | refine Below.drew ?_ | refine Below.trans ?_ (Below.mono (by assumption) (by first | (simp; done) | (simp; omega) | omega))))
  generalize ((w1.setCell ⟨w.heap.size, 0, none⟩ (.int .u64 (hi 1))).setCell ⟨w.heap.size, 1, none⟩ (.int .u64 (lo 1))) = w9 at r9 o9 ⊢
  obtain ⟨d1, d2, _, _⟩ := row_two r9
  exact bodyPost_ret (v := (.tuple #[W 1, .bool true])) (by simp [results, Try.results36, go_sem, W, d1, d2]) rfl ⟨rfl, o9⟩
theorem rpow_zero (a : Int) (w : World) :
    Calls Try.prog 41 #[.int .u64 a, .int .i64 0] w fun e w' => e = .returned (.tuple #[W 1, .bool true]) ∧ Below w.heap.size w w' := by
  go_enter Try.func41, Try.ntmps41
  go_wp2_with (go_at_call 43; refine (rof 1 (by decide) _).mono ?_; rintro e w1 ⟨rfl, hb1⟩; have hz1 := hb1.size; (try simp at hz1); have q1_0 : w.heap.size < w1.heap.size := (by omega); have r1_0 : Row w1 (w.heap.size) 35 #[.int .u64 0, .int .u64 0] := row_call (by (repeat (first | assumption | (refine row_new ?_; (first | (simp; done) | omega)) | refine row_alloc ?_ _ | refine row_drew ?_ | refine row_call ?_ (by assumption)))) hb1; obtain ⟨c1_0a, c1_0b, f1_0a, f1_0b⟩ := row_two r1_0)
  have r9 := row_two_set (u := .int .u64 (hi 1)) (v := .int .u64 (lo 1)) r1_0
  have o9 : Below w.heap.size w ((w1.setCell ⟨w.heap.size, 0, none⟩ (.int .u64 (hi 1))).setCell ⟨w.heap.size, 1, none⟩ (.int .u64 (lo 1))) := by
    (repeat (first | exact Below.refl _ _ | refine Below.setCell ?_ (by first | (simp; done) | (simp; omega) | omega) _ | refine Below.alloc ?_ (by first | (simp; done) | (simp; omega) | omega) _ | refine Below.drew ?_ | refine Below.trans ?_ (Below.mono (by assumption) (by first | (simp; done) | (simp; omega) | omega))))
  generalize ((w1.setCell ⟨w.heap.size, 0, none⟩ (.int .u64 (hi 1))).setCell ⟨w.heap.size, 1, none⟩ (.int .u64 (lo 1))) = w9 at r9 o9 ⊢
  obtain ⟨d1, d2, _, _⟩ := row_two r9
  exact bodyPost_ret (v := (.tuple #[W 1, .bool true])) (by simp [results, Try.results41, go_sem, W, d1, d2]) rfl ⟨rfl, o9⟩
theorem rpow_one (n : Nat) (h : 0 < n) (w : World) :
    Calls Try.prog 41 #[.int .u64 1, .int .i64 n] w fun e w' => e = .returned (.tuple #[W 1, .bool true]) ∧ Below w.heap.size w w' := by
  have h' : ¬ ((n : Int) < 0) := by omega
  have h'' : ((n : Int) == 0) = false := by simp; omega
  go_enter Try.func41, Try.ntmps41
  go_wp2_with (go_at_call 43; refine (rof 1 (by decide) _).mono ?_; rintro e w1 ⟨rfl, hb1⟩; have hz1 := hb1.size; (try simp at hz1); have q1_0 : w.heap.size < w1.heap.size := (by omega); have r1_0 : Row w1 (w.heap.size) 35 #[.int .u64 0, .int .u64 0] := row_call (by (repeat (first | assumption | (refine row_new ?_; (first | (simp; done) | omega)) | refine row_alloc ?_ _ | refine row_drew ?_ | refine row_call ?_ (by assumption)))) hb1; obtain ⟨c1_0a, c1_0b, f1_0a, f1_0b⟩ := row_two r1_0)
  have r9 := row_two_set (u := .int .u64 (hi 1)) (v := .int .u64 (lo 1)) r1_0
  have o9 : Below w.heap.size w ((w1.setCell ⟨w.heap.size, 0, none⟩ (.int .u64 (hi 1))).setCell ⟨w.heap.size, 1, none⟩ (.int .u64 (lo 1))) := by
    (repeat (first | exact Below.refl _ _ | refine Below.setCell ?_ (by first | (simp; done) | (simp; omega) | omega) _ | refine Below.alloc ?_ (by first | (simp; done) | (simp; omega) | omega) _ | refine Below.drew ?_ | refine Below.trans ?_ (Below.mono (by assumption) (by first | (simp; done) | (simp; omega) | omega))))
  generalize ((w1.setCell ⟨w.heap.size, 0, none⟩ (.int .u64 (hi 1))).setCell ⟨w.heap.size, 1, none⟩ (.int .u64 (lo 1))) = w9 at r9 o9 ⊢
  obtain ⟨d1, d2, _, _⟩ := row_two r9
  exact bodyPost_ret (v := (.tuple #[W 1, .bool true])) (by simp [results, Try.results41, go_sem, W, d1, d2]) rfl ⟨rfl, o9⟩
theorem rpow_null (n : Nat) (h : 0 < n) (w : World) :
    Calls Try.prog 41 #[.int .u64 0, .int .i64 n] w fun e w' => e = .returned (.tuple #[W 0, .bool true]) ∧ Below w.heap.size w w' := by
  have h' : ¬ ((n : Int) < 0) := by omega
  have h'' : ((n : Int) == 0) = false := by simp; omega
  go_enter Try.func41, Try.ntmps41
  go_wp2_with fail
  simp [bodyPost, results, Try.results41, go_sem]
  refine ⟨⟨rfl, rfl⟩, ?_⟩
  (repeat (first | exact Below.refl _ _ | refine Below.setCell ?_ (by first | (simp; done) | (simp; omega) | omega) _ | refine Below.alloc ?_ (by first | (simp; done) | (simp; omega) | omega) _ | refine Below.drew ?_ | refine Below.trans ?_ (Below.mono (by assumption) (by first | (simp; done) | (simp; omega) | omega))))
set_option maxHeartbeats 2000000 in
theorem ppow_main (a n : Nat) (ha : a < 18446744073709551616) (ha2 : 2 ≤ a) (hn : (n : Int) ≤ 9223372036854775807) (w : World) :
    Calls Try.prog 36 #[.int .u64 a, .int .i64 n] w fun e w' => e = .returned (.tuple #[W (powV a n), .bool (powB a n)]) ∧ Below w.heap.size w w' := by
  have hab : a < big := by unfold big; omega
  have h1 : ¬ ((n : Int) < 0) := by omega
  have h2 : ¬ ((a : Int) ≤ 1) := by omega
  go_enter Try.func36, Try.ntmps36
  go_wp2_with (go_at_call 38; refine (pof 1 (by decide) _).mono ?_; rintro e w1 ⟨rfl, hb1⟩; have hz1 := hb1.size; (try simp at hz1); have q1_0 : w.heap.size < w1.heap.size := (by omega); have r1_0 : Row w1 (w.heap.size) 35 #[.int .u64 0, .int .u64 0] := row_call (by (repeat (first | assumption | (refine row_new ?_; (first | (simp; done) | omega)) | refine row_alloc ?_ _ | refine row_drew ?_ | refine row_call ?_ (by assumption)))) hb1; obtain ⟨c1_0a, c1_0b, f1_0a, f1_0b⟩ := row_two r1_0)
  have hq : w.heap.size < w1.heap.size := q1_0
  have L : PowS w (w1.alloc (.cells (Wc 1) 35)) (w1.heap.size) 1 := ⟨by (repeat (first | assumption | (refine row_new ?_; (first | (simp; done) | omega)) | refine row_alloc ?_ _ | refine row_drew ?_ | refine row_call ?_ (by assumption))), by (repeat (first | assumption | (refine row_new ?_; (first | (simp; done) | omega)) | refine row_alloc ?_ _ | refine row_drew ?_ | refine row_call ?_ (by assumption))), by (repeat (first | exact Below.refl _ _ | refine Below.setCell ?_ (by first | (simp; done) | (simp; omega) | omega) _ | refine Below.alloc ?_ (by first | (simp; done) | (simp; omega) | omega) _ | refine Below.drew ?_ | refine Below.trans ?_ (Below.mono (by assumption) (by first | (simp; done) | (simp; omega) | omega))))⟩
  generalize (w1.alloc (.cells (Wc 1) 35)) = w2 at L ⊢
  clear c1_0a c1_0b f1_0a f1_0b r1_0 hb1 h1 h2
  go_loopg [1] n (fun k t wr => ∃ j x : Nat, j + k = n ∧ t = .int .i64 (k : Nat) ∧ x = powN a j ∧ x < big ∧ PowS w wr (w1.heap.size) x)
  case atStart => exact ⟨0, 1, by omega, rfl, (powN_0 a).symm, one_big, L⟩
  case round =>
    clear L
    obtain ⟨j, x, hj, rfl, hx, hxb, L⟩ := hrel
    obtain ⟨A0, A1, A2, A3⟩ := row_two L.1
    obtain ⟨B0, B1, B2, B3⟩ := row_two L.2.1
    by_cases h0 : gk = 0
    · subst h0
      have e : j = n := by omega
      subst e
      obtain ⟨v1, v2⟩ := pow_yes (a := a) (n := j) (by rw [← hx]; exact hxb)
      have HE := Lib.hid (And.intro (v1.trans hx.symm) v2)
      clear v1 v2 hx
      have o0 := L.2.2
      go_wp2_with fail
      have r9 := row_two_set (u := .int .u64 (hi x)) (v := .int .u64 (lo x)) L.1
      have o9 : Below w.heap.size w ((wr.setCell ⟨w.heap.size, 0, none⟩ (.int .u64 (hi x))).setCell ⟨w.heap.size, 1, none⟩ (.int .u64 (lo x))) := by
        (repeat (first | exact Below.refl _ _ | refine Below.setCell ?_ (by first | (simp; done) | (simp; omega) | omega) _ | refine Below.alloc ?_ (by first | (simp; done) | (simp; omega) | omega) _ | refine Below.drew ?_ | refine Below.trans ?_ (Below.mono (by assumption) (by first | (simp; done) | (simp; omega) | omega))))
      generalize ((wr.setCell ⟨w.heap.size, 0, none⟩ (.int .u64 (hi x))).setCell ⟨w.heap.size, 1, none⟩ (.int .u64 (lo x))) = w9 at r9 o9 ⊢
      obtain ⟨d1, d2, _, _⟩ := row_two r9
      exact bodyPost_ret (v := (.tuple #[W x, .bool true])) (by simp [results, Try.results36, go_sem, W, d1, d2]) rfl ⟨by rw [HE.out.1, HE.out.2], o9⟩
    · obtain ⟨k', rfl⟩ : ∃ k', gk = k' + 1 := ⟨gk - 1, by omega⟩
      have i1 : (0 : Int) < ((k' + 1 : Nat) : Int) := by omega
      have i2 : ((k' + 1 : Nat) : Int) ≤ 9223372036854775807 := by omega
      by_cases hm : x * a < big
      · have HM := Lib.hid (fun w' => pmul x a hxb hab w')
        obtain ⟨v1, v2⟩ := mulV_yes hm
        rw [v1, v2] at HM
        have HX := Lib.hid (show x * a = powN a (j + 1) by rw [powN_succ, hx])
        clear v1 v2 hx
        generalize x * a = y at hm HM HX
        go_upto_region 10 with (fail)
        have hqr := row_lt L.2.1
        refine wp_region_free1 [0, 1, 2, 3, 4, 6, 5] [6] [0, 1, 2, 3, 4, 5, 7] (7, 35, #[.int .u64 0, .int .u64 0]) 7 8 (fun w' => PowS w w' (w1.heap.size) x) (by kernel_rfl) (by kernel_rfl) ⟨_, _, rfl, rfl, rfl, fun ρ w' => by go_simp⟩ rfl (by simp) (fun w' h => h.alloc _) (fun _ _ d _ _ h => by cases d <;> exact h) ?_ ?_
        · exact L.drew
        (refine plan_val ?_ rfl rfl rfl (fun w' hS => ?_) ?_; rotate_left; (obtain ⟨X0, X1, X2, X3⟩ := row_two hS.2.1; go_simp; try with_reducible rfl); simp only [Act.put, List.setIfInBounds_toArray, List.set_cons_zero, List.set_cons_succ])
        (refine plan_pure ?_ rfl rfl (fun w' => ?_) ?_; rotate_left; (go_simp; try with_reducible rfl); simp only [Act.put, List.setIfInBounds_toArray, List.set_cons_zero, List.set_cons_succ])
        refine plan_call (W a) 38 #[.int .u64 (a : Nat)] rfl rfl rfl (fun w' w'' h hb => h.call hb) (fun w' hS => by obtain ⟨X0, X1, X2, X3⟩ := row_two hS.2.1; go_simp) (fun w' hS => pof a ha w') ?_
        simp only [Act.put, List.setIfInBounds_toArray, List.set_cons_zero, List.set_cons_succ]
        refine plan_call (.tuple #[W y, .bool true]) 37 #[W x, W a] rfl rfl rfl (fun w' w'' h hb => h.call hb) (fun w' hS => by obtain ⟨X0, X1, X2, X3⟩ := row_two hS.2.1; go_simp) (fun w' hS => HM.out w') ?_
        simp only [Act.put, List.setIfInBounds_toArray, List.set_cons_zero, List.set_cons_succ]
        (refine plan_pure ?_ rfl rfl (fun w' => ?_) ?_; rotate_left; (go_simp; try with_reducible rfl); simp only [Act.put, List.setIfInBounds_toArray, List.set_cons_zero, List.set_cons_succ])
        (refine plan_pure ?_ rfl rfl (fun w' => ?_) ?_; rotate_left; (go_simp; try with_reducible rfl); simp only [Act.put, List.setIfInBounds_toArray, List.set_cons_zero, List.set_cons_succ])
        (refine plan_pure ?_ rfl rfl (fun w' => ?_) ?_; rotate_left; (go_simp; try with_reducible rfl); simp only [Act.put, List.setIfInBounds_toArray, List.set_cons_zero, List.set_cons_succ])
        refine plan_nil ?_
        intro g w3 L3 Rg hg
        simp only [List.drop_succ_cons, List.drop_zero]
        try simp only [Act.put, List.setIfInBounds_toArray, List.set_cons_zero, List.set_cons_succ]
        obtain ⟨G0, G1, G2, G3⟩ := row_two Rg
        clear A0 A1 A2 A3 B0 B1 B2 B3
        go_upto_region 11 with (fail)
        have L5 := L3.other (u := .int .u64 (hi y)) (v := .int .u64 (lo y)) (show w.heap.size < g by omega) (show w1.heap.size ≠ g by omega)
        have R5 := row_two_set (u := .int .u64 (hi y)) (v := .int .u64 (lo y)) Rg
        generalize ((w3.setCell ⟨g, 0, none⟩ (.int .u64 (hi y))).setCell ⟨g, 1, none⟩ (.int .u64 (lo y))) = w5 at L5 R5 ⊢
        clear L3 Rg G0 G1 G2 G3 L
        obtain ⟨G0, G1, G2, G3⟩ := row_two R5
        obtain ⟨B0, B1, B2, B3⟩ := row_two L5.2.1
        go_wp2_with fail
        go_roundg k'
        case measure => omega
        case rel => exact ⟨j + 1, y, by omega, by go_num, HX.out, hm, L5.set y hq⟩
      · have HM := Lib.hid (fun w' => pmul x a hxb hab w')
        obtain ⟨v1, v2⟩ := mulV_no hm
        rw [v1, v2] at HM
        obtain ⟨v3, v4⟩ := pow_over (a := a) (j := j) (n := n) ha2 (by omega) (by rw [← hx]; exact hm)
        have HE := Lib.hid (And.intro v3 v4)
        clear v1 v2 v3 v4 hx hm
        go_upto_region 10 with (fail)
        have hqr := row_lt L.2.1
        refine wp_region_free1 [0, 1, 2, 3, 4, 6, 5] [6] [0, 1, 2, 3, 4, 5, 7] (7, 35, #[.int .u64 0, .int .u64 0]) 7 8 (fun w' => PowS w w' (w1.heap.size) x) (by kernel_rfl) (by kernel_rfl) ⟨_, _, rfl, rfl, rfl, fun ρ w' => by go_simp⟩ rfl (by simp) (fun w' h => h.alloc _) (fun _ _ d _ _ h => by cases d <;> exact h) ?_ ?_
        · exact L.drew
        (refine plan_val ?_ rfl rfl rfl (fun w' hS => ?_) ?_; rotate_left; (obtain ⟨X0, X1, X2, X3⟩ := row_two hS.2.1; go_simp; try with_reducible rfl); simp only [Act.put, List.setIfInBounds_toArray, List.set_cons_zero, List.set_cons_succ])
        (refine plan_pure ?_ rfl rfl (fun w' => ?_) ?_; rotate_left; (go_simp; try with_reducible rfl); simp only [Act.put, List.setIfInBounds_toArray, List.set_cons_zero, List.set_cons_succ])
        refine plan_call (W a) 38 #[.int .u64 (a : Nat)] rfl rfl rfl (fun w' w'' h hb => h.call hb) (fun w' hS => by obtain ⟨X0, X1, X2, X3⟩ := row_two hS.2.1; go_simp) (fun w' hS => pof a ha w') ?_
        simp only [Act.put, List.setIfInBounds_toArray, List.set_cons_zero, List.set_cons_succ]
        refine plan_call (.tuple #[W 0, .bool false]) 37 #[W x, W a] rfl rfl rfl (fun w' w'' h hb => h.call hb) (fun w' hS => by obtain ⟨X0, X1, X2, X3⟩ := row_two hS.2.1; go_simp) (fun w' hS => HM.out w') ?_
        simp only [Act.put, List.setIfInBounds_toArray, List.set_cons_zero, List.set_cons_succ]
        (refine plan_pure ?_ rfl rfl (fun w' => ?_) ?_; rotate_left; (go_simp; try with_reducible rfl); simp only [Act.put, List.setIfInBounds_toArray, List.set_cons_zero, List.set_cons_succ])
        (refine plan_pure ?_ rfl rfl (fun w' => ?_) ?_; rotate_left; (go_simp; try with_reducible rfl); simp only [Act.put, List.setIfInBounds_toArray, List.set_cons_zero, List.set_cons_succ])
        (refine plan_pure ?_ rfl rfl (fun w' => ?_) ?_; rotate_left; (go_simp; try with_reducible rfl); simp only [Act.put, List.setIfInBounds_toArray, List.set_cons_zero, List.set_cons_succ])
        refine plan_nil ?_
        intro g w3 L3 Rg hg
        simp only [List.drop_succ_cons, List.drop_zero]
        try simp only [Act.put, List.setIfInBounds_toArray, List.set_cons_zero, List.set_cons_succ]
        obtain ⟨G0, G1, G2, G3⟩ := row_two Rg
        clear A0 A1 A2 A3 B0 B1 B2 B3
        go_upto_region 11 with (fail)
        have L5 := L3.other (u := .int .u64 (hi 0)) (v := .int .u64 (lo 0)) (show w.heap.size < g by omega) (show w1.heap.size ≠ g by omega)
        generalize ((w3.setCell ⟨g, 0, none⟩ (.int .u64 (hi 0))).setCell ⟨g, 1, none⟩ (.int .u64 (lo 0))) = w5 at L5 ⊢
        clear L3 Rg G0 G1 G2 G3 L
        obtain ⟨A0, A1, A2, A3⟩ := row_two L5.1
        have o5 := L5.2.2
        go_wp2_with fail
        have r9 := row_two_set (u := .int .u64 0) (v := .int .u64 0) L5.1
        have o9 : Below w.heap.size w ((w5.setCell ⟨w.heap.size, 0, none⟩ (.int .u64 0)).setCell ⟨w.heap.size, 1, none⟩ (.int .u64 0)) := by
          (repeat (first | exact Below.refl _ _ | refine Below.setCell ?_ (by first | (simp; done) | (simp; omega) | omega) _ | refine Below.alloc ?_ (by first | (simp; done) | (simp; omega) | omega) _ | refine Below.drew ?_ | refine Below.trans ?_ (Below.mono (by assumption) (by first | (simp; done) | (simp; omega) | omega))))
        generalize ((w5.setCell ⟨w.heap.size, 0, none⟩ (.int .u64 0)).setCell ⟨w.heap.size, 1, none⟩ (.int .u64 0)) = w9 at r9 o9 ⊢
        obtain ⟨d1, d2, _, _⟩ := row_two r9
        exact bodyPost_ret (v := (.tuple #[W 0, .bool false])) (by simp [results, Try.results36, go_sem, W, d1, d2, hi_0, lo_0]) rfl ⟨by rw [HE.out.1, HE.out.2], o9⟩
set_option maxHeartbeats 2000000 in
theorem rpow_main (a n : Nat) (ha : a < 18446744073709551616) (ha2 : 2 ≤ a) (hn0 : 0 < n) (hn : (n : Int) ≤ 9223372036854775807) (w : World) :
    Calls Try.prog 41 #[.int .u64 a, .int .i64 n] w fun e w' => e = .returned (.tuple #[W (powV a n), .bool (powB a n)]) ∧ Below w.heap.size w w' := by
  have hab : a < big := by unfold big; omega
  have h1 : ¬ ((n : Int) < 0) := by omega
  have h2 : ((n : Int) == 0) = false := by simp; omega
  have h3 : ((a : Int) == 1) = false := by simp; omega
  have h4 : ((a : Int) == 0) = false := by simp; omega
  go_enter Try.func41, Try.ntmps41
  go_wp2_with (go_at_call 43; refine (rof 1 (by decide) _).mono ?_; rintro e w1 ⟨rfl, hb1⟩; have hz1 := hb1.size; (try simp at hz1); have q1_0 : w.heap.size < w1.heap.size := (by omega); have r1_0 : Row w1 (w.heap.size) 35 #[.int .u64 0, .int .u64 0] := row_call (by (repeat (first | assumption | (refine row_new ?_; (first | (simp; done) | omega)) | refine row_alloc ?_ _ | refine row_drew ?_ | refine row_call ?_ (by assumption)))) hb1; obtain ⟨c1_0a, c1_0b, f1_0a, f1_0b⟩ := row_two r1_0)
  have hq : w.heap.size < w1.heap.size := q1_0
  have L : PowS w (w1.alloc (.cells (Wc 1) 35)) (w1.heap.size) 1 := ⟨by (repeat (first | assumption | (refine row_new ?_; (first | (simp; done) | omega)) | refine row_alloc ?_ _ | refine row_drew ?_ | refine row_call ?_ (by assumption))), by (repeat (first | assumption | (refine row_new ?_; (first | (simp; done) | omega)) | refine row_alloc ?_ _ | refine row_drew ?_ | refine row_call ?_ (by assumption))), by (repeat (first | exact Below.refl _ _ | refine Below.setCell ?_ (by first | (simp; done) | (simp; omega) | omega) _ | refine Below.alloc ?_ (by first | (simp; done) | (simp; omega) | omega) _ | refine Below.drew ?_ | refine Below.trans ?_ (Below.mono (by assumption) (by first | (simp; done) | (simp; omega) | omega))))⟩
  generalize (w1.alloc (.cells (Wc 1) 35)) = w2 at L ⊢
  clear c1_0a c1_0b f1_0a f1_0b r1_0 hb1 h1 h2 h3 h4
  go_loopg [7, 8] n (fun k o t wr => ∃ (j x : Nat) (ok : Bool), j + k = n ∧ o = .bool ok ∧ t = .int .i64 (j : Nat) ∧ x < big ∧ PowS w wr (w1.heap.size) x ∧ RowKit.Hid ((ok = true → x = powN a j) ∧ (ok = false → x = 0 ∧ powV a n = 0 ∧ powB a n = false)))
  case atStart => exact ⟨0, 1, true, by omega, rfl, rfl, one_big, L, Lib.hid ⟨fun _ => (powN_0 a).symm, fun h => by cases h⟩⟩
  case round =>
    clear L
    obtain ⟨j, x, ok, hj, rfl, rfl, hxb, L, HH⟩ := hrel
    obtain ⟨A0, A1, A2, A3⟩ := row_two L.1
    obtain ⟨B0, B1, B2, B3⟩ := row_two L.2.1
    have o0 := L.2.2
    cases ok with
    | false =>
      have HE0 := Lib.hid (HH.out.2 rfl)
      clear HH
      by_cases hlt : j < n
      · have i1 : (j : Int) < (n : Int) := by omega
        go_wp2_with fail
        have r9 := row_two_set (u := .int .u64 (hi x)) (v := .int .u64 (lo x)) L.1
        have o9 : Below w.heap.size w ((wr.setCell ⟨w.heap.size, 0, none⟩ (.int .u64 (hi x))).setCell ⟨w.heap.size, 1, none⟩ (.int .u64 (lo x))) := by
          (repeat (first | exact Below.refl _ _ | refine Below.setCell ?_ (by first | (simp; done) | (simp; omega) | omega) _ | refine Below.alloc ?_ (by first | (simp; done) | (simp; omega) | omega) _ | refine Below.drew ?_ | refine Below.trans ?_ (Below.mono (by assumption) (by first | (simp; done) | (simp; omega) | omega))))
        generalize ((wr.setCell ⟨w.heap.size, 0, none⟩ (.int .u64 (hi x))).setCell ⟨w.heap.size, 1, none⟩ (.int .u64 (lo x))) = w9 at r9 o9 ⊢
        obtain ⟨d1, d2, _, _⟩ := row_two r9
        exact bodyPost_ret (v := (.tuple #[W x, .bool false])) (by simp [results, Try.results41, go_sem, W, d1, d2]) rfl ⟨by rw [HE0.out.1, HE0.out.2.1, HE0.out.2.2], o9⟩
      · have i1 : ¬ ((j : Int) < (n : Int)) := by omega
        go_wp2_with fail
        have r9 := row_two_set (u := .int .u64 (hi x)) (v := .int .u64 (lo x)) L.1
        have o9 : Below w.heap.size w ((wr.setCell ⟨w.heap.size, 0, none⟩ (.int .u64 (hi x))).setCell ⟨w.heap.size, 1, none⟩ (.int .u64 (lo x))) := by
          (repeat (first | exact Below.refl _ _ | refine Below.setCell ?_ (by first | (simp; done) | (simp; omega) | omega) _ | refine Below.alloc ?_ (by first | (simp; done) | (simp; omega) | omega) _ | refine Below.drew ?_ | refine Below.trans ?_ (Below.mono (by assumption) (by first | (simp; done) | (simp; omega) | omega))))
        generalize ((wr.setCell ⟨w.heap.size, 0, none⟩ (.int .u64 (hi x))).setCell ⟨w.heap.size, 1, none⟩ (.int .u64 (lo x))) = w9 at r9 o9 ⊢
        obtain ⟨d1, d2, _, _⟩ := row_two r9
        exact bodyPost_ret (v := (.tuple #[W x, .bool false])) (by simp [results, Try.results41, go_sem, W, d1, d2]) rfl ⟨by rw [HE0.out.1, HE0.out.2.1, HE0.out.2.2], o9⟩
    | true =>
      have HE1 := Lib.hid (HH.out.1 rfl)
      clear HH
      by_cases h0 : gk = 0
      · subst h0
        have e : j = n := by omega
        subst e
        obtain ⟨v1, v2⟩ := pow_yes (a := a) (n := j) (by rw [← HE1.out]; exact hxb)
        have HE := Lib.hid (And.intro (v1.trans (HE1.out).symm) v2)
        clear v1 v2
        go_wp2_with fail
        have r9 := row_two_set (u := .int .u64 (hi x)) (v := .int .u64 (lo x)) L.1
        have o9 : Below w.heap.size w ((wr.setCell ⟨w.heap.size, 0, none⟩ (.int .u64 (hi x))).setCell ⟨w.heap.size, 1, none⟩ (.int .u64 (lo x))) := by
          (repeat (first | exact Below.refl _ _ | refine Below.setCell ?_ (by first | (simp; done) | (simp; omega) | omega) _ | refine Below.alloc ?_ (by first | (simp; done) | (simp; omega) | omega) _ | refine Below.drew ?_ | refine Below.trans ?_ (Below.mono (by assumption) (by first | (simp; done) | (simp; omega) | omega))))
        generalize ((wr.setCell ⟨w.heap.size, 0, none⟩ (.int .u64 (hi x))).setCell ⟨w.heap.size, 1, none⟩ (.int .u64 (lo x))) = w9 at r9 o9 ⊢
        obtain ⟨d1, d2, _, _⟩ := row_two r9
        exact bodyPost_ret (v := (.tuple #[W x, .bool true])) (by simp [results, Try.results41, go_sem, W, d1, d2]) rfl ⟨by rw [HE.out.1, HE.out.2], o9⟩
      · obtain ⟨k', rfl⟩ : ∃ k', gk = k' + 1 := ⟨gk - 1, by omega⟩
        have i1 : (j : Int) < (n : Int) := by omega
        by_cases hm : x * a < big
        · have HM := Lib.hid (fun w' => rmul x a hxb hab w')
          obtain ⟨v1, v2⟩ := mulV_yes hm
          rw [v1, v2] at HM
          have HX := Lib.hid (show x * a = powN a (j + 1) by rw [powN_succ, HE1.out])
          clear v1 v2
          generalize x * a = y at hm HM HX
          go_upto_region 11 with (fail)
          refine wp_region_free0 [0, 1, 2, 3, 4, 6, 5] [6] [0, 1, 2, 3, 4, 5] 7 (fun w' => PowS w w' (w1.heap.size) x) (by kernel_rfl) (by kernel_rfl) (fun _ _ d _ _ h => by cases d <;> exact h) ?_ ?_
          · exact L.drew
          (refine plan_val ?_ rfl rfl rfl (fun w' hS => ?_) ?_; rotate_left; (obtain ⟨X0, X1, X2, X3⟩ := row_two hS.2.1; go_simp; try with_reducible rfl); simp only [Act.put, List.setIfInBounds_toArray, List.set_cons_zero, List.set_cons_succ])
          (refine plan_pure ?_ rfl rfl (fun w' => ?_) ?_; rotate_left; (go_simp; try with_reducible rfl); simp only [Act.put, List.setIfInBounds_toArray, List.set_cons_zero, List.set_cons_succ])
          refine plan_call (W a) 43 #[.int .u64 (a : Nat)] rfl rfl rfl (fun w' w'' h hb => h.call hb) (fun w' hS => by obtain ⟨X0, X1, X2, X3⟩ := row_two hS.2.1; go_simp) (fun w' hS => rof a ha w') ?_
          simp only [Act.put, List.setIfInBounds_toArray, List.set_cons_zero, List.set_cons_succ]
          refine plan_call (.tuple #[W y, .bool true]) 42 #[W x, W a] rfl rfl rfl (fun w' w'' h hb => h.call hb) (fun w' hS => by obtain ⟨X0, X1, X2, X3⟩ := row_two hS.2.1; go_simp) (fun w' hS => HM.out w') ?_
          simp only [Act.put, List.setIfInBounds_toArray, List.set_cons_zero, List.set_cons_succ]
          (refine plan_pure ?_ rfl rfl (fun w' => ?_) ?_; rotate_left; (go_simp; try with_reducible rfl); simp only [Act.put, List.setIfInBounds_toArray, List.set_cons_zero, List.set_cons_succ])
          (refine plan_pure ?_ rfl rfl (fun w' => ?_) ?_; rotate_left; (go_simp; try with_reducible rfl); simp only [Act.put, List.setIfInBounds_toArray, List.set_cons_zero, List.set_cons_succ])
          (refine plan_pure ?_ rfl rfl (fun w' => ?_) ?_; rotate_left; (go_simp; try with_reducible rfl); simp only [Act.put, List.setIfInBounds_toArray, List.set_cons_zero, List.set_cons_succ])
          refine plan_nil ?_
          intro w3 L3
          simp only [List.drop_succ_cons, List.drop_zero]
          try simp only [Act.put, List.setIfInBounds_toArray, List.set_cons_zero, List.set_cons_succ]
          clear A0 A1 A2 A3 B0 B1 B2 B3 L
          obtain ⟨B0, B1, B2, B3⟩ := row_two L3.2.1
          go_wp2_with fail
          go_roundg k'
          case measure => omega
          case rel => exact ⟨j + 1, y, true, by omega, rfl, by go_num, hm, L3.set y hq, Lib.hid ⟨fun _ => HX.out, fun h => by cases h⟩⟩
        · have HM := Lib.hid (fun w' => rmul x a hxb hab w')
          obtain ⟨v1, v2⟩ := mulV_no hm
          rw [v1, v2] at HM
          have HE := Lib.hid (pow_over (a := a) (j := j) (n := n) ha2 (by omega) (by rw [← HE1.out]; exact hm))
          clear v1 v2 hm
          go_upto_region 11 with (fail)
          refine wp_region_free0 [0, 1, 2, 3, 4, 6, 5] [6] [0, 1, 2, 3, 4, 5] 7 (fun w' => PowS w w' (w1.heap.size) x) (by kernel_rfl) (by kernel_rfl) (fun _ _ d _ _ h => by cases d <;> exact h) ?_ ?_
          · exact L.drew
          (refine plan_val ?_ rfl rfl rfl (fun w' hS => ?_) ?_; rotate_left; (obtain ⟨X0, X1, X2, X3⟩ := row_two hS.2.1; go_simp; try with_reducible rfl); simp only [Act.put, List.setIfInBounds_toArray, List.set_cons_zero, List.set_cons_succ])
          (refine plan_pure ?_ rfl rfl (fun w' => ?_) ?_; rotate_left; (go_simp; try with_reducible rfl); simp only [Act.put, List.setIfInBounds_toArray, List.set_cons_zero, List.set_cons_succ])
          refine plan_call (W a) 43 #[.int .u64 (a : Nat)] rfl rfl rfl (fun w' w'' h hb => h.call hb) (fun w' hS => by obtain ⟨X0, X1, X2, X3⟩ := row_two hS.2.1; go_simp) (fun w' hS => rof a ha w') ?_
          simp only [Act.put, List.setIfInBounds_toArray, List.set_cons_zero, List.set_cons_succ]
          refine plan_call (.tuple #[W 0, .bool false]) 42 #[W x, W a] rfl rfl rfl (fun w' w'' h hb => h.call hb) (fun w' hS => by obtain ⟨X0, X1, X2, X3⟩ := row_two hS.2.1; go_simp) (fun w' hS => HM.out w') ?_
          simp only [Act.put, List.setIfInBounds_toArray, List.set_cons_zero, List.set_cons_succ]
          (refine plan_pure ?_ rfl rfl (fun w' => ?_) ?_; rotate_left; (go_simp; try with_reducible rfl); simp only [Act.put, List.setIfInBounds_toArray, List.set_cons_zero, List.set_cons_succ])
          (refine plan_pure ?_ rfl rfl (fun w' => ?_) ?_; rotate_left; (go_simp; try with_reducible rfl); simp only [Act.put, List.setIfInBounds_toArray, List.set_cons_zero, List.set_cons_succ])
          (refine plan_pure ?_ rfl rfl (fun w' => ?_) ?_; rotate_left; (go_simp; try with_reducible rfl); simp only [Act.put, List.setIfInBounds_toArray, List.set_cons_zero, List.set_cons_succ])
          refine plan_nil ?_
          intro w3 L3
          simp only [List.drop_succ_cons, List.drop_zero]
          try simp only [Act.put, List.setIfInBounds_toArray, List.set_cons_zero, List.set_cons_succ]
          clear A0 A1 A2 A3 B0 B1 B2 B3 L
          obtain ⟨B0, B1, B2, B3⟩ := row_two L3.2.1
          go_wp2_with fail
          go_roundg k'
          case measure => omega
          case rel => exact ⟨j + 1, 0, false, by omega, rfl, by go_num, zero_big, L3.set 0 hq, Lib.hid ⟨(fun h => by cases h), fun _ => ⟨rfl, HE.out⟩⟩⟩
/-- Of any exponent. -/
def powIV (a : Nat) (n : Int) : Nat := if n < 0 then 0 else powV a n.toNat
def powIB (a : Nat) (n : Int) : Bool := if n < 0 then false else powB a n.toNat
theorem powV_e0 (a : Nat) : powV a 0 = 1 ∧ powB a 0 = true := pow_yes (by rw [powN_0]; exact one_big)
theorem powV_e1 (n : Nat) : powV 1 n = 1 ∧ powB 1 n = true := by
  have h := pow_yes (a := 1) (n := n) (by rw [powN_1]; exact one_big)
  rw [powN_1] at h
  exact h
theorem powV_en {n : Nat} (k : 0 < n) : powV 0 n = 0 ∧ powB 0 n = true := by
  have h := pow_yes (a := 0) (n := n) (by rw [powN_null k]; exact zero_big)
  rw [powN_null k] at h
  exact h
theorem ppow_any (a : Nat) (ha : a < 18446744073709551616) (n : Int) (hn : n ≤ 9223372036854775807) (w : World) :
    Calls Try.prog 36 #[.int .u64 a, .int .i64 n] w fun e w' => e = .returned (.tuple #[W (powIV a n), .bool (powIB a n)]) ∧ Below w.heap.size w w' := by
  unfold powIV powIB
  by_cases h : n < 0
  · rw [if_pos h, if_pos h]
    exact ppow_neg _ n h w
  · rw [if_neg h, if_neg h]
    obtain ⟨m, rfl⟩ := Int.eq_ofNat_of_zero_le (Int.not_lt.1 h)
    rw [Int.toNat_natCast]
    by_cases h0 : m = 0
    · subst h0
      · rcases (show a = 0 ∨ a = 1 ∨ 2 ≤ a by omega) with e | e | e
        · subst e
          rw [(powV_e0 0).1, (powV_e0 0).2]
          exact ppow_zero w
        · subst e
          rw [(powV_e0 1).1, (powV_e0 1).2]
          exact ppow_one 0 w
        · exact ppow_main a 0 ha e hn w
    · have hm : 0 < m := by omega
      rcases (show a = 0 ∨ a = 1 ∨ 2 ≤ a by omega) with e | e | e
      · subst e
        rw [(powV_en hm).1, (powV_en hm).2]
        exact ppow_null m hm w
      · subst e
        rw [(powV_e1 m).1, (powV_e1 m).2]
        exact ppow_one m w
      · exact ppow_main a m ha e hn w
theorem rpow_any (a : Nat) (ha : a < 18446744073709551616) (n : Int) (hn : n ≤ 9223372036854775807) (w : World) :
    Calls Try.prog 41 #[.int .u64 a, .int .i64 n] w fun e w' => e = .returned (.tuple #[W (powIV a n), .bool (powIB a n)]) ∧ Below w.heap.size w w' := by
  unfold powIV powIB
  by_cases h : n < 0
  · rw [if_pos h, if_pos h]
    exact rpow_neg _ n h w
  · rw [if_neg h, if_neg h]
    obtain ⟨m, rfl⟩ := Int.eq_ofNat_of_zero_le (Int.not_lt.1 h)
    rw [Int.toNat_natCast]
    by_cases h0 : m = 0
    · subst h0
      · skip
        rw [(powV_e0 a).1, (powV_e0 a).2]
        exact rpow_zero _ w
    · have hm : 0 < m := by omega
      rcases (show a = 0 ∨ a = 1 ∨ 2 ≤ a by omega) with e | e | e
      · subst e
        rw [(powV_en hm).1, (powV_en hm).2]
        exact rpow_null m hm w
      · subst e
        rw [(powV_e1 m).1, (powV_e1 m).2]
        exact rpow_one m hm w
      · exact rpow_main a m ha e hm hn w
end Go.Proofs.Ytejoomlaanmbkaa
