/- Summaries of a stream: comparing two; the example; the law of the empty summaries, walked. -/
import Derived.Test.YtdibjlphcmjnoaaSumF
set_option linter.unusedVariables false
set_option linter.unusedSimpArgs false
set_option linter.unusedSectionVars false
set_option linter.unnecessarySimpa false
namespace Go.Proofs.Ytdibjlphcmjnoaa
open Go.RowKit
theorem SIn.other {k cap n : Int} {A : Option Addr} {m c : Nat} {ts : List Tup} {w : World} (h : SIn k cap n A m c ts w) {p : Addr} (hp : ∀ a, A = some a → a.block ≠ p.block) (v : Value) : SIn k cap n A m c ts (w.setCell p v) := by
  obtain ⟨h1, h2, h3, h4, h5, h6, h7⟩ := h
  refine ⟨⟨h1.1, fun hn => ?_⟩, h2, h3, h4, h5, h6, h7⟩
  obtain ⟨ad, e, hb, hc⟩ := h1.2 hn
  refine ⟨ad, e, by rw [size_setCell]; exact hb, fun j u hu => ?_⟩
  rw [World.cell?_setCell_other w p _ v (fun x => hp ad e (by rw [x, block_of_add]))]
  exact hc j u hu
theorem SIn.row {k cap n : Int} {A : Option Addr} {m c : Nat} {ts : List Tup} {w : World} (h : SIn k cap n A m c ts w) {b : Nat} (hp : ∀ a, A = some a → a.block ≠ b) (u0 u1 u2 u3 : Value) : SIn k cap n A m c ts ((((w.setCell ⟨b, 0, none⟩ u0).setCell ⟨b, 1, none⟩ u1).setCell ⟨b, 2, none⟩ u2).setCell ⟨b, 3, none⟩ u3) :=
  (((h.other (p := ⟨b, 0, none⟩) hp u0).other (p := ⟨b, 1, none⟩) hp u1).other (p := ⟨b, 2, none⟩) hp u2).other (p := ⟨b, 3, none⟩) hp u3
theorem row_four_set {w : World} {b : Nat} {t : TypeId} {x0 x1 x2 x3 u0 u1 u2 u3 : Value} (h : Row w b t #[x0, x1, x2, x3]) : Row ((((w.setCell ⟨b, 0, none⟩ u0).setCell ⟨b, 1, none⟩ u1).setCell ⟨b, 2, none⟩ u2).setCell ⟨b, 3, none⟩ u3) b t #[u0, u1, u2, u3] := row_set (row_set (row_set (row_set h 0 u0) 1 u1) 2 u2) 3 u3
theorem row_four_other {w : World} {b c : Nat} {t : TypeId} {cs : Array Value} {u0 u1 u2 u3 : Value} (h : Row w b t cs) (hne : b ≠ c) : Row ((((w.setCell ⟨c, 0, none⟩ u0).setCell ⟨c, 1, none⟩ u1).setCell ⟨c, 2, none⟩ u2).setCell ⟨c, 3, none⟩ u3) b t cs := row_other (row_other (row_other (row_other h hne u0) hne u1) hne u2) hne u3
theorem below_four {B b : Nat} {w0 w : World} (h : Below B w0 w) (hb : B ≤ b) (u0 u1 u2 u3 : Value) : Below B w0 ((((w.setCell ⟨b, 0, none⟩ u0).setCell ⟨b, 1, none⟩ u1).setCell ⟨b, 2, none⟩ u2).setCell ⟨b, 3, none⟩ u3) :=
  (((h.setCell (p := ⟨b, 0, none⟩) hb u0).setCell (p := ⟨b, 1, none⟩) hb u1).setCell (p := ⟨b, 2, none⟩) hb u2).setCell (p := ⟨b, 3, none⟩) hb u3
theorem size_four (w : World) (b : Nat) (u0 u1 u2 u3 : Value) : (((((w.setCell ⟨b, 0, none⟩ u0).setCell ⟨b, 1, none⟩ u1).setCell ⟨b, 2, none⟩ u2).setCell ⟨b, 3, none⟩ u3)).heap.size = w.heap.size := by simp
theorem far {A : Option Addr} {B C b : Nat} (h : ∀ a, A = some a → B ≤ a.block ∧ a.block < C) (hb : b < B) : ∀ a, A = some a → a.block ≠ b := fun a ha e => by have := h a ha; omega
set_option maxHeartbeats 2000000 in
theorem rssame (k cap n : Int) (A : Option Addr) (m c : Nat) (A' : Option Addr) (m' c' : Nat) (ts : List Tup) (w : World) (h : SIn k cap n A m c ts w) (h' : SIn k cap n A' m' c' ts w) :
    Calls Try.prog 12 #[.agg #[.int .i64 k, .int .i64 cap, .int .i64 n, .slice A m c], .agg #[.int .i64 k, .int .i64 cap, .int .i64 n, .slice A' m' c']] w fun e w' => e = .returned (.bool true) ∧ Below w.heap.size w w' := by
  obtain rfl : m' = m := h'.len.symm.trans h.len
  have H := Lib.hid h
  have H' := Lib.hid h'
  have mB := h.mB
  clear h h'
  go_enter Try.func12, Try.ntmps12
  go_wp2
  have L1 : Row ((w.alloc (.cells #[.int .i64 k, .int .i64 cap, .int .i64 n, .slice A m' c] 24)).alloc (.cells #[.int .i64 k, .int .i64 cap, .int .i64 n, .slice A' m' c'] 24)) (w.heap.size) 24 #[.int .i64 k, .int .i64 cap, .int .i64 n, .slice A m' c] := row_alloc (row_new rfl) _
  have L2 : Row ((w.alloc (.cells #[.int .i64 k, .int .i64 cap, .int .i64 n, .slice A m' c] 24)).alloc (.cells #[.int .i64 k, .int .i64 cap, .int .i64 n, .slice A' m' c'] 24)) (w.heap.size + 1) 24 #[.int .i64 k, .int .i64 cap, .int .i64 n, .slice A' m' c'] := row_new (by simp)
  have L3 : Below w.heap.size w ((w.alloc (.cells #[.int .i64 k, .int .i64 cap, .int .i64 n, .slice A m' c] 24)).alloc (.cells #[.int .i64 k, .int .i64 cap, .int .i64 n, .slice A' m' c'] 24)) := by
    (repeat (first | exact Below.refl _ _ | refine Below.setCell ?_ (by first | (simp; done) | (simp; omega) | omega) _ | refine Below.alloc ?_ (by first | (simp; done) | (simp; omega) | omega) _ | refine Below.drew ?_ | refine Below.trans ?_ (Below.mono (by assumption) (by first | (simp; done) | (simp; omega) | omega))))
  generalize ((w.alloc (.cells #[.int .i64 k, .int .i64 cap, .int .i64 n, .slice A m' c] 24)).alloc (.cells #[.int .i64 k, .int .i64 cap, .int .i64 n, .slice A' m' c'] 24)) = w2 at L1 L2 L3 ⊢
  go_loopw [37] (fun i wr => ∃ j : Nat, j ≤ m' ∧ i = .int .i64 (j : Nat) ∧ Row wr (w.heap.size) 24 #[.int .i64 k, .int .i64 cap, .int .i64 n, .slice A m' c] ∧ Row wr (w.heap.size + 1) 24 #[.int .i64 k, .int .i64 cap, .int .i64 n, .slice A' m' c'] ∧ Below w.heap.size w wr) (fun i _ => m' - (intOf i).toNat)
  case atStart => exact ⟨0, by omega, rfl, L1, L2, L3⟩
  case round =>
    clear L1 L2 L3
    obtain ⟨j, hj, rfl, L1, L2, L3⟩ := hrel
    by_cases hlt : j < m'
    · obtain ⟨ad, rfl, hadb, ht⟩ := H.out.reads.tup hlt
      obtain ⟨ad', rfl, hadb', ht'⟩ := H'.out.reads.tup hlt
      have ht := ht.below L3 (by rw [block_of_add]; exact hadb)
      have ht' := ht'.below L3 (by rw [block_of_add]; exact hadb')
      have i1 : (j : Int) < (m' : Int) := by omega
      have i2 : (0 : Int) ≤ (j : Int) := by omega
      unfold TupCells at ht ht'
      generalize (tupAt ts j).v = tv at ht ht'
      generalize (tupAt ts j).g = tg at ht ht'
      generalize (tupAt ts j).d = td at ht ht'
      go_upto_region 6 with (fail)
      have L : Row wr (w.heap.size) 24 #[.int .i64 k, .int .i64 cap, .int .i64 n, .slice (some ad) m' c] ∧ Row wr (w.heap.size + 1) 24 #[.int .i64 k, .int .i64 cap, .int .i64 n, .slice (some ad') m' c'] ∧ (wr.cell? (ad.add (j * 3)) = some (.int .i64 tv) ∧ wr.cell? ⟨(ad.add (j * 3)).block, (ad.add (j * 3)).off + 1, none⟩ = some (.int .i64 tg) ∧ wr.cell? ⟨(ad.add (j * 3)).block, (ad.add (j * 3)).off + 2, none⟩ = some (.int .i64 td)) ∧ (wr.cell? (ad'.add (j * 3)) = some (.int .i64 tv) ∧ wr.cell? ⟨(ad'.add (j * 3)).block, (ad'.add (j * 3)).off + 1, none⟩ = some (.int .i64 tg) ∧ wr.cell? ⟨(ad'.add (j * 3)).block, (ad'.add (j * 3)).off + 2, none⟩ = some (.int .i64 td)) ∧ Below w.heap.size w wr := ⟨L1, L2, ht, ht', L3⟩
      clear L1 L2 L3 ht ht'
      refine wp_region_free0 [0, 1, 2, 3, 5, 6, 7, 8, 4, 9] [] [0, 1, 2, 3, 4, 5, 6, 7, 8, 9] 10 (fun w' => Row w' (w.heap.size) 24 #[.int .i64 k, .int .i64 cap, .int .i64 n, .slice (some ad) m' c] ∧ Row w' (w.heap.size + 1) 24 #[.int .i64 k, .int .i64 cap, .int .i64 n, .slice (some ad') m' c'] ∧ (w'.cell? (ad.add (j * 3)) = some (.int .i64 tv) ∧ w'.cell? ⟨(ad.add (j * 3)).block, (ad.add (j * 3)).off + 1, none⟩ = some (.int .i64 tg) ∧ w'.cell? ⟨(ad.add (j * 3)).block, (ad.add (j * 3)).off + 2, none⟩ = some (.int .i64 td)) ∧ (w'.cell? (ad'.add (j * 3)) = some (.int .i64 tv) ∧ w'.cell? ⟨(ad'.add (j * 3)).block, (ad'.add (j * 3)).off + 1, none⟩ = some (.int .i64 tg) ∧ w'.cell? ⟨(ad'.add (j * 3)).block, (ad'.add (j * 3)).off + 2, none⟩ = some (.int .i64 td)) ∧ Below w.heap.size w w') (by kernel_rfl) (by kernel_rfl) (fun _ _ d _ _ h => by cases d <;> exact h) ?_ ?_
      · exact ⟨L.1, L.2.1, L.2.2.1, L.2.2.2.1, L.2.2.2.2.drew⟩
      (refine plan_pure ?_ rfl rfl (fun w' => ?_) ?_; rotate_left; (go_simp; try with_reducible rfl); simp only [Act.put, List.setIfInBounds_toArray, List.set_cons_zero, List.set_cons_succ])
      (refine plan_val ?_ rfl rfl rfl (fun w' hS => ?_) ?_; rotate_left; (obtain ⟨X0, X1, X2, X3, _, _, _, _⟩ := row_four hS.1; obtain ⟨Y0, Y1, Y2, Y3, _, _, _, _⟩ := row_four hS.2.1; obtain ⟨p0, p1, p2⟩ := hS.2.2.1; obtain ⟨q0, q1, q2⟩ := hS.2.2.2.1; go_simp; try with_reducible rfl); simp only [Act.put, List.setIfInBounds_toArray, List.set_cons_zero, List.set_cons_succ])
      (refine plan_pure ?_ rfl rfl (fun w' => ?_) ?_; rotate_left; (go_simp; try with_reducible rfl); simp only [Act.put, List.setIfInBounds_toArray, List.set_cons_zero, List.set_cons_succ])
      (refine plan_pure ?_ rfl rfl (fun w' => ?_) ?_; rotate_left; (go_simp; try with_reducible rfl); simp only [Act.put, List.setIfInBounds_toArray, List.set_cons_zero, List.set_cons_succ])
      (refine plan_pure ?_ rfl rfl (fun w' => ?_) ?_; rotate_left; (go_simp; try with_reducible rfl); simp only [Act.put, List.setIfInBounds_toArray, List.set_cons_zero, List.set_cons_succ])
      (refine plan_val ?_ rfl rfl rfl (fun w' hS => ?_) ?_; rotate_left; (obtain ⟨X0, X1, X2, X3, _, _, _, _⟩ := row_four hS.1; obtain ⟨Y0, Y1, Y2, Y3, _, _, _, _⟩ := row_four hS.2.1; obtain ⟨p0, p1, p2⟩ := hS.2.2.1; obtain ⟨q0, q1, q2⟩ := hS.2.2.2.1; go_simp; try with_reducible rfl); simp only [Act.put, List.setIfInBounds_toArray, List.set_cons_zero, List.set_cons_succ])
      (refine plan_pure ?_ rfl rfl (fun w' => ?_) ?_; rotate_left; (go_simp; try with_reducible rfl); simp only [Act.put, List.setIfInBounds_toArray, List.set_cons_zero, List.set_cons_succ])
      (refine plan_pure ?_ rfl rfl (fun w' => ?_) ?_; rotate_left; (go_simp; try with_reducible rfl); simp only [Act.put, List.setIfInBounds_toArray, List.set_cons_zero, List.set_cons_succ])
      (refine plan_val ?_ rfl rfl rfl (fun w' hS => ?_) ?_; rotate_left; (obtain ⟨X0, X1, X2, X3, _, _, _, _⟩ := row_four hS.1; obtain ⟨Y0, Y1, Y2, Y3, _, _, _, _⟩ := row_four hS.2.1; obtain ⟨p0, p1, p2⟩ := hS.2.2.1; obtain ⟨q0, q1, q2⟩ := hS.2.2.2.1; go_simp; try with_reducible rfl); simp only [Act.put, List.setIfInBounds_toArray, List.set_cons_zero, List.set_cons_succ])
      (refine plan_val ?_ rfl rfl rfl (fun w' hS => ?_) ?_; rotate_left; (obtain ⟨X0, X1, X2, X3, _, _, _, _⟩ := row_four hS.1; obtain ⟨Y0, Y1, Y2, Y3, _, _, _, _⟩ := row_four hS.2.1; obtain ⟨p0, p1, p2⟩ := hS.2.2.1; obtain ⟨q0, q1, q2⟩ := hS.2.2.2.1; go_simp; try with_reducible rfl); simp only [Act.put, List.setIfInBounds_toArray, List.set_cons_zero, List.set_cons_succ])
      refine plan_nil ?_
      intro w3 L3
      simp only [List.drop_succ_cons, List.drop_zero]
      try simp only [Act.put, List.setIfInBounds_toArray, List.set_cons_zero, List.set_cons_succ]

      have o3 := L3.2.2.2.2
      have g1 := L3.1
      have g2 := L3.2.1
      clear L3 L
      go_wp2
      go_roundw
      case rel => exact ⟨j + 1, by omega, by go_num, g1, g2, o3⟩
      case measure => simp [intOf]; omega
    · have i1 : ¬ (j : Int) < (m' : Int) := by omega
      go_wp2
      go_ret
      exact ⟨rfl, L3⟩
theorem few_yes (k cap n : Int) (A : Option Addr) (m c : Nat) (ts : List Tup) (w : World) (h : m ≤ 200) : Calls Try.prog 14 #[.agg #[.int .i64 k, .int .i64 cap, .int .i64 n, .slice A m c]] w fun e w' => e = .returned (.bool true) ∧ Below w.heap.size w w' := by
  have h1 : (m : Int) ≤ 200 := by omega
  go_enter Try.func14, Try.ntmps14
  go_wp2
  go_ret
  exact ⟨rfl, by (repeat (first | exact Below.refl _ _ | refine Below.setCell ?_ (by first | (simp; done) | (simp; omega) | omega) _ | refine Below.alloc ?_ (by first | (simp; done) | (simp; omega) | omega) _ | refine Below.drew ?_ | refine Below.trans ?_ (Below.mono (by assumption) (by first | (simp; done) | (simp; omega) | omega))))⟩
theorem few_no (k cap n : Int) (A : Option Addr) (m c : Nat) (ts : List Tup) (w : World) (h : 200 < m) : Calls Try.prog 14 #[.agg #[.int .i64 k, .int .i64 cap, .int .i64 n, .slice A m c]] w fun e w' => e = .returned (.bool false) ∧ Below w.heap.size w w' := by
  have h1 : ¬ (m : Int) ≤ 200 := by omega
  go_enter Try.func14, Try.ntmps14
  go_wp2
  go_ret
  exact ⟨ret_bool (by first | (simp; done) | (simp; omega)), by (repeat (first | exact Below.refl _ _ | refine Below.setCell ?_ (by first | (simp; done) | (simp; omega) | omega) _ | refine Below.alloc ?_ (by first | (simp; done) | (simp; omega) | omega) _ | refine Below.drew ?_ | refine Below.trans ?_ (Below.mono (by assumption) (by first | (simp; done) | (simp; omega) | omega))))⟩
def lit20 : Nat → Int
  | 0 => 5
  | 1 => 1
  | _ => 3
def aw20 : Nat → List Tup
  | 0 => []
  | 1 => [⟨5, 1, 0⟩]
  | 2 => [⟨1, 1, 0⟩, ⟨5, 1, 0⟩]
  | _ => [⟨1, 1, 0⟩, ⟨3, 1, 0⟩, ⟨5, 1, 0⟩]
theorem aw_step : ∀ j : Nat, j < 3 → sinsert 1 10 (j : Int) (aw20 j) (lit20 j) = ⟨1, 10, (j : Int) + 1, aw20 (j + 1), 0⟩
  | 0, _ => by kernel_rfl
  | 1, _ => by kernel_rfl
  | 2, _ => by kernel_rfl
  | j + 3, h => absurd h (by omega)
theorem aw_comp : scomp 1 10 3 (aw20 3) = ⟨1, 10, 3, [⟨1, 1, 0⟩, ⟨5, 2, 0⟩], 0⟩ := by kernel_rfl
theorem lit_cell {w : World} {b : Nat} {t : TypeId} (h : Row w b t #[.int .i64 5, .int .i64 1, .int .i64 3]) : ∀ j : Nat, j < 3 → w.cell? ⟨b, j, none⟩ = some (.int .i64 (lit20 j))
  | 0, _ => row_cell h 0
  | 1, _ => row_cell h 1
  | 2, _ => row_cell h 2
  | j + 3, h => absurd h (by omega)
set_option maxHeartbeats 4000000 in
theorem awake20 (w : World) : Calls Try.prog 13 #[] w fun e w' => e = .returned (.bool true) ∧ Below w.heap.size w w' := by
  go_enter Try.func13, Try.ntmps13
  go_wp2_with fail
  refine (psnew 1 10 _).mono ?_
  intro e w1 hq
  obtain ⟨A1, m1, c1, rfl, hin1, hb1, hf1⟩ := sret_at (by kernel_rfl : snew 1 10 = ⟨1, 10, 0, [], 0⟩) hq
  clear hq
  have hz1 := hb1.size
  go_upto_region 2 with (fail)
  have X : Row (w1.alloc (.cells #[.int .i64 1, .int .i64 10, .int .i64 0, .slice A1 m1 c1] 24)) w1.heap.size 24 #[.int .i64 1, .int .i64 10, .int .i64 0, .slice A1 m1 c1] := row_new rfl
  have al := (Below.refl w1.heap.size w1).alloc (Nat.le_refl _) (.cells #[.int .i64 1, .int .i64 10, .int .i64 0, .slice A1 m1 c1] 24)
  have za : w1.heap.size + 1 = (w1.alloc (.cells #[.int .i64 1, .int .i64 10, .int .i64 0, .slice A1 m1 c1] 24)).heap.size := by simp
  generalize w1.alloc (.cells #[.int .i64 1, .int .i64 10, .int .i64 0, .slice A1 m1 c1] 24) = w2 at X al za ⊢
  have hin2 := hin1.below al
  have o2 := hb1.trans (al.mono hz1)
  have fx : ∀ ad, A1 = some ad → ad.block ≠ w1.heap.size := fun ad e => by
    have := hf1 ad e
    omega
  generalize w1.heap.size = bx at X za fx hz1 ⊢
  clear al hin1 hb1
  go_wp2
  have X := row_alloc X (.cells #[.int .i64 5, .int .i64 1, .int .i64 3] 2)
  have Li : Row (w2.alloc (.cells #[.int .i64 5, .int .i64 1, .int .i64 3] 2)) w2.heap.size 2 #[.int .i64 5, .int .i64 1, .int .i64 3] := row_new rfl
  have al := (Below.refl w2.heap.size w2).alloc (Nat.le_refl _) (.cells #[.int .i64 5, .int .i64 1, .int .i64 3] 2)
  have hin3 := hin2.below al
  have o3 := o2.alloc o2.size (.cells #[.int .i64 5, .int .i64 1, .int .i64 3] 2)
  have ne : w2.heap.size ≠ bx := by omega
  generalize w2.alloc (.cells #[.int .i64 5, .int .i64 1, .int .i64 3] 2) = w3 at X Li al hin3 o3 ⊢
  generalize w2.heap.size = bl at Li ne ⊢
  clear al hin2 o2 za
  go_loopw [2, 12] (fun f i wr => ∃ (j : Nat) (A' : Option Addr) (m' c' : Nat), j ≤ 3 ∧ i = .int .i64 (j : Nat) ∧ f = .int .i64 0 ∧ Row wr bl 2 #[.int .i64 5, .int .i64 1, .int .i64 3] ∧ Row wr bx 24 #[.int .i64 1, .int .i64 10, .int .i64 (j : Nat), .slice A' m' c'] ∧ RowKit.Hid (SIn 1 10 (j : Nat) A' m' c' (aw20 j) wr) ∧ (∀ ad, A' = some ad → ad.block ≠ bx) ∧ Below w.heap.size w wr) (fun _ i _ => 3 - (intOf i).toNat)
  case atStart => exact ⟨0, A1, m1, c1, by omega, rfl, rfl, Li, X, Lib.hid hin3, fx, o3⟩
  case round =>
    clear Li X hin3 fx o3
    obtain ⟨j, A2, m2, c2, hj, rfl, rfl, L1, L2, L3, f2, o4⟩ := hrel
    by_cases hlt : j < 3
    · have lc := lit_cell L1 j hlt
      have st := aw_step j hlt
      have CI := pinsert 1 10 (j : Int) A2 m2 c2 (aw20 j) (lit20 j) wr L3.out
      rw [st] at CI
      generalize lit20 j = lv at lc CI
      generalize haw : aw20 (j + 1) = nx at CI
      have HAW := Lib.hid haw
      have CI := Lib.hid CI
      have i1 : (j : Int) < 3 := by omega
      have i2 : (0 : Int) ≤ (j : Int) := by omega
      have z1 := row_lt L1
      have z2 := row_lt L2
      have zw := o4.size
      obtain ⟨X0, X1, X2, X3, _, _, _, _⟩ := row_four L2
      clear st haw
      go_wp2_with fail
      refine CI.out.mono ?_
      intro e w5 hq
      obtain ⟨A5, m5, c5, rfl, hin5, hb5, hf5⟩ := sret_at rfl hq
      clear hq CI X0 X1 X2 X3
      have hz5 := hb5.size
      have R1 := row_call L1 hb5
      have R2 := row_call L2 hb5
      have o5 := o4.trans (hb5.mono zw)
      have fa := far hf5 z2
      obtain ⟨X0, X1, X2, X3, X4, X5, X6, X7⟩ := row_four R2
      have ej : ((j + 1 : Nat) : Int) = (j : Int) + 1 := by omega
      have G1 := row_four_other (u0 := .int .i64 1) (u1 := .int .i64 10) (u2 := .int .i64 ((j : Int) + 1)) (u3 := .slice A5 m5 c5) R1 ne
      have G2 := row_four_set (u0 := .int .i64 1) (u1 := .int .i64 10) (u2 := .int .i64 ((j : Int) + 1)) (u3 := .slice A5 m5 c5) R2
      have G3 := hin5.row fa (.int .i64 1) (.int .i64 10) (.int .i64 ((j : Int) + 1)) (.slice A5 m5 c5)
      have G4 := below_four o5 hz1 (.int .i64 1) (.int .i64 10) (.int .i64 ((j : Int) + 1)) (.slice A5 m5 c5)
      clear L1 L2 L3 o4 hb5 R1 R2 hin5 o5 lc
      go_wp2
      go_roundw
      case rel => exact ⟨j + 1, A5, m5, c5, by omega, by go_num, rfl, G1, by rw [ej]; exact G2, Lib.hid (by rw [ej, HAW.out]; exact G3), fa, G4⟩
      case measure => simp [intOf]; omega
    · obtain rfl : j = 3 := by omega
      have i1 : ¬ (3 : Int) < 3 := by omega
      have CC := pscomp 1 10 3 A2 m2 c2 (aw20 3) wr L3.out
      rw [aw_comp] at CC
      have CC := Lib.hid CC
      have z2 := row_lt L2
      have zw := o4.size
      obtain ⟨X0, X1, X2, X3, _, _, _, _⟩ := row_four L2
      go_wp2_with fail
      refine CC.out.mono ?_
      intro e w5 hq
      obtain ⟨A5, m5, c5, rfl, hin5, hb5, hf5⟩ := sret_at rfl hq
      clear hq CC X0 X1 X2 X3
      have hz5 := hb5.size
      have R2 := row_call L2 hb5
      have o5 := o4.trans (hb5.mono zw)
      have fa := far hf5 z2
      obtain rfl : m5 = 2 := hin5.len.symm
      obtain ⟨X0, X1, X2, X3, X4, X5, X6, X7⟩ := row_four R2
      go_upto_region 9 with (fail)
      have G2 := row_four_set (u0 := .int .i64 1) (u1 := .int .i64 10) (u2 := .int .i64 3) (u3 := .slice A5 2 c5) R2
      have G3 := hin5.row fa (.int .i64 1) (.int .i64 10) (.int .i64 3) (.slice A5 2 c5)
      have G4 := below_four o5 hz1 (.int .i64 1) (.int .i64 10) (.int .i64 3) (.slice A5 2 c5)
      generalize ((((w5.setCell ⟨bx, 0, none⟩ (.int .i64 1)).setCell ⟨bx, 1, none⟩ (.int .i64 10)).setCell ⟨bx, 2, none⟩ (.int .i64 3)).setCell ⟨bx, 3, none⟩ (.slice A5 2 c5)) = w6 at G2 G3 G4 ⊢
      obtain ⟨ad, rfl, _, t0, t1, t2⟩ := G3.reads.tup (i := 1) (by omega)
      rw [show 1 * 3 = 3 from rfl, add_lit_one ad 3 (by decide)] at t0 t1 t2
      have t0 : w6.cell? ⟨ad.block, ad.off + 3, none⟩ = some (.int .i64 5) := t0
      have t1 : w6.cell? ⟨ad.block, ad.off + 3 + 1, none⟩ = some (.int .i64 2) := t1
      have t2 : w6.cell? ⟨ad.block, ad.off + 3 + 2, none⟩ = some (.int .i64 0) := t2
      clear X0 X1 X2 X3 X4 X5 X6 X7 R2 L2 L3 hin5 o5 hb5
      obtain ⟨X0, X1, X2, X3, X4, X5, X6, X7⟩ := row_four G2
      go_wp2
      go_ret
      exact ⟨rfl, G4⟩
end Go.Proofs.Ytdibjlphcmjnoaa
