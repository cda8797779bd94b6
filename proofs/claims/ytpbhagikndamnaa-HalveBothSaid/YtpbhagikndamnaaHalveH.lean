/- Counters that halve: the laws that compare program and reference, walked. -/
import Derived.Test.YtpbhagikndamnaaHalveG
namespace Go.Proofs.Ytpbhagikndamnaa
open Go.RowKit Go.Shelf
theorem HIn.row {now : Int} {A : Option Addr} {n c : Nat} {zs : List Int} {w : World} (h : HIn now A n c zs w) {b : Nat} (hp : ∀ a, A = some a → a.block ≠ b) (u v : Value) : HIn now A n c zs ((w.setCell ⟨b, 0, none⟩ u).setCell ⟨b, 1, none⟩ v) :=
  (h.other (p := ⟨b, 0, none⟩) hp u).other (p := ⟨b, 1, none⟩) hp v
theorem far {A : Option Addr} {B b : Nat} (h : ∀ a, A = some a → B ≤ a.block) (hb : b < B) : ∀ a, A = some a → a.block ≠ b := fun a ha e => by have := h a ha; omega
theorem hret_at {r : HOut} {now f : Int} {zs : List Int} {w w' : World} {e : Ending} (hr : r = ⟨now, zs, f⟩) (h : HRet r w e w') :
    ∃ A n c, e = .returned (.tuple #[.agg #[.int .i64 now, .slice A n c], .int .i64 f]) ∧ HIn now A n c zs w' ∧ Below w.heap.size w w' ∧ ∀ a, A = some a → w.heap.size ≤ a.block := by
  subst hr
  exact h
theorem hi18 : hi 18 = 0 := by decide
theorem lo18 : lo 18 = 18 := by decide
theorem hi4 : hi 4 = 0 := by decide
theorem lo4 : lo 4 = 4 := by decide
set_option maxHeartbeats 2000000 in
theorem awake16 (w : World) : Calls Try.prog 12 #[] w fun e w' => e = .returned (.bool true) ∧ Below w.heap.size w w' := by
  go_enter Try.func12, Try.ntmps12
  go_wp2_with fail
  refine (phnew 3 0 _).mono ?_
  intro e w1 hq
  obtain ⟨A1, n1, c1, rfl, hin1, hb1, hf1⟩ := hret_at (by kernel_rfl : hnew 3 0 = ⟨0, [0, 0, 0], 0⟩) hq
  have hz1 := hb1.size
  try simp at hz1
  go_wp2_with fail
  refine (phadd 0 A1 n1 c1 [0, 0, 0] 5 _ (hin1.below (by (repeat (first | exact Below.refl _ _ | refine Below.setCell ?_ (by first | (simp; done) | (simp; omega) | omega) _ | refine Below.alloc ?_ (by first | (simp; done) | (simp; omega) | omega) _ | refine Below.drew ?_ | refine Below.trans ?_ (Below.mono (by assumption) (by first | (simp; done) | (simp; omega) | omega))))))).mono ?_
  intro e w2 hq
  obtain ⟨A2, n2, c2, rfl, hin2, hb2, hf2⟩ := hret_at (by kernel_rfl : hadd 0 [0, 0, 0] 5 = ⟨0, [5, 0, 0], 0⟩) hq
  have hz2 := hb2.size
  try simp at hz2
  have r2 : Row w2 w1.heap.size 24 #[.int .i64 0, .slice A1 n1 c1] := row_call (row_new rfl) hb2
  have e2 := far (b := w1.heap.size) hf2 (by simp)
  have o2 : Below w.heap.size w w2 := by (repeat (first | exact Below.refl _ _ | refine Below.setCell ?_ (by first | (simp; done) | (simp; omega) | omega) _ | refine Below.alloc ?_ (by first | (simp; done) | (simp; omega) | omega) _ | refine Below.drew ?_ | refine Below.trans ?_ (Below.mono (by assumption) (by first | (simp; done) | (simp; omega) | omega))))
  obtain ⟨X0, X1, X2, X3⟩ := row_two r2
  go_wp2_with fail
  refine (phadv 0 A2 n2 c2 [5, 0, 0] 1 _ (hin2.row e2 _ _)).mono ?_
  intro e w3 hq
  obtain ⟨A3, n3, c3, rfl, hin3, hb3, hf3⟩ := hret_at (by kernel_rfl : hadv 0 [5, 0, 0] 1 = ⟨1, [0, 5, 0], 0⟩) hq
  have hz3 := hb3.size
  try simp at hz3
  have r3 : Row w3 w1.heap.size 24 #[.int .i64 0, .slice A2 n2 c2] := row_call (row_two_set r2) hb3
  have e3 := far (b := w1.heap.size) hf3 (by simp [size_setCell]; omega)
  have o3 : Below w.heap.size w w3 := by (repeat (first | exact Below.refl _ _ | refine Below.setCell ?_ (by first | (simp; done) | (simp; omega) | omega) _ | refine Below.alloc ?_ (by first | (simp; done) | (simp; omega) | omega) _ | refine Below.drew ?_ | refine Below.trans ?_ (Below.mono (by assumption) (by first | (simp; done) | (simp; omega) | omega))))
  obtain ⟨Y0, Y1, Y2, Y3⟩ := row_two r3
  go_wp2_with fail
  refine (phadd 1 A3 n3 c3 [0, 5, 0] 2 _ (hin3.row e3 _ _)).mono ?_
  intro e w4 hq
  obtain ⟨A4, n4, c4, rfl, hin4, hb4, hf4⟩ := hret_at (by kernel_rfl : hadd 1 [0, 5, 0] 2 = ⟨1, [2, 5, 0], 0⟩) hq
  have hz4 := hb4.size
  try simp at hz4
  have r4 : Row w4 w1.heap.size 24 #[.int .i64 1, .slice A3 n3 c3] := row_call (row_two_set r3) hb4
  have e4 := far (b := w1.heap.size) hf4 (by simp [size_setCell]; omega)
  have o4 : Below w.heap.size w w4 := by (repeat (first | exact Below.refl _ _ | refine Below.setCell ?_ (by first | (simp; done) | (simp; omega) | omega) _ | refine Below.alloc ?_ (by first | (simp; done) | (simp; omega) | omega) _ | refine Below.drew ?_ | refine Below.trans ?_ (Below.mono (by assumption) (by first | (simp; done) | (simp; omega) | omega))))
  obtain ⟨Z0, Z1, Z2, Z3⟩ := row_two r4
  go_wp2_with fail
  have C5 := phask 1 A4 n4 c4 [2, 5, 0] _ (hin4.row e4 (.int .i64 1) (.slice A4 n4 c4))
  rw [show hask 1 [2, 5, 0] = ⟨18, 4, 0⟩ from by kernel_rfl] at C5
  simp only [FR, hi18, lo18, hi4, lo4] at C5
  refine C5.mono ?_
  rintro e w5 ⟨rfl, hb5⟩
  have hz5 := hb5.size
  try simp at hz5
  have o5 : Below w.heap.size w w5 := by (repeat (first | exact Below.refl _ _ | refine Below.setCell ?_ (by first | (simp; done) | (simp; omega) | omega) _ | refine Below.alloc ?_ (by first | (simp; done) | (simp; omega) | omega) _ | refine Below.drew ?_ | refine Below.trans ?_ (Below.mono (by assumption) (by first | (simp; done) | (simp; omega) | omega))))
  clear C5 hin1 hin2 hin3 hin4
  go_wp2
  go_ret
  exact ⟨rfl, by (repeat (first | exact Below.refl _ _ | refine Below.setCell ?_ (by first | (simp; done) | (simp; omega) | omega) _ | refine Below.alloc ?_ (by first | (simp; done) | (simp; omega) | omega) _ | refine Below.drew ?_ | refine Below.trans ?_ (Below.mono (by assumption) (by first | (simp; done) | (simp; omega) | omega))))⟩
end Go.Proofs.Ytpbhagikndamnaa
