/- What memory holds while a long division runs. -/
import Derived.Test.YtdibjlphcmjnoaaHeap
import Derived.Test.YtdibjlphcmjnoaaMathDiv
set_option linter.unusedVariables false
set_option linter.unusedSimpArgs false
set_option linter.unusedSectionVars false
set_option linter.unnecessarySimpa false
namespace Go.Proofs.Ytdibjlphcmjnoaa
open Go.RowKit
/-- The two words of a wide number. -/
abbrev Wc (n : Nat) : Array Value := #[.int .u64 (hi n), .int .u64 (lo n)]
/-- Block b holds a wide number. -/
abbrev WB (w : World) (b n : Nat) : Prop := Row w b 87 (Wc n)
/-- The blocks of a division: the two numbers, the two results (still 0), the quotient and the remainder so far. -/
structure DivS (w w' : World) (b0 b1 b2 b3 g0 g1 a b q r : Nat) : Prop where
  ra : WB w' b0 a
  rb : WB w' b1 b
  r2 : Row w' b2 87 #[.int .u64 0, .int .u64 0]
  r3 : Row w' b3 87 #[.int .u64 0, .int .u64 0]
  rq : WB w' g0 q
  rr : WB w' g1 r
  n0 : b0 ≠ g0
  n1 : b1 ≠ g0
  n2 : b2 ≠ g0
  n3 : b3 ≠ g0
  m0 : b0 ≠ g1
  m1 : b1 ≠ g1
  m2 : b2 ≠ g1
  m3 : b3 ≠ g1
  gg : g0 ≠ g1
  old : w.heap.size ≤ g0
  old1 : w.heap.size ≤ g1
  below : Below w.heap.size w w'
/-- A number that is not 0 is not 0 as two words. -/
theorem w_nonzero {b : Nat} (h : b ≠ 0) : (hi b == 0 && lo b == 0) = false := by
  cases e : (hi b == 0 && lo b == 0) with
  | false => rfl
  | true =>
    simp only [Bool.and_eq_true, beq_iff_eq] at e
    exact absurd (hi_inj (b := 0) e.1 e.2) h
section
variable {w w' w'' : World} {b0 b1 b2 b3 g0 g1 a b q r : Nat}
theorem DivS.drew (h : DivS w w' b0 b1 b2 b3 g0 g1 a b q r) : DivS w w'.drew b0 b1 b2 b3 g0 g1 a b q r :=
  { ra := h.ra, rb := h.rb, r2 := h.r2, r3 := h.r3, rq := h.rq, rr := h.rr, n0 := h.n0, n1 := h.n1, n2 := h.n2, n3 := h.n3, m0 := h.m0, m1 := h.m1, m2 := h.m2, m3 := h.m3, gg := h.gg, old := h.old, old1 := h.old1, below := h.below.drew }
theorem DivS.call (h : DivS w w' b0 b1 b2 b3 g0 g1 a b q r) (k : Below w'.heap.size w' w'') : DivS w w'' b0 b1 b2 b3 g0 g1 a b q r :=
  { ra := row_call h.ra k, rb := row_call h.rb k, r2 := row_call h.r2 k, r3 := row_call h.r3 k, rq := row_call h.rq k, rr := row_call h.rr k, n0 := h.n0, n1 := h.n1, n2 := h.n2, n3 := h.n3, m0 := h.m0, m1 := h.m1, m2 := h.m2, m3 := h.m3, gg := h.gg, old := h.old, old1 := h.old1, below := h.below.trans (k.mono h.below.size) }
theorem DivS.alloc (h : DivS w w' b0 b1 b2 b3 g0 g1 a b q r) (o : Obj) : DivS w (w'.alloc o) b0 b1 b2 b3 g0 g1 a b q r :=
  { ra := row_alloc h.ra o, rb := row_alloc h.rb o, r2 := row_alloc h.r2 o, r3 := row_alloc h.r3 o, rq := row_alloc h.rq o, rr := row_alloc h.rr o, n0 := h.n0, n1 := h.n1, n2 := h.n2, n3 := h.n3, m0 := h.m0, m1 := h.m1, m2 := h.m2, m3 := h.m3, gg := h.gg, old := h.old, old1 := h.old1, below := h.below.alloc h.below.size o }
theorem DivS.setr (h : DivS w w' b0 b1 b2 b3 g0 g1 a b q r) (r' : Nat) : DivS w ((w'.setCell ⟨g1, 0, none⟩ (.int .u64 (hi r'))).setCell ⟨g1, 1, none⟩ (.int .u64 (lo r'))) b0 b1 b2 b3 g0 g1 a b q r' :=
  { ra := row_two_other h.ra h.m0, rb := row_two_other h.rb h.m1, r2 := row_two_other h.r2 h.m2, r3 := row_two_other h.r3 h.m3, rq := row_two_other h.rq h.gg, rr := row_two_set h.rr, n0 := h.n0, n1 := h.n1, n2 := h.n2, n3 := h.n3, m0 := h.m0, m1 := h.m1, m2 := h.m2, m3 := h.m3, gg := h.gg, old := h.old, old1 := h.old1, below := (h.below.setCell h.old1 _).setCell h.old1 _ }
theorem DivS.setq (h : DivS w w' b0 b1 b2 b3 g0 g1 a b q r) (q' : Nat) : DivS w ((w'.setCell ⟨g0, 0, none⟩ (.int .u64 (hi q'))).setCell ⟨g0, 1, none⟩ (.int .u64 (lo q'))) b0 b1 b2 b3 g0 g1 a b q' r :=
  { ra := row_two_other h.ra h.n0, rb := row_two_other h.rb h.n1, r2 := row_two_other h.r2 h.n2, r3 := row_two_other h.r3 h.n3, rq := row_two_set h.rq, rr := row_two_other h.rr h.gg.symm, n0 := h.n0, n1 := h.n1, n2 := h.n2, n3 := h.n3, m0 := h.m0, m1 := h.m1, m2 := h.m2, m3 := h.m3, gg := h.gg, old := h.old, old1 := h.old1, below := (h.below.setCell h.old _).setCell h.old _ }
theorem DivS.setq1 (h : DivS w w' b0 b1 b2 b3 g0 g1 a b q r) (q' : Nat) (e : hi q = hi q') : DivS w (w'.setCell ⟨g0, 1, none⟩ (.int .u64 (lo q'))) b0 b1 b2 b3 g0 g1 a b q' r :=
  { ra := row_other h.ra h.n0 _, rb := row_other h.rb h.n1 _, r2 := row_other h.r2 h.n2 _, r3 := row_other h.r3 h.n3 _, rq := (by have x := row_set h.rq 1 (.int .u64 (lo q')); unfold WB Wc; rw [← e]; exact x), rr := row_other h.rr h.gg.symm _, n0 := h.n0, n1 := h.n1, n2 := h.n2, n3 := h.n3, m0 := h.m0, m1 := h.m1, m2 := h.m2, m3 := h.m3, gg := h.gg, old := h.old, old1 := h.old1, below := h.below.setCell h.old _ }
end
end Go.Proofs.Ytdibjlphcmjnoaa
