/- Marks of smooth histograms: words; small functions. -/
import Derived.Test.YtaiepjcnncajcaaSprC
import Derived.Test.YtaiepjcnncajcaaMathSm
import Derived.Deep.QuietTactic
import Derived.BigQuiet
import Derived.Deep.DeepCutAuto
import Derived.Deep.CutBlock
set_option linter.unusedVariables false
set_option linter.unusedSimpArgs false
set_option linter.unusedSectionVars false
set_option linter.unnecessarySimpa false
namespace Go.Proofs.Ytaiepjcnncajcaa
open Go.RowKit
/-- The cells of a list of marks. -/
def mcells (l : List Mk) : List Value := l.flatMap fun m => [.int .i64 m.seq, .int .i64 m.t, .int .i64 m.n, .int .i64 m.s, .int .i64 m.q, .int .i64 m.lo, .int .i64 m.hi]
theorem mcells_nil : mcells [] = [] := rfl
theorem mcells_cons (m : Mk) (l : List Mk) : mcells (m :: l) = .int .i64 m.seq :: .int .i64 m.t :: .int .i64 m.n :: .int .i64 m.s :: .int .i64 m.q :: .int .i64 m.lo :: .int .i64 m.hi :: mcells l := rfl
theorem mcells_append (a b : List Mk) : mcells (a ++ b) = mcells a ++ mcells b := by unfold mcells; rw [List.flatMap_append]
theorem mcells_len : ∀ l : List Mk, (mcells l).length = l.length * 7
  | [] => rfl
  | m :: l => by rw [mcells_cons]; simp only [List.length_cons, mcells_len l]; omega
theorem mcells_take : ∀ (l : List Mk) (i : Nat), (mcells l).take (i * 7) = mcells (l.take i)
  | [], i => by simp [mcells_nil]
  | m :: l, 0 => by simp [mcells_nil]
  | m :: l, i + 1 => by
    rw [mcells_cons, show (i + 1) * 7 = i * 7 + 1 + 1 + 1 + 1 + 1 + 1 + 1 by omega]
    simp only [List.take_succ_cons]
    rw [mcells_take l i, mcells_cons]
theorem mcells_drop : ∀ (l : List Mk) (i : Nat), (mcells l).drop (i * 7) = mcells (l.drop i)
  | [], i => by simp [mcells_nil]
  | m :: l, 0 => by simp
  | m :: l, i + 1 => by
    rw [mcells_cons, show (i + 1) * 7 = i * 7 + 1 + 1 + 1 + 1 + 1 + 1 + 1 by omega]
    simp only [List.drop_succ_cons]
    rw [mcells_drop l i]
theorem mcells_at : ∀ (l : List Mk) (i : Nat), i < l.length → (mcells l)[i * 7]? = some (.int .i64 (mkAt l i).seq) ∧ (mcells l)[i * 7 + 1]? = some (.int .i64 (mkAt l i).t) ∧ (mcells l)[i * 7 + 2]? = some (.int .i64 (mkAt l i).n) ∧ (mcells l)[i * 7 + 3]? = some (.int .i64 (mkAt l i).s) ∧ (mcells l)[i * 7 + 4]? = some (.int .i64 (mkAt l i).q) ∧ (mcells l)[i * 7 + 5]? = some (.int .i64 (mkAt l i).lo) ∧ (mcells l)[i * 7 + 6]? = some (.int .i64 (mkAt l i).hi)
  | [], i, h => absurd h (by simp)
  | m :: l, 0, _ => ⟨rfl, rfl, rfl, rfl, rfl, rfl, rfl⟩
  | m :: l, i + 1, h => by
    have ih := mcells_at l i (by simpa using h)
    rw [mcells_cons, show (i + 1) * 7 = i * 7 + 1 + 1 + 1 + 1 + 1 + 1 + 1 by omega, show i * 7 + 1 + 1 + 1 + 1 + 1 + 1 + 1 + 1 = (i * 7 + 1) + 1 + 1 + 1 + 1 + 1 + 1 + 1 by omega, show i * 7 + 1 + 1 + 1 + 1 + 1 + 1 + 1 + 2 = (i * 7 + 2) + 1 + 1 + 1 + 1 + 1 + 1 + 1 by omega, show i * 7 + 1 + 1 + 1 + 1 + 1 + 1 + 1 + 3 = (i * 7 + 3) + 1 + 1 + 1 + 1 + 1 + 1 + 1 by omega, show i * 7 + 1 + 1 + 1 + 1 + 1 + 1 + 1 + 4 = (i * 7 + 4) + 1 + 1 + 1 + 1 + 1 + 1 + 1 by omega, show i * 7 + 1 + 1 + 1 + 1 + 1 + 1 + 1 + 5 = (i * 7 + 5) + 1 + 1 + 1 + 1 + 1 + 1 + 1 by omega, show i * 7 + 1 + 1 + 1 + 1 + 1 + 1 + 1 + 6 = (i * 7 + 6) + 1 + 1 + 1 + 1 + 1 + 1 + 1 by omega]
    simp only [List.getElem?_cons_succ]
    exact ih
theorem mcells_one (l : List Mk) : ∀ u ∈ mcells l, u.oneCell' = true := by
  intro u hu
  unfold mcells at hu
  rw [List.mem_flatMap] at hu
  obtain ⟨t, _, ht⟩ := hu
  simp at ht
  rcases ht with rfl | rfl | rfl | rfl | rfl | rfl | rfl <;> rfl
def I64 (x : Int) : Prop := -9223372036854775808 ≤ x ∧ x ≤ 9223372036854775807
/-- A mark's numbers are numbers of 64 bits. -/
def M64 (m : Mk) : Prop := I64 m.seq ∧ I64 m.t ∧ I64 m.n ∧ I64 m.s ∧ I64 m.q ∧ I64 m.lo ∧ I64 m.hi
theorem M64_zero : M64 Mk.zero := by unfold M64 I64 Mk.zero; simp
/-- The seven cells of a mark. -/
def MkCells (w : World) (a : Addr) (m : Mk) : Prop := w.cell? a = some (.int .i64 m.seq) ∧ w.cell? ⟨a.block, a.off + 1, none⟩ = some (.int .i64 m.t) ∧ w.cell? ⟨a.block, a.off + 2, none⟩ = some (.int .i64 m.n) ∧ w.cell? ⟨a.block, a.off + 3, none⟩ = some (.int .i64 m.s) ∧ w.cell? ⟨a.block, a.off + 4, none⟩ = some (.int .i64 m.q) ∧ w.cell? ⟨a.block, a.off + 5, none⟩ = some (.int .i64 m.lo) ∧ w.cell? ⟨a.block, a.off + 6, none⟩ = some (.int .i64 m.hi)
section
variable {w w' : World} {B m : Nat} {A : Option Addr} {l : List Mk}
theorem Reads.mk_len (h : Reads w B 7 A m (mcells l)) : l.length = m := by have := h.1; rw [mcells_len] at this; omega
theorem mk_lit (a : Addr) (j : Nat) (h : j ≠ 0) : a.add j = ⟨a.block, a.off + j, none⟩ := by unfold Addr.add; rw [if_neg h]
theorem MkCells.keep {a : Addr} {x : Mk} (h : MkCells w a x) (hk : ∀ p : Addr, p.block = a.block → w'.cell? p = w.cell? p) : MkCells w' a x :=
  ⟨(hk _ rfl).trans h.1, (hk ⟨a.block, a.off + 1, none⟩ rfl).trans h.2.1, (hk ⟨a.block, a.off + 2, none⟩ rfl).trans h.2.2.1, (hk ⟨a.block, a.off + 3, none⟩ rfl).trans h.2.2.2.1, (hk ⟨a.block, a.off + 4, none⟩ rfl).trans h.2.2.2.2.1, (hk ⟨a.block, a.off + 5, none⟩ rfl).trans h.2.2.2.2.2.1, (hk ⟨a.block, a.off + 6, none⟩ rfl).trans h.2.2.2.2.2.2⟩
theorem MkCells.below {a : Addr} {x : Mk} (h : MkCells w a x) (hb : Below B w w') (hlt : a.block < B) : MkCells w' a x := h.keep fun p hp => hb.cell (by rw [hp]; exact hlt)
theorem Reads.mk {i : Nat} (h : Reads w B 7 A m (mcells l)) (hi : i < m) : ∃ ad, A = some ad ∧ ad.block < B ∧ MkCells w (ad.add (i * 7)) (mkAt l i) := by
  obtain ⟨ad, e, hb, hc⟩ := h.2 (by omega)
  have ht := mcells_at l i (by rw [h.mk_len]; exact hi)
  refine ⟨ad, e, hb, hc _ _ ht.1, ?_, ?_, ?_, ?_, ?_, ?_⟩
  · rw [← mk_lit _ 1 (by decide), add_of_add]
    exact hc _ _ ht.2.1
  · rw [← mk_lit _ 2 (by decide), add_of_add]
    exact hc _ _ ht.2.2.1
  · rw [← mk_lit _ 3 (by decide), add_of_add]
    exact hc _ _ ht.2.2.2.1
  · rw [← mk_lit _ 4 (by decide), add_of_add]
    exact hc _ _ ht.2.2.2.2.1
  · rw [← mk_lit _ 5 (by decide), add_of_add]
    exact hc _ _ ht.2.2.2.2.2.1
  · rw [← mk_lit _ 6 (by decide), add_of_add]
    exact hc _ _ ht.2.2.2.2.2.2
end
/-- Marks as an argument. -/
structure MIn (A : Option Addr) (m c : Nat) (l : List Mk) (w : World) : Prop where
  reads : Reads w w.heap.size 7 A m (mcells l)
  mB : ∀ i, M64 (mkAt l i)
  mc : m ≤ c
  cB : c ≤ maxLen
section
variable {w w' : World} {m c : Nat} {A : Option Addr} {l : List Mk}
theorem MIn.max (h : MIn A m c l w) : m ≤ 9223372036854775807 := by
  have := h.mc
  have := h.cB
  unfold maxLen at *
  omega
theorem MIn.len (h : MIn A m c l w) : l.length = m := h.reads.mk_len
theorem MIn.below (h : MIn A m c l w) (hb : Below w.heap.size w w') : MIn A m c l w' := ⟨(h.reads.below hb).more hb.size, h.mB, h.mc, h.cB⟩
theorem Own.mk {g i : Nat} (h : Own w 33 7 g m c (mcells l)) (hi : i < m) : MkCells w ⟨g, i * 7, none⟩ (mkAt l i) := by
  have hl := h.len
  rw [mcells_len] at hl
  have ht := mcells_at l i (by omega)
  exact ⟨(show w.cell? ⟨g, i * 7, none⟩ = _ from (h.cell (by omega)).trans ht.1), (show w.cell? ⟨g, i * 7 + 1, none⟩ = _ from (h.cell (by omega)).trans ht.2.1), (show w.cell? ⟨g, i * 7 + 2, none⟩ = _ from (h.cell (by omega)).trans ht.2.2.1), (show w.cell? ⟨g, i * 7 + 3, none⟩ = _ from (h.cell (by omega)).trans ht.2.2.2.1), (show w.cell? ⟨g, i * 7 + 4, none⟩ = _ from (h.cell (by omega)).trans ht.2.2.2.2.1), (show w.cell? ⟨g, i * 7 + 5, none⟩ = _ from (h.cell (by omega)).trans ht.2.2.2.2.2.1), (show w.cell? ⟨g, i * 7 + 6, none⟩ = _ from (h.cell (by omega)).trans ht.2.2.2.2.2.2)⟩
theorem Own.mlen {g : Nat} (h : Own w 33 7 g m c (mcells l)) : l.length = m := by
  have hl := h.len
  rw [mcells_len] at hl
  omega
end
theorem info_mk : (Try.prog.info? 33).map (fun i => (i.zero, i.size, i.bytes)) = some (some (.agg #[.int .i64 0, .int .i64 0, .int .i64 0, .int .i64 0, .int .i64 0, .int .i64 0, .int .i64 0]), 7, 56) := by kernel_rfl
theorem mul_small {n x : Int} (h0 : 0 ≤ n) (h1 : n ≤ 65536) (h2 : -4096 ≤ x) (h3 : x ≤ 4096) : -268435456 ≤ n * x ∧ n * x ≤ 268435456 := by
  constructor
  · have : n * (-4096) ≤ n * x := Int.mul_le_mul_of_nonneg_left h2 h0
    omega
  · have : n * x ≤ n * 4096 := Int.mul_le_mul_of_nonneg_left h3 h0
    omega
theorem pfits_0 (n lo hi s q : Int) (w : World) (hn0 : 0 ≤ n) (hn1 : n ≤ 65536) (l0 : -4096 ≤ lo) (l1 : lo ≤ 4096) (g0 : -4096 ≤ hi) (g1 : hi ≤ 4096)  (h : s < n * lo) : Calls Try.prog 100 #[.int .i64 n, .int .i64 lo, .int .i64 hi, .int .i64 s, .int .i64 q] w fun e w' => e = .returned (.bool false) ∧ w' = w := by
  have b1 := mul_small hn0 hn1 l0 l1
  have b2 := mul_small hn0 hn1 g0 g1
  have wl : IntKind.i64.wrap (n * lo) = n * lo := IntWalk.i64_in _ (by omega)
  have wh : IntKind.i64.wrap (n * hi) = n * hi := IntWalk.i64_in _ (by omega)
  have wn2 : IntKind.i64.wrap (n * 4096) = n * 4096 := IntWalk.i64_in _ (by omega)
  have wn3 : IntKind.i64.wrap (n * 4096 * 4096) = n * 4096 * 4096 := IntWalk.i64_in _ (by omega)
  go_enter Try.func100, Try.ntmps100
  go_wp2_with fail
  go_ret
  exact ⟨by first | rfl | exact ret_bool (by simp; omega) | exact ret_bool (by simp [*]), rfl⟩
theorem pfits_1 (n lo hi s q : Int) (w : World) (hn0 : 0 ≤ n) (hn1 : n ≤ 65536) (l0 : -4096 ≤ lo) (l1 : lo ≤ 4096) (g0 : -4096 ≤ hi) (g1 : hi ≤ 4096) (h0 : n * lo ≤ s) (h : n * hi < s) : Calls Try.prog 100 #[.int .i64 n, .int .i64 lo, .int .i64 hi, .int .i64 s, .int .i64 q] w fun e w' => e = .returned (.bool false) ∧ w' = w := by
  have b1 := mul_small hn0 hn1 l0 l1
  have b2 := mul_small hn0 hn1 g0 g1
  have wl : IntKind.i64.wrap (n * lo) = n * lo := IntWalk.i64_in _ (by omega)
  have wh : IntKind.i64.wrap (n * hi) = n * hi := IntWalk.i64_in _ (by omega)
  have wn2 : IntKind.i64.wrap (n * 4096) = n * 4096 := IntWalk.i64_in _ (by omega)
  have wn3 : IntKind.i64.wrap (n * 4096 * 4096) = n * 4096 * 4096 := IntWalk.i64_in _ (by omega)
  go_enter Try.func100, Try.ntmps100
  go_wp2_with fail
  go_ret
  exact ⟨by first | rfl | exact ret_bool (by simp; omega) | exact ret_bool (by simp [*]), rfl⟩
theorem pfits_2 (n lo hi s q : Int) (w : World) (hn0 : 0 ≤ n) (hn1 : n ≤ 65536) (l0 : -4096 ≤ lo) (l1 : lo ≤ 4096) (g0 : -4096 ≤ hi) (g1 : hi ≤ 4096) (h0 : n * lo ≤ s) (h1 : s ≤ n * hi) (h : q < 0) : Calls Try.prog 100 #[.int .i64 n, .int .i64 lo, .int .i64 hi, .int .i64 s, .int .i64 q] w fun e w' => e = .returned (.bool false) ∧ w' = w := by
  have b1 := mul_small hn0 hn1 l0 l1
  have b2 := mul_small hn0 hn1 g0 g1
  have wl : IntKind.i64.wrap (n * lo) = n * lo := IntWalk.i64_in _ (by omega)
  have wh : IntKind.i64.wrap (n * hi) = n * hi := IntWalk.i64_in _ (by omega)
  have wn2 : IntKind.i64.wrap (n * 4096) = n * 4096 := IntWalk.i64_in _ (by omega)
  have wn3 : IntKind.i64.wrap (n * 4096 * 4096) = n * 4096 * 4096 := IntWalk.i64_in _ (by omega)
  go_enter Try.func100, Try.ntmps100
  go_wp2_with fail
  go_ret
  exact ⟨by first | rfl | exact ret_bool (by simp; omega) | exact ret_bool (by simp [*]), rfl⟩
theorem pfits_3 (n lo hi s q : Int) (w : World) (hn0 : 0 ≤ n) (hn1 : n ≤ 65536) (l0 : -4096 ≤ lo) (l1 : lo ≤ 4096) (g0 : -4096 ≤ hi) (g1 : hi ≤ 4096) (h0 : n * lo ≤ s) (h1 : s ≤ n * hi) (h2 : 0 ≤ q) (h : n * 4096 * 4096 < q) : Calls Try.prog 100 #[.int .i64 n, .int .i64 lo, .int .i64 hi, .int .i64 s, .int .i64 q] w fun e w' => e = .returned (.bool false) ∧ w' = w := by
  have b1 := mul_small hn0 hn1 l0 l1
  have b2 := mul_small hn0 hn1 g0 g1
  have wl : IntKind.i64.wrap (n * lo) = n * lo := IntWalk.i64_in _ (by omega)
  have wh : IntKind.i64.wrap (n * hi) = n * hi := IntWalk.i64_in _ (by omega)
  have wn2 : IntKind.i64.wrap (n * 4096) = n * 4096 := IntWalk.i64_in _ (by omega)
  have wn3 : IntKind.i64.wrap (n * 4096 * 4096) = n * 4096 * 4096 := IntWalk.i64_in _ (by omega)
  go_enter Try.func100, Try.ntmps100
  go_wp2_with fail
  go_ret
  exact ⟨by first | rfl | exact ret_bool (by simp; omega) | exact ret_bool (by simp [*]), rfl⟩
theorem pfits_4 (n lo hi s q : Int) (w : World) (hn0 : 0 ≤ n) (hn1 : n ≤ 65536) (l0 : -4096 ≤ lo) (l1 : lo ≤ 4096) (g0 : -4096 ≤ hi) (g1 : hi ≤ 4096) (h0 : n * lo ≤ s) (h1 : s ≤ n * hi) (h2 : 0 ≤ q) (h3 : q ≤ n * 4096 * 4096) (h : n * q < s * s) : Calls Try.prog 100 #[.int .i64 n, .int .i64 lo, .int .i64 hi, .int .i64 s, .int .i64 q] w fun e w' => e = .returned (.bool false) ∧ w' = w := by
  have b1 := mul_small hn0 hn1 l0 l1
  have b2 := mul_small hn0 hn1 g0 g1
  have wl : IntKind.i64.wrap (n * lo) = n * lo := IntWalk.i64_in _ (by omega)
  have wh : IntKind.i64.wrap (n * hi) = n * hi := IntWalk.i64_in _ (by omega)
  have wn2 : IntKind.i64.wrap (n * 4096) = n * 4096 := IntWalk.i64_in _ (by omega)
  have wn3 : IntKind.i64.wrap (n * 4096 * 4096) = n * 4096 * 4096 := IntWalk.i64_in _ (by omega)
  have b3 := sq_bound (s := s) (B := 268435456) (by omega) (by omega)
  have b4 : 0 ≤ n * q ∧ n * q ≤ 65536 * 1099511627776 := ⟨Int.mul_nonneg hn0 h2, Int.mul_le_mul hn1 (by omega) h2 (by decide)⟩
  have wss : IntKind.i64.wrap (s * s) = s * s := IntWalk.i64_in _ (by omega)
  have wnq : IntKind.i64.wrap (n * q) = n * q := IntWalk.i64_in _ (by omega)
  go_enter Try.func100, Try.ntmps100
  go_wp2_with fail
  go_ret
  exact ⟨by first | rfl | exact ret_bool (by simp; omega) | exact ret_bool (by simp [*]), rfl⟩
theorem pfits_5 (n lo hi s q : Int) (w : World) (hn0 : 0 ≤ n) (hn1 : n ≤ 65536) (l0 : -4096 ≤ lo) (l1 : lo ≤ 4096) (g0 : -4096 ≤ hi) (g1 : hi ≤ 4096) (h0 : n * lo ≤ s) (h1 : s ≤ n * hi) (h2 : 0 ≤ q) (h3 : q ≤ n * 4096 * 4096) (h4 : s * s ≤ n * q) : Calls Try.prog 100 #[.int .i64 n, .int .i64 lo, .int .i64 hi, .int .i64 s, .int .i64 q] w fun e w' => e = .returned (.bool true) ∧ w' = w := by
  have b1 := mul_small hn0 hn1 l0 l1
  have b2 := mul_small hn0 hn1 g0 g1
  have wl : IntKind.i64.wrap (n * lo) = n * lo := IntWalk.i64_in _ (by omega)
  have wh : IntKind.i64.wrap (n * hi) = n * hi := IntWalk.i64_in _ (by omega)
  have wn2 : IntKind.i64.wrap (n * 4096) = n * 4096 := IntWalk.i64_in _ (by omega)
  have wn3 : IntKind.i64.wrap (n * 4096 * 4096) = n * 4096 * 4096 := IntWalk.i64_in _ (by omega)
  have b3 := sq_bound (s := s) (B := 268435456) (by omega) (by omega)
  have b4 : 0 ≤ n * q ∧ n * q ≤ 65536 * 1099511627776 := ⟨Int.mul_nonneg hn0 h2, Int.mul_le_mul hn1 (by omega) h2 (by decide)⟩
  have wss : IntKind.i64.wrap (s * s) = s * s := IntWalk.i64_in _ (by omega)
  have wnq : IntKind.i64.wrap (n * q) = n * q := IntWalk.i64_in _ (by omega)
  go_enter Try.func100, Try.ntmps100
  go_wp2_with fail
  go_ret
  exact ⟨by first | rfl | exact ret_bool (by simp; omega) | exact ret_bool (by simp [*]), rfl⟩
theorem pfits (n lo hi s q : Int) (w : World) (hn0 : 0 ≤ n) (hn1 : n ≤ 65536) (l0 : -4096 ≤ lo) (l1 : lo ≤ 4096) (g0 : -4096 ≤ hi) (g1 : hi ≤ 4096) : Calls Try.prog 100 #[.int .i64 n, .int .i64 lo, .int .i64 hi, .int .i64 s, .int .i64 q] w fun e w' => e = .returned (.bool (decide (n * lo ≤ s ∧ s ≤ n * hi ∧ 0 ≤ q ∧ q ≤ n * 4096 * 4096 ∧ s * s ≤ n * q))) ∧ w' = w := by
  by_cases h0 : n * lo ≤ s
  · skip
    by_cases h1 : s ≤ n * hi
    · skip
      by_cases h2 : 0 ≤ q
      · skip
        by_cases h3 : q ≤ n * 4096 * 4096
        · skip
          by_cases h4 : s * s ≤ n * q
          · skip
            rw [show decide (n * lo ≤ s ∧ s ≤ n * hi ∧ 0 ≤ q ∧ q ≤ n * 4096 * 4096 ∧ s * s ≤ n * q) = true from decide_eq_true ⟨h0, h1, h2, h3, h4⟩]
            exact pfits_5 n lo hi s q w hn0 hn1 l0 l1 g0 g1 h0 h1 h2 h3 h4
          · rw [show decide (n * lo ≤ s ∧ s ≤ n * hi ∧ 0 ≤ q ∧ q ≤ n * 4096 * 4096 ∧ s * s ≤ n * q) = false from decide_eq_false (fun a => h4 a.2.2.2.2)]
            exact pfits_4 n lo hi s q w hn0 hn1 l0 l1 g0 g1 h0 h1 h2 h3 (Int.not_le.1 h4)
        · rw [show decide (n * lo ≤ s ∧ s ≤ n * hi ∧ 0 ≤ q ∧ q ≤ n * 4096 * 4096 ∧ s * s ≤ n * q) = false from decide_eq_false (fun a => h3 a.2.2.2.1)]
          exact pfits_3 n lo hi s q w hn0 hn1 l0 l1 g0 g1 h0 h1 h2 (Int.not_le.1 h3)
      · rw [show decide (n * lo ≤ s ∧ s ≤ n * hi ∧ 0 ≤ q ∧ q ≤ n * 4096 * 4096 ∧ s * s ≤ n * q) = false from decide_eq_false (fun a => h2 a.2.2.1)]
        exact pfits_2 n lo hi s q w hn0 hn1 l0 l1 g0 g1 h0 h1 (Int.not_le.1 h2)
    · rw [show decide (n * lo ≤ s ∧ s ≤ n * hi ∧ 0 ≤ q ∧ q ≤ n * 4096 * 4096 ∧ s * s ≤ n * q) = false from decide_eq_false (fun a => h1 a.2.1)]
      exact pfits_1 n lo hi s q w hn0 hn1 l0 l1 g0 g1 h0 (Int.not_le.1 h1)
  · rw [show decide (n * lo ≤ s ∧ s ≤ n * hi ∧ 0 ≤ q ∧ q ≤ n * 4096 * 4096 ∧ s * s ≤ n * q) = false from decide_eq_false (fun a => h0 a.1)]
    exact pfits_0 n lo hi s q w hn0 hn1 l0 l1 g0 g1  (Int.not_le.1 h0)
theorem pfitsP (n lo hi s q : Int) (w : World) (hn0 : 0 ≤ n) (hn1 : n ≤ 65536) (l0 : -4096 ≤ lo) (l1 : lo ≤ 4096) (g0 : -4096 ≤ hi) (g1 : hi ≤ 4096) : Calls Try.prog 100 #[.int .i64 n, .int .i64 lo, .int .i64 hi, .int .i64 s, .int .i64 q] w fun e w' => e = .returned (.bool (decide (partP n lo hi s q))) ∧ w' = w := by
  have e : decide (partP n lo hi s q) = decide (n * lo ≤ s ∧ s ≤ n * hi ∧ 0 ≤ q ∧ q ≤ n * 4096 * 4096 ∧ s * s ≤ n * q) := by
    by_cases h : partP n lo hi s q
    · exact (decide_eq_true h).trans (decide_eq_true (p := n * lo ≤ s ∧ s ≤ n * hi ∧ 0 ≤ q ∧ q ≤ n * 4096 * 4096 ∧ s * s ≤ n * q) h).symm
    · exact (decide_eq_false h).trans (decide_eq_false (p := n * lo ≤ s ∧ s ≤ n * hi ∧ 0 ≤ q ∧ q ≤ n * 4096 * 4096 ∧ s * s ≤ n * q) h).symm
  rw [e]
  exact pfits n lo hi s q w hn0 hn1 l0 l1 g0 g1
theorem rpart_0 (n lo hi s q : Int) (w : World) (hn0 : 0 ≤ n) (hn1 : n ≤ 65536) (l0 : -4096 ≤ lo) (l1 : lo ≤ 4096) (g0 : -4096 ≤ hi) (g1 : hi ≤ 4096)  (h : s < n * lo) : Calls Try.prog 102 #[.int .i64 n, .int .i64 s, .int .i64 q, .int .i64 lo, .int .i64 hi] w fun e w' => e = .returned (.bool false) ∧ w' = w := by
  have b1 := mul_small hn0 hn1 l0 l1
  have b2 := mul_small hn0 hn1 g0 g1
  have wl : IntKind.i64.wrap (n * lo) = n * lo := IntWalk.i64_in _ (by omega)
  have wh : IntKind.i64.wrap (n * hi) = n * hi := IntWalk.i64_in _ (by omega)
  have wn2 : IntKind.i64.wrap (n * 4096) = n * 4096 := IntWalk.i64_in _ (by omega)
  have wn3 : IntKind.i64.wrap (n * 4096 * 4096) = n * 4096 * 4096 := IntWalk.i64_in _ (by omega)
  go_enter Try.func102, Try.ntmps102
  go_wp2_with fail
  go_ret
  exact ⟨by first | rfl | exact ret_bool (by simp; omega) | exact ret_bool (by simp [*]), rfl⟩
theorem rpart_1 (n lo hi s q : Int) (w : World) (hn0 : 0 ≤ n) (hn1 : n ≤ 65536) (l0 : -4096 ≤ lo) (l1 : lo ≤ 4096) (g0 : -4096 ≤ hi) (g1 : hi ≤ 4096) (h0 : n * lo ≤ s) (h : n * hi < s) : Calls Try.prog 102 #[.int .i64 n, .int .i64 s, .int .i64 q, .int .i64 lo, .int .i64 hi] w fun e w' => e = .returned (.bool false) ∧ w' = w := by
  have b1 := mul_small hn0 hn1 l0 l1
  have b2 := mul_small hn0 hn1 g0 g1
  have wl : IntKind.i64.wrap (n * lo) = n * lo := IntWalk.i64_in _ (by omega)
  have wh : IntKind.i64.wrap (n * hi) = n * hi := IntWalk.i64_in _ (by omega)
  have wn2 : IntKind.i64.wrap (n * 4096) = n * 4096 := IntWalk.i64_in _ (by omega)
  have wn3 : IntKind.i64.wrap (n * 4096 * 4096) = n * 4096 * 4096 := IntWalk.i64_in _ (by omega)
  go_enter Try.func102, Try.ntmps102
  go_wp2_with fail
  go_ret
  exact ⟨by first | rfl | exact ret_bool (by simp; omega) | exact ret_bool (by simp [*]), rfl⟩
theorem rpart_2 (n lo hi s q : Int) (w : World) (hn0 : 0 ≤ n) (hn1 : n ≤ 65536) (l0 : -4096 ≤ lo) (l1 : lo ≤ 4096) (g0 : -4096 ≤ hi) (g1 : hi ≤ 4096) (h0 : n * lo ≤ s) (h1 : s ≤ n * hi) (h : q < 0) : Calls Try.prog 102 #[.int .i64 n, .int .i64 s, .int .i64 q, .int .i64 lo, .int .i64 hi] w fun e w' => e = .returned (.bool false) ∧ w' = w := by
  have b1 := mul_small hn0 hn1 l0 l1
  have b2 := mul_small hn0 hn1 g0 g1
  have wl : IntKind.i64.wrap (n * lo) = n * lo := IntWalk.i64_in _ (by omega)
  have wh : IntKind.i64.wrap (n * hi) = n * hi := IntWalk.i64_in _ (by omega)
  have wn2 : IntKind.i64.wrap (n * 4096) = n * 4096 := IntWalk.i64_in _ (by omega)
  have wn3 : IntKind.i64.wrap (n * 4096 * 4096) = n * 4096 * 4096 := IntWalk.i64_in _ (by omega)
  go_enter Try.func102, Try.ntmps102
  go_wp2_with fail
  go_ret
  exact ⟨by first | rfl | exact ret_bool (by simp; omega) | exact ret_bool (by simp [*]), rfl⟩
theorem rpart_3 (n lo hi s q : Int) (w : World) (hn0 : 0 ≤ n) (hn1 : n ≤ 65536) (l0 : -4096 ≤ lo) (l1 : lo ≤ 4096) (g0 : -4096 ≤ hi) (g1 : hi ≤ 4096) (h0 : n * lo ≤ s) (h1 : s ≤ n * hi) (h2 : 0 ≤ q) (h : n * 4096 * 4096 < q) : Calls Try.prog 102 #[.int .i64 n, .int .i64 s, .int .i64 q, .int .i64 lo, .int .i64 hi] w fun e w' => e = .returned (.bool false) ∧ w' = w := by
  have b1 := mul_small hn0 hn1 l0 l1
  have b2 := mul_small hn0 hn1 g0 g1
  have wl : IntKind.i64.wrap (n * lo) = n * lo := IntWalk.i64_in _ (by omega)
  have wh : IntKind.i64.wrap (n * hi) = n * hi := IntWalk.i64_in _ (by omega)
  have wn2 : IntKind.i64.wrap (n * 4096) = n * 4096 := IntWalk.i64_in _ (by omega)
  have wn3 : IntKind.i64.wrap (n * 4096 * 4096) = n * 4096 * 4096 := IntWalk.i64_in _ (by omega)
  go_enter Try.func102, Try.ntmps102
  go_wp2_with fail
  go_ret
  exact ⟨by first | rfl | exact ret_bool (by simp; omega) | exact ret_bool (by simp [*]), rfl⟩
theorem rpart_4 (n lo hi s q : Int) (w : World) (hn0 : 0 ≤ n) (hn1 : n ≤ 65536) (l0 : -4096 ≤ lo) (l1 : lo ≤ 4096) (g0 : -4096 ≤ hi) (g1 : hi ≤ 4096) (h0 : n * lo ≤ s) (h1 : s ≤ n * hi) (h2 : 0 ≤ q) (h3 : q ≤ n * 4096 * 4096) (h : n * q < s * s) : Calls Try.prog 102 #[.int .i64 n, .int .i64 s, .int .i64 q, .int .i64 lo, .int .i64 hi] w fun e w' => e = .returned (.bool false) ∧ w' = w := by
  have b1 := mul_small hn0 hn1 l0 l1
  have b2 := mul_small hn0 hn1 g0 g1
  have wl : IntKind.i64.wrap (n * lo) = n * lo := IntWalk.i64_in _ (by omega)
  have wh : IntKind.i64.wrap (n * hi) = n * hi := IntWalk.i64_in _ (by omega)
  have wn2 : IntKind.i64.wrap (n * 4096) = n * 4096 := IntWalk.i64_in _ (by omega)
  have wn3 : IntKind.i64.wrap (n * 4096 * 4096) = n * 4096 * 4096 := IntWalk.i64_in _ (by omega)
  have b3 := sq_bound (s := s) (B := 268435456) (by omega) (by omega)
  have b4 : 0 ≤ n * q ∧ n * q ≤ 65536 * 1099511627776 := ⟨Int.mul_nonneg hn0 h2, Int.mul_le_mul hn1 (by omega) h2 (by decide)⟩
  have wss : IntKind.i64.wrap (s * s) = s * s := IntWalk.i64_in _ (by omega)
  have wnq : IntKind.i64.wrap (n * q) = n * q := IntWalk.i64_in _ (by omega)
  go_enter Try.func102, Try.ntmps102
  go_wp2_with fail
  go_ret
  exact ⟨by first | rfl | exact ret_bool (by simp; omega) | exact ret_bool (by simp [*]), rfl⟩
theorem rpart_5 (n lo hi s q : Int) (w : World) (hn0 : 0 ≤ n) (hn1 : n ≤ 65536) (l0 : -4096 ≤ lo) (l1 : lo ≤ 4096) (g0 : -4096 ≤ hi) (g1 : hi ≤ 4096) (h0 : n * lo ≤ s) (h1 : s ≤ n * hi) (h2 : 0 ≤ q) (h3 : q ≤ n * 4096 * 4096) (h4 : s * s ≤ n * q) : Calls Try.prog 102 #[.int .i64 n, .int .i64 s, .int .i64 q, .int .i64 lo, .int .i64 hi] w fun e w' => e = .returned (.bool true) ∧ w' = w := by
  have b1 := mul_small hn0 hn1 l0 l1
  have b2 := mul_small hn0 hn1 g0 g1
  have wl : IntKind.i64.wrap (n * lo) = n * lo := IntWalk.i64_in _ (by omega)
  have wh : IntKind.i64.wrap (n * hi) = n * hi := IntWalk.i64_in _ (by omega)
  have wn2 : IntKind.i64.wrap (n * 4096) = n * 4096 := IntWalk.i64_in _ (by omega)
  have wn3 : IntKind.i64.wrap (n * 4096 * 4096) = n * 4096 * 4096 := IntWalk.i64_in _ (by omega)
  have b3 := sq_bound (s := s) (B := 268435456) (by omega) (by omega)
  have b4 : 0 ≤ n * q ∧ n * q ≤ 65536 * 1099511627776 := ⟨Int.mul_nonneg hn0 h2, Int.mul_le_mul hn1 (by omega) h2 (by decide)⟩
  have wss : IntKind.i64.wrap (s * s) = s * s := IntWalk.i64_in _ (by omega)
  have wnq : IntKind.i64.wrap (n * q) = n * q := IntWalk.i64_in _ (by omega)
  go_enter Try.func102, Try.ntmps102
  go_wp2_with fail
  go_ret
  exact ⟨by first | rfl | exact ret_bool (by simp; omega) | exact ret_bool (by simp [*]), rfl⟩
theorem rpart (n lo hi s q : Int) (w : World) (hn0 : 0 ≤ n) (hn1 : n ≤ 65536) (l0 : -4096 ≤ lo) (l1 : lo ≤ 4096) (g0 : -4096 ≤ hi) (g1 : hi ≤ 4096) : Calls Try.prog 102 #[.int .i64 n, .int .i64 s, .int .i64 q, .int .i64 lo, .int .i64 hi] w fun e w' => e = .returned (.bool (decide (n * lo ≤ s ∧ s ≤ n * hi ∧ 0 ≤ q ∧ q ≤ n * 4096 * 4096 ∧ s * s ≤ n * q))) ∧ w' = w := by
  by_cases h0 : n * lo ≤ s
  · skip
    by_cases h1 : s ≤ n * hi
    · skip
      by_cases h2 : 0 ≤ q
      · skip
        by_cases h3 : q ≤ n * 4096 * 4096
        · skip
          by_cases h4 : s * s ≤ n * q
          · skip
            rw [show decide (n * lo ≤ s ∧ s ≤ n * hi ∧ 0 ≤ q ∧ q ≤ n * 4096 * 4096 ∧ s * s ≤ n * q) = true from decide_eq_true ⟨h0, h1, h2, h3, h4⟩]
            exact rpart_5 n lo hi s q w hn0 hn1 l0 l1 g0 g1 h0 h1 h2 h3 h4
          · rw [show decide (n * lo ≤ s ∧ s ≤ n * hi ∧ 0 ≤ q ∧ q ≤ n * 4096 * 4096 ∧ s * s ≤ n * q) = false from decide_eq_false (fun a => h4 a.2.2.2.2)]
            exact rpart_4 n lo hi s q w hn0 hn1 l0 l1 g0 g1 h0 h1 h2 h3 (Int.not_le.1 h4)
        · rw [show decide (n * lo ≤ s ∧ s ≤ n * hi ∧ 0 ≤ q ∧ q ≤ n * 4096 * 4096 ∧ s * s ≤ n * q) = false from decide_eq_false (fun a => h3 a.2.2.2.1)]
          exact rpart_3 n lo hi s q w hn0 hn1 l0 l1 g0 g1 h0 h1 h2 (Int.not_le.1 h3)
      · rw [show decide (n * lo ≤ s ∧ s ≤ n * hi ∧ 0 ≤ q ∧ q ≤ n * 4096 * 4096 ∧ s * s ≤ n * q) = false from decide_eq_false (fun a => h2 a.2.2.1)]
        exact rpart_2 n lo hi s q w hn0 hn1 l0 l1 g0 g1 h0 h1 (Int.not_le.1 h2)
    · rw [show decide (n * lo ≤ s ∧ s ≤ n * hi ∧ 0 ≤ q ∧ q ≤ n * 4096 * 4096 ∧ s * s ≤ n * q) = false from decide_eq_false (fun a => h1 a.2.1)]
      exact rpart_1 n lo hi s q w hn0 hn1 l0 l1 g0 g1 h0 (Int.not_le.1 h1)
  · rw [show decide (n * lo ≤ s ∧ s ≤ n * hi ∧ 0 ≤ q ∧ q ≤ n * 4096 * 4096 ∧ s * s ≤ n * q) = false from decide_eq_false (fun a => h0 a.1)]
    exact rpart_0 n lo hi s q w hn0 hn1 l0 l1 g0 g1  (Int.not_le.1 h0)
theorem rpartP (n lo hi s q : Int) (w : World) (hn0 : 0 ≤ n) (hn1 : n ≤ 65536) (l0 : -4096 ≤ lo) (l1 : lo ≤ 4096) (g0 : -4096 ≤ hi) (g1 : hi ≤ 4096) : Calls Try.prog 102 #[.int .i64 n, .int .i64 s, .int .i64 q, .int .i64 lo, .int .i64 hi] w fun e w' => e = .returned (.bool (decide (partP n lo hi s q))) ∧ w' = w := by
  have e : decide (partP n lo hi s q) = decide (n * lo ≤ s ∧ s ≤ n * hi ∧ 0 ≤ q ∧ q ≤ n * 4096 * 4096 ∧ s * s ≤ n * q) := by
    by_cases h : partP n lo hi s q
    · exact (decide_eq_true h).trans (decide_eq_true (p := n * lo ≤ s ∧ s ≤ n * hi ∧ 0 ≤ q ∧ q ≤ n * 4096 * 4096 ∧ s * s ≤ n * q) h).symm
    · exact (decide_eq_false h).trans (decide_eq_false (p := n * lo ≤ s ∧ s ≤ n * hi ∧ 0 ≤ q ∧ q ≤ n * 4096 * 4096 ∧ s * s ≤ n * q) h).symm
  rw [e]
  exact rpart n lo hi s q w hn0 hn1 l0 l1 g0 g1
theorem ptick_0 (now : Int) (w : World)   (h : now < 0) : Calls Try.prog 99 #[.int .i64 now] w fun e w' => e = .returned (.bool false) ∧ w' = w := by
  go_enter Try.func99, Try.ntmps99
  go_wp2_with fail
  go_ret
  exact ⟨by first | rfl | exact ret_bool (by simp; omega), rfl⟩
theorem ptick_1 (now : Int) (w : World)  (h0 : 0 ≤ now) (h : 16777216 < now) : Calls Try.prog 99 #[.int .i64 now] w fun e w' => e = .returned (.bool false) ∧ w' = w := by
  go_enter Try.func99, Try.ntmps99
  go_wp2_with fail
  go_ret
  exact ⟨by first | rfl | exact ret_bool (by simp; omega), rfl⟩
theorem ptick_2 (now : Int) (w : World)  (h0 : 0 ≤ now) (h1 : now ≤ 16777216) : Calls Try.prog 99 #[.int .i64 now] w fun e w' => e = .returned (.bool true) ∧ w' = w := by
  go_enter Try.func99, Try.ntmps99
  go_wp2_with fail
  go_ret
  exact ⟨by first | rfl | exact ret_bool (by simp; omega), rfl⟩
theorem ptick (now : Int) (w : World)  : Calls Try.prog 99 #[.int .i64 now] w fun e w' => e = .returned (.bool (decide (0 ≤ now ∧ now ≤ 16777216))) ∧ w' = w := by
  by_cases h0 : 0 ≤ now
  · skip
    by_cases h1 : now ≤ 16777216
    · skip
      rw [show decide (0 ≤ now ∧ now ≤ 16777216) = true from decide_eq_true ⟨h0, h1⟩]
      exact ptick_2 now w  h0 h1
    · rw [show decide (0 ≤ now ∧ now ≤ 16777216) = false from decide_eq_false (fun a => h1 a.2)]
      exact ptick_1 now w  h0 (Int.not_le.1 h1)
  · rw [show decide (0 ≤ now ∧ now ≤ 16777216) = false from decide_eq_false (fun a => h0 a.1)]
    exact ptick_0 now w   (Int.not_le.1 h0)
theorem pfirst_yes (now wd : Int) (w : World) (n0 : 0 ≤ now) (n1 : now ≤ 16777216) (d0 : 1 ≤ wd) (d1 : wd ≤ 1048576) (h : 0 ≤ now - wd + 1) : Calls Try.prog 103 #[.int .i64 now, .int .i64 wd] w fun e w' => e = .returned (.int .i64 (now - wd + 1)) ∧ w' = w := by
  have PT := Lib.hid (fun w => ptick_2 now w n0 n1)
  have w1 : IntKind.i64.wrap (now - wd) = now - wd := IntWalk.i64_in _ (by omega)
  have w2 : IntKind.i64.wrap (now - wd + 1) = now - wd + 1 := IntWalk.i64_in _ (by omega)
  go_enter Try.func103, Try.ntmps103
  go_wp2_with (go_at_call 99; with_reducible refine (PT.out _).mono ?_; rintro e w9 ⟨rfl, h9⟩; obtain rfl := h9.symm)
  go_ret
  exact ⟨by first | rfl | exact ret_i64 (by omega), rfl⟩
theorem pfirst_no (now wd : Int) (w : World) (n0 : 0 ≤ now) (n1 : now ≤ 16777216) (d0 : 1 ≤ wd) (d1 : wd ≤ 1048576) (h : now - wd + 1 < 0) : Calls Try.prog 103 #[.int .i64 now, .int .i64 wd] w fun e w' => e = .returned (.int .i64 0) ∧ w' = w := by
  have PT := Lib.hid (fun w => ptick_2 now w n0 n1)
  have w1 : IntKind.i64.wrap (now - wd) = now - wd := IntWalk.i64_in _ (by omega)
  have w2 : IntKind.i64.wrap (now - wd + 1) = now - wd + 1 := IntWalk.i64_in _ (by omega)
  go_enter Try.func103, Try.ntmps103
  go_wp2_with (go_at_call 99; with_reducible refine (PT.out _).mono ?_; rintro e w9 ⟨rfl, h9⟩; obtain rfl := h9.symm)
  go_ret
  exact ⟨by first | rfl | exact ret_i64 (by omega), rfl⟩
theorem plive_yes_true (now wd t : Int) (w : World) (n0 : 0 ≤ now) (n1 : now ≤ 16777216) (d0 : 1 ≤ wd) (d1 : wd ≤ 1048576) (t0 : 0 ≤ t) (t1 : t ≤ now) (h : 0 ≤ now - wd + 1) (hl : now - wd < t) : Calls Try.prog 77 #[.int .i64 now, .int .i64 wd, .int .i64 t] w fun e w' => e = .returned (.bool true) ∧ w' = w := by
  have PT := Lib.hid (fun w => ptick_2 t w t0 (by omega))
  have PF := Lib.hid (fun w => pfirst_yes now wd w n0 n1 d0 d1 h)
  go_enter Try.func77, Try.ntmps77
  go_wp2_with (first | (go_at_call 99; with_reducible refine (PT.out _).mono ?_; rintro e w9 ⟨rfl, h9⟩; obtain rfl := h9.symm) | (go_at_call 103; with_reducible refine (PF.out _).mono ?_; rintro e w9 ⟨rfl, h9⟩; obtain rfl := h9.symm))
  go_ret
  exact ⟨by first | rfl | exact ret_bool (by simp; omega), rfl⟩
theorem plive_yes_false (now wd t : Int) (w : World) (n0 : 0 ≤ now) (n1 : now ≤ 16777216) (d0 : 1 ≤ wd) (d1 : wd ≤ 1048576) (t0 : 0 ≤ t) (t1 : t ≤ now) (h : 0 ≤ now - wd + 1) (hl : ¬ now - wd < t) : Calls Try.prog 77 #[.int .i64 now, .int .i64 wd, .int .i64 t] w fun e w' => e = .returned (.bool false) ∧ w' = w := by
  have PT := Lib.hid (fun w => ptick_2 t w t0 (by omega))
  have PF := Lib.hid (fun w => pfirst_yes now wd w n0 n1 d0 d1 h)
  go_enter Try.func77, Try.ntmps77
  go_wp2_with (first | (go_at_call 99; with_reducible refine (PT.out _).mono ?_; rintro e w9 ⟨rfl, h9⟩; obtain rfl := h9.symm) | (go_at_call 103; with_reducible refine (PF.out _).mono ?_; rintro e w9 ⟨rfl, h9⟩; obtain rfl := h9.symm))
  go_ret
  exact ⟨by first | rfl | exact ret_bool (by simp; omega), rfl⟩
theorem plive_no_true (now wd t : Int) (w : World) (n0 : 0 ≤ now) (n1 : now ≤ 16777216) (d0 : 1 ≤ wd) (d1 : wd ≤ 1048576) (t0 : 0 ≤ t) (t1 : t ≤ now) (h : now - wd + 1 < 0) (hl : now - wd < t) : Calls Try.prog 77 #[.int .i64 now, .int .i64 wd, .int .i64 t] w fun e w' => e = .returned (.bool true) ∧ w' = w := by
  have PT := Lib.hid (fun w => ptick_2 t w t0 (by omega))
  have PF := Lib.hid (fun w => pfirst_no now wd w n0 n1 d0 d1 h)
  go_enter Try.func77, Try.ntmps77
  go_wp2_with (first | (go_at_call 99; with_reducible refine (PT.out _).mono ?_; rintro e w9 ⟨rfl, h9⟩; obtain rfl := h9.symm) | (go_at_call 103; with_reducible refine (PF.out _).mono ?_; rintro e w9 ⟨rfl, h9⟩; obtain rfl := h9.symm))
  go_ret
  exact ⟨by first | rfl | exact ret_bool (by simp; omega), rfl⟩
theorem plive (now wd t : Int) (w : World) (n0 : 0 ≤ now) (n1 : now ≤ 16777216) (d0 : 1 ≤ wd) (d1 : wd ≤ 1048576) (t0 : 0 ≤ t) (t1 : t ≤ now) : Calls Try.prog 77 #[.int .i64 now, .int .i64 wd, .int .i64 t] w fun e w' => e = .returned (.bool (decide (now - wd < t))) ∧ w' = w := by
  by_cases h : 0 ≤ now - wd + 1
  · by_cases hl : now - wd < t
    · rw [decide_eq_true hl]
      exact plive_yes_true now wd t w n0 n1 d0 d1 t0 t1 h hl
    · rw [decide_eq_false hl]
      exact plive_yes_false now wd t w n0 n1 d0 d1 t0 t1 h hl
  · rw [decide_eq_true (by omega)]
    exact plive_no_true now wd t w n0 n1 d0 d1 t0 t1 (by omega) (by omega)
theorem rlive_true (now wd t : Int) (w : World) (n0 : 0 ≤ now) (n1 : now ≤ 16777216) (d0 : 1 ≤ wd) (d1 : wd ≤ 1048576) (t0 : 0 ≤ t) (t1 : t ≤ now) (hl : now - wd < t) : Calls Try.prog 79 #[.int .i64 now, .int .i64 wd, .int .i64 t] w fun e w' => e = .returned (.bool true) ∧ w' = w := by
  have P1 := Lib.hid (fun w => rtick_2 now w n0 n1)
  have P2 := Lib.hid (fun w => rtick_2 t w t0 (by omega))
  have P3 := Lib.hid (fun w => rwindow_2 wd w d0 d1)
  have w1 : IntKind.i64.wrap (now - wd) = now - wd := IntWalk.i64_in _ (by omega)
  go_enter Try.func79, Try.ntmps79
  go_wp2_with (first | (go_at_call 83; with_reducible refine (P1.out _).mono ?_; rintro e w9 ⟨rfl, h9⟩; obtain rfl := h9.symm) | (go_at_call 83; with_reducible refine (P2.out _).mono ?_; rintro e w9 ⟨rfl, h9⟩; obtain rfl := h9.symm) | (go_at_call 82; with_reducible refine (P3.out _).mono ?_; rintro e w9 ⟨rfl, h9⟩; obtain rfl := h9.symm))
  go_ret
  exact ⟨by first | rfl | exact ret_bool (by simp; omega), rfl⟩
theorem rlive_false (now wd t : Int) (w : World) (n0 : 0 ≤ now) (n1 : now ≤ 16777216) (d0 : 1 ≤ wd) (d1 : wd ≤ 1048576) (t0 : 0 ≤ t) (t1 : t ≤ now) (hl : ¬ now - wd < t) : Calls Try.prog 79 #[.int .i64 now, .int .i64 wd, .int .i64 t] w fun e w' => e = .returned (.bool false) ∧ w' = w := by
  have P1 := Lib.hid (fun w => rtick_2 now w n0 n1)
  have P2 := Lib.hid (fun w => rtick_2 t w t0 (by omega))
  have P3 := Lib.hid (fun w => rwindow_2 wd w d0 d1)
  have w1 : IntKind.i64.wrap (now - wd) = now - wd := IntWalk.i64_in _ (by omega)
  go_enter Try.func79, Try.ntmps79
  go_wp2_with (first | (go_at_call 83; with_reducible refine (P1.out _).mono ?_; rintro e w9 ⟨rfl, h9⟩; obtain rfl := h9.symm) | (go_at_call 83; with_reducible refine (P2.out _).mono ?_; rintro e w9 ⟨rfl, h9⟩; obtain rfl := h9.symm) | (go_at_call 82; with_reducible refine (P3.out _).mono ?_; rintro e w9 ⟨rfl, h9⟩; obtain rfl := h9.symm))
  go_ret
  exact ⟨by first | rfl | exact ret_bool (by simp; omega), rfl⟩
theorem rlive (now wd t : Int) (w : World) (n0 : 0 ≤ now) (n1 : now ≤ 16777216) (d0 : 1 ≤ wd) (d1 : wd ≤ 1048576) (t0 : 0 ≤ t) (t1 : t ≤ now) : Calls Try.prog 79 #[.int .i64 now, .int .i64 wd, .int .i64 t] w fun e w' => e = .returned (.bool (decide (now - wd < t))) ∧ w' = w := by
  by_cases hl : now - wd < t
  · rw [decide_eq_true hl]
    exact rlive_true now wd t w n0 n1 d0 d1 t0 t1 hl
  · rw [decide_eq_false hl]
    exact rlive_false now wd t w n0 n1 d0 d1 t0 t1 hl
end Go.Proofs.Ytaiepjcnncajcaa
