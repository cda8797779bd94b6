/- What the law SpreadLater needs, joined of its texts by a program (slim.py); part 1. -/
import Derived.Test.YtaiepjcnncajcaaProg
import Derived.WalkKit
import Derived.Lib.BitFns
import Derived.OneCell
import Derived.Below
import Derived.ChangeSame
import Derived.WideKeyArgs
import Derived.OpenShut
import Derived.Laws.OwnMore
import Derived.Deep.AppendLies
import Derived.Deep.Draws
import Derived.ChangeSlices
import Derived.Maps.AppendAt
import Derived.RegionTactic
import Derived.OwnWalk
import Derived.Laws.CopyOwn
import Derived.Lib.SliceRun
import Derived.StillTail
import Derived.OrdersHeld
import Derived.WalkSpells
import Derived.Lib.Hide
import Derived.Deep.Cut
import Derived.IntWalk
import Derived.Shelf.Spec.BitsCarry
import Derived.Test.YtaiepjcnncajcaaShelf
import Derived.Deep.RegionHeld3
import Derived.WalkSmall
import Derived.Laws.Bits64b
import Derived.ChangeAlike
import Derived.Outline
import Derived.Deep.LoopGhost
import Derived.Deep.DeepCutAuto
import Derived.Deep.QuietTactic
import Derived.BigQuiet
import Derived.Deep.CutBlock
import Derived.Laws.BitsLemmas
import Derived.ChangeKeysEq
import Derived.Deep.Slices
import Derived.Deep.Fields
import Derived.Test.YtaiepjcnncajcaaRows
import Derived.ProofKit
import Derived.Lib.SmallJoins
import Derived.SizedLaws
import Derived.Carry
section
/- What a suffix that is close to a longer one keeps, whatever follows; plain. -/
set_option linter.unusedVariables false
set_option linter.unusedSimpArgs false
set_option linter.unusedSectionVars false
set_option linter.unnecessarySimpa false
namespace Go.Proofs.Ytaiepjcnncajcaa
theorem sqn (x : Int) : 0 ≤ x * x := by
  rcases Int.le_total 0 x with h | h
  · exact Int.mul_nonneg h h
  · have := Int.mul_nonneg (show 0 ≤ -x by omega) (show 0 ≤ -x by omega); rwa [Int.neg_mul_neg] at this
/-- X and Y of the hypothesis; what follows from close marks. -/
theorem close_H2 {k o b TO TB TA P : Int} (ho : 0 ≤ o) (e1 : o * b * TA = (o + b) * (b * TO + o * TB) + P * P) (h2 : (6 * k - 1) * TA * b ≤ 6 * k * TB * (o + b)) :
    (6 * k - 1) * ((o + b) * b * TO + P * P) ≤ TB * (o + b) * o := by
  have h := Int.mul_le_mul_of_nonneg_left h2 ho
  have e : o * ((6 * k - 1) * TA * b) = (6 * k - 1) * ((o + b) * (b * TO + o * TB) + P * P) := by rw [← e1]; grind
  rw [e] at h
  grind
/-- The case of no later items. -/
theorem later_none {k o b TO TB P : Int} (hk : 1 ≤ k) (X0 : 0 ≤ (o + b) * b * TO) (H2 : (6 * k - 1) * ((o + b) * b * TO + P * P) ≤ TB * (o + b) * o) :
    k * ((o + b) * b * TO + P * P) ≤ TB * (o + b) * o := by
  have hy := sqn P
  have := Int.mul_le_mul_of_nonneg_right (show k ≤ 6 * k - 1 by omega) (show 0 ≤ (o + b) * b * TO + P * P by omega)
  omega
theorem later_i {k o b g TO TB P : Int} (hk : 1 ≤ k) (ho : 0 ≤ o) (hb : 1 ≤ b) (hg : b ≤ g) (T0 : 0 ≤ TO) (H1 : (6 * k - 1) * o ≤ b) (H2 : (6 * k - 1) * ((o + b) * b * TO + P * P) ≤ TB * (o + b) * o) :
    k * (o + g) * b * b * TO + 2 * k * g * (P * P) ≤ TB * (o + g) * o * b := by
  have hy := sqn P
  have X0 : 0 ≤ (o + b) * b * TO := Int.mul_nonneg (Int.mul_nonneg (by omega) (by omega)) T0
  -- multiply by (o + b)
  refine Int.le_of_mul_le_mul_left (a := o + b) ?_ (by omega)
  have a1 : k * ((o + g) * b * ((o + b) * b * TO)) ≤ (6 * k - 1) * ((o + g) * b * ((o + b) * b * TO)) :=
    Int.mul_le_mul_of_nonneg_right (by omega) (Int.mul_nonneg (Int.mul_nonneg (by omega) (by omega)) X0)
  have b1 : 2 * k * (o + b) ≤ (6 * k - 1) * b := by
    have c1 : 2 * k * o ≤ (6 * k - 1) * o := Int.mul_le_mul_of_nonneg_right (by omega) ho
    have c2 : (2 * k + 1) * b ≤ (6 * k - 1) * b := Int.mul_le_mul_of_nonneg_right (by omega) (by omega)
    have c3 : 2 * k * (o + b) = 2 * k * o + 2 * k * b := by grind
    have c4 : (2 * k + 1) * b = 2 * k * b + b := by grind
    omega
  have b2 : g * (2 * k * (o + b)) ≤ (o + g) * ((6 * k - 1) * b) := Int.mul_le_mul (by omega) b1 (Int.mul_nonneg (by omega) (by omega)) (by omega)
  have a2 := Int.mul_le_mul_of_nonneg_right b2 hy
  have a3 := Int.mul_le_mul_of_nonneg_left H2 (show 0 ≤ (o + g) * b from Int.mul_nonneg (by omega) (by omega))
  grind
theorem later_ii {k o b c : Int} (hk : 1 ≤ k) (ho : 0 ≤ o) (hb : 1 ≤ b) (hc : 0 ≤ c) (H1 : (6 * k - 1) * o ≤ b) (R : Int) :
    2 * k * c * (o * o) * (R * R) ≤ (R * R) * (o + (b + c)) * o * b := by
  have hr := sqn R
  have h1 : 2 * k * o ≤ b := by
    have := Int.mul_le_mul_of_nonneg_right (show 2 * k ≤ 6 * k - 1 by omega) ho
    omega
  have h2 : c * (2 * k * o) ≤ (o + (b + c)) * b := Int.mul_le_mul (by omega) h1 (Int.mul_nonneg (by omega) ho) (by omega)
  have h3 := Int.mul_le_mul_of_nonneg_left h2 (show 0 ≤ o * (R * R) from Int.mul_nonneg ho hr)
  grind
theorem two_sq (x y : Int) : (x + y) * (x + y) ≤ 2 * (x * x) + 2 * (y * y) := by
  have := sqn (x - y)
  grind
theorem later_some {k o b c TO TB TC TG P PG R : Int} (hk : 1 ≤ k) (ho : 0 ≤ o) (hb : 1 ≤ b) (hc : 1 ≤ c) (T0 : 0 ≤ TO) (TC0 : 0 ≤ TC)
    (e3 : b * PG = (b + c) * P + o * R) (e4 : b * c * TG = (b + c) * (c * TB + b * TC) + R * R)
    (H1 : (6 * k - 1) * o ≤ b) (H2 : (6 * k - 1) * ((o + b) * b * TO + P * P) ≤ TB * (o + b) * o) :
    k * ((o + (b + c)) * (b + c) * TO + PG * PG) ≤ TG * (o + (b + c)) * o := by
  have hi := later_i (g := b + c) hk ho hb (by omega) T0 H1 H2
  have hii := later_ii hk ho hb (show 0 ≤ c by omega) H1 R
  refine Int.le_of_mul_le_mul_left (a := b * b * c) ?_ (Int.mul_pos (Int.mul_pos (by omega) (by omega)) (by omega))
  have s1 : b * b * (PG * PG) ≤ 2 * ((b + c) * (b + c) * (P * P)) + 2 * (o * o * (R * R)) := by
    have := two_sq ((b + c) * P) (o * R)
    rw [← e3] at this
    grind
  have s2 := Int.mul_le_mul_of_nonneg_left s1 (show 0 ≤ k * c from Int.mul_nonneg (by omega) (by omega))
  have s3 := Int.mul_le_mul_of_nonneg_left hi (show 0 ≤ c * (b + c) from Int.mul_nonneg (by omega) (by omega))
  have s4 : (b * c * TG) * ((o + (b + c)) * o * b) = ((b + c) * (c * TB + b * TC) + R * R) * ((o + (b + c)) * o * b) := by rw [e4]
  have s5 : 0 ≤ (b + c) * (b * TC) * ((o + (b + c)) * o * b) := Int.mul_nonneg (Int.mul_nonneg (by omega) (Int.mul_nonneg (by omega) TC0)) (Int.mul_nonneg (Int.mul_nonneg (by omega) ho) (by omega))
  grind
/-- The spread of a mark times its number. -/
def tpI (n s q : Int) : Int := n * q - s * s
theorem tpI_add {a b sa sb qa qb : Int} : a * b * tpI (a + b) (sa + sb) (qa + qb) = (a + b) * (b * tpI a sa qa + a * tpI b sb qb) + (sa * b - sb * a) * (sa * b - sb * a) := by unfold tpI; grind
/-- If a suffix is close to the longer one, then what follows keeps it near. -/
theorem close_later {k o b c sO qO sB qB sC qC : Int} (hk : 1 ≤ k) (ho : 0 ≤ o) (hb : 1 ≤ b) (hc : 0 ≤ c) (tO : 0 ≤ tpI o sO qO) (zO : o = 0 → sO = 0 ∧ qO = 0) (tB : 0 ≤ tpI b sB qB) (tC : 0 ≤ tpI c sC qC) (zC : c = 0 → sC = 0 ∧ qC = 0)
    (h1 : (6 * k - 1) * (o + b) ≤ 6 * k * b) (h2 : (6 * k - 1) * tpI (o + b) (sO + sB) (qO + qB) * b ≤ 6 * k * tpI b sB qB * (o + b)) :
    k * (tpI (o + (b + c)) (sO + (sB + sC)) (qO + (qB + qC)) * (b + c)) ≤ (k + 1) * (tpI (b + c) (sB + sC) (qB + qC) * (o + (b + c))) := by
  have tG : 0 ≤ tpI (b + c) (sB + sC) (qB + qC) := by
    by_cases c0 : c = 0
    · obtain ⟨rfl, rfl⟩ := zC c0
      subst c0
      simpa using tB
    · refine Int.le_of_mul_le_mul_left (a := b * c) ?_ (Int.mul_pos (by omega) (by omega))
      rw [tpI_add, Int.mul_zero]
      have := sqn (sB * c - sC * b)
      have := Int.mul_nonneg (show 0 ≤ b + c by omega) (Int.add_nonneg (Int.mul_nonneg (show 0 ≤ c by omega) tB) (Int.mul_nonneg (show 0 ≤ b by omega) tC))
      omega
  by_cases o0 : o = 0
  · obtain ⟨rfl, rfl⟩ := zO o0
    subst o0
    simp only [Int.zero_add]
    have := Int.mul_nonneg tG (show 0 ≤ b + c by omega)
    grind
  · have e1 := tpI_add (a := o) (b := b) (sa := sO) (sb := sB) (qa := qO) (qb := qB)
    have e2 := tpI_add (a := o) (b := b + c) (sa := sO) (sb := sB + sC) (qa := qO) (qb := qB + qC)
    have e3 : b * (sO * (b + c) - (sB + sC) * o) = (b + c) * (sO * b - sB * o) + o * (sB * c - sC * b) := by grind
    have e4 := tpI_add (a := b) (b := c) (sa := sB) (sb := sC) (qa := qB) (qb := qC)
    have H1 : (6 * k - 1) * o ≤ b := by grind
    have H2 := close_H2 ho e1 h2
    have key : k * ((o + (b + c)) * (b + c) * tpI o sO qO + (sO * (b + c) - (sB + sC) * o) * (sO * (b + c) - (sB + sC) * o)) ≤ tpI (b + c) (sB + sC) (qB + qC) * (o + (b + c)) * o := by
      by_cases c0 : c = 0
      · obtain ⟨rfl, rfl⟩ := zC c0
        subst c0
        simp only [Int.add_zero]
        exact later_none hk (Int.mul_nonneg (Int.mul_nonneg (by omega) (by omega)) tO) H2
      · exact later_some hk ho hb (by omega) tO tC e3 e4 H1 H2
    refine Int.le_of_mul_le_mul_left (a := o) ?_ (by omega)
    generalize tpI (o + (b + c)) (sO + (sB + sC)) (qO + (qB + qC)) = TAC at e2 ⊢
    generalize tpI (b + c) (sB + sC) (qB + qC) = TG at e2 key ⊢
    generalize tpI o sO qO = TO at e2 key
    generalize sO * (b + c) - (sB + sC) * o = PG at e2 key
    clear e1 e3 e4 h1 h2 H1 H2 tO zO tB tC zC tG
    have e2k : k * (o * (b + c) * TAC) = k * ((o + (b + c)) * ((b + c) * TO + o * TG) + PG * PG) := by rw [e2]
    clear e2
    grind
/-- The spread does not fall by items ahead. -/
theorem spread_mono {o g sO qO sG qG : Int} (ho : 0 ≤ o) (hg : 0 ≤ g) (tO : 0 ≤ tpI o sO qO) (zO : o = 0 → sO = 0 ∧ qO = 0) :
    tpI g sG qG * (o + g) ≤ tpI (o + g) (sO + sG) (qO + qG) * g := by
  by_cases o0 : o = 0
  · obtain ⟨rfl, rfl⟩ := zO o0
    subst o0
    simp only [Int.zero_add]
    exact Int.le_refl _
  · have e2 := tpI_add (a := o) (b := g) (sa := sO) (sb := sG) (qa := qO) (qb := qG)
    refine Int.le_of_mul_le_mul_left (a := o) ?_ (by omega)
    have h := sqn (sO * g - sG * o)
    have h2 := Int.mul_nonneg (Int.mul_nonneg (show 0 ≤ o + g by omega) hg) tO
    generalize tpI (o + g) (sO + sG) (qO + qG) = TA at e2 ⊢
    generalize tpI g sG qG = TG at e2 ⊢
    generalize tpI o sO qO = TO at e2 h2
    grind
end Go.Proofs.Ytaiepjcnncajcaa
end
section
/- Plain arithmetic of numbers of 128 bits kept in two words: no program is in sight. -/
set_option linter.unusedVariables false
set_option linter.unusedSimpArgs false
set_option linter.unusedSectionVars false
set_option linter.unnecessarySimpa false
namespace Go.Proofs.Ytaiepjcnncajcaa
open Go.RowKit

/-- Two to the 128th power. -/
def big : Nat := 340282366920938463463374607431768211456
/-- The high word. -/
def hi (n : Nat) : Int := ((n / 18446744073709551616 : Nat) : Int)
/-- The low word. -/
def lo (n : Nat) : Int := ((n % 18446744073709551616 : Nat) : Int)
/-- The value of a wide number. -/
abbrev W (n : Nat) : Value := .agg #[.int .u64 (hi n), .int .u64 (lo n)]
/-- A word. -/
def Word (x : Int) : Prop := 0 ≤ x ∧ x < 18446744073709551616

theorem hi_word {n : Nat} (h : n < big) : Word (hi n) := by unfold Word hi big at *; omega
theorem lo_word (n : Nat) : Word (lo n) := by unfold Word lo; omega
theorem hi_inj {a b : Nat} (h : hi a = hi b) (k : lo a = lo b) : a = b := by unfold hi lo at *; omega

theorem add_lo (a b : Nat) : (lo a + lo b) % 18446744073709551616 = lo (a + b) := by unfold lo; omega
theorem add_hi {a b : Nat} (h : a + b < big) : (hi a + hi b + (lo a + lo b) / 18446744073709551616) % 18446744073709551616 = hi (a + b) := by unfold hi lo big at *; omega
theorem add_over {a b : Nat} (h : a + b < big) : (hi a + hi b + (lo a + lo b) / 18446744073709551616) / 18446744073709551616 = 0 := by unfold hi lo big at *; omega
theorem add_over1 {a b : Nat} (ha : a < big) (hb : b < big) (h : ¬ a + b < big) : (hi a + hi b + (lo a + lo b) / 18446744073709551616) / 18446744073709551616 = 1 := by unfold hi lo big at *; omega

/-- The borrow. -/
def bor (x y : Int) : Int := if x < y then 1 else 0
theorem bor_0 (x y : Int) : 0 ≤ bor x y := by unfold bor; split <;> omega
theorem bor_1 (x y : Int) : bor x y ≤ 1 := by unfold bor; split <;> omega
theorem sub_lo {a b : Nat} (h : b ≤ a) : (lo a - lo b) % 18446744073709551616 = lo (a - b) := by unfold lo; omega
theorem sub_hi {a b : Nat} (ha : a < big) (h : b ≤ a) : (hi a - hi b - bor (lo a) (lo b)) % 18446744073709551616 = hi (a - b) := by unfold hi lo bor big at *; split <;> omega
theorem sub_under {a b : Nat} (h : b ≤ a) : bor (hi a) (hi b + bor (lo a) (lo b)) = 0 := by unfold hi lo bor at *; split <;> split at * <;> omega
/-- The order of two numbers. -/
def cmp (a b : Nat) : Int := if a < b then -1 else if a = b then 0 else 1
theorem cmp_lt {a b : Nat} (h : a < b) : cmp a b = -1 := by simp [cmp, h]
theorem cmp_eq (a : Nat) : cmp a a = 0 := by simp [cmp]
theorem cmp_gt {a b : Nat} (h : b < a) : cmp a b = 1 := by unfold cmp; rw [if_neg (by omega), if_neg (by omega)]
theorem lt_words {a b : Nat} (h : a < b) : hi a < hi b ∨ hi a = hi b ∧ lo a < lo b := by unfold hi lo; omega

theorem hi_small {n : Nat} (h : n < 18446744073709551616) : hi n = 0 := by unfold hi; omega
theorem lo_small {n : Nat} (h : n < 18446744073709551616) : lo n = n := by unfold lo; omega
theorem lo_toNat (n : Nat) : (lo n).toNat = n % 18446744073709551616 := by unfold lo; omega
theorem hi_toNat (n : Nat) : (hi n).toNat = n / 18446744073709551616 := by unfold hi; omega
theorem mul_big {x y : Nat} (hx : x < 18446744073709551616) (hy : y < 18446744073709551616) : x * y < big := by
  have := Nat.mul_le_mul (show x ≤ 18446744073709551615 by omega) (show y ≤ 18446744073709551615 by omega)
  unfold big; omega

theorem bcell {W w1 : World} (hb : Below W.heap.size W w1) : (∀ b o, b < W.heap.size → w1.cell? ⟨b, o, none⟩ = W.cell? ⟨b, o, none⟩) ∧ (∀ b o, b < W.heap.size → w1.frozen? ⟨b, o, none⟩ = W.frozen? ⟨b, o, none⟩) :=
  ⟨fun b o h => hb.cell (p := ⟨b, o, none⟩) h, fun b o h => hb.frozen (p := ⟨b, o, none⟩) h⟩

theorem wrap_word {x : Int} (h : Word x) : IntKind.u64.wrap x = x := by
  obtain ⟨a, b⟩ := h
  rw [IntKind.wrap_u64]
  omega
theorem cmp_nonneg {a b : Nat} (h : b ≤ a) : 0 ≤ cmp a b := by
  unfold cmp
  rw [if_neg (by omega)]
  split <;> omega
end Go.Proofs.Ytaiepjcnncajcaa
end
section
/- Spreads of marks: which marks have one; plain. -/
set_option linter.unusedVariables false
set_option linter.unusedSimpArgs false
set_option linter.unusedSectionVars false
set_option linter.unnecessarySimpa false
namespace Go.Proofs.Ytaiepjcnncajcaa
def rightP (n s q : Int) : Prop := 1 ≤ n ∧ n ≤ 65536 ∧ -n * 4096 ≤ s ∧ s ≤ n * 4096 ∧ 0 ≤ q ∧ q ≤ n * 4096 * 4096 ∧ s * s ≤ n * q
instance (n s q : Int) : Decidable (rightP n s q) := by unfold rightP; infer_instance
theorem sq_bound {s B : Int} (h0 : -B ≤ s) (h1 : s ≤ B) : 0 ≤ s * s ∧ s * s ≤ B * B := by
  have hB : 0 ≤ B := by omega
  constructor
  · rcases Int.le_total 0 s with h | h
    · exact Int.mul_nonneg h h
    · exact Int.mul_nonneg_of_nonpos_of_nonpos h h
  · rcases Int.le_total 0 s with h | h
    · exact Int.mul_le_mul h1 h1 h hB
    · have : s * s = (-s) * (-s) := by rw [Int.neg_mul_neg]
      rw [this]
      exact Int.mul_le_mul (by omega) (by omega) (by omega) hB
theorem sq_small {n s : Int} (h0 : 1 ≤ n) (h1 : n ≤ 65536) (h2 : -n * 4096 ≤ s) (h3 : s ≤ n * 4096) : 0 ≤ s * s ∧ s * s ≤ 72057594037927936 := by
  have := sq_bound (s := s) (B := 268435456) (by omega) (by omega)
  exact this
theorem nq_small {n q : Int} (h0 : 1 ≤ n) (h1 : n ≤ 65536) (h2 : 0 ≤ q) (h3 : q ≤ n * 4096 * 4096) : 0 ≤ n * q ∧ n * q ≤ 72057594037927936 := by
  constructor
  · exact Int.mul_nonneg (by omega) h2
  · have : n * q ≤ 65536 * 1099511627776 := Int.mul_le_mul h1 (by omega) h2 (by decide)
    exact this
/-- The spread times the number. -/
def topN (n s q : Int) : Nat := (n * q - s * s).toNat
theorem right_top {n s q : Int} (h : rightP n s q) : 0 ≤ n * q - s * s ∧ n * q - s * s ≤ 72057594037927936 ∧ 0 ≤ s * s ∧ s * s ≤ 72057594037927936 ∧ 0 ≤ n * q ∧ n * q ≤ 72057594037927936 := by
  obtain ⟨h0, h1, h2, h3, h4, h5, h6⟩ := h
  have a := sq_small h0 h1 h2 h3
  have b := nq_small h0 h1 h4 h5
  omega
end Go.Proofs.Ytaiepjcnncajcaa
end
section
/- Marks of smooth histograms: which lists of marks are valid, a value more, marks that fall away; plain. -/
set_option linter.unusedVariables false
set_option linter.unusedSimpArgs false
set_option linter.unusedSectionVars false
set_option linter.unnecessarySimpa false
namespace Go.Proofs.Ytaiepjcnncajcaa
/-- A mark. -/
structure Mk where
  seq : Int
  t : Int
  n : Int
  s : Int
  q : Int
  lo : Int
  hi : Int
def Mk.zero : Mk := ⟨0, 0, 0, 0, 0, 0, 0⟩
def mkAt (l : List Mk) (i : Nat) : Mk := l.getD i Mk.zero
/-- The parts: n items with values from lo to hi may have the sum s and the sum of squares q. -/
def partP (n lo hi s q : Int) : Prop := n * lo ≤ s ∧ s ≤ n * hi ∧ 0 ≤ q ∧ q ≤ n * 4096 * 4096 ∧ s * s ≤ n * q
instance (n lo hi s q : Int) : Decidable (partP n lo hi s q) := by unfold partP; infer_instance
/-- The conditions on one mark. -/
def oneP (seq cap now w least : Int) (m : Mk) : Prop :=
  1 ≤ m.seq ∧ m.seq ≤ seq ∧ m.n = seq - m.seq + 1 ∧ m.n ≤ cap ∧ 0 ≤ m.t ∧ m.t ≤ now ∧ least ≤ m.lo ∧ m.hi ≤ 4096 ∧ m.lo ≤ m.hi ∧ partP m.n m.lo m.hi m.s m.q
instance (seq cap now w least : Int) (m : Mk) : Decidable (oneP seq cap now w least m) := by unfold oneP; infer_instance
/-- The conditions on a mark and the one behind it. -/
def twoP (o m : Mk) : Prop := o.seq < m.seq ∧ o.t ≤ m.t ∧ o.lo ≤ m.lo ∧ m.hi ≤ o.hi ∧ partP (o.n - m.n) o.lo o.hi (o.s - m.s) (o.q - m.q)
instance (o m : Mk) : Decidable (twoP o m) := by unfold twoP; infer_instance
def lastP (seq : Int) (m : Mk) : Prop := m.seq = seq ∧ m.lo = m.s ∧ m.hi = m.s ∧ m.q = m.s * m.s
instance (seq : Int) (m : Mk) : Decidable (lastP seq m) := by unfold lastP; infer_instance
/-- The conditions on the mark at a place. -/
def atP (l : List Mk) (seq cap now w least : Int) (i : Nat) : Prop :=
  oneP seq cap now w least (mkAt l i) ∧ ((0 < i ∨ l.length = 1) → now - w < (mkAt l i).t) ∧ (0 < i → twoP (mkAt l (i - 1)) (mkAt l i))
instance (l : List Mk) (seq cap now w least : Int) (i : Nat) : Decidable (atP l seq cap now w least i) := by unfold atP; infer_instance
/-- A valid list of marks. -/
def mvalid (l : List Mk) (seq cap now w least : Int) : Prop :=
  0 ≤ seq ∧ seq ≤ 1099511627776 ∧ (∀ i, i < l.length → atP l seq cap now w least i) ∧ (l.length ≠ 0 → lastP seq (mkAt l (l.length - 1)))
instance (l : List Mk) (seq cap now w least : Int) : Decidable (mvalid l seq cap now w least) := by unfold mvalid; infer_instance
/-- A value more in a mark. -/
def inc (v : Int) (m : Mk) : Mk := ⟨m.seq, m.t, m.n + 1, m.s + v, m.q + v * v, min m.lo v, max m.hi v⟩
def newMk (seq t v : Int) : Mk := ⟨seq, t, 1, v, v * v, v, v⟩
/-- A value more in all marks, and its own mark. -/
def incl (l : List Mk) (seq t v : Int) : List Mk := l.map (inc v) ++ [newMk seq t v]
/-- The place of the last one that fulfils a condition; 0 if none does. -/
def lastN (f : Mk → Bool) : List Mk → Nat
  | [] => 0
  | x :: xs => if xs.any f then lastN f xs + 1 else 0
/-- The marks between each mark and the last one behind it that is close to it fall away. -/
def prune (near : Mk → Mk → Bool) : List Mk → List Mk
  | [] => []
  | a :: r => a :: prune near (r.drop (lastN (near a) r))
termination_by l => l.length
decreasing_by simp; omega
/-- Marks fall away that a later tick makes superfluous. -/
def dropM (now w : Int) : List Mk → List Mk
  | [] => []
  | [a] => if now - w < a.t then [a] else []
  | a :: b :: r => if now - w < b.t then a :: b :: r else dropM now w (b :: r)
end Go.Proofs.Ytaiepjcnncajcaa
end
section
/- Valid lists of marks stay valid by a tick and by a value more; plain. -/
set_option linter.unusedVariables false
set_option linter.unusedSimpArgs false
set_option linter.unusedSectionVars false
set_option linter.unnecessarySimpa false
namespace Go.Proofs.Ytaiepjcnncajcaa
theorem vv_small {v : Int} (h0 : -4096 ≤ v) (h1 : v ≤ 4096) : 0 ≤ v * v ∧ v * v ≤ 16777216 := by
  have := sq_bound (s := v) (B := 4096) (by omega) (by omega)
  exact this
/-- Valid lists, said of lists. -/
structure VL (l : List Mk) (seq cap now w least : Int) : Prop where
  one : ∀ m ∈ l, oneP seq cap now w least m
  two : l.Pairwise twoP
  live : ∀ m ∈ l.tail, now - w < m.t
  alone : ∀ a, l = [a] → now - w < a.t
  last : l ≠ [] → lastP seq (mkAt l (l.length - 1))
end Go.Proofs.Ytaiepjcnncajcaa
end
section
/- Smooth histograms: the aggregate of a mark, which states are valid, and what becomes of them; plain. -/
set_option linter.unusedVariables false
set_option linter.unusedSimpArgs false
set_option linter.unusedSectionVars false
set_option linter.unnecessarySimpa false
namespace Go.Proofs.Ytaiepjcnncajcaa
/-- The aggregate of a mark. -/
def ofV (agg : Int) (m : Mk) : Int :=
  if agg = 1 then m.n else if agg = 2 then m.s else if agg = 3 then m.q else if agg = 4 then (if -9223372036854775808 ≤ m.hi - m.lo ∧ m.hi - m.lo ≤ 9223372036854775807 then m.hi - m.lo else 0) else 0
/-- One mark is close to another. -/
def nearP (agg k : Int) (a b : Mk) : Prop := k * ofV agg a ≤ (k + 1) * ofV agg b
instance (agg k : Int) (a b : Mk) : Decidable (nearP agg k a b) := by unfold nearP; infer_instance
def nearB (agg k : Int) (a b : Mk) : Bool := decide (nearP agg k a b)
/-- The least value. -/
def leastV (agg : Int) : Int := if agg = 2 ∨ agg = 3 then 0 else -4096
def smGood (agg wd k cap now : Int) : Prop := (1 ≤ agg ∧ agg ≤ 4) ∧ 1 ≤ wd ∧ wd ≤ 1048576 ∧ 1 ≤ k ∧ k ≤ 64 ∧ 1 ≤ cap ∧ cap ≤ 65536 ∧ 0 ≤ now ∧ now ≤ 16777216
instance (agg wd k cap now : Int) : Decidable (smGood agg wd k cap now) := by unfold smGood; infer_instance
/-- What a place asks of the marks ahead of it. -/
def smAt (agg k : Int) (l : List Mk) (i : Nat) : Prop :=
  (2 ≤ i → ¬ nearP agg k (mkAt l (i - 2)) (mkAt l i)) ∧ (1 ≤ i → 1 < (mkAt l i).seq - (mkAt l (i - 1)).seq → nearP agg k (mkAt l (i - 1)) (mkAt l i))
instance (agg k : Int) (l : List Mk) (i : Nat) : Decidable (smAt agg k l i) := by unfold smAt; infer_instance
def smValid (agg wd k cap now seq : Int) (l : List Mk) : Prop := smGood agg wd k cap now ∧ mvalid l seq cap now wd (leastV agg) ∧ ∀ i, i < l.length → smAt agg k l i
instance (agg wd k cap now seq : Int) (l : List Mk) : Decidable (smValid agg wd k cap now seq l) := by unfold smValid; infer_instance
def smvalE (agg wd k cap now seq : Int) (l : List Mk) : Int := if smValid agg wd k cap now seq l then 0 else 2
/-- What a call that answers a state leaves. -/
structure SmOut where
  agg : Int
  wd : Int
  k : Int
  cap : Int
  now : Int
  seq : Int
  ms : List Mk
  f : Int
def smZero (f : Int) : SmOut := ⟨0, 0, 0, 0, 0, 0, [], f⟩
def smNew (agg wd k cap now : Int) : SmOut := if smGood agg wd k cap now then ⟨agg, wd, k, cap, now, 0, [], 0⟩ else smZero 1
def smTick (agg wd k cap now seq : Int) (l : List Mk) (tt9 : Int) : SmOut :=
  if smvalE agg wd k cap now seq l = 0 then (if tt9 < now ∨ 16777216 < tt9 then smZero 3 else ⟨agg, wd, k, cap, tt9, seq, dropM tt9 wd l, 0⟩) else smZero 2
def smFull (cap seq : Int) (l : List Mk) : Prop := (l ≠ [] ∧ (mkAt l 0).n = cap) ∨ seq = 1099511627776
instance (cap seq : Int) (l : List Mk) : Decidable (smFull cap seq l) := by unfold smFull; infer_instance
def smAdd (agg wd k cap now seq : Int) (l : List Mk) (v : Int) : SmOut :=
  if smvalE agg wd k cap now seq l = 0 then (if v < leastV agg ∨ 4096 < v then smZero 4 else if smFull cap seq l then smZero 5 else ⟨agg, wd, k, cap, now, seq + 1, prune (nearB agg k) (incl l (seq + 1) now v), 0⟩) else smZero 2
/-- Neighbours with a gap between them are close. -/
def Gap (near : Mk → Mk → Prop) (l : List Mk) : Prop := ∀ i, i + 1 < l.length → 1 < (mkAt l (i + 1)).seq - (mkAt l i).seq → near (mkAt l i) (mkAt l (i + 1))
/-- A mark is not close to the next but one. -/
def Far (near : Mk → Mk → Prop) (l : List Mk) : Prop := ∀ i, i + 2 < l.length → ¬ near (mkAt l i) (mkAt l (i + 2))
end Go.Proofs.Ytaiepjcnncajcaa
end
section
/- Blocks of memory known whole: what a block holds behind a new block, a call, a store, a draw. -/
set_option linter.unusedVariables false
set_option linter.unusedSimpArgs false
set_option linter.unusedSectionVars false
set_option linter.unnecessarySimpa false
namespace Go.Proofs.Ytaiepjcnncajcaa
open Go.RowKit

/-- Block b holds the cells cs, none of them frozen. -/
def Row (w : World) (b : Nat) (t : TypeId) (cs : Array Value) : Prop := w.heap[b]? = some (.cells cs t (0, 0))
section
variable {w w' : World} {b : Nat} {t : TypeId} {cs : Array Value}
theorem row_cell (h : Row w b t cs) (i : Nat) : w.cell? ⟨b, i, none⟩ = cs[i]? := by
  unfold Row at h
  simp [World.cell?, h]
theorem row_free (h : Row w b t cs) (i : Nat) : w.frozen? ⟨b, i, none⟩ = false := by
  unfold Row at h
  simp [World.frozen?, h]
theorem row_lt (h : Row w b t cs) : b < w.heap.size := lt_of_block h
theorem row_new (hb : b = w.heap.size) : Row (w.alloc (.cells cs t)) b t cs := by
  subst hb
  unfold Row
  show (w.heap.push _)[w.heap.size]? = _
  simp
theorem row_alloc (h : Row w b t cs) (o : Obj) : Row (w.alloc o) b t cs := (Below.heap_alloc w o b (row_lt h)).trans h
theorem row_call (h : Row w b t cs) (hb : Below w.heap.size w w') : Row w' b t cs := (hb.block b (row_lt h)).trans h
theorem row_grown {r : Option Nat} (h : Row w b t cs) (hg : w.grownBy w' r) (hne : r ≠ some b) : Row w' b t cs := (hg.block b (row_lt h) (fun e => hne e.symm)).trans h
theorem row_drew (h : Row w b t cs) : Row w.drew b t cs := h
theorem row_other (h : Row w b t cs) {p : Addr} (hne : b ≠ p.block) (v : Value) : Row (w.setCell p v) b t cs := (Below.heap_setCell w p v b hne).trans h
theorem row_set (h : Row w b t cs) (i : Nat) (v : Value) : Row (w.setCell ⟨b, i, none⟩ v) b t (cs.setIfInBounds i v) := by
  have hlt := row_lt h
  unfold Row at *
  have h' : w.heap[b] = .cells cs t (0, 0) := by simpa [Array.getElem?_eq_getElem hlt] using h
  show (w.heap.modify b _)[b]? = _
  rw [Array.getElem?_eq_getElem (by simpa using hlt), Array.getElem_modify_self, h']
  rfl
theorem row_two {x y : Value} (h : Row w b t #[x, y]) : w.cell? ⟨b, 0, none⟩ = some x ∧ w.cell? ⟨b, 1, none⟩ = some y ∧ w.frozen? ⟨b, 0, none⟩ = false ∧ w.frozen? ⟨b, 1, none⟩ = false :=
  ⟨row_cell h 0, row_cell h 1, row_free h 0, row_free h 1⟩
theorem row_two_set {x y u v : Value} (h : Row w b t #[x, y]) : Row ((w.setCell ⟨b, 0, none⟩ u).setCell ⟨b, 1, none⟩ v) b t #[u, v] := row_set (row_set h 0 u) 1 v
theorem row_two_other {c : Nat} {u v : Value} (h : Row w b t cs) (hne : b ≠ c) : Row ((w.setCell ⟨c, 0, none⟩ u).setCell ⟨c, 1, none⟩ v) b t cs := row_other (row_other h hne u) hne v
end
end Go.Proofs.Ytaiepjcnncajcaa
end
section
/- The last step of a law's row where of the world behind the call only 'below the old heap all is as it was' is known (the lemma is the guide's, to be copied); what is kept while a function runs. -/
set_option linter.unusedVariables false
set_option linter.unusedSimpArgs false
set_option linter.unusedSectionVars false
set_option linter.unnecessarySimpa false
namespace Go.Proofs.Ytaiepjcnncajcaa
open Go.RowKit Go.WideShapes Go.ChangeShapes
section
variable {H : Type} {enc : TypeId × Value → H} {P : Program}
theorem post_of_below {f : Func} {s : ChangeSpec} {apart fresh handsOn again : Bool} {W W' : World} {args : Array Value} {v : Value} {ds gs : List (DataW H)} {before pa pv : List MemPlace}
    (hW : DataW.Whole enc P f.params.toList s.vars apart W args.toList ds gs before)
    (hres : ∀ (b : Nat) (sp : Nat → Bool) (hd : Bool), DataW.TrodAll enc P W' b sp hd f.resultTypes.toList (v.resultList f.resultTypes.size) (s.fn H (ds ++ gs)).results [])
    (hargs : ∀ sp : Nat → Bool, (∀ p ∈ before, sp p.block = true) → DataW.TrodAll enc P W' 0 sp true f.params.toList args.toList (s.fn H (ds ++ gs)).args pa)
    (hvars : ∀ sp : Nat → Bool, (∀ p ∈ before, sp p.block = true) → DataW.TrodVars enc P W' sp s.vars (s.fn H (ds ++ gs)).vars pv)
    (hps : before = pa ++ pv) (hb : Below W.heap.size W W')
    (hok : ∀ (j : Nat) (t : TypeId) (r : Value), f.resultTypes[j]? = some t → (v.resultList f.resultTypes.size)[j]? = some r → Value.okWide P W' .any 0 t r) :
    s.post enc P f apart fresh handsOn again W args v W' := by
  have hlt : ∀ p ∈ before, p.block < W.heap.size := fun p hp => hW.lt p hp
  have hold : ∀ p ∈ before, (fun b => decide (b < W.heap.size)) p.block = true := fun p hp => by simpa using hlt p hp
  refine ⟨ds, gs, before, [], pa, pv, hW, hres _ _ _, hargs _ hold, hvars _ hold, World.keptBut_mono (fun p hp => ⟨hp, ?_⟩) (hb.frame (· ∈ before)), fun _ => ?_⟩
  · rw [hps, List.mem_append] at hp
    exact Or.inr hp
  · obtain ⟨_, _, _, _, _, hz, hn⟩ := hW
    refine ⟨hok, _, _, ([] ++ pa) ++ pv, ⟨[] ++ pa, pv, trodAll_append (hargs _ (fun _ _ => rfl)) (hres _ _ _), hvars _ (fun _ _ => rfl), rfl, ?_, ?_⟩, ?_⟩
    · intro b off hp
      have hin : MemPlace.cell b off ∈ before := by rw [hps]; simpa using hp
      rw [hb.frozen (hlt _ hin)]
      exact hz b off hin
    · intro ha
      have := hn ha
      rw [hps] at this
      simpa using this
    · intro p hp _
      rw [hps]
      simpa using hp
end

/-- The blocks of a function's own that are known, and that what was there before the call is as it was. -/
def Kept (w w' : World) (L : List (Nat × TypeId × Array Value)) : Prop := (∀ x ∈ L, Row w' x.1 x.2.1 x.2.2) ∧ Below w.heap.size w w'
section
variable {w w' w'' : World} {L : List (Nat × TypeId × Array Value)}
end
end Go.Proofs.Ytaiepjcnncajcaa
end
section
/- What an argument reads is read again behind a call that changes nothing of what lay before; a slice that reads as a list. -/
set_option linter.unusedVariables false
set_option linter.unusedSimpArgs false
set_option linter.unusedSectionVars false
set_option linter.unnecessarySimpa false
namespace Go.Proofs.Ytaiepjcnncajcaa
open Go.RowKit Go.WideShapes Go.ChangeShapes
section
variable {H : Type} {enc : TypeId × Value → H} {P : Program}
theorem trodAll_stays (hl : laidOutB P = true) {W W' : World} {sp' : Nat → Bool} (hb : Below W.heap.size W W') : ∀ {ts : List TypeId} {vs : List Value} {ds : List (DataW H)} {ps : List MemPlace},
    (∀ t ∈ ts, P.readableRec t = true ∧ t < P.types.size) → DataW.TrodAll enc P W 0 (fun _ => true) true ts vs ds ps → (∀ p ∈ ps, p.block < W.heap.size) → (∀ p ∈ ps, sp' p.block = true) → DataW.TrodAll enc P W' 0 sp' true ts vs ds ps
  | [], vs, ds, ps, _, h, _, _ => by
    obtain ⟨rfl, rfl, rfl⟩ := trodAll_nil h
    rfl
  | t :: ts, vs, ds, ps, ht, h, hlt, hs => by
    obtain ⟨v, vs', d, ds', p, q, rfl, rfl, rfl, h1, h2⟩ := trodAll_cons h
    have t1 := ht t (by simp)
    exact trodAll_cons_mk (WideElems.Trod_stays hl t1.1 t1.2 h1 (fun x hx => hb.same (hlt x (by simp [hx]))) (fun x hx => hs x (by simp [hx])))
      (trodAll_stays hl hb (fun t h => ht t (by simp [h])) h2 (fun x hx => hlt x (by simp [hx])) (fun x hx => hs x (by simp [hx])))
end

/-! A slice that reads as a list, nil let in (the words are the guide's, extra-words.md, copied as that page bids). -/
theorem block_of_add (a : Addr) (n : Nat) : (a.add n).block = a.block := by unfold Addr.add; split <;> rfl
theorem add_of_add (a : Addr) (i j : Nat) : (a.add i).add j = a.add (i + j) := by
  unfold Addr.add
  by_cases hi : i = 0 <;> by_cases hj : j = 0 <;> simp [hi, hj, Nat.add_assoc]
def Reads (w : World) (B size : Nat) (A : Option Addr) (n : Nat) (xs : List Value) : Prop :=
  xs.length = n * size ∧ (0 < n → ∃ ad, A = some ad ∧ ad.block < B ∧ ∀ j u, xs[j]? = some u → w.cell? (ad.add j) = some u)
section
variable {w w' : World} {B B' size n : Nat} {A : Option Addr} {xs : List Value}
theorem Reads.none_ : Reads w B size A 0 [] := ⟨by simp, fun h => absurd h (by omega)⟩
theorem Reads.at_ {k : Nat} (h : Reads w B 1 A n xs) (hk : k < n) : ∃ ad u, A = some ad ∧ ad.block < B ∧ xs[k]? = some u ∧ w.cell? (ad.add k) = some u := by
  obtain ⟨ad, e, hb, hc⟩ := h.2 (by omega)
  have hl : k < xs.length := by have := h.1; omega
  exact ⟨ad, xs[k], e, hb, List.getElem?_eq_getElem hl, hc k _ (List.getElem?_eq_getElem hl)⟩
theorem Reads.keep (h : Reads w B size A n xs) (hk : ∀ p : Addr, p.block < B → w'.cell? p = w.cell? p) : Reads w' B size A n xs :=
  ⟨h.1, fun hn => by
    obtain ⟨ad, e, hb, hc⟩ := h.2 hn
    exact ⟨ad, e, hb, fun j u hu => (hk _ (by rw [block_of_add]; exact hb)).trans (hc j u hu)⟩⟩
theorem Reads.more (h : Reads w B size A n xs) (hB : B ≤ B') : Reads w B' size A n xs :=
  ⟨h.1, fun hn => by
    obtain ⟨ad, e, hb, hc⟩ := h.2 hn
    exact ⟨ad, e, by omega, hc⟩⟩
theorem Reads.below (h : Reads w B size A n xs) (hb : Below B w w') : Reads w' B size A n xs := h.keep fun _ hp => hb.cell hp
theorem Reads.call (h : Reads w B size A n xs) (hB : B ≤ w.heap.size) (hb : Below w.heap.size w w') : Reads w' B size A n xs := h.keep fun _ hp => hb.cell (by omega)
theorem Reads.alloc (h : Reads w B size A n xs) (hB : B ≤ w.heap.size) (o : Obj) : Reads (w.alloc o) B size A n xs := h.keep fun p hp => World.cell?_alloc_lt w o p (by omega)
theorem Reads.of_own {base : Nat} {e : TypeId} {c : Nat} (h : w.ownsRow base e size (.slice A n c) n xs) : Reads w w.heap.size size A n xs := by
  refine ⟨h.1, fun hn => ?_⟩
  obtain ⟨g, cap, hv, _, hlt⟩ := h.form hn
  have hA : A = some ⟨g, 0, none⟩ := by injection hv
  subst hA
  exact ⟨_, rfl, hlt, h.cells (g := g) rfl⟩
/-- The list of numbers that a slice of numbers reads as. -/
abbrev Nums (w : World) (B : Nat) (A : Option Addr) (n : Nat) (zs : List Int) : Prop := Reads w B 1 A n (zs.map (Value.int .i64))
end
end Go.Proofs.Ytaiepjcnncajcaa
end
section
/- Append onto a row of the call's own, the source nil, empty or not (the words are the guide's, extra-words.md, copied as that page bids), and what a row of the call's own reads as. -/
set_option linter.unusedVariables false
set_option linter.unusedSimpArgs false
set_option linter.unusedSectionVars false
set_option linter.unnecessarySimpa false
namespace Go.Proofs.Ytaiepjcnncajcaa
open Go.RowKit
section
variable {P : Program} (w : World)

theorem run_append_of_nil (base : Nat) (t ty e : TypeId) (i : TypeInfo) (size : Nat) (ht : P.underlying t = some (.slice e)) (hi : P.info? e = some i)
    (v : Value) (n : Nat) (xs : List Value) (hown : w.ownsRow base e size v n xs) (c : Nat) : (Builtin.append_ #[t, t] ty #[v, .slice none 0 c]).run P w = .ok v w := by
  rcases hown.2 with ⟨rfl, rfl⟩ | ⟨g, cap, cur, rfl, _, _, hnc, _⟩
  · simp [Builtin.append_, run_underlying ht, sizeOf, typeInfo, hi, Builtin.lenOf, Builtin.firstCells]
  · simp [Builtin.append_, run_underlying ht, sizeOf, typeInfo, hi, Builtin.lenOf, Builtin.firstCells, hnc, storeCells]

theorem run_append_any (base : Nat) (t ty e : TypeId) (i : TypeInfo) (z : Value) (size bytes : Nat) (ht : P.underlying t = some (.slice e)) (hi : P.info? e = some i) (hz : i.zero = some z)
    (hsize : i.size = size) (hby : i.bytes = bytes) (hzs : z.cells.size = size) (hsz : 0 < size)
    (v : Value) (n : Nat) (xs : List Value) (hown : w.ownsRow base e size v n xs)
    (B : Nat) (A : Option Addr) (m c : Nat) (news : List Value) (hr : Reads w B size A m news) (h1 : ∀ u ∈ news, u.oneCell' = true)
    (h63 : n + m ≤ maxLen) (hbytes : (n + m) * bytes ≤ 140737488355328) (hbase : base ≤ w.heap.size) :
    ∃ v' w', (Builtin.append_ #[t, t] ty #[v, .slice A m c]).run P w = .ok v' w' ∧ w'.ownsRow base e size v' (n + m) (xs ++ news) ∧ w.grownBy w' v.ownBlock ∧
      (v'.ownBlock = v.ownBlock ∨ v'.ownBlock = some w.heap.size) := by
  rcases A with _ | ad
  · have hm : m = 0 := by
      rcases Nat.eq_zero_or_pos m with h0 | h0
      · exact h0
      · obtain ⟨ad, h, _⟩ := hr.2 h0
        cases h
    subst hm
    have hn : news = [] := List.eq_nil_of_length_eq_zero (by simpa using hr.1)
    subst hn
    exact ⟨v, w, run_append_of_nil w base t ty e i size ht hi v n xs hown c, by simpa using hown, World.grownBy.refl w _, .inl rfl⟩
  · have hcells : ∀ j u, news[j]? = some u → w.cell? (ad.add j) = some u := by
      intro j u hu
      rcases Nat.eq_zero_or_pos m with h0 | h0
      · subst h0
        have hn : news = [] := List.eq_nil_of_length_eq_zero (by simpa using hr.1)
        subst hn
        simp at hu
      · obtain ⟨ad', h, _, hc⟩ := hr.2 h0
        injection h with h
        subst h
        exact hc j u hu
    obtain ⟨v', w', hrun, h2, h3, _, h5⟩ := run_append_own_at (P := P) w base t ty e i z size bytes ht hi hz hsize hby hzs hsz v n xs hown ad m c news hr.1 hcells h1 h63 hbytes hbase
    exact ⟨v', w', hrun, h2, h3, h5⟩

theorem wp_append_any {o : Oper} {a : Act} {K : Act → World → Prop} {Q : Exit → Act → World → Prop} (s x : Operand) (t : TypeId)
    (ho : o.op = .call { callee := .builtin .append, args := #[s, x], argTypes := #[t, t] })
    (base : Nat) (e : TypeId) (i : TypeInfo) (z : Value) (size bytes : Nat) (ht : P.underlying t = some (.slice e)) (hi : P.info? e = some i) (hz : i.zero = some z)
    (hsize : i.size = size) (hby : i.bytes = bytes) (hzs : z.cells.size = size) (hsz : 0 < size)
    (v : Value) (n : Nat) (xs : List Value) (hs : a.eval s = v) (hown : w.ownsRow base e size v n xs)
    (B : Nat) (A : Option Addr) (m c : Nat) (news : List Value) (hx : a.eval x = .slice A m c) (hr : Reads w B size A m news) (h1 : ∀ u ∈ news, u.oneCell' = true)
    (h63 : n + m ≤ maxLen) (hbytes : (n + m) * bytes ≤ 140737488355328) (hbase : base ≤ w.heap.size)
    (h : ∀ v' w', w'.ownsRow base e size v' (n + m) (xs ++ news) → w.grownBy w' v.ownBlock → (v'.ownBlock = v.ownBlock ∨ v'.ownBlock = some w.heap.size) → K (a.put o.dst v') w') : o.wp P a w K Q := by
  obtain ⟨v', w', hrun, h2, h3, h4⟩ := run_append_any (P := P) w base t o.type e i z size bytes ht hi hz hsize hby hzs hsz v n xs hown B A m c news hr h1 h63 hbytes hbase
  unfold Oper.wp execOp
  simp only [ho, resolve, invoke, builtin, Sem.run_bind, Sem.run_pure, Result.andThen_ok, List.map_toArray, List.map_cons, List.map_nil, hs, hx, hrun]
  exact h v' w' h2 h3 h4

theorem wpList_append_any {ops : Array Oper} {rest : List Oper} {o : Oper} {a : Act} {Q : Exit → Act → World → Prop} (hgd : o.guard = none) (s x : Operand) (t : TypeId)
    (ho : o.op = .call { callee := .builtin .append, args := #[s, x], argTypes := #[t, t] })
    (base : Nat) (e : TypeId) (i : TypeInfo) (z : Value) (size bytes : Nat) (ht : P.underlying t = some (.slice e)) (hi : P.info? e = some i) (hz : i.zero = some z)
    (hsize : i.size = size) (hby : i.bytes = bytes) (hzs : z.cells.size = size) (hsz : 0 < size)
    (v : Value) (n : Nat) (xs : List Value) (hs : a.eval s = v) (hown : w.ownsRow base e size v n xs)
    (B : Nat) (A : Option Addr) (m c : Nat) (news : List Value) (hx : a.eval x = .slice A m c) (hr : Reads w B size A m news) (h1 : ∀ u ∈ news, u.oneCell' = true)
    (h63 : n + m ≤ maxLen) (hbytes : (n + m) * bytes ≤ 140737488355328) (hbase : base ≤ w.heap.size)
    (h : ∀ v' w', w'.ownsRow base e size v' (n + m) (xs ++ news) → w.grownBy w' v.ownBlock → (v'.ownBlock = v.ownBlock ∨ v'.ownBlock = some w.heap.size) → wpList P ops Q rest (a.put o.dst v') w') : wpList P ops Q (o :: rest) a w :=
  wpList_plain hgd fun _ hK => wp_append_any w s x t ho base e i z size bytes ht hi hz hsize hby hzs hsz v n xs hs hown B A m c news hx hr h1 h63 hbytes hbase fun v' w' h2 h3 h4 => hK _ _ (h v' w' h2 h3 h4)

theorem step_append_any {ops : Array Oper} {o : Oper} {a : Act} {K : Act → World → Prop} {Q : Exit → Act → World → Prop} {E : Prop} (hgd : o.guard = none) (s x : Operand) (t : TypeId)
    (ho : o.op = .call { callee := .builtin .append, args := #[s, x], argTypes := #[t, t] })
    (base : Nat) (e : TypeId) (i : TypeInfo) (z : Value) (size bytes : Nat) (ht : P.underlying t = some (.slice e)) (hi : P.info? e = some i) (hz : i.zero = some z)
    (hsize : i.size = size) (hby : i.bytes = bytes) (hzs : z.cells.size = size) (hsz : 0 < size)
    (v : Value) (n : Nat) (xs : List Value) (hs : a.eval s = v) (hown : w.ownsRow base e size v n xs)
    (B : Nat) (A : Option Addr) (m c : Nat) (news : List Value) (hx : a.eval x = .slice A m c) (hr : Reads w B size A m news) (h1 : ∀ u ∈ news, u.oneCell' = true)
    (h63 : n + m ≤ maxLen) (hbytes : (n + m) * bytes ≤ 140737488355328) (hbase : base ≤ w.heap.size)
    (h : ∀ v' w', w'.ownsRow base e size v' (n + m) (xs ++ news) → w.grownBy w' v.ownBlock → (v'.ownBlock = v.ownBlock ∨ v'.ownBlock = some w.heap.size) → K (a.put o.dst v') w') :
    if Region.wanted o (yielded ops a.tmps) = true then Oper.wp P o a w K Q else E := by
  have hw : Region.wanted o (yielded ops a.tmps) = true := by simp [Region.wanted, hgd]
  rw [if_pos hw]
  exact wp_append_any w s x t ho base e i z size bytes ht hi hz hsize hby hzs hsz v n xs hs hown B A m c news hx hr h1 h63 hbytes hbase h
end
end Go.Proofs.Ytaiepjcnncajcaa
end
section
/- A row of the call's own, known from its head on: what it holds behind a new block, a call, a store, an append. -/
set_option linter.unusedVariables false
set_option linter.unusedSimpArgs false
set_option linter.unusedSectionVars false
set_option linter.unnecessarySimpa false
namespace Go.Proofs.Ytaiepjcnncajcaa
open Go.RowKit

/-- Block g is a row of the call's own of capacity c, whose first n elements (size cells each) are the cells xs. -/
def Own (w : World) (e : TypeId) (size g n c : Nat) (xs : List Value) : Prop :=
  xs.length = n * size ∧ ∃ cur : Array Value, w.heap[g]? = some (.cells cur e (0, 0)) ∧ n ≤ c ∧ c ≤ maxLen ∧ cur.size = c * size ∧ cur.toList.take (n * size) = xs
section
variable {w w' : World} {e : TypeId} {size g n c : Nat} {xs : List Value}
theorem Own.row (h : Own w e size g n c xs) {base : Nat} (hb : base ≤ g) : w.ownsRow base e size (.slice (some ⟨g, 0, none⟩) n c) n xs := by
  obtain ⟨h1, cur, h2, h3⟩ := h
  exact ⟨h1, .inr ⟨g, c, cur, rfl, hb, h2, h3⟩⟩
theorem own_of_row {base : Nat} (h : w.ownsRow base e size (.slice (some ⟨g, 0, none⟩) n c) n xs) : Own w e size g n c xs ∧ base ≤ g := by
  obtain ⟨h1, ⟨h2, _⟩ | ⟨g', c', cur, h2, hb, h3⟩⟩ := h
  · simp at h2
  · simp only [Value.slice.injEq, Option.some.injEq, Addr.mk.injEq, and_true, true_and] at h2
    obtain ⟨rfl, rfl⟩ := h2
    exact ⟨⟨h1, cur, h3⟩, hb⟩
theorem Own.lt (h : Own w e size g n c xs) : g < w.heap.size := by
  obtain ⟨_, cur, h2, _⟩ := h
  exact (Array.getElem?_eq_some_iff.1 h2).1
theorem Own.reads (h : Own w e size g n c xs) : Reads w w.heap.size size (some ⟨g, 0, none⟩) n xs := Reads.of_own (h.row (Nat.zero_le _))
theorem own_new {cs : Array Value} (hg : g = w.heap.size) (hm : n ≤ maxLen) (hs : cs.size = n * size) : Own (w.alloc (.cells cs e)) e size g n n cs.toList := by
  subst hg
  exact (own_of_row (World.ownsRow_lit (base := 0) w cs n (Nat.zero_le _) hm hs)).1
end

section
variable {w w' : World} {b : Nat} {t : TypeId}
theorem row_four {x0 x1 x2 x3 : Value} (h : Row w b t #[x0, x1, x2, x3]) : w.cell? ⟨b, 0, none⟩ = some x0 ∧ w.cell? ⟨b, 1, none⟩ = some x1 ∧ w.cell? ⟨b, 2, none⟩ = some x2 ∧ w.cell? ⟨b, 3, none⟩ = some x3 ∧
    w.frozen? ⟨b, 0, none⟩ = false ∧ w.frozen? ⟨b, 1, none⟩ = false ∧ w.frozen? ⟨b, 2, none⟩ = false ∧ w.frozen? ⟨b, 3, none⟩ = false :=
  ⟨row_cell h 0, row_cell h 1, row_cell h 2, row_cell h 3, row_free h 0, row_free h 1, row_free h 2, row_free h 3⟩
theorem row_six {x0 x1 x2 x3 x4 x5 : Value} (h : Row w b t #[x0, x1, x2, x3, x4, x5]) : w.cell? ⟨b, 0, none⟩ = some x0 ∧ w.cell? ⟨b, 1, none⟩ = some x1 ∧ w.cell? ⟨b, 2, none⟩ = some x2 ∧ w.cell? ⟨b, 3, none⟩ = some x3 ∧ w.cell? ⟨b, 4, none⟩ = some x4 ∧ w.cell? ⟨b, 5, none⟩ = some x5 ∧
    w.frozen? ⟨b, 0, none⟩ = false ∧ w.frozen? ⟨b, 1, none⟩ = false ∧ w.frozen? ⟨b, 2, none⟩ = false ∧ w.frozen? ⟨b, 3, none⟩ = false ∧ w.frozen? ⟨b, 4, none⟩ = false ∧ w.frozen? ⟨b, 5, none⟩ = false :=
  ⟨row_cell h 0, row_cell h 1, row_cell h 2, row_cell h 3, row_cell h 4, row_cell h 5, row_free h 0, row_free h 1, row_free h 2, row_free h 3, row_free h 4, row_free h 5⟩
theorem row_seven {x0 x1 x2 x3 x4 x5 x6 : Value} (h : Row w b t #[x0, x1, x2, x3, x4, x5, x6]) : w.cell? ⟨b, 0, none⟩ = some x0 ∧ w.cell? ⟨b, 1, none⟩ = some x1 ∧ w.cell? ⟨b, 2, none⟩ = some x2 ∧ w.cell? ⟨b, 3, none⟩ = some x3 ∧ w.cell? ⟨b, 4, none⟩ = some x4 ∧ w.cell? ⟨b, 5, none⟩ = some x5 ∧ w.cell? ⟨b, 6, none⟩ = some x6 ∧
    w.frozen? ⟨b, 0, none⟩ = false ∧ w.frozen? ⟨b, 1, none⟩ = false ∧ w.frozen? ⟨b, 2, none⟩ = false ∧ w.frozen? ⟨b, 3, none⟩ = false ∧ w.frozen? ⟨b, 4, none⟩ = false ∧ w.frozen? ⟨b, 5, none⟩ = false ∧ w.frozen? ⟨b, 6, none⟩ = false :=
  ⟨row_cell h 0, row_cell h 1, row_cell h 2, row_cell h 3, row_cell h 4, row_cell h 5, row_cell h 6, row_free h 0, row_free h 1, row_free h 2, row_free h 3, row_free h 4, row_free h 5, row_free h 6⟩
end

/-- Behind an append: all but the row appended to is as it was, and what lies below a bound. -/
theorem below_grown {B : Nat} {w0 w w' : World} (hb : Below B w0 w) {r : Option Nat} (hg : w.grownBy w' r) (hr : ∀ k, r = some k → B ≤ k) (hB : B ≤ w.heap.size) : Below B w0 w' :=
  hb.trans ⟨hg.os, hg.tape, hg.output, hg.size, fun k hk => hg.block k (by omega) (fun e => by have := hr k e.symm; omega)⟩

section
variable {P : Program}
/-- 'make([]T, n)', T of one cell. -/
theorem make_vec (w : World) {t e : TypeId} {i : TypeInfo} {z : Value} {bytes : Nat} (ht : P.underlying t = some (.slice e)) (hi : P.info? e = some i) (hz : i.zero = some z) (hsize : i.size = 1) (hby : i.bytes = bytes) (hzc : z.cells = #[z])
    (kl kc : IntKind) (n : Nat) (hbytes : bytes * n ≤ 281474976710656) (h63 : n ≤ maxLen) :
    ∃ w', (Instr.makeSlice t (.int kl (n : Int)) (.int kc (n : Int))).run P w = .ok (.slice (some ⟨w.heap.size, 0, none⟩) n n) w' ∧ Own w' e 1 w.heap.size n n (List.replicate n z) ∧ Below w.heap.size w w' := by
  subst hby
  obtain ⟨w', h1, h2, h3⟩ := run_make_full w 0 t e i z 1 ht hi hz hsize kl kc n hbytes h63 (Nat.zero_le _)
  refine ⟨w', h1, ?_, below_grown (Below.refl _ _) h3 (fun k hk => by cases hk) (Nat.le_refl _)⟩
  have := (own_of_row h2).1
  rw [hzc, Nat.mul_one, toList_madeCells_one] at this
  exact this
/-- 'append([]T{}, xs...)': a row of one's own that holds xs; nothing that was there is touched. -/
theorem wpList_clone {w1 : World} {ops : Array Oper} {rest : List Oper} {o : Oper} {a : Act} {Q : Exit → Act → World → Prop} (hgd : o.guard = none) (s x : Operand) (t : TypeId)
    (ho : o.op = .call { callee := .builtin .append, args := #[s, x], argTypes := #[t, t] })
    (e : TypeId) (i : TypeInfo) (z : Value) (size bytes : Nat) (ht : P.underlying t = some (.slice e)) (hi : P.info? e = some i) (hz : i.zero = some z)
    (hsize : i.size = size) (hby : i.bytes = bytes) (hzs : z.cells.size = size) (hsz : 0 < size)
    (hs : a.eval s = .slice (some ⟨w1.heap.size, 0, none⟩) 0 0)
    (B : Nat) (A : Option Addr) (m c : Nat) (news : List Value) (hx : a.eval x = .slice A m c) (hr : Reads w1 B size A m news) (hB : B ≤ w1.heap.size) (h1 : ∀ u ∈ news, u.oneCell' = true)
    (h63 : m ≤ maxLen) (hbytes : m * bytes ≤ 140737488355328)
    (h : ∀ g c' w', Own w' e size g m c' news → w1.heap.size ≤ g → Below w1.heap.size w1 w' → w1.heap.size + 1 ≤ w'.heap.size → wpList P ops Q rest (a.put o.dst (.slice (some ⟨g, 0, none⟩) m c')) w') :
    wpList P ops Q (o :: rest) a (w1.alloc (.cells #[] e)) := by
  refine wpList_append_any (w1.alloc (.cells #[] e)) hgd s x t ho w1.heap.size e i z size bytes ht hi hz hsize hby hzs hsz (.slice (some ⟨w1.heap.size, 0, none⟩) 0 0) 0 [] hs
    ((own_new (n := 0) rfl (by unfold maxLen; omega) (by simp)).row (Nat.le_refl _)) B A m c news hx (hr.alloc hB _) h1 (by omega) (by simpa using hbytes) (by simp) ?_
  intro v' w' hown hg hat
  rw [Nat.zero_add, List.nil_append] at hown
  have hv : ∃ g c', v' = .slice (some ⟨g, 0, none⟩) m c' := by
    rcases hown.2 with ⟨hv, _⟩ | ⟨g, c', cur, hv, _⟩
    · subst hv
      simp [Value.ownBlock] at hat
    · exact ⟨g, c', hv⟩
  obtain ⟨g, c', rfl⟩ := hv
  obtain ⟨ho', hbg⟩ := own_of_row hown
  refine h g c' w' ho' hbg ?_ ?_
  · exact below_grown ((Below.refl _ _).alloc (Nat.le_refl _) _) hg (fun k hk => by simp [Value.ownBlock] at hk; omega) (by simp)
  · have := hg.size
    simpa using this

/-- 'out = append(out, x)': the element has been laid into a block of its own. -/
theorem wpList_push {w : World} {ops : Array Oper} {rest : List Oper} {o : Oper} {a : Act} {Q : Exit → Act → World → Prop} (hgd : o.guard = none) (s x : Operand) (t : TypeId)
    (ho : o.op = .call { callee := .builtin .append, args := #[s, x], argTypes := #[t, t] })
    (e : TypeId) (i : TypeInfo) (z : Value) (size bytes : Nat) (ht : P.underlying t = some (.slice e)) (hi : P.info? e = some i) (hz : i.zero = some z)
    (hsize : i.size = size) (hby : i.bytes = bytes) (hzs : z.cells.size = size) (hsz : 0 < size)
    (base : Nat) (v : Value) (n : Nat) (xs : List Value) (hs : a.eval s = v) (hown : w.ownsRow base e size v n xs)
    (news : Array Value) (hx : a.eval x = .slice (some ⟨w.heap.size, 0, none⟩) 1 1) (hn : news.size = size) (h1 : ∀ u ∈ news.toList, u.oneCell' = true)
    (h63 : n + 1 ≤ maxLen) (hbytes : (n + 1) * bytes ≤ 140737488355328) (hbase : base ≤ w.heap.size)
    (h : ∀ g c' w', Own w' e size g (n + 1) c' (xs ++ news.toList) → base ≤ g → (v.ownBlock = some g ∨ g = w.heap.size + 1) → (w.alloc (.cells news e)).grownBy w' v.ownBlock → wpList P ops Q rest (a.put o.dst (.slice (some ⟨g, 0, none⟩) (n + 1) c')) w') :
    wpList P ops Q (o :: rest) a (w.alloc (.cells news e)) := by
  refine wpList_append_any (w.alloc (.cells news e)) hgd s x t ho base e i z size bytes ht hi hz hsize hby hzs hsz v n xs hs (hown.alloc _) (w.heap.size + 1) (some ⟨w.heap.size, 0, none⟩) 1 1 news.toList hx ?_ h1 h63 hbytes (by simp; omega) ?_
  · have hq := (own_new (w := w) (e := e) (size := size) (n := 1) (cs := news) rfl (by unfold maxLen; omega) (by omega)).reads
    simpa using hq
  · intro v' w' hown' hg hat
    have hv : ∃ g c', v' = .slice (some ⟨g, 0, none⟩) (n + 1) c' := by
      rcases hown'.2 with ⟨_, h0⟩ | ⟨g, c', cur, hv, _⟩
      · omega
      · exact ⟨g, c', hv⟩
    obtain ⟨g, c', rfl⟩ := hv
    obtain ⟨ho', hbg⟩ := own_of_row hown'
    refine h g c' w' ho' hbg ?_ hg
    simp [Value.ownBlock] at hat
    rcases hat with hat | hat
    · exact .inl hat.symm
    · exact .inr hat

end
end Go.Proofs.Ytaiepjcnncajcaa
end
section
/- A law on statements whose order is open: where each operation ahead of the tail gives one and the same value in every world that meets S, and leaves a world that meets S, the text's own order stands for all orders. -/
set_option linter.unusedVariables false
set_option linter.unusedSimpArgs false
set_option linter.unusedSectionVars false
set_option linter.unnecessarySimpa false
namespace Go.Proofs.Ytaiepjcnncajcaa
open Go.RowKit
section
variable {P : Program} {ops : Array Oper} {md : Region.Mode} {S : World → Prop}

/-- An operation's outcome is the value v, in a world that meets S. -/
def Gives (P : Program) (S : World → Prop) (v : Value) : Result Next → Prop
  | .ok (.value u) w => u = v ∧ S w
  | .ok (.enter f args) w => Calls P f args w fun e w' => e = .returned v ∧ S w'
  | _ => False
/-- In the state a the operation o gives v, in whatever world that meets S. -/
def Det (P : Program) (ops : Array Oper) (S : World → Prop) (o : Oper) (v : Value) (a : Act) : Prop :=
  (Region.wanted o (yielded ops a.tmps) = true ∧ ∀ w, S w → Gives P S v ((execOp a.eval o).run P w)) ∨ (Region.wanted o (yielded ops a.tmps) = false ∧ v = undef)
theorem Det.same {o : Oper} {v : Value} {a a' : Act} (h : Det P ops S o v a) (he : execOp a'.eval o = execOp a.eval o)
    (hw : Region.wanted o (yielded ops a'.tmps) = Region.wanted o (yielded ops a.tmps)) : Det P ops S o v a' := by
  unfold Det at *
  rw [he, hw]
  exact h
theorem Det.run {i : Nat} {o : Oper} {v : Value} {a : Act} {w : World} {Q : Exit → Act → World → Prop} {K : Act → World → Prop} (hi : ops[i]? = some o) (h : Det P ops S o v a) (hS : S w)
    (hK : ∀ w', S w' → K (a.put o.dst v) w') : wpOp P ops Q i K a w := by
  unfold wpOp
  simp only [hi]
  rcases h with ⟨hw, hg⟩ | ⟨hw, rfl⟩
  · simp only [hw, if_true]
    refine .inl ?_
    have g := hg w hS
    unfold Oper.wp
    generalize (execOp a.eval o).run P w = r at g ⊢
    cases r with
    | halt x w' => exact g.elim
    | ok n w' =>
      cases n with
      | value u =>
        obtain ⟨rfl, hs⟩ := g
        exact hK _ hs
      | enter f args => exact Calls.mono g fun e w'' ⟨he, hs⟩ => by subst he; exact hK _ hs
      | _ => exact g.elim
  · simp only [hw, Bool.false_eq_true, if_false]
    exact hK _ hS

/-- All orders of what is left of the head: each operation that may come up gives its value. -/
def AllDet (P : Program) (md : Region.Mode) (ops : Array Oper) (S : World → Prop) (n : Nat) (L : Array Bool → Act → Prop) : Nat → Array Bool → Act → Prop
  | 0, listed, a => L listed a
  | f + 1, listed, a => Region.ready md ops listed ≠ [] ∧ ∀ i ∈ Region.ready md ops listed, i < n ∧ ∃ o v, ops[i]? = some o ∧ Det P ops S o v a ∧ AllDet P md ops S n L f (listed.setIfInBounds i true) (a.put o.dst v)

theorem allDet_any {n g : Nat} {L : Array Bool → Act → Prop} {Q : Exit → Act → World → Prop} (hL : ∀ listed a, L listed a → ∀ w, S w → wpAny P md ops Q g listed a w) :
    ∀ (f : Nat) (listed : Array Bool) (a : Act), AllDet P md ops S n L f listed a → ∀ w, S w → wpAny P md ops Q (f + g) listed a w := by
  intro f
  induction f with
  | zero =>
    intro listed a h w hS
    rw [Nat.zero_add]
    exact hL _ _ h w hS
  | succ f ih =>
    intro listed a h w hS
    rw [show f + 1 + g = (f + g) + 1 from by omega]
    refine ⟨fun h0 => absurd h0 h.1, fun i hi => ?_⟩
    obtain ⟨_, o, v, ho, hd, hr⟩ := h.2 i hi
    exact hd.run ho hS fun w' hS' => ih _ _ hr w' hS'

theorem allDet_first {n i : Nat} {oi : Oper} {v : Value} {L : Array Bool → Act → Prop} (hi : ops[i]? = some oi) (hsel : ∀ (j : Nat) (o : Oper) cs b, ops[j]? = some o → o.op ≠ .select cs b)
    (hs : Region.sinkB md ops n = true) (hc : Region.chainB md ops n = true) (hn : n < ops.size) (hin : i < n) (hL : ∀ listed a, L listed a → ∀ j ∈ Region.ready md ops listed, n ≤ j) :
    ∀ (f : Nat) (listed : Array Bool) (a : Act), HeadInv md ops n listed →
      (∀ j oj, ops[j]? = some oj → j ≠ i → listed.getD j true = false → (∀ e ∈ oj.after, Region.binds md e = true → e.on ≠ i) → oi.apart ops oj = true) →
      i ∈ Region.ready md ops listed → Det P ops S oi v a → AllDet P md ops S n L f (listed.setIfInBounds i true) (a.put oi.dst v) → AllDet P md ops S n L (f + 1) listed a := by
  intro f
  induction f with
  | zero =>
    intro listed a inv _ hr hd H
    refine ⟨fun h0 => by rw [h0] at hr; exact absurd hr (by simp), fun j hj => ?_⟩
    have hjn : j < n := Nat.lt_of_not_le fun hle => tail_waits hs hc hn inv _ i rfl hin (mem_ready.1 hr).1 j hle hj
    by_cases hji : j = i
    · subst hji
      exact ⟨hjn, oi, v, hi, hd, H⟩
    · exact absurd (hL _ _ H j (ready_mono hj hji)) (by omega)
  | succ f ih =>
    intro listed a inv hfree hr hd H
    refine ⟨fun h0 => by rw [h0] at hr; exact absurd hr (by simp), fun j hj => ?_⟩
    have hun := (mem_ready.1 hr).1
    have hjn : j < n := Nat.lt_of_not_le fun hle => tail_waits hs hc hn inv _ i rfl hin hun j hle hj
    by_cases hji : j = i
    · subst hji
      exact ⟨hjn, oi, v, hi, hd, H⟩
    · obtain ⟨_, oj, u, hoj, hdj, hrest⟩ := H.2 j (ready_mono hj hji)
      obtain ⟨hjun, oj', hoj', hall⟩ := mem_ready.1 hj
      have hsame : oj' = oj := Option.some.inj (hoj'.symm.trans hoj)
      subst hsame
      have hap := hfree j oj' hoj hji hjun fun e he hb heq => by
        have h1 := hall e he hb
        rw [heq, getD_both hun] at h1
        cases h1
      obtain ⟨p1, p2, p3⟩ := Oper.apart_spec hap
      have hsi : ∀ cs b, oi.op ≠ .select cs b := fun cs b => hsel i oi cs b hi
      have hsj : ∀ cs b, oj'.op ≠ .select cs b := fun cs b => hsel j oj' cs b hoj
      refine ⟨hjn, oj', u, hoj, hdj.same (execOp_put oj' hsj a oi.dst v p1).symm (wanted_put oj' a oi.dst v p1).symm, ?_⟩
      refine ih (listed.setIfInBounds j true) (a.put oj'.dst u) (inv.set hj hjn) (fun k ok hk hki hku hno => ?_) (ready_mono hr (Ne.symm hji))
        (hd.same (execOp_put oi hsi a oj'.dst u p3) (wanted_put oi a oj'.dst u p3)) ?_
      · refine hfree k ok hk hki ?_ hno
        by_cases hjk : j = k
        · subst hjk
          exact hjun
        · rw [getD_set_ne true hjk] at hku
          exact hku
      · rw [Array.setIfInBounds_comm _ _ hji, ← Act.put_comm a v u p2]
        exact hrest

/-- The walk in the text's own order. -/
def wpDet (P : Program) (ops : Array Oper) (S : World → Prop) (R : Act → Prop) : List Oper → Act → Prop
  | [], a => R a
  | o :: rest, a => ∃ v, Det P ops S o v a ∧ wpDet P ops S R rest (a.put o.dst v)

theorem allDet_lex {n g : Nat} {R : Act → Prop} (hsel : Region.noSelect ops = true) (hs : Region.sinkB md ops n = true) (hc : Region.chainB md ops n = true) (hn : n < ops.size) (l : List Oper) :
    ∀ (k : Nat) (listed : Array Bool) (a : Act), (∀ j, j < l.length → l[j]? = ops[k + j]?) → k + l.length = n → HeadInv md ops n listed →
    Region.lexHead md ops g l.length k listed = true → wpDet P ops S R l a → AllDet P md ops S n (fun listed' a' => Region.seqB md ops g n listed' = true ∧ R a') l.length listed a := by
  induction l with
  | nil =>
    intro k listed a _ hk _ hB h
    obtain rfl : k = n := by simpa using hk
    exact ⟨by simpa [Region.lexHead] using hB, h⟩
  | cons o l ih =>
    intro k listed a hl hk inv hB h
    have h0 : ops[k]? = some o := by simpa using (hl 0 (by simp)).symm
    simp only [List.length_cons, Region.lexHead, Bool.and_eq_true] at hB hk
    obtain ⟨⟨hr, hf⟩, hB'⟩ := hB
    have hr' : k ∈ Region.ready md ops listed := by simpa using hr
    obtain ⟨v, hd, hrest⟩ := h
    exact allDet_first h0 (Region.noSelect_spec hsel) hs hc hn (by omega) (fun _ _ hL => seqB_ready hL.1) l.length listed a inv (Region.free_spec h0 hf) hr' hd
      (ih (k + 1) _ _ (fun j hj => by have := hl (j + 1) (by simp; omega); simpa [Nat.add_assoc, Nat.add_comm 1 j] using this) (by omega) (inv.set hr' (by omega)) hB' hrest)

theorem wp_region_det {id : Nat} {Q : Exit → Act → World → Prop} {a : Act} {w : World} {l : List Oper} (n : Nat) (S : World → Prop) (hm : P.follows .mixedOrders = true) (hB : Region.lexTailB .any l.toArray n = true)
    (hS : S w.drew) (h : wpDet P l.toArray S (fun a' => ∀ w', S w' → wpList P l.toArray Q (l.drop n) a' w') (l.take n) a) : (Code.region id l.toArray true).wp P Q a w := by
  simp only [Region.lexTailB, Bool.and_eq_true, decide_eq_true_eq] at hB
  obtain ⟨⟨⟨⟨hsel, hn⟩, hs⟩, hc⟩, hlex⟩ := hB
  have hn' : n < l.length := by simpa using hn
  have htl : (l.take n).length = n := by simp; omega
  have hdl : (l.drop n).length = l.toArray.size - n := by simp
  have inv : HeadInv .any l.toArray n (Array.replicate l.toArray.size false) :=
    ⟨by simp, fun j oj _ hl => (by rw [getD_replicate_false] at hl; cases hl), fun t _ ht => getD_in (by simpa using ht) (getD_replicate_false _ _)⟩
  have H := allDet_lex (md := .any) (g := l.toArray.size - n) hsel hs hc hn (l.take n) 0 _ a (fun j hj => by
    have hj' : j < n := by rw [htl] at hj; exact hj
    simp [hj']) (by simpa using htl) inv (by rw [htl]; exact hlex) h
  refine wp_region_any hm ?_
  have := allDet_any (Q := Q) (g := l.toArray.size - n) (fun listed a' hL w' hS' => by
    have := wpAny_of_seq (md := .any) (Q' := Q) (l.drop n) n listed a' w' (fun j => by simp [List.getElem?_drop]) (by rw [hdl]; exact hL.1) (hL.2 w' hS')
    rwa [hdl] at this) _ _ _ H _ hS
  rw [htl, show n + (l.toArray.size - n) = l.toArray.size from by omega] at this
  exact this

theorem wpDet_nil {R : Act → Prop} {a : Act} (h : R a) : wpDet P ops S R [] a := h
/-- An operation that leaves the world alone. -/
theorem wpDet_val {R : Act → Prop} {a : Act} {o : Oper} {rest : List Oper} (v : Value) (hg : Region.wanted o (yielded ops a.tmps) = true) (h : ∀ w, S w → (execOp a.eval o).run P w = .ok (.value v) w)
    (k : wpDet P ops S R rest (a.put o.dst v)) : wpDet P ops S R (o :: rest) a :=
  ⟨v, .inl ⟨hg, fun w hw => by rw [h w hw]; exact ⟨rfl, hw⟩⟩, k⟩
/-- A call of a Go function. -/
theorem wpDet_call {R : Act → Prop} {a : Act} {o : Oper} {rest : List Oper} (v : Value) (f : FuncId) (args : Array Value) (hg : Region.wanted o (yielded ops a.tmps) = true)
    (h : ∀ w, S w → (execOp a.eval o).run P w = .ok (.enter f args) w) (c : ∀ w, S w → Calls P f args w fun e w' => e = .returned v ∧ S w')
    (k : wpDet P ops S R rest (a.put o.dst v)) : wpDet P ops S R (o :: rest) a :=
  ⟨v, .inl ⟨hg, fun w hw => by rw [h w hw]; exact c w hw⟩, k⟩
end
end Go.Proofs.Ytaiepjcnncajcaa
end
section
/- A second law on statements whose order is open: calls and loads next to new variables, whose blocks' numbers hang on the order. -/
set_option linter.unusedVariables false
set_option linter.unusedSimpArgs false
set_option linter.unusedSectionVars false
set_option linter.unnecessarySimpa false
namespace Go.Proofs.Ytaiepjcnncajcaa
open Go.RowKit
section
variable {P : Program} {ops : Array Oper} {md : Region.Mode} {S : World → Prop} {Q : Exit → Act → World → Prop}

/-- An operation's outcome is the value v, in a world that meets S and in which what was there is as it was. -/
def GivesB (P : Program) (S : World → Prop) (v : Value) (w : World) : Result Next → Prop
  | .ok (.value u) w' => u = v ∧ S w' ∧ Below w.heap.size w w'
  | .ok (.enter f args) w0 => w0 = w ∧ Calls P f args w fun e w' => e = .returned v ∧ S w' ∧ Below w.heap.size w w'
  | _ => False
/-- In the state a the operation o gives v, in whatever world that meets S. -/
def DetB (P : Program) (ops : Array Oper) (S : World → Prop) (o : Oper) (v : Value) (a : Act) : Prop :=
  (Region.wanted o (yielded ops a.tmps) = true ∧ ∀ w, S w → GivesB P S v w ((execOp a.eval o).run P w)) ∨ (Region.wanted o (yielded ops a.tmps) = false ∧ v = undef)
theorem DetB.same {o : Oper} {v : Value} {a a' : Act} (h : DetB P ops S o v a) (he : execOp a'.eval o = execOp a.eval o)
    (hw : Region.wanted o (yielded ops a'.tmps) = Region.wanted o (yielded ops a.tmps)) : DetB P ops S o v a' := by
  unfold DetB at *
  rw [he, hw]
  exact h
theorem DetB.run {i : Nat} {o : Oper} {v : Value} {a : Act} {w : World} {K : Act → World → Prop} (hi : ops[i]? = some o) (h : DetB P ops S o v a) (hS : S w)
    (hK : ∀ w', S w' → Below w.heap.size w w' → K (a.put o.dst v) w') : wpOp P ops Q i K a w := by
  unfold wpOp
  simp only [hi]
  rcases h with ⟨hw, hg⟩ | ⟨hw, rfl⟩
  · simp only [hw, if_true]
    refine .inl ?_
    have g := hg w hS
    unfold Oper.wp
    generalize (execOp a.eval o).run P w = r at g ⊢
    cases r with
    | halt x w' => exact g.elim
    | ok n w' =>
      cases n with
      | value u =>
        obtain ⟨rfl, hs, hb⟩ := g
        exact hK _ hs hb
      | enter f args =>
        obtain ⟨rfl, g⟩ := g
        exact Calls.mono g fun e w'' ⟨he, hs, hb⟩ => by subst he; exact hK _ hs hb
      | _ => exact g.elim
  · simp only [hw, Bool.false_eq_true, if_false]
    exact hK _ hS (Below.refl _ _)

/-- Operation i makes a new variable: a block of type t with the cells z. -/
def Makes (P : Program) (ops : Array Oper) (i : Nat) (t : TypeId) (z : Array Value) : Prop :=
  ∃ o d, ops[i]? = some o ∧ o.dst = some d ∧ o.guard = none ∧ ∀ ρ w, (execOp ρ o).run P w = .ok (.value (.pointer (some ⟨w.heap.size, 0, none⟩))) (w.alloc (.cells z t))
/-- What the temporary of operation i holds. -/
def slotOf (ops : Array Oper) (i : Nat) (a : Act) : Option Value := (ops[i]?.bind (·.dst)).bind (a.tmps[·]?)
/-- The new variables that are there: each has a block of its own. -/
def Held (ops : Array Oper) (J : List (Nat × TypeId × Array Value)) (base : Nat) (listed : Array Bool) (a : Act) (w : World) : Prop :=
  base ≤ w.heap.size ∧ (∀ x ∈ J, listed.getD x.1 false = true → ∃ g, slotOf ops x.1 a = some (.pointer (some ⟨g, 0, none⟩)) ∧ Row w g x.2.1 x.2.2 ∧ base ≤ g) ∧
  (∀ x ∈ J, ∀ y ∈ J, x.1 ≠ y.1 → listed.getD x.1 false = true → listed.getD y.1 false = true → slotOf ops x.1 a ≠ slotOf ops y.1 a)
/-- The temporaries of the new variables are apart from those of all other operations. -/
def ownDst (ops : Array Oper) (J : List (Nat × TypeId × Array Value)) (n : Nat) : Bool :=
  J.all fun x => (List.range ops.size).all fun j => j == x.1 || match ops[j]?, ops[x.1]? with
    | some oj, some ox => oj.dst != ox.dst
    | _, _ => false

theorem slotOf_put {i j : Nat} {oi oj : Oper} {a : Act} {v : Value} (hi : ops[i]? = some oi) (hj : ops[j]? = some oj) (h : oj.dst ≠ oi.dst) : slotOf ops i (a.put oj.dst v) = slotOf ops i a := by
  unfold slotOf
  simp only [hi, Option.bind_some]
  cases hd : oi.dst with
  | none => rfl
  | some d =>
    cases he : oj.dst with
    | none => rfl
    | some e =>
      have hne : e ≠ d := fun x => h (by rw [hd, he, x])
      simp [Act.put, Array.getElem?_setIfInBounds_ne hne]

theorem held_det {J : List (Nat × TypeId × Array Value)} {base j : Nat} {listed : Array Bool} {a : Act} {w w' : World} {oj : Oper} {v : Value} (hd : ownDst ops J 0 = true) (hM : ∀ x ∈ J, Makes P ops x.1 x.2.1 x.2.2)
    (hj : ops[j]? = some oj) (hjJ : ∀ x ∈ J, x.1 ≠ j) (h : Held ops J base listed a w) (hb : Below w.heap.size w w') : Held ops J base (listed.setIfInBounds j true) (a.put oj.dst v) w' := by
  obtain ⟨h0, h1, h2⟩ := h
  have hs : ∀ x ∈ J, slotOf ops x.1 (a.put oj.dst v) = slotOf ops x.1 a := fun x hx => by
    obtain ⟨o, d, ho, hdst, _⟩ := hM x hx
    refine slotOf_put ho hj ?_
    have hlt : j < ops.size := (Array.getElem?_eq_some_iff.1 hj).1
    have := List.all_eq_true.1 (List.all_eq_true.1 hd x hx) j (List.mem_range.2 hlt)
    simp only [hj, ho, Bool.or_eq_true, beq_iff_eq, bne_iff_ne] at this
    rcases this with h | h
    · exact absurd h.symm (hjJ x hx)
    · exact h
  have hl : ∀ x ∈ J, (listed.setIfInBounds j true).getD x.1 false = listed.getD x.1 false := fun x hx => getD_set_ne false (Ne.symm (hjJ x hx))
  refine ⟨Nat.le_trans h0 hb.size, fun x hx hlx => ?_, fun x hx y hy hne hlx hly => ?_⟩
  · rw [hl x hx] at hlx
    obtain ⟨g, e, r, b⟩ := h1 x hx hlx
    exact ⟨g, by rw [hs x hx]; exact e, row_call r hb, b⟩
  · rw [hl x hx] at hlx
    rw [hl y hy] at hly
    rw [hs x hx, hs y hy]
    exact h2 x hx y hy hne hlx hly

theorem held_make {J : List (Nat × TypeId × Array Value)} {base : Nat} {listed : Array Bool} {a : Act} {w : World} {x : Nat × TypeId × Array Value} {o : Oper} {d : Tmp} (hd : ownDst ops J 0 = true) (hM : ∀ x ∈ J, Makes P ops x.1 x.2.1 x.2.2)
    (hJ : ∀ x ∈ J, ∀ y ∈ J, x.1 = y.1 → x = y) (hx : x ∈ J) (ho : ops[x.1]? = some o) (hod : o.dst = some d) (hsz : d < a.tmps.size) (hun : listed.getD x.1 false = false) (h : Held ops J base listed a w) :
    Held ops J base (listed.setIfInBounds x.1 true) (a.put o.dst (.pointer (some ⟨w.heap.size, 0, none⟩))) (w.alloc (.cells x.2.2 x.2.1)) := by
  obtain ⟨h0, h1, h2⟩ := h
  have hown : slotOf ops x.1 (a.put o.dst (.pointer (some ⟨w.heap.size, 0, none⟩))) = some (.pointer (some ⟨w.heap.size, 0, none⟩)) := by
    simp [slotOf, ho, hod, Act.put, hsz]
  have hs : ∀ y ∈ J, y.1 ≠ x.1 → slotOf ops y.1 (a.put o.dst (.pointer (some ⟨w.heap.size, 0, none⟩))) = slotOf ops y.1 a := fun y hy hne => by
    obtain ⟨oy, dy, hoy, _, _⟩ := hM y hy
    refine slotOf_put hoy ho ?_
    have hlt : x.1 < ops.size := (Array.getElem?_eq_some_iff.1 ho).1
    have := List.all_eq_true.1 (List.all_eq_true.1 hd y hy) x.1 (List.mem_range.2 hlt)
    simp only [ho, hoy, Bool.or_eq_true, beq_iff_eq, bne_iff_ne] at this
    rcases this with h | h
    · exact absurd h (Ne.symm hne)
    · exact h
  have old : ∀ y ∈ J, y.1 ≠ x.1 → (listed.setIfInBounds x.1 true).getD y.1 false = true → ∃ g, slotOf ops y.1 a = some (.pointer (some ⟨g, 0, none⟩)) ∧ Row w g y.2.1 y.2.2 ∧ base ≤ g := fun y hy hne hl => by
    rw [getD_set_ne false (Ne.symm hne)] at hl
    exact h1 y hy hl
  refine ⟨by simp; omega, fun y hy hl => ?_, fun y hy z hz hne hly hlz => ?_⟩
  · by_cases hyx : y.1 = x.1
    · obtain rfl := hJ y hy x hx hyx
      exact ⟨w.heap.size, hown, row_new rfl, h0⟩
    · obtain ⟨g, e, r, b⟩ := old y hy hyx hl
      exact ⟨g, by rw [hs y hy hyx]; exact e, row_alloc r _, b⟩
  · by_cases hyx : y.1 = x.1
    · have hzx : z.1 ≠ x.1 := fun e => hne (hyx.trans e.symm)
      obtain ⟨g, e, r, b⟩ := old z hz hzx hlz
      rw [hyx, hown, hs z hz hzx, e]
      have := row_lt r
      intro he
      first | (simp at he; done) | (simp at he; omega)
    · by_cases hzx : z.1 = x.1
      · obtain ⟨g, e, r, b⟩ := old y hy hyx hly
        rw [hzx, hown, hs y hy hyx, e]
        have := row_lt r
        intro he
        first | (simp at he; done) | (simp at he; omega)
      · rw [hs y hy hyx, hs z hz hzx]
        rw [getD_set_ne false (Ne.symm hyx)] at hly
        rw [getD_set_ne false (Ne.symm hzx)] at hlz
        exact h2 y hy z hz hne hly hlz

/-- All operations of the list are done. -/
def doneB (HJ : List Nat) (listed : Array Bool) : Bool := HJ.all fun i => listed.getD i false
/-- The rest, in whatever order, from any world that meets S and holds the new variables. -/
def Leaf (P : Program) (md : Region.Mode) (ops : Array Oper) (Q : Exit → Act → World → Prop) (S : World → Prop) (J : List (Nat × TypeId × Array Value)) (base f : Nat) (listed : Array Bool) (a : Act) : Prop :=
  ∀ w, S w → Held ops J base listed a w → wpAny P md ops Q f listed a w
/-- Whatever order is picked: operations give their values, new variables may have any block, till all of HJ are done. -/
def AllA (P : Program) (md : Region.Mode) (ops : Array Oper) (Q : Exit → Act → World → Prop) (S : World → Prop) (J : List (Nat × TypeId × Array Value)) (HJ : List Nat) (base : Nat) : Nat → Array Bool → Act → Prop
  | 0, listed, a => doneB HJ listed = true ∧ Leaf P md ops Q S J base 0 listed a
  | f + 1, listed, a => (doneB HJ listed = true ∧ Leaf P md ops Q S J base (f + 1) listed a) ∨
    (doneB HJ listed = false ∧ Region.ready md ops listed ≠ [] ∧ ∀ i ∈ Region.ready md ops listed, ∃ o, ops[i]? = some o ∧
      (((∃ x ∈ J, x.1 = i) ∧ ∀ v, AllA P md ops Q S J HJ base f (listed.setIfInBounds i true) (a.put o.dst v)) ∨
       ((∀ x ∈ J, x.1 ≠ i) ∧ ∃ v, DetB P ops S o v a ∧ AllA P md ops Q S J HJ base f (listed.setIfInBounds i true) (a.put o.dst v))))

theorem put_size (a : Act) (d : Option Tmp) (v : Value) : (a.put d v).tmps.size = a.tmps.size := by cases d <;> simp [Act.put]
/-- What is asked of the new variables. -/
structure Fits (P : Program) (ops : Array Oper) (S : World → Prop) (J : List (Nat × TypeId × Array Value)) (n : Nat) : Prop where
  own : ownDst ops J 0 = true
  makes : ∀ x ∈ J, Makes P ops x.1 x.2.1 x.2.2
  uniq : ∀ x ∈ J, ∀ y ∈ J, x.1 = y.1 → x = y
  room : ∀ x ∈ J, ∀ o d, ops[x.1]? = some o → o.dst = some d → d < n
  keeps : ∀ x ∈ J, ∀ w, S w → S (w.alloc (.cells x.2.2 x.2.1))

theorem allA_any {J : List (Nat × TypeId × Array Value)} {HJ : List Nat} {base n : Nat} (F : Fits P ops S J n) : ∀ (f : Nat) (listed : Array Bool) (a : Act), a.tmps.size = n → AllA P md ops Q S J HJ base f listed a →
    ∀ w, S w → Held ops J base listed a w → wpAny P md ops Q f listed a w := by
  intro f
  induction f with
  | zero => exact fun listed a _ h w hS hH => h.2 w hS hH
  | succ f ih =>
    intro listed a hn h w hS hH
    rcases h with ⟨_, h⟩ | ⟨_, hne, h⟩
    · exact h w hS hH
    · refine ⟨fun h0 => absurd h0 hne, fun i hi => ?_⟩
      obtain ⟨o, ho, ⟨⟨x, hx, hxi⟩, hv⟩ | ⟨hJ, v, hd, hr⟩⟩ := h i hi
      · subst hxi
        obtain ⟨o', d, ho', hod, hg, hm⟩ := F.makes x hx
        obtain rfl : o' = o := Option.some.inj (ho'.symm.trans ho)
        unfold wpOp
        simp only [ho]
        rw [if_pos (by simp [Region.wanted, hg])]
        refine .inl ?_
        unfold Oper.wp
        rw [hm]
        exact ih _ _ (by rw [put_size]; exact hn) (hv _) _ (F.keeps x hx w hS) (held_make F.own F.makes F.uniq hx ho hod (by rw [hn]; exact F.room x hx o' d ho hod) (getD_both (mem_ready.1 hi).1) hH)
      · exact hd.run ho hS fun w' hS' hb => ih _ _ (by rw [put_size]; exact hn) hr _ hS' (held_det F.own F.makes ho hJ hH hb)

/-- What is done waits for nothing that is not done. -/
def Closed (md : Region.Mode) (ops : Array Oper) (listed : Array Bool) : Prop :=
  listed.size = ops.size ∧ ∀ j oj, ops[j]? = some oj → listed.getD j false = true → ∀ e ∈ oj.after, Region.binds md e = true → listed.getD e.on false = true
theorem Closed.set {i : Nat} {listed : Array Bool} (c : Closed md ops listed) (hi : i ∈ Region.ready md ops listed) : Closed md ops (listed.setIfInBounds i true) := by
  obtain ⟨_, oi, hoi, hall⟩ := mem_ready.1 hi
  refine ⟨by simp [c.1], fun j oj hj hl e he hb => ?_⟩
  by_cases hij : i = j
  · subst hij
    obtain rfl : oj = oi := Option.some.inj (hj.symm.trans hoi)
    exact getD_set_true (hall e he hb)
  · rw [getD_set_ne false hij] at hl
    exact getD_set_true (c.2 j oj hj hl e he hb)
/-- Operation t waits for operation h, at one or more removes. -/
def needsB (md : Region.Mode) (ops : Array Oper) : Nat → Nat → Nat → Bool
  | 0, _, _ => false
  | k + 1, t, h => match ops[t]? with
    | some o => o.after.any fun e => Region.binds md e && (e.on == h || (decide (h < e.on) && needsB md ops k e.on h))
    | none => false
theorem needs_listed {listed : Array Bool} (c : Closed md ops listed) : ∀ (k t h : Nat) (o : Oper), ops[t]? = some o → (∀ e ∈ o.after, Region.binds md e = true → listed.getD e.on false = true) → needsB md ops k t h = true → listed.getD h false = true
  | 0, _, _, _, _, _, hn => by simp [needsB] at hn
  | k + 1, t, h, o, ho, hall, hn => by
    simp only [needsB, ho, Array.any_eq_true'] at hn
    obtain ⟨e, he, hb⟩ := hn
    simp only [Bool.and_eq_true, Bool.or_eq_true, beq_iff_eq] at hb
    obtain ⟨hb, hor⟩ := hb
    have hl := hall e he hb
    rcases hor with rfl | ⟨_, hk⟩
    · exact hl
    · cases hoe : ops[e.on]? with
      | none => cases k <;> simp [needsB, hoe] at hk
      | some o' => exact needs_listed c k e.on h o' hoe (fun e' he' hb' => c.2 e.on o' hoe hl e' he' hb') hk

/-- Every operation beyond HJ and X waits for all of HJ. -/
def tailB (md : Region.Mode) (ops : Array Oper) (HJ X : List Nat) : Bool :=
  (List.range ops.size).all fun t => HJ.contains t || X.contains t || HJ.all fun h => needsB md ops ops.size t h
/-- Behind the operations of 'did' operation i may be taken. -/
def stepB (md : Region.Mode) (ops : Array Oper) (HJ X did : List Nat) (i : Nat) : Bool :=
  !HJ.contains i || X.all (fun x => did.contains x) || HJ.any fun h => h != i && needsB md ops ops.size h i

theorem allA_last {HJ X did : List Nat} {i j : Nat} {listed : Array Bool} (hT : tailB md ops HJ X = true) (hst : stepB md ops HJ X did i = true) (c : Closed md ops listed) (hdid : ∀ x ∈ did, listed.getD x false = true)
    (hr : i ∈ Region.ready md ops listed) (hj : j ∈ Region.ready md ops listed) (hji : j ≠ i) (hdn : doneB HJ listed = false) (hdone : doneB HJ (listed.setIfInBounds i true) = true) : False := by
  have hiun := getD_both (mem_ready.1 hr).1
  obtain ⟨hjun, oj, hoj, hdeps⟩ := mem_ready.1 hj
  have hjun' := getD_both hjun
  have all : ∀ x ∈ HJ, x ≠ i → listed.getD x false = true := fun x hx hxi => by
    have := List.all_eq_true.1 hdone x hx
    rwa [getD_set_ne false (Ne.symm hxi)] at this
  have hiH : i ∈ HJ := by
    by_cases h : i ∈ HJ
    · exact h
    · have : doneB HJ listed = true := List.all_eq_true.2 fun x hx => all x hx fun e => h (e ▸ hx)
      rw [this] at hdn
      cases hdn
  have hlt : j < ops.size := (Array.getElem?_eq_some_iff.1 hoj).1
  have ht := List.all_eq_true.1 hT j (List.mem_range.2 hlt)
  simp only [Bool.or_eq_true, List.contains_iff_mem] at ht
  rcases ht with (h | h) | h
  · rw [all j h hji] at hjun'
    cases hjun'
  · simp only [stepB, Bool.or_eq_true] at hst
    rcases hst with (hx | hx) | hh
    · have : HJ.contains i = true := by simpa using hiH
      rw [this] at hx
      cases hx
    · have := hdid j (by simpa using List.all_eq_true.1 hx j h)
      rw [this] at hjun'
      cases hjun'
    · obtain ⟨h', hh', hk⟩ := List.any_eq_true.1 hh
      simp only [Bool.and_eq_true, bne_iff_ne] at hk
      have hl := all h' hh' hk.1
      cases ho : ops[h']? with
      | none =>
        have := hk.2
        cases hs : ops.size <;> simp [hs, needsB, ho] at this
      | some o' =>
        have := needs_listed c _ h' i o' ho (fun e he hb => c.2 h' o' ho hl e he hb) hk.2
        rw [hiun] at this
        cases this
  · have := needs_listed c _ j i oj hoj hdeps (List.all_eq_true.1 h i hiH)
    rw [hiun] at this
    cases this

theorem allA_first {J : List (Nat × TypeId × Array Value)} {HJ X did : List Nat} {base i : Nat} {oi : Oper} {v : Value} (hi : ops[i]? = some oi) (hiJ : ∀ x ∈ J, x.1 ≠ i) (hsel : Region.noSelect ops = true)
    (hQ : ∀ c a w, Q (.panic c) (a.put oi.dst v) w → Q (.panic c) a w) (hown : ownDst ops J 0 = true) (hM : ∀ x ∈ J, Makes P ops x.1 x.2.1 x.2.2) (hT : tailB md ops HJ X = true) (hst : stepB md ops HJ X did i = true) :
    ∀ (f : Nat) (listed : Array Bool) (a : Act), Closed md ops listed → (∀ x ∈ did, listed.getD x false = true) →
      (∀ j oj, ops[j]? = some oj → j ≠ i → listed.getD j true = false → (∀ e ∈ oj.after, Region.binds md e = true → e.on ≠ i) → oi.apart ops oj = true) →
      i ∈ Region.ready md ops listed → DetB P ops S oi v a → (HJ.contains i = false → Yields P ops oi v a) → AllA P md ops Q S J HJ base f (listed.setIfInBounds i true) (a.put oi.dst v) →
      AllA P md ops Q S J HJ base (f + 1) listed a := by
  have hsi : ∀ cs b, oi.op ≠ .select cs b := fun cs b => Region.noSelect_spec hsel i oi cs b hi
  intro f
  induction f with
  | zero =>
    intro listed a c hdid hfree hr hd hy H
    obtain ⟨hdone, hleaf⟩ := H
    have hun := getD_both (mem_ready.1 hr).1
    by_cases hdn : doneB HJ listed = true
    · have hnot : HJ.contains i = false := by
        cases hc : HJ.contains i with
        | false => rfl
        | true =>
          have := List.all_eq_true.1 hdn i (by simpa using hc)
          rw [hun] at this
          cases this
      exact .inl ⟨hdn, fun w hS hH => wpAny_first hi (Region.noSelect_spec hsel) hQ 0 listed a w hfree hr (hy hnot) (hleaf w hS (held_det hown hM hi hiJ hH (Below.refl _ _)))⟩
    · refine .inr ⟨by simpa using hdn, fun h0 => by rw [h0] at hr; exact absurd hr (by simp), fun j hj => ?_⟩
      by_cases hji : j = i
      · subst hji
        exact ⟨oi, hi, .inr ⟨hiJ, v, hd, hdone, hleaf⟩⟩
      · exact (allA_last hT hst c hdid hr hj hji (by simpa using hdn) hdone).elim
  | succ f ih =>
    intro listed a c hdid hfree hr hd hy H
    have hun := getD_both (mem_ready.1 hr).1
    by_cases hdn : doneB HJ listed = true
    · have hnot : HJ.contains i = false := by
        cases hc : HJ.contains i with
        | false => rfl
        | true =>
          have := List.all_eq_true.1 hdn i (by simpa using hc)
          rw [hun] at this
          cases this
      have hdn' : doneB HJ (listed.setIfInBounds i true) = true := List.all_eq_true.2 fun x hx => getD_set_true (List.all_eq_true.1 hdn x hx)
      rcases H with ⟨_, hleaf⟩ | ⟨hno, _⟩
      · exact .inl ⟨hdn, fun w hS hH => wpAny_first hi (Region.noSelect_spec hsel) hQ (f + 1) listed a w hfree hr (hy hnot) (hleaf w hS (held_det hown hM hi hiJ hH (Below.refl _ _)))⟩
      · rw [hdn'] at hno
        cases hno
    · refine .inr ⟨by simpa using hdn, fun h0 => by rw [h0] at hr; exact absurd hr (by simp), fun j hj => ?_⟩
      by_cases hji : j = i
      · subst hji
        exact ⟨oi, hi, .inr ⟨hiJ, v, hd, H⟩⟩
      · rcases H with ⟨hdone, _⟩ | ⟨_, _, hall⟩
        · exact (allA_last hT hst c hdid hr hj hji (by simpa using hdn) hdone).elim
        · obtain ⟨hjun, oj', hoj', hdeps⟩ := mem_ready.1 hj
          obtain ⟨oj, hoj, hcase⟩ := hall j (ready_mono hj hji)
          obtain rfl : oj' = oj := Option.some.inj (hoj'.symm.trans hoj)
          have hap := hfree j oj' hoj hji hjun fun e he hb heq => by
            have h1 := hdeps e he hb
            rw [heq, hun] at h1
            cases h1
          obtain ⟨p1, p2, p3⟩ := Oper.apart_spec hap
          have hsj : ∀ cs b, oj'.op ≠ .select cs b := fun cs b => Region.noSelect_spec hsel j oj' cs b hoj
          have next : ∀ u, AllA P md ops Q S J HJ base f ((listed.setIfInBounds i true).setIfInBounds j true) ((a.put oi.dst v).put oj'.dst u) → AllA P md ops Q S J HJ base (f + 1) (listed.setIfInBounds j true) (a.put oj'.dst u) := fun u hu => by
            refine ih (listed.setIfInBounds j true) (a.put oj'.dst u) (c.set hj) (fun x hx => getD_set_true (hdid x hx)) (fun k ok hk hki hku hno => ?_) (ready_mono hr (Ne.symm hji))
              (hd.same (execOp_put oi hsi a oj'.dst u p3) (wanted_put oi a oj'.dst u p3)) (fun hc => (hy hc).of_same (execOp_put oi hsi a oj'.dst u p3) (wanted_put oi a oj'.dst u p3)) ?_
            · refine hfree k ok hk hki ?_ hno
              by_cases hjk : j = k
              · subst hjk
                exact hjun
              · rw [getD_set_ne true hjk] at hku
                exact hku
            · rw [Array.setIfInBounds_comm _ _ hji, ← Act.put_comm a v u p2]
              exact hu
          refine ⟨oj', hoj, ?_⟩
          rcases hcase with ⟨hx, hv⟩ | ⟨hx, u, hdj, hu⟩
          · exact .inl ⟨hx, fun u => next u (hv u)⟩
          · exact .inr ⟨hx, u, hdj.same (execOp_put oj' hsj a oi.dst v p1).symm (wanted_put oj' a oi.dst v p1).symm, next u hu⟩

/-- The plan: operations that are taken first, in this order. -/
def planB (md : Region.Mode) (ops : Array Oper) (HJ X : List Nat) : List Nat → List Nat → Array Bool → Bool
  | [], _, _ => true
  | i :: rest, did, listed => (Region.ready md ops listed).contains i && Region.free md ops listed i && stepB md ops HJ X did i && planB md ops HJ X rest (i :: did) (listed.setIfInBounds i true)
def afterPlan (plan : List Nat) (listed : Array Bool) : Array Bool := plan.foldl (fun l i => l.setIfInBounds i true) listed
/-- The walk along the plan. -/
def wpPlan (P : Program) (ops : Array Oper) (S : World → Prop) (HJ : List Nat) (R : Act → Prop) : List Nat → Act → Prop
  | [], a => R a
  | i :: rest, a => ∃ o v, ops[i]? = some o ∧ DetB P ops S o v a ∧ (HJ.contains i = false → Yields P ops o v a) ∧ wpPlan P ops S HJ R rest (a.put o.dst v)

theorem allA_plan {J : List (Nat × TypeId × Array Value)} {HJ X : List Nat} {base f n : Nat} {R : Act → Prop} (hsel : Region.noSelect ops = true)
    (hQ : ∀ c a d v w, Q (.panic c) (a.put d v) w → Q (.panic c) a w) (hown : ownDst ops J 0 = true) (hM : ∀ x ∈ J, Makes P ops x.1 x.2.1 x.2.2) (hT : tailB md ops HJ X = true) (plan : List Nat) :
    ∀ (did : List Nat) (listed : Array Bool) (a : Act), (∀ i ∈ plan, ∀ x ∈ J, x.1 ≠ i) → Closed md ops listed → (∀ x ∈ did, listed.getD x false = true) → a.tmps.size = n → planB md ops HJ X plan did listed = true → wpPlan P ops S HJ R plan a →
    (∀ a', R a' → a'.tmps.size = n → AllA P md ops Q S J HJ base f (afterPlan plan listed) a') → AllA P md ops Q S J HJ base (f + plan.length) listed a := by
  induction plan with
  | nil => exact fun did listed a _ _ _ hn _ h k => k a h hn
  | cons i rest ih =>
    intro did listed a hJ c hdid hn hB h k
    obtain ⟨o, v, ho, hd, hy, hrest⟩ := h
    simp only [planB, Bool.and_eq_true] at hB
    obtain ⟨⟨⟨hr, hf⟩, hst⟩, hB'⟩ := hB
    have hr' : i ∈ Region.ready md ops listed := by simpa using hr
    have hlt : i < listed.size := by rw [c.1]; exact (Array.getElem?_eq_some_iff.1 ho).1
    have hnext := ih (i :: did) (listed.setIfInBounds i true) (a.put o.dst v) (fun j hj => hJ j (List.mem_cons_of_mem _ hj)) (c.set hr') (fun x hx => by
      rcases List.mem_cons.1 hx with rfl | hx
      · simp [hlt]
      · exact getD_set_true (hdid x hx)) (by rw [put_size]; exact hn) hB' hrest k
    rw [List.length_cons, ← Nat.add_assoc]
    exact allA_first ho (hJ i (List.mem_cons_self ..)) hsel (fun c a w => hQ c a o.dst v w) hown hM hT hst (f + rest.length) listed a c hdid (Region.free_spec ho hf) hr' hd hy hnext

theorem closed_start (md : Region.Mode) (ops : Array Oper) : Closed md ops (Array.replicate ops.size false) :=
  ⟨by simp, fun j oj _ hl => by rw [getD_replicate_false] at hl; cases hl⟩

/-- No new variable. -/
theorem wp_region_free0 {id : Nat} {a : Act} {w : World} {l : List Oper} (plan X HJ : List Nat) (n : Nat) (S : World → Prop) (hm : P.follows .mixedOrders = true)
    (hB : (Region.noSelect l.toArray && tailB .any l.toArray HJ X && planB .any l.toArray HJ X plan [] (Array.replicate l.length false) && doneB HJ (afterPlan plan (Array.replicate l.length false)) &&
      decide (n + (l.drop n).length = l.length) && decide (n = plan.length) && Region.seqB .any l.toArray (l.drop n).length n (afterPlan plan (Array.replicate l.length false))) = true)
    (hQ : ∀ c a d v w, Q (.panic c) (a.put d v) w → Q (.panic c) a w) (hS : S w.drew)
    (h : wpPlan P l.toArray S HJ (fun a' => ∀ w', S w' → wpList P l.toArray Q (l.drop n) a' w') plan a) : (Code.region id l.toArray true).wp P Q a w := by
  simp only [Bool.and_eq_true, decide_eq_true_eq] at hB
  obtain ⟨⟨⟨⟨⟨⟨hsel, hT⟩, hpl⟩, hdone⟩, hlen⟩, hn⟩, hseq⟩ := hB
  have H := allA_plan (J := []) (base := 0) (f := (l.drop n).length) (Q := Q) hsel hQ rfl (fun _ h => by cases h) hT plan [] (Array.replicate l.toArray.size false) a (fun _ _ _ h => by cases h) (closed_start _ _) (fun _ h => by cases h) rfl (by simpa using hpl) h
    (fun a' hR _ => by
      have leaf : Leaf P .any l.toArray Q S [] 0 (l.drop n).length (afterPlan plan (Array.replicate l.toArray.size false)) a' := fun w' hS' _ =>
        wpAny_of_seq (l.drop n) n _ a' w' (fun j => by simp [List.getElem?_drop]) (by simpa using hseq) (hR w' hS')
      have hd : doneB HJ (afterPlan plan (Array.replicate l.toArray.size false)) = true := by simpa using hdone
      generalize (l.drop n).length = f at leaf ⊢
      cases f with
      | zero => exact ⟨hd, leaf⟩
      | succ f => exact .inl ⟨hd, leaf⟩)
  refine wp_region_any hm ?_
  have R := allA_any (Q := Q) (S := S) (J := []) (n := a.tmps.size) (md := .any) ⟨rfl, (fun _ h => by cases h), (fun _ h => by cases h), (fun _ h => by cases h), (fun _ h => by cases h)⟩ _ _ a rfl H w.drew hS ⟨Nat.zero_le _, (fun _ h => by cases h), (fun _ h => by cases h)⟩
  rw [← hn, Nat.add_comm, hlen] at R
  simpa using R

theorem leaf_all {J : List (Nat × TypeId × Array Value)} {HJ : List Nat} {base f : Nat} {listed : Array Bool} {a : Act} (hd : doneB HJ listed = true) (h : Leaf P md ops Q S J base f listed a) : AllA P md ops Q S J HJ base f listed a := by
  cases f with
  | zero => exact ⟨hd, h⟩
  | succ f => exact .inl ⟨hd, h⟩
/-- The next operation is a new variable. -/
theorem allA_new {J : List (Nat × TypeId × Array Value)} {HJ : List Nat} {base f : Nat} {listed : Array Bool} {a : Act} {x : Nat × TypeId × Array Value} (hx : x ∈ J) (hM : Makes P ops x.1 x.2.1 x.2.2) (hd : doneB HJ listed = false) (hr : Region.ready md ops listed = [x.1])
    (h : ∀ o v, ops[x.1]? = some o → AllA P md ops Q S J HJ base f (listed.setIfInBounds x.1 true) (a.put o.dst v)) : AllA P md ops Q S J HJ base (f + 1) listed a := by
  refine .inr ⟨hd, by rw [hr]; simp, fun i hi => ?_⟩
  rw [hr] at hi
  obtain rfl : i = x.1 := by simpa using hi
  obtain ⟨o, d, ho, _⟩ := hM
  exact ⟨o, ho, .inl ⟨⟨x, hx, rfl⟩, fun v => h o v ho⟩⟩

/-- One new variable. -/
theorem wp_region_free1 {id : Nat} {a : Act} {w : World} {l : List Oper} (plan X HJ : List Nat) (x : Nat × TypeId × Array Value) (dx : Tmp) (n : Nat) (S : World → Prop) (hm : P.follows .mixedOrders = true)
    (hB : (Region.noSelect l.toArray && tailB .any l.toArray HJ X && planB .any l.toArray HJ X plan [] (Array.replicate l.length false) && ownDst l.toArray [x] 0 && plan.all (fun i => i != x.1) &&
      !doneB HJ (afterPlan plan (Array.replicate l.length false)) && decide (Region.ready .any l.toArray (afterPlan plan (Array.replicate l.length false)) = [x.1]) && doneB HJ ((afterPlan plan (Array.replicate l.length false)).setIfInBounds x.1 true) &&
      decide (n + (l.drop n).length = l.length) && decide (n = plan.length + 1) && Region.seqB .any l.toArray (l.drop n).length n ((afterPlan plan (Array.replicate l.length false)).setIfInBounds x.1 true) && (afterPlan plan (Array.replicate l.length false)).size == l.length) = true)
    (hM : Makes P l.toArray x.1 x.2.1 x.2.2) (hdx : (l.toArray[x.1]?).bind (·.dst) = some dx) (hroom : dx < a.tmps.size) (hkeep : ∀ w, S w → S (w.alloc (.cells x.2.2 x.2.1)))
    (hQ : ∀ c a d v w, Q (.panic c) (a.put d v) w → Q (.panic c) a w) (hS : S w.drew)
    (h : wpPlan P l.toArray S HJ (fun a' => ∀ g w', S w' → Row w' g x.2.1 x.2.2 → w.heap.size ≤ g → wpList P l.toArray Q (l.drop n) (a'.put (some dx) (.pointer (some ⟨g, 0, none⟩))) w') plan a) : (Code.region id l.toArray true).wp P Q a w := by
  simp only [Bool.and_eq_true, decide_eq_true_eq, beq_iff_eq, Bool.not_eq_true'] at hB
  obtain ⟨⟨⟨⟨⟨⟨⟨⟨⟨⟨⟨hsel, hT⟩, hpl⟩, hown⟩, hnot⟩, hund⟩, hrd⟩, hdone⟩, hlen⟩, hn⟩, hseq⟩, hsz⟩ := hB
  have hMx : ∀ y ∈ [x], Makes P l.toArray y.1 y.2.1 y.2.2 := fun y hy => by
    obtain rfl : y = x := by simpa using hy
    exact hM
  have hlt : x.1 < l.length := by
    obtain ⟨o, d, ho, _⟩ := hM
    simpa using (Array.getElem?_eq_some_iff.1 ho).1
  have H := allA_plan (J := [x]) (base := w.heap.size) (f := (l.drop n).length + 1) (Q := Q) hsel hQ hown hMx hT plan [] (Array.replicate l.toArray.size false) a (fun i hi y hy => by
      obtain rfl : y = x := by simpa using hy
      have := List.all_eq_true.1 hnot i hi
      exact fun e => by simp [e] at this) (closed_start _ _) (fun _ h => by cases h) rfl (by simpa using hpl) h
    (fun a' hR ha' => by
      rw [List.size_toArray]
      refine allA_new (x := x) (by simp) hM hund hrd fun o v ho => leaf_all hdone fun w' hS' hH => ?_
      have hod : o.dst = some dx := by simpa [ho] using hdx
      obtain ⟨g, e, r, b⟩ := hH.2.1 x (by simp) (by simp [hsz, hlt])
      have hv : v = .pointer (some ⟨g, 0, none⟩) := by simpa [slotOf, ho, hod, Act.put, ha', hroom] using e
      subst hv
      rw [hod]
      exact wpAny_of_seq (l.drop n) n _ _ w' (fun j => by simp [List.getElem?_drop]) hseq (hR g w' hS' r b))
  refine wp_region_any hm ?_
  have R := allA_any (Q := Q) (S := S) (J := [x]) (n := a.tmps.size) (md := .any) ⟨hown, hMx, (fun y hy z hz _ => by simp at hy hz; rw [hy, hz]), (fun y hy o d ho hd => by
    obtain rfl : y = x := by simpa using hy
    obtain rfl : d = dx := by simpa [ho, hd] using hdx
    exact hroom), (fun y hy => by
    obtain rfl : y = x := by simpa using hy
    exact hkeep)⟩ _ _ a rfl H w.drew hS ⟨Nat.le_refl _, (fun y hy hl => by rw [getD_replicate_false] at hl; cases hl), (fun y hy z hz _ hl => by rw [getD_replicate_false] at hl; cases hl)⟩
  have e : (l.drop n).length + 1 + plan.length = l.toArray.size := by simp only [List.size_toArray]; omega
  rw [e] at R
  exact R

/-- Two new variables. -/
theorem wp_region_free2 {id : Nat} {a : Act} {w : World} {l : List Oper} (plan X HJ : List Nat) (x y : Nat × TypeId × Array Value) (dx dy : Tmp) (n : Nat) (S : World → Prop) (hm : P.follows .mixedOrders = true)
    (hB : (Region.noSelect l.toArray && tailB .any l.toArray HJ X && planB .any l.toArray HJ X plan [] (Array.replicate l.length false) && ownDst l.toArray [x, y] 0 && plan.all (fun i => i != x.1 && i != y.1) &&
      !doneB HJ (afterPlan plan (Array.replicate l.length false)) && decide (Region.ready .any l.toArray (afterPlan plan (Array.replicate l.length false)) = [x.1, y.1]) &&
      !doneB HJ ((afterPlan plan (Array.replicate l.length false)).setIfInBounds x.1 true) && decide (Region.ready .any l.toArray ((afterPlan plan (Array.replicate l.length false)).setIfInBounds x.1 true) = [y.1]) &&
      !doneB HJ ((afterPlan plan (Array.replicate l.length false)).setIfInBounds y.1 true) && decide (Region.ready .any l.toArray ((afterPlan plan (Array.replicate l.length false)).setIfInBounds y.1 true) = [x.1]) &&
      doneB HJ (((afterPlan plan (Array.replicate l.length false)).setIfInBounds x.1 true).setIfInBounds y.1 true) &&
      decide (n + (l.drop n).length = l.length) && decide (n = plan.length + 2) && Region.seqB .any l.toArray (l.drop n).length n (((afterPlan plan (Array.replicate l.length false)).setIfInBounds x.1 true).setIfInBounds y.1 true) && (afterPlan plan (Array.replicate l.length false)).size == l.length && x.1 != y.1 && dx != dy) = true)
    (hMx : Makes P l.toArray x.1 x.2.1 x.2.2) (hMy : Makes P l.toArray y.1 y.2.1 y.2.2) (hdx : (l.toArray[x.1]?).bind (·.dst) = some dx) (hdy : (l.toArray[y.1]?).bind (·.dst) = some dy) (hrx : dx < a.tmps.size) (hry : dy < a.tmps.size)
    (hkx : ∀ w, S w → S (w.alloc (.cells x.2.2 x.2.1))) (hky : ∀ w, S w → S (w.alloc (.cells y.2.2 y.2.1)))
    (hQ : ∀ c a d v w, Q (.panic c) (a.put d v) w → Q (.panic c) a w) (hS : S w.drew)
    (h : wpPlan P l.toArray S HJ (fun a' => ∀ g k w', S w' → Row w' g x.2.1 x.2.2 → Row w' k y.2.1 y.2.2 → g ≠ k → w.heap.size ≤ g → w.heap.size ≤ k →
      wpList P l.toArray Q (l.drop n) ((a'.put (some dx) (.pointer (some ⟨g, 0, none⟩))).put (some dy) (.pointer (some ⟨k, 0, none⟩))) w') plan a) : (Code.region id l.toArray true).wp P Q a w := by
  simp only [Bool.and_eq_true, decide_eq_true_eq, beq_iff_eq, bne_iff_ne, Bool.not_eq_true'] at hB
  obtain ⟨⟨⟨⟨⟨⟨⟨⟨⟨⟨⟨⟨⟨⟨⟨⟨⟨hsel, hT⟩, hpl⟩, hown⟩, hnot⟩, hu0⟩, hr0⟩, hux⟩, hrdx⟩, huy⟩, hrdy⟩, hdone⟩, hlen⟩, hn⟩, hseq⟩, hsz⟩, hxy⟩, hdd⟩ := hB
  have mem : ∀ z ∈ [x, y], z = x ∨ z = y := fun z hz => by simpa using hz
  have hM : ∀ z ∈ [x, y], Makes P l.toArray z.1 z.2.1 z.2.2 := fun z hz => by
    rcases mem z hz with rfl | rfl
    · exact hMx
    · exact hMy
  have hltx : x.1 < l.length := by
    obtain ⟨o, d, ho, _⟩ := hMx
    simpa using (Array.getElem?_eq_some_iff.1 ho).1
  have hlty : y.1 < l.length := by
    obtain ⟨o, d, ho, _⟩ := hMy
    simpa using (Array.getElem?_eq_some_iff.1 ho).1
  have last : ∀ a' : Act, (∀ g k w', S w' → Row w' g x.2.1 x.2.2 → Row w' k y.2.1 y.2.2 → g ≠ k → w.heap.size ≤ g → w.heap.size ≤ k →
      wpList P l.toArray Q (l.drop n) ((a'.put (some dx) (.pointer (some ⟨g, 0, none⟩))).put (some dy) (.pointer (some ⟨k, 0, none⟩))) w') → a'.tmps.size = a.tmps.size → ∀ v u,
      Leaf P .any l.toArray Q S [x, y] w.heap.size (l.drop n).length (((afterPlan plan (Array.replicate l.length false)).setIfInBounds x.1 true).setIfInBounds y.1 true) ((a'.put (some dx) v).put (some dy) u) := by
    intro a' hR ha' v u w' hS' hH
    obtain ⟨ox, _, hox, _⟩ := hMx
    obtain ⟨oy, _, hoy, _⟩ := hMy
    have hodx : ox.dst = some dx := by simpa [hox] using hdx
    have hody : oy.dst = some dy := by simpa [hoy] using hdy
    have hlx : (((afterPlan plan (Array.replicate l.length false)).setIfInBounds x.1 true).setIfInBounds y.1 true).getD x.1 false = true := by rw [getD_set_ne false (Ne.symm hxy)]; simp [hsz, hltx]
    have hly : (((afterPlan plan (Array.replicate l.length false)).setIfInBounds x.1 true).setIfInBounds y.1 true).getD y.1 false = true := by simp [hsz, hlty]
    obtain ⟨g, ex, rx, bx⟩ := hH.2.1 x (by simp) hlx
    obtain ⟨k, ey, ry, bk⟩ := hH.2.1 y (by simp) hly
    have hne := hH.2.2 x (by simp) y (by simp) hxy hlx hly
    rw [ex, ey] at hne
    have e1 : slotOf l.toArray x.1 ((a'.put (some dx) v).put (some dy) u) = some v := by
      rw [← hody, slotOf_put hox hoy (by rw [hodx, hody]; intro e; injection e with e; exact hdd e.symm)]
      simp [slotOf, hox, hodx, Act.put, ha', hrx]
    have hv : v = .pointer (some ⟨g, 0, none⟩) := by
      rw [e1] at ex
      injection ex
    have hu : u = .pointer (some ⟨k, 0, none⟩) := by simpa [slotOf, hoy, hody, Act.put, ha', hry] using ey
    subst hv hu
    exact wpAny_of_seq (l.drop n) n _ _ w' (fun j => by simp [List.getElem?_drop]) hseq (hR g k w' hS' rx ry (fun e => hne (by rw [e])) bx bk)
  have H := allA_plan (J := [x, y]) (base := w.heap.size) (f := (l.drop n).length + 1 + 1) (Q := Q) hsel hQ hown hM hT plan [] (Array.replicate l.toArray.size false) a (fun i hi z hz => by
      have := List.all_eq_true.1 hnot i hi
      simp only [Bool.and_eq_true, bne_iff_ne] at this
      rcases mem z hz with rfl | rfl
      · exact fun e => this.1 e.symm
      · exact fun e => this.2 e.symm) (closed_start _ _) (fun _ h => by cases h) rfl (by simpa using hpl) h
    (fun a' hR ha' => by
      show AllA P .any l.toArray Q S [x, y] HJ w.heap.size ((l.drop n).length + 1 + 1) (afterPlan plan (Array.replicate l.length false)) a'
      refine .inr ⟨hu0, by rw [hr0]; simp, fun i hi => ?_⟩
      rw [hr0] at hi
      obtain ⟨ox, _, hox, _⟩ := hMx
      obtain ⟨oy, _, hoy, _⟩ := hMy
      have hodx : ox.dst = some dx := by simpa [hox] using hdx
      have hody : oy.dst = some dy := by simpa [hoy] using hdy
      rcases (show i = x.1 ∨ i = y.1 from by simpa using hi) with rfl | rfl
      · refine ⟨ox, hox, .inl ⟨⟨x, by simp, rfl⟩, fun v => allA_new (x := y) (by simp) (hM y (by simp)) hux hrdx fun o u ho => ?_⟩⟩
        obtain rfl : o = oy := Option.some.inj (ho.symm.trans hoy)
        rw [hodx, hody]
        exact leaf_all hdone (last a' hR ha' v u)
      · refine ⟨oy, hoy, .inl ⟨⟨y, by simp, rfl⟩, fun u => allA_new (x := x) (by simp) (hM x (by simp)) huy hrdy fun o v ho => ?_⟩⟩
        obtain rfl : o = ox := Option.some.inj (ho.symm.trans hox)
        rw [hodx, hody, Array.setIfInBounds_comm _ _ (Ne.symm hxy), Act.put_comm a' u v (fun d hd he => hdd (by simp at hd he; rw [he, hd]))]
        exact leaf_all hdone (last a' hR ha' v u))
  refine wp_region_any hm ?_
  have R := allA_any (Q := Q) (S := S) (J := [x, y]) (n := a.tmps.size) (md := .any) ⟨hown, hM, (fun z hz t ht e => by
    rcases mem z hz with rfl | rfl <;> rcases mem t ht with rfl | rfl
    · rfl
    · exact absurd e hxy
    · exact absurd e.symm hxy
    · rfl), (fun z hz o d ho hd => by
    rcases mem z hz with rfl | rfl
    · obtain rfl : d = dx := by simpa [ho, hd] using hdx
      exact hrx
    · obtain rfl : d = dy := by simpa [ho, hd] using hdy
      exact hry), (fun z hz => by
    rcases mem z hz with rfl | rfl
    · exact hkx
    · exact hky)⟩ _ _ a rfl H w.drew hS ⟨Nat.le_refl _, (fun y hy hl => by rw [getD_replicate_false] at hl; cases hl), (fun y hy z hz _ hl => by rw [getD_replicate_false] at hl; cases hl)⟩
  have e : (l.drop n).length + 1 + 1 + plan.length = l.toArray.size := by simp only [List.size_toArray]; omega
  rw [e] at R
  exact R

theorem plan_nil {HJ : List Nat} {R : Act → Prop} {a : Act} (h : R a) : wpPlan P ops S HJ R [] a := h
/-- An operation that leaves the world alone. -/
theorem plan_val {HJ plan : List Nat} {R : Act → Prop} {a : Act} {i : Nat} {l : List Oper} {o : Oper} (v : Value) (ho : l[i]? = some o) (hg : Region.wanted o (yielded l.toArray a.tmps) = true) (hH : HJ.contains i = true)
    (h : ∀ w, S w → (execOp a.eval o).run P w = .ok (.value v) w) (k : wpPlan P l.toArray S HJ R plan (a.put o.dst v)) : wpPlan P l.toArray S HJ R (i :: plan) a :=
  ⟨o, v, (by simpa using ho), .inl ⟨hg, fun w hw => by rw [h w hw]; exact ⟨rfl, hw, Below.refl _ _⟩⟩, (fun c => (by rw [hH] at c; cases c)), k⟩
/-- An operation that asks nothing of the world. -/
theorem plan_pure {HJ plan : List Nat} {R : Act → Prop} {a : Act} {i : Nat} {l : List Oper} {o : Oper} (v : Value) (ho : l[i]? = some o) (hg : Region.wanted o (yielded l.toArray a.tmps) = true)
    (h : ∀ w, (execOp a.eval o).run P w = .ok (.value v) w) (k : wpPlan P l.toArray S HJ R plan (a.put o.dst v)) : wpPlan P l.toArray S HJ R (i :: plan) a :=
  ⟨o, v, (by simpa using ho), .inl ⟨hg, fun w hw => by rw [h w]; exact ⟨rfl, hw, Below.refl _ _⟩⟩, fun _ => .inl ⟨hg, h⟩, k⟩
/-- A call of a Go function. -/
theorem plan_call {HJ plan : List Nat} {R : Act → Prop} {a : Act} {i : Nat} {l : List Oper} {o : Oper} (v : Value) (f : FuncId) (args : Array Value) (ho : l[i]? = some o) (hg : Region.wanted o (yielded l.toArray a.tmps) = true) (hH : HJ.contains i = true)
    (hS : ∀ w w', S w → Below w.heap.size w w' → S w') (h : ∀ w, S w → (execOp a.eval o).run P w = .ok (.enter f args) w) (c : ∀ w, S w → Calls P f args w fun e w' => e = .returned v ∧ Below w.heap.size w w')
    (k : wpPlan P l.toArray S HJ R plan (a.put o.dst v)) : wpPlan P l.toArray S HJ R (i :: plan) a :=
  ⟨o, v, (by simpa using ho), .inl ⟨hg, fun w hw => by rw [h w hw]; exact ⟨rfl, (c w hw).mono fun e w' ⟨he, hb⟩ => ⟨he, hS w w' hw hb, hb⟩⟩⟩, (fun c => (by rw [hH] at c; cases c)), k⟩
end
end Go.Proofs.Ytaiepjcnncajcaa
end
section
/- What makes arguments out of any numbers, walked. -/
set_option linter.unusedVariables false
set_option linter.unusedSimpArgs false
set_option linter.unusedSectionVars false
set_option linter.unnecessarySimpa false
namespace Go.Proofs.Ytaiepjcnncajcaa
open Go.RowKit
theorem tmod_mod {a n : Int} (hn : 1 ≤ n) : a % n = if a.tmod n < 0 then a.tmod n + n else a.tmod n := by
  rw [Int.tmod_eq_emod]
  have h0 := Int.emod_nonneg a (show n ≠ 0 by omega)
  have h1 := Int.emod_lt_of_pos a (show 0 < n by omega)
  have hd : n.natAbs = n := by omega
  split
  · rw [if_neg (by omega)]
    omega
  · rename_i h
    rw [not_or] at h
    have h2 : a % n ≠ 0 := fun e => h.2 (Int.dvd_of_emod_eq_zero e)
    rw [if_pos (by omega)]
    omega
theorem tmod_bd {a n : Int} (hn : 1 ≤ n) : -n < a.tmod n ∧ a.tmod n < n := by
  have := tmod_mod (a := a) hn
  have h0 := Int.emod_nonneg a (show n ≠ 0 by omega)
  have h1 := Int.emod_lt_of_pos a (show 0 < n by omega)
  rw [Int.tmod_eq_emod]
  have hd : n.natAbs = n := by omega
  split
  · omega
  · rename_i h
    rw [not_or] at h
    have h2 : a % n ≠ 0 := fun e => h.2 (Int.dvd_of_emod_eq_zero e)
    omega
theorem pmod (a n : Int) (hn : 1 ≤ n) (hn2 : n ≤ 4611686018427387904) (w : World) : Calls Try.prog 35 #[.int .i64 a, .int .i64 n] w fun e w' => e = .returned (.int .i64 (a % n)) ∧ w' = w := by
  rw [tmod_mod hn]
  have hb := tmod_bd (a := a) hn
  have hz : n ≠ 0 := by omega
  have hm1 : ¬ n = -1 := by omega
  obtain ⟨b1, b2⟩ := hb
  have hw : IntKind.i64.wrap (a.tmod n) = a.tmod n := IntWalk.i64_in _ (by omega)
  by_cases h : a.tmod n < 0
  · rw [if_pos h]
    have hw2 : IntKind.i64.wrap (a.tmod n + n) = a.tmod n + n := IntWalk.i64_in _ (by omega)
    go_enter Try.func35, Try.ntmps35
    go_wp2
    go_ret
    exact ⟨by first | rfl | simp_all, rfl⟩
  · rw [if_neg h]
    have h' : 0 ≤ a.tmod n := by omega
    go_enter Try.func35, Try.ntmps35
    go_wp2
    go_ret
    exact ⟨by first | rfl | simp_all, rfl⟩
theorem pint (a n : Int) (hn : 1 ≤ n) (hn2 : n ≤ 4611686018427387904) (w : World) : Calls Try.prog 19 #[.int .i64 a, .int .i64 n] w fun e w' => e = .returned (.int .i64 (a % n)) ∧ w' = w := by
  have PM := Lib.hid (fun w => pmod a n hn hn2 w)
  have h0 := Int.emod_nonneg a (show n ≠ 0 by omega)
  have h1 := Int.emod_lt_of_pos a (show 0 < n by omega)
  generalize a % n = r at PM h0 h1 ⊢
  go_enter Try.func19, Try.ntmps19
  go_wp2_with (go_at_call 35; with_reducible refine (PM.out _).mono ?_; rintro e w9 ⟨rfl, rfl⟩)
  go_ret
  exact ⟨rfl, rfl⟩
/-- The value that a number is turned into. -/
def mval (a : Int) : Int := if a % 8 = 0 then a.tdiv 8 % 8193 - 4096 else if a % 8 = 1 then 4096 * (2 * (a.tdiv 8 % 2) - 1) else a.tdiv 8 % 13 - 6
theorem mval_bd (a : Int) : -4096 ≤ mval a ∧ mval a ≤ 4096 := by unfold mval; split <;> (try split) <;> omega
/-- The step of the clock that a number is turned into. -/
def mgap (a w : Int) : Int := if a % 8 = 0 then a.tdiv 8 % (2 * w + 2) else if a % 8 = 1 ∨ a % 8 = 2 then 1 + a.tdiv 8 % 3 else 0
theorem tdiv8_bd {a : Int} (h : -9223372036854775808 ≤ a ∧ a ≤ 9223372036854775807) : -9223372036854775808 ≤ a.tdiv 8 ∧ a.tdiv 8 ≤ 9223372036854775807 := by
  rw [Int.tdiv_eq_ediv, show Int.sign 8 = 1 from rfl]
  split <;> omega
theorem pval_0 (a : Int) (ha : -9223372036854775808 ≤ a ∧ a ≤ 9223372036854775807) (h : a % 8 = 0) (w0 : World) : Calls Try.prog 55 #[.int .i64 a] w0 fun e w' => e = .returned (.int .i64 (mval a)) ∧ w' = w0 := by
  rw [mval, if_pos h]
  have hbb := tdiv8_bd ha
  have hw : IntKind.i64.wrap (a.tdiv 8) = a.tdiv 8 := IntWalk.i64_in _ hbb
  have P8 := fun w => pmod a 8 (by decide) (by decide) w
  rw [h] at P8
  have PB := fun w => pmod (a.tdiv 8) 8193 (by decide) (by decide) w
  have b0 := Int.emod_nonneg (a.tdiv 8) (show (8193 : Int) ≠ 0 by decide)
  have b1 := Int.emod_lt_of_pos (a.tdiv 8) (show (0 : Int) < 8193 by decide)
  generalize a.tdiv 8 % 8193 = q at PB b0 b1 ⊢
  have P8 := Lib.hid P8
  have PB := Lib.hid PB
  clear h hbb
  go_enter Try.func55, Try.ntmps55
  go_wp2_with (first | (go_at_call 35; with_reducible refine (P8.out _).mono ?_; rintro e w9 ⟨rfl, rfl⟩) | (go_at_call 35; with_reducible refine (PB.out _).mono ?_; rintro e w9 ⟨rfl, rfl⟩))
  go_ret
  exact ⟨rfl, rfl⟩
theorem pval_1 (a : Int) (ha : -9223372036854775808 ≤ a ∧ a ≤ 9223372036854775807) (h0 : ¬ a % 8 = 0) (h : a % 8 = 1) (w0 : World) : Calls Try.prog 55 #[.int .i64 a] w0 fun e w' => e = .returned (.int .i64 (mval a)) ∧ w' = w0 := by
  rw [mval, if_neg h0, if_pos h]
  have hbb := tdiv8_bd ha
  have hw : IntKind.i64.wrap (a.tdiv 8) = a.tdiv 8 := IntWalk.i64_in _ hbb
  have P8 := fun w => pmod a 8 (by decide) (by decide) w
  rw [h] at P8
  have PB := fun w => pmod (a.tdiv 8) 2 (by decide) (by decide) w
  have b0 := Int.emod_nonneg (a.tdiv 8) (show (2 : Int) ≠ 0 by decide)
  have b1 := Int.emod_lt_of_pos (a.tdiv 8) (show (0 : Int) < 2 by decide)
  generalize a.tdiv 8 % 2 = q at PB b0 b1 ⊢
  have P8 := Lib.hid P8
  have PB := Lib.hid PB
  clear h0 h hbb
  go_enter Try.func55, Try.ntmps55
  go_wp2_with (first | (go_at_call 35; with_reducible refine (P8.out _).mono ?_; rintro e w9 ⟨rfl, rfl⟩) | (go_at_call 35; with_reducible refine (PB.out _).mono ?_; rintro e w9 ⟨rfl, rfl⟩))
  go_ret
  exact ⟨rfl, rfl⟩
theorem pval_2 (a : Int) (ha : -9223372036854775808 ≤ a ∧ a ≤ 9223372036854775807) (h0 : ¬ a % 8 = 0) (h : ¬ a % 8 = 1) (w0 : World) : Calls Try.prog 55 #[.int .i64 a] w0 fun e w' => e = .returned (.int .i64 (mval a)) ∧ w' = w0 := by
  rw [mval, if_neg h0, if_neg h]
  have hbb := tdiv8_bd ha
  have hw : IntKind.i64.wrap (a.tdiv 8) = a.tdiv 8 := IntWalk.i64_in _ hbb
  have P8 := fun w => pmod a 8 (by decide) (by decide) w
  generalize a % 8 = r8 at P8 h0 h
  have c0 : (r8 == 0) = false := by simpa using h0
  have c1 : (r8 == 1) = false := by simpa using h
  have PB := fun w => pmod (a.tdiv 8) 13 (by decide) (by decide) w
  have b0 := Int.emod_nonneg (a.tdiv 8) (show (13 : Int) ≠ 0 by decide)
  have b1 := Int.emod_lt_of_pos (a.tdiv 8) (show (0 : Int) < 13 by decide)
  generalize a.tdiv 8 % 13 = q at PB b0 b1 ⊢
  have P8 := Lib.hid P8
  have PB := Lib.hid PB
  clear h0 h hbb
  go_enter Try.func55, Try.ntmps55
  go_wp2_with (first | (go_at_call 35; with_reducible refine (P8.out _).mono ?_; rintro e w9 ⟨rfl, rfl⟩) | (go_at_call 35; with_reducible refine (PB.out _).mono ?_; rintro e w9 ⟨rfl, rfl⟩))
  go_ret
  exact ⟨rfl, rfl⟩
theorem pval (a : Int) (ha : -9223372036854775808 ≤ a ∧ a ≤ 9223372036854775807) (w : World) : Calls Try.prog 55 #[.int .i64 a] w fun e w' => e = .returned (.int .i64 (mval a)) ∧ w' = w := by
  by_cases h0 : a % 8 = 0
  · exact pval_0 a ha h0 w
  · by_cases h1 : a % 8 = 1
    · exact pval_1 a ha h0 h1 w
    · exact pval_2 a ha h0 h1 w
end Go.Proofs.Ytaiepjcnncajcaa
end
section
/- Items made out of any numbers, walked. -/
set_option linter.unusedVariables false
set_option linter.unusedSimpArgs false
set_option linter.unusedSectionVars false
set_option linter.unnecessarySimpa false
namespace Go.Proofs.Ytaiepjcnncajcaa
open Go.RowKit
/-- An item. -/
structure Itm where
  t : Int
  v : Int
def itmAt (l : List Itm) (i : Nat) : Itm := l.getD i ⟨0, 0⟩
def icells (l : List Itm) : List Value := l.flatMap fun x => [.int .i64 x.t, .int .i64 x.v]
theorem icells_cons (x : Itm) (l : List Itm) : icells (x :: l) = .int .i64 x.t :: .int .i64 x.v :: icells l := rfl
theorem icells_append (a b : List Itm) : icells (a ++ b) = icells a ++ icells b := by unfold icells; rw [List.flatMap_append]
theorem icells_len : ∀ l : List Itm, (icells l).length = l.length * 2
  | [] => rfl
  | x :: l => by rw [icells_cons]; simp only [List.length_cons, icells_len l]; omega
theorem icells_at : ∀ (l : List Itm) (i : Nat), i < l.length → (icells l)[i * 2]? = some (.int .i64 (itmAt l i).t) ∧ (icells l)[i * 2 + 1]? = some (.int .i64 (itmAt l i).v)
  | [], i, h => absurd h (by simp)
  | x :: l, 0, _ => ⟨rfl, rfl⟩
  | x :: l, i + 1, h => by
    have ih := icells_at l i (by simpa using h)
    rw [icells_cons, show (i + 1) * 2 = i * 2 + 1 + 1 by omega, show i * 2 + 1 + 1 + 1 = (i * 2 + 1) + 1 + 1 by omega]
    simp only [List.getElem?_cons_succ]
    exact ih
theorem icells_one (l : List Itm) : ∀ u ∈ icells l, u.oneCell' = true := by
  intro u hu
  unfold icells at hu
  rw [List.mem_flatMap] at hu
  obtain ⟨x, _, hx⟩ := hu
  simp at hx
  rcases hx with rfl | rfl <;> rfl
theorem addr_lit (a : Addr) (j : Nat) (h : j ≠ 0) : a.add j = ⟨a.block, a.off + j, none⟩ := by unfold Addr.add; rw [if_neg h]
/-- The two cells of an item. -/
def ItmCells (w : World) (a : Addr) (x : Itm) : Prop := w.cell? a = some (.int .i64 x.t) ∧ w.cell? ⟨a.block, a.off + 1, none⟩ = some (.int .i64 x.v)
section
variable {w w' : World} {B m : Nat} {A : Option Addr} {l : List Itm}
theorem ItmCells.below {a : Addr} {x : Itm} (h : ItmCells w a x) (hb : Below B w w') (hlt : a.block < B) : ItmCells w' a x :=
  ⟨(hb.cell hlt).trans h.1, (hb.cell (p := ⟨a.block, a.off + 1, none⟩) hlt).trans h.2⟩
theorem Reads.itm_len (h : Reads w B 2 A m (icells l)) : l.length = m := by have := h.1; rw [icells_len] at this; omega
theorem Reads.itm {i : Nat} (h : Reads w B 2 A m (icells l)) (hi : i < m) : ∃ ad, A = some ad ∧ ad.block < B ∧ ItmCells w (ad.add (i * 2)) (itmAt l i) := by
  obtain ⟨ad, e, hb, hc⟩ := h.2 (by omega)
  have ht := icells_at l i (by rw [h.itm_len]; exact hi)
  refine ⟨ad, e, hb, hc _ _ ht.1, ?_⟩
  rw [← addr_lit _ 1 (by decide), add_of_add]
  exact hc _ _ ht.2
end
/-- Raw items as an argument. -/
structure RIn (A : Option Addr) (m c : Nat) (l : List Itm) (w : World) : Prop where
  reads : Reads w w.heap.size 2 A m (icells l)
  tB : ∀ i, -9223372036854775808 ≤ (itmAt l i).t ∧ (itmAt l i).t ≤ 9223372036854775807
  vB : ∀ i, -9223372036854775808 ≤ (itmAt l i).v ∧ (itmAt l i).v ≤ 9223372036854775807
  mc : m ≤ c
  cB : c ≤ maxLen
theorem RIn.below {A : Option Addr} {m c : Nat} {l : List Itm} {w w' : World} (h : RIn A m c l w) (hb : Below w.heap.size w w') : RIn A m c l w' := ⟨(h.reads.below hb).more hb.size, h.tB, h.vB, h.mc, h.cB⟩
/-- Items as they are made: their ticks ascend by at most so much a step, their values lie between bounds. -/
def Made (st lo hi last : Int) (l : List Itm) : Prop :=
  (∀ i, i < l.length → 0 ≤ (itmAt l i).t ∧ (itmAt l i).t ≤ last ∧ (∀ j, j ≤ i → (itmAt l j).t ≤ (itmAt l i).t) ∧ lo ≤ (itmAt l i).v ∧ (itmAt l i).v ≤ hi) ∧ 0 ≤ last ∧ last ≤ st * l.length
theorem itm_left {l : List Itm} {x : Itm} {i : Nat} (h : i < l.length) : itmAt (l ++ [x]) i = itmAt l i := by
  unfold itmAt
  rw [List.getD_eq_getElem?_getD, List.getD_eq_getElem?_getD, List.getElem?_append_left h]
theorem itm_last {l : List Itm} {x : Itm} : itmAt (l ++ [x]) l.length = x := by
  unfold itmAt
  rw [List.getD_eq_getElem?_getD, List.getElem?_append_right (Nat.le_refl _)]
  simp
theorem info_itm : (Try.prog.info? 51).map (fun i => (i.zero, i.size, i.bytes)) = some (some (.agg #[.int .i64 0, .int .i64 0]), 2, 16) := by kernel_rfl
/-- What the making of items leaves: a slice of the call's own (nil where there is none) that reads as made items. -/
def IRet (most : Nat) (st lo hi : Int) (w : World) (e : Ending) (w' : World) : Prop :=
  ∃ (v : Value) (l : List Itm) (last : Int), e = .returned v ∧ w'.ownsRow w.heap.size 51 2 v l.length (icells l) ∧ l.length ≤ most ∧ Made st lo hi last l ∧ Below w.heap.size w w'
/-- An item whose value is turned into its remainder. -/
def imod (q : Int) (x : Itm) : Itm := { x with v := x.v % q }
def ipart (q : Int) (l : List Itm) (k : Nat) : List Itm := (l.take k).map (imod q) ++ l.drop k
theorem itm_eq {l : List Itm} {i : Nat} (h : i < l.length) : l[i] = itmAt l i := by unfold itmAt; rw [List.getD_eq_getElem?_getD, List.getElem?_eq_getElem h]; rfl
end Go.Proofs.Ytaiepjcnncajcaa
end
section
/- Smooth histograms: the aggregate of the live items lies between the bounds, which are narrow; few marks; plain. -/
set_option linter.unusedVariables false
set_option linter.unusedSimpArgs false
set_option linter.unusedSectionVars false
set_option linter.unnecessarySimpa false
namespace Go.Proofs.Ytaiepjcnncajcaa
def isum : List Itm → Int
  | [] => 0
  | x :: l => x.v + isum l
def isq : List Itm → Int
  | [] => 0
  | x :: l => x.v * x.v + isq l
theorem isum_append : ∀ a b : List Itm, isum (a ++ b) = isum a + isum b
  | [], b => by simp [isum]
  | x :: a, b => by rw [List.cons_append, isum, isum, isum_append a b]; omega
theorem isq_append : ∀ a b : List Itm, isq (a ++ b) = isq a + isq b
  | [], b => by simp [isq]
  | x :: a, b => by rw [List.cons_append, isq, isq, isq_append a b]; omega
def IsMin (l : List Itm) (m : Int) : Prop := (∃ x ∈ l, x.v = m) ∧ ∀ x ∈ l, m ≤ x.v
def IsMax (l : List Itm) (m : Int) : Prop := (∃ x ∈ l, x.v = m) ∧ ∀ x ∈ l, x.v ≤ m
/-- A mark of items. -/
structure MkIs (m : Mk) (l : List Itm) : Prop where
  n : m.n = l.length
  s : m.s = isum l
  q : m.q = isq l
  lo : IsMin l m.lo
  hi : IsMax l m.hi
/-- Items in the order of their ticks, up to now. -/
structure Ord (l : List Itm) (now : Int) : Prop where
  up : ∀ i j, i ≤ j → j < l.length → (itmAt l i).t ≤ (itmAt l j).t
  pos : ∀ i, i < l.length → 0 ≤ (itmAt l i).t
  now : ∀ i, i < l.length → (itmAt l i).t ≤ now
/-- The histogram of items: each mark is that of the items from its number on, and what lies ahead of all marks is not live. -/
structure HistOf (l : List Mk) (seq now wd : Int) (its : List Itm) : Prop where
  seq : seq = its.length
  ord : Ord its now
  mks : ∀ m ∈ l, 1 ≤ m.seq ∧ m.seq ≤ its.length ∧ m.t = (itmAt its (m.seq - 1).toNat).t ∧ MkIs m (its.drop (m.seq - 1).toNat)
  gone : ∀ i : Nat, i < its.length → (l ≠ [] → (i : Int) < (mkAt l 0).seq - 1) → (itmAt its i).t ≤ now - wd
/-- The items that are live. -/
def liveI (now wd : Int) (its : List Itm) : List Itm := its.filter fun x => decide (now - wd < x.t ∧ x.t ≤ now)
/-- An aggregate of items. -/
def AggIs (agg : Int) (l : List Itm) (n : Int) : Prop :=
  (agg = 1 → n = l.length) ∧ (agg = 2 → n = isum l) ∧ (agg = 3 → n = isq l) ∧ (agg = 4 → (l = [] ∧ n = 0) ∨ ∃ lo hi, IsMin l lo ∧ IsMax l hi ∧ n = hi - lo)
/-- Values that a law plays with. -/
def ValsOK (agg : Int) (l : List Itm) : Prop := ∀ x ∈ l, leastV agg ≤ x.v ∧ x.v ≤ 4096
/-- The bounds of an answer. -/
def askLo (agg now wd : Int) (l : List Mk) : Int :=
  if l = [] then 0 else if now - wd < (mkAt l 0).t then ofV agg (mkAt l 0) else ofV agg (mkAt l 1)
def askHi (agg now wd : Int) (l : List Mk) : Int :=
  if l = [] then 0 else if now - wd < (mkAt l 0).t then ofV agg (mkAt l 0) else if (mkAt l 1).seq = (mkAt l 0).seq + 1 then ofV agg (mkAt l 1) else ofV agg (mkAt l 0)
/-- The greatest aggregate. -/
def topF (agg cap : Int) : Int := if agg = 2 then cap * 4096 else if agg = 3 then cap * 16777216 else if agg = 4 then 8192 else cap
def mostS (agg k cap : Int) : Int := if (1 ≤ agg ∧ agg ≤ 4) ∧ 1 ≤ k ∧ k ≤ 64 ∧ 1 ≤ cap ∧ cap ≤ 65536 then 2 * k * (Lib.bitLen (topF agg cap).toNat : Nat) + 2 else 0
end Go.Proofs.Ytaiepjcnncajcaa
end
section
/- The model words for the sum and the difference of two words with a carry. -/
set_option linter.unusedVariables false
set_option linter.unusedSimpArgs false
set_option linter.unusedSectionVars false
set_option linter.unnecessarySimpa false
namespace Go.Proofs.Ytaiepjcnncajcaa
open Go.RowKit Go.Shelf

theorem add64 (x y c : Int) (hx : 0 ≤ x) (hy : 0 ≤ y) (hc0 : 0 ≤ c) (hc : c ≤ 1) (w : World) : (callFunc 98 #[.int .u64 x, .int .u64 y, .int .u64 c]).run Try.prog w =
    .ok (.value (.tuple #[.int .u64 ((x + y + c) % 18446744073709551616), .int .u64 ((x + y + c) / 18446744073709551616)])) w := by
  obtain ⟨x, rfl⟩ := Int.eq_ofNat_of_zero_le hx
  obtain ⟨y, rfl⟩ := Int.eq_ofNat_of_zero_le hy
  obtain ⟨c, rfl⟩ := Int.eq_ofNat_of_zero_le hc0
  rw [run_callFunc_extern Try.func98 (by kernel_rfl) (by kernel_rfl) (by kernel_rfl) (e := add64Entry) (by kernel_rfl), run_add64 x y c (by omega) (by omega) (by omega) (by omega)]
  rfl
theorem add64_0 (x y : Int) (hx : 0 ≤ x) (hy : 0 ≤ y) (w : World) : (callFunc 98 #[.int .u64 x, .int .u64 y, .int .u64 0]).run Try.prog w =
    .ok (.value (.tuple #[.int .u64 ((x + y) % 18446744073709551616), .int .u64 ((x + y) / 18446744073709551616)])) w := by
  simpa using add64 x y 0 hx hy (Int.le_refl 0) (by decide) w


theorem sub64 (x y b : Int) (hx : 0 ≤ x) (hy : 0 ≤ y) (hy' : y < 18446744073709551616) (hb0 : 0 ≤ b) (hb : b ≤ 1) (w : World) : (callFunc 113 #[.int .u64 x, .int .u64 y, .int .u64 b]).run Try.prog w =
    .ok (.value (.tuple #[.int .u64 ((x - y - b) % 18446744073709551616), .int .u64 (bor x (y + b))])) w := by
  obtain ⟨x, rfl⟩ := Int.eq_ofNat_of_zero_le hx
  obtain ⟨y, rfl⟩ := Int.eq_ofNat_of_zero_le hy
  obtain ⟨b, rfl⟩ := Int.eq_ofNat_of_zero_le hb0
  have e1 : (((x + 18446744073709551616 - y - b) % 18446744073709551616 : Nat) : Int) = ((x : Int) - y - b) % 18446744073709551616 := by omega
  have e2 : ((if x < y + b then 1 else 0 : Nat) : Int) = bor (x : Int) ((y : Int) + b) := by unfold bor; split <;> split <;> omega
  rw [← e1, ← e2, run_callFunc_extern Try.func113 (by kernel_rfl) (by kernel_rfl) (by kernel_rfl) (e := sub64Entry) (by kernel_rfl), run_sub64 x y b (by omega)]
  rfl
theorem sub64_0 (x y : Int) (hx : 0 ≤ x) (hy : 0 ≤ y) (hy' : y < 18446744073709551616) (w : World) : (callFunc 113 #[.int .u64 x, .int .u64 y, .int .u64 0]).run Try.prog w =
    .ok (.value (.tuple #[.int .u64 ((x - y) % 18446744073709551616), .int .u64 (bor x y)])) w := by
  simpa using sub64 x y 0 hx hy hy' (Int.le_refl 0) (by decide) w
end Go.Proofs.Ytaiepjcnncajcaa
end
section
/- Sums, differences and the order of wide numbers, walked: the program and the reference. -/
set_option linter.unusedVariables false
set_option linter.unusedSimpArgs false
set_option linter.unusedSectionVars false
set_option linter.unnecessarySimpa false
namespace Go.Proofs.Ytaiepjcnncajcaa
open Go.RowKit Go.Shelf

theorem padd_fits (a b : Nat) (ha : a < big) (hb : b < big) (h : a + b < big) (w : World) :
    Calls Try.prog 90 #[W a, W b] w fun e w' => e = .returned (.tuple #[W (a + b), .bool true]) ∧ Below w.heap.size w w' := by
  have e1 := add_lo a b
  have e2 := add_hi h
  have e3 := add_over h
  obtain ⟨a1, a2⟩ := hi_word ha
  obtain ⟨b1, b2⟩ := hi_word hb
  obtain ⟨c1, c2⟩ := lo_word a
  obtain ⟨d1, d2⟩ := lo_word b
  have k0 : 0 ≤ (lo a + lo b) / 18446744073709551616 := by omega
  have k1 : (lo a + lo b) / 18446744073709551616 ≤ 1 := by omega
  go_enter Try.func90, Try.ntmps90
  go_wp2_with (first | simp only [add64_0 (lo a) (lo b) c1 d1] | simp only [add64 (hi a) (hi b) _ a1 b1 k0 k1])
  simp [bodyPost, results, Try.results90, go_sem]
  exact ((((Below.refl _ _).alloc (Nat.le_refl _) _).alloc (by simp) _).alloc (by simp; omega) _)
theorem padd_over (a b : Nat) (ha : a < big) (hb : b < big) (h : ¬ a + b < big) (w : World) :
    Calls Try.prog 90 #[W a, W b] w fun e w' => e = .returned (.tuple #[W 0, .bool false]) ∧ Below w.heap.size w w' := by
  have e1 := add_lo a b
  have e3 := add_over1 ha hb h
  obtain ⟨a1, a2⟩ := hi_word ha
  obtain ⟨b1, b2⟩ := hi_word hb
  obtain ⟨c1, c2⟩ := lo_word a
  obtain ⟨d1, d2⟩ := lo_word b
  have k0 : 0 ≤ (lo a + lo b) / 18446744073709551616 := by omega
  have k1 : (lo a + lo b) / 18446744073709551616 ≤ 1 := by omega
  go_enter Try.func90, Try.ntmps90
  go_wp2_with (first | simp only [add64_0 (lo a) (lo b) c1 d1] | simp only [add64 (hi a) (hi b) _ a1 b1 k0 k1])
  simp [bodyPost, results, Try.results90, go_sem]
  exact ⟨⟨rfl, rfl⟩, ((((Below.refl _ _).alloc (Nat.le_refl _) _).alloc (by simp) _).alloc (by simp; omega) _)⟩
theorem radd_fits (a b : Nat) (ha : a < big) (hb : b < big) (h : a + b < big) (w : World) :
    Calls Try.prog 110 #[W a, W b] w fun e w' => e = .returned (.tuple #[W (a + b), .bool true]) ∧ Below w.heap.size w w' := by
  have e1 := add_lo a b
  have e2 := add_hi h
  have e3 := add_over h
  obtain ⟨a1, a2⟩ := hi_word ha
  obtain ⟨b1, b2⟩ := hi_word hb
  obtain ⟨c1, c2⟩ := lo_word a
  obtain ⟨d1, d2⟩ := lo_word b
  have k0 : 0 ≤ (lo a + lo b) / 18446744073709551616 := by omega
  have k1 : (lo a + lo b) / 18446744073709551616 ≤ 1 := by omega
  go_enter Try.func110, Try.ntmps110
  go_wp2_with (first | simp only [add64_0 (lo a) (lo b) c1 d1] | simp only [add64 (hi a) (hi b) _ a1 b1 k0 k1])
  simp [bodyPost, results, Try.results110, go_sem]
  exact ((((Below.refl _ _).alloc (Nat.le_refl _) _).alloc (by simp) _).alloc (by simp; omega) _)
theorem pcmp_any (a b : Nat) (w : World) :
    Calls Try.prog 52 #[W a, W b] w fun e w' => e = .returned (.int .i64 (cmp a b)) ∧ Below w.heap.size w w' := by
  rcases Nat.lt_trichotomy a b with h | h | h
  · rw [cmp_lt h]
    rcases lt_words h with k | ⟨k, l⟩
    all_goals
      go_enter Try.func52, Try.ntmps52
      go_wp2
      go_ret
      exact ⟨rfl, (((Below.refl _ _).alloc (Nat.le_refl _) _).alloc (by simp) _)⟩
  · subst h
    rw [cmp_eq]
    go_enter Try.func52, Try.ntmps52
    go_wp2
    go_ret
    exact ⟨rfl, (((Below.refl _ _).alloc (Nat.le_refl _) _).alloc (by simp) _)⟩
  · rw [cmp_gt h]
    rcases lt_words h with k | ⟨k, l⟩
    all_goals
      go_enter Try.func52, Try.ntmps52
      go_wp2
      go_ret
      exact ⟨rfl, (((Below.refl _ _).alloc (Nat.le_refl _) _).alloc (by simp) _)⟩
theorem rcmp_any (a b : Nat) (w : World) :
    Calls Try.prog 53 #[W a, W b] w fun e w' => e = .returned (.int .i64 (cmp a b)) ∧ Below w.heap.size w w' := by
  rcases Nat.lt_trichotomy a b with h | h | h
  · rw [cmp_lt h]
    rcases lt_words h with k | ⟨k, l⟩
    all_goals
      go_enter Try.func53, Try.ntmps53
      go_wp2
      go_ret
      exact ⟨rfl, (((Below.refl _ _).alloc (Nat.le_refl _) _).alloc (by simp) _)⟩
  · subst h
    rw [cmp_eq]
    go_enter Try.func53, Try.ntmps53
    go_wp2
    go_ret
    exact ⟨rfl, (((Below.refl _ _).alloc (Nat.le_refl _) _).alloc (by simp) _)⟩
  · rw [cmp_gt h]
    rcases lt_words h with k | ⟨k, l⟩
    all_goals
      go_enter Try.func53, Try.ntmps53
      go_wp2
      go_ret
      exact ⟨rfl, (((Below.refl _ _).alloc (Nat.le_refl _) _).alloc (by simp) _)⟩
end Go.Proofs.Ytaiepjcnncajcaa
end
section
/- Small functions on wide numbers, walked: the program and the reference. -/
set_option linter.unusedVariables false
set_option linter.unusedSimpArgs false
set_option linter.unusedSectionVars false
set_option linter.unnecessarySimpa false
namespace Go.Proofs.Ytaiepjcnncajcaa
open Go.RowKit Go.Shelf

theorem len64 (x : Int) (w : World) (h0 : 0 ≤ x) (h1 : x ≤ 18446744073709551615) :
    Calls Try.prog 84 #[.int .u64 x] w fun e w' => e = .returned (.int .i64 (Lib.bitLen x.toNat)) ∧ w' = w := Try.bits_Len64 x w h0 h1
theorem mul64 (x y : Int) (hx : Word x) (hy : Word y) (w : World) :
    Calls Try.prog 91 #[.int .u64 x, .int .u64 y] w fun e w' => e = .returned (.tuple #[.int .u64 (hi (x.toNat * y.toNat)), .int .u64 (lo (x.toNat * y.toNat))]) ∧ w' = w := by
  obtain ⟨x, rfl⟩ := Int.eq_ofNat_of_zero_le hx.1
  obtain ⟨y, rfl⟩ := Int.eq_ofNat_of_zero_le hy.1
  exact Try.bits_Mul64 x y (by have := hx.2; omega) (by have := hy.2; omega) w

theorem pproduct (x y : Int) (hx : Word x) (hy : Word y) (w : World) :
    Calls Try.prog 50 #[.int .u64 x, .int .u64 y] w fun e w' => e = .returned (W (x.toNat * y.toNat)) ∧ Below w.heap.size w w' := by
  go_enter Try.func50, Try.ntmps50
  go_wp2_with (go_at_call 91; refine (mul64 x y hx hy _).mono ?_; rintro e w' ⟨rfl, rfl⟩)
  simp [bodyPost, results, Try.results50, go_sem]
  exact ((Below.refl _ _).alloc (Nat.le_refl _) _)
theorem pof (n : Nat) (hn : n < 18446744073709551616) (w : World) :
    Calls Try.prog 51 #[.int .u64 n] w fun e w' => e = .returned (W n) ∧ Below w.heap.size w w' := by
  have e1 := hi_small hn
  have e2 := lo_small hn
  go_enter Try.func51, Try.ntmps51
  go_wp2
  simp [bodyPost, results, Try.results51, go_sem, e1, e2]
  exact ((Below.refl _ _).alloc (Nat.le_refl _) _)
theorem rproduct (x y : Int) (hx : Word x) (hy : Word y) (w : World) :
    Calls Try.prog 54 #[.int .u64 x, .int .u64 y] w fun e w' => e = .returned (W (x.toNat * y.toNat)) ∧ Below w.heap.size w w' := by
  go_enter Try.func54, Try.ntmps54
  go_wp2_with (go_at_call 91; refine (mul64 x y hx hy _).mono ?_; rintro e w' ⟨rfl, rfl⟩)
  simp [bodyPost, results, Try.results54, go_sem]
  exact ((Below.refl _ _).alloc (Nat.le_refl _) _)
theorem rof (n : Nat) (hn : n < 18446744073709551616) (w : World) :
    Calls Try.prog 88 #[.int .u64 n] w fun e w' => e = .returned (W n) ∧ Below w.heap.size w w' := by
  have e1 := hi_small hn
  have e2 := lo_small hn
  go_enter Try.func88, Try.ntmps88
  go_wp2
  simp [bodyPost, results, Try.results88, go_sem, e1, e2]
  exact ((Below.refl _ _).alloc (Nat.le_refl _) _)
theorem pzero (n : Nat) (w : World) :
    Calls Try.prog 112 #[W n] w fun e w' => e = .returned (.bool (decide (n = 0))) ∧ Below w.heap.size w w' := by
  by_cases h : n = 0
  · subst h
    go_enter Try.func112, Try.ntmps112
    go_wp2
    go_ret
    exact ⟨rfl, (Below.refl _ _).alloc (Nat.le_refl _) _⟩
  · have hd : decide (n = 0) = false := by simpa using h
    rw [hd]
    clear hd
    by_cases k : hi n = 0
    · have l : ¬ lo n = 0 := fun l => h (hi_inj (b := 0) k l)
      have l' : (lo n == 0) = false := by simpa using l
      go_enter Try.func112, Try.ntmps112
      go_wp2
      go_ret
      exact ⟨rfl, (Below.refl _ _).alloc (Nat.le_refl _) _⟩
    · have k' : (hi n == 0) = false := by simpa using k
      go_enter Try.func112, Try.ntmps112
      go_wp2
      go_ret
      exact ⟨rfl, (Below.refl _ _).alloc (Nat.le_refl _) _⟩
theorem psub_yes (a b : Nat) (ha : a < big) (hb : b < big) (h : b ≤ a) (w : World) :
    Calls Try.prog 97 #[W a, W b] w fun e w' => e = .returned (.tuple #[W (a - b), .bool true]) ∧ Below w.heap.size w w' := by
  have e1 := sub_lo h
  have e2 := sub_hi ha h
  have e3 := sub_under h
  obtain ⟨a1, a2⟩ := hi_word ha
  obtain ⟨b1, b2⟩ := hi_word hb
  obtain ⟨c1, c2⟩ := lo_word a
  obtain ⟨d1, d2⟩ := lo_word b
  have k0 := bor_0 (lo a) (lo b)
  have k1 := bor_1 (lo a) (lo b)
  go_enter Try.func97, Try.ntmps97
  go_wp2_with (first | simp only [sub64_0 (lo a) (lo b) c1 d1 d2] | simp only [sub64 (hi a) (hi b) _ a1 b1 b2 k0 k1])
  simp [bodyPost, results, Try.results97, go_sem]
  exact ((((Below.refl _ _).alloc (Nat.le_refl _) _).alloc (by simp) _).alloc (by simp; omega) _)
theorem rsub_yes (a b : Nat) (ha : a < big) (hb : b < big) (h : b ≤ a) (w : World) :
    Calls Try.prog 111 #[W a, W b] w fun e w' => e = .returned (.tuple #[W (a - b), .bool true]) ∧ Below w.heap.size w w' := by
  have e1 := sub_lo h
  have e2 := sub_hi ha h
  have e4 : ¬ cmp a b < 0 := by have := cmp_nonneg h; omega
  obtain ⟨a1, a2⟩ := hi_word ha
  obtain ⟨b1, b2⟩ := hi_word hb
  obtain ⟨c1, c2⟩ := lo_word a
  obtain ⟨d1, d2⟩ := lo_word b
  have k0 := bor_0 (lo a) (lo b)
  have k1 := bor_1 (lo a) (lo b)
  go_enter Try.func111, Try.ntmps111
  go_wp2_with (first | (go_at_call 53; refine (rcmp_any a b _).mono ?_; rintro e w1 ⟨rfl, hb1⟩; obtain ⟨hc1, hf1⟩ := bcell hb1; have hz1 := hb1.size; simp at hz1) | simp only [sub64_0 (lo a) (lo b) c1 d1 d2] | simp only [sub64 (hi a) (hi b) _ a1 b1 b2 k0 k1])
  simp [bodyPost, results, Try.results111, go_sem, hc1, hf1]
  (repeat (first | exact Below.refl _ _ | refine Below.setCell ?_ (by first | (simp; done) | (simp; omega) | omega) _ | refine Below.alloc ?_ (by first | (simp; done) | (simp; omega) | omega) _ | refine Below.trans ?_ (Below.mono (by assumption) (by first | (simp; done) | (simp; omega) | omega))))
theorem rsub_no (a b : Nat) (h : ¬ b ≤ a) (w : World) :
    Calls Try.prog 111 #[W a, W b] w fun e w' => e = .returned (.tuple #[W 0, .bool false]) ∧ Below w.heap.size w w' := by
  have e4 : cmp a b < 0 := by rw [cmp_lt (by omega)]; omega
  go_enter Try.func111, Try.ntmps111
  go_wp2_with (go_at_call 53; refine (rcmp_any a b _).mono ?_; rintro e w1 ⟨rfl, hb1⟩; obtain ⟨hc1, hf1⟩ := bcell hb1; have hz1 := hb1.size; simp at hz1)
  simp [bodyPost, results, Try.results111, go_sem, hc1]
  refine ⟨⟨rfl, rfl⟩, ?_⟩
  (repeat (first | exact Below.refl _ _ | refine Below.setCell ?_ (by first | (simp; done) | (simp; omega) | omega) _ | refine Below.alloc ?_ (by first | (simp; done) | (simp; omega) | omega) _ | refine Below.trans ?_ (Below.mono (by assumption) (by first | (simp; done) | (simp; omega) | omega))))
end Go.Proofs.Ytaiepjcnncajcaa
end
section
/- Plain arithmetic of long division in two words: no program is in sight. -/
set_option linter.unusedVariables false
set_option linter.unusedSimpArgs false
set_option linter.unusedSectionVars false
set_option linter.unnecessarySimpa false
namespace Go.Proofs.Ytaiepjcnncajcaa
open Go.RowKit

/-- Binary digit n. -/
def dig (a n : Nat) : Int := ((a / 2 ^ n % 2 : Nat) : Int)
theorem dig_0 (a n : Nat) : 0 ≤ dig a n := by unfold dig; omega
theorem dig_1 (a n : Nat) : dig a n ≤ 1 := by unfold dig; omega
theorem bit_hi_eq {a : Nat} {n : Int} (ha : a < big) (h : 64 ≤ n) : bits BinOp.and IntKind.u64 (hi a / 2 ^ (n - 64).toNat) 1 = dig a n.toNat := by
  have hb := hi_word ha
  have e : hi a / 2 ^ (n - 64).toNat = ((a / 2 ^ n.toNat : Nat) : Int) := by
    unfold hi
    have e2 : (2 : Int) ^ (n - 64).toNat = ((2 ^ (n - 64).toNat : Nat) : Int) := by simp
    rw [e2, ← Int.natCast_ediv, Nat.div_div_eq_div_mul]
    have e3 : 18446744073709551616 * 2 ^ (n - 64).toNat = 2 ^ n.toNat := by
      rw [show (18446744073709551616 : Nat) = 2 ^ 64 from by decide, ← Nat.pow_add]
      congr 1; omega
    rw [e3]
  have l : 0 ≤ hi a / 2 ^ (n - 64).toNat := by rw [e]; exact Int.natCast_nonneg _
  have u : hi a / 2 ^ (n - 64).toNat ≤ 18446744073709551615 := by
    have := Int.ediv_le_self (a := hi a) (2 ^ (n - 64).toNat) hb.1
    have := hb.2
    omega
  rw [and_one_u64 _ l u, e]
  unfold dig
  omega
theorem bit_lo_eq {a : Nat} {n : Int} (h0 : 0 ≤ n) (h : n < 64) : bits BinOp.and IntKind.u64 (lo a / 2 ^ n.toNat) 1 = dig a n.toNat := by
  have hb := lo_word a
  have e2 : (2 : Int) ^ n.toNat = ((2 ^ n.toNat : Nat) : Int) := by simp
  have e : lo a / 2 ^ n.toNat = ((a % 2 ^ 64 / 2 ^ n.toNat : Nat) : Int) := by
    unfold lo
    rw [e2, ← Int.natCast_ediv]
  have l : 0 ≤ lo a / 2 ^ n.toNat := by rw [e]; exact Int.natCast_nonneg _
  have u : lo a / 2 ^ n.toNat ≤ 18446744073709551615 := by
    have := Int.ediv_le_self (a := lo a) (2 ^ n.toNat) hb.1
    have := hb.2
    omega
  rw [and_one_u64 _ l u, e]
  unfold dig
  have t := Nat.testBit_mod_two_pow a 64 n.toNat
  rw [Nat.testBit_eq_decide_div_mod_eq, Nat.testBit_eq_decide_div_mod_eq] at t
  have hd : decide (n.toNat < 64) = true := by simp; omega
  rw [hd, Bool.true_and, decide_eq_decide] at t
  omega

/-- Twice r and a digit, without what is beyond 128 digits. -/
def dbl (r : Nat) (d : Int) : Nat := (2 * r + d.toNat) % big
theorem dbl_lt (r : Nat) (d : Int) : dbl r d < big := Nat.mod_lt _ (by unfold big; omega)
theorem or_even {x b : Int} (h0 : 0 ≤ b) (h1 : b ≤ 1) : bits BinOp.or IntKind.u64 (IntKind.u64.wrap (x * 2)) b = x * 2 % 18446744073709551616 + b := by
  have e : IntKind.u64.wrap (x * 2) = ((2 ^ 1 * ((x * 2 % 18446744073709551616).toNat / 2) : Nat) : Int) := by rw [IntKind.wrap_u64]; omega
  obtain ⟨c, rfl⟩ := Int.eq_ofNat_of_zero_le h0
  rw [e, bits_or_u64_nat _ c (by omega) (by omega), ← Nat.two_pow_add_eq_or_of_lt (by omega)]
  omega
theorem dbl_hi {r : Nat} {d : Int} (hr : r < big) (h0 : 0 ≤ d) (h1 : d ≤ 1) : bits BinOp.or IntKind.u64 (IntKind.u64.wrap (hi r * 2)) (lo r / 9223372036854775808) = hi (dbl r d) := by
  rw [or_even (by unfold lo; omega) (by unfold lo; omega)]
  unfold hi lo dbl big at *
  omega
theorem dbl_lo {r : Nat} {d : Int} (h0 : 0 ≤ d) (h1 : d ≤ 1) : bits BinOp.or IntKind.u64 (IntKind.u64.wrap (lo r * 2)) d = lo (dbl r d) := by
  rw [or_even h0 h1]
  unfold lo dbl big at *
  omega
theorem dbl_lo0 (r : Nat) : IntKind.u64.wrap (lo r * 2) = lo (dbl r 0) := by
  rw [IntKind.wrap_u64]
  unfold lo dbl big at *
  omega
/-- The digit beyond the 128. -/
def topd (r : Nat) : Int := hi r / 9223372036854775808
theorem topd_eq (r : Nat) : hi r / 9223372036854775808 = topd r := rfl
theorem topd_1 {r : Nat} (h : r < big) : topd r = 0 ∧ 2 * r + 1 < big ∨ topd r = 1 ∧ big ≤ 2 * r := by unfold topd hi big at *; omega
theorem or_one {q : Nat} : bits BinOp.or IntKind.u64 (lo (dbl q 0)) 1 = lo (dbl q 1) := by
  rw [← dbl_lo0, dbl_lo (by omega) (by omega)]
theorem hi_one {q : Nat} : hi (dbl q 0) = hi (dbl q 1) := by unfold hi dbl big; omega
/-- The difference without borrow out. -/
def subw (x b : Nat) : Nat := (x + big - b) % big
theorem subw_lo {x b : Nat} (hx : x < big) (hb : b < big) : (lo x - lo b) % 18446744073709551616 = lo (subw x b) := by unfold lo subw big at *; omega
theorem subw_hi {x b : Nat} (hx : x < big) (hb : b < big) : (hi x - hi b - bor (lo x) (lo b)) % 18446744073709551616 = hi (subw x b) := by unfold hi lo subw bor big at *; split <;> omega

/-- The number of binary digits. -/
def blen (a : Nat) : Nat := if a / 18446744073709551616 = 0 then Lib.bitLen (a % 18446744073709551616) else 64 + Lib.bitLen (a / 18446744073709551616)
theorem bitLen_bound : ∀ (f x : Nat), x < 2 ^ f → x < 2 ^ Lib.bitLenAux f x
  | 0, x, h => by simpa [Lib.bitLenAux] using h
  | f + 1, x, h => by
    unfold Lib.bitLenAux
    by_cases hx : x = 0
    · simp [hx]
    · rw [if_neg hx, Nat.add_comm, Nat.pow_succ]
      have := bitLen_bound f (x / 2) (by rw [Nat.pow_succ] at h; omega)
      omega
theorem bitLen_max (x : Nat) (h : x < 18446744073709551616) : Lib.bitLen x ≤ 64 := Lib.bitLenAux_le 64 x 64 (by simpa using h)
theorem blen_le {a : Nat} (h : a < big) : blen a ≤ 128 := by
  unfold blen big at *
  have := bitLen_max (a % 18446744073709551616) (by omega)
  have := bitLen_max (a / 18446744073709551616) (by omega)
  split <;> omega
theorem lt_blen {a : Nat} (h : a < big) : a < 2 ^ blen a := by
  unfold blen
  unfold big at h
  split
  · have := bitLen_bound 64 (a % 18446744073709551616) (by omega)
    unfold Lib.bitLen
    omega
  · have := bitLen_bound 64 (a / 18446744073709551616) (by omega)
    rw [Nat.pow_add]
    unfold Lib.bitLen
    generalize 2 ^ Lib.bitLenAux 64 (a / 18446744073709551616) = z at *
    omega

/-- The number of binary digits of a word. -/
def lenw (x : Int) : Int := Lib.bitLen x.toNat
theorem lenw_0 (x : Int) : 0 ≤ lenw x := by unfold lenw; omega
theorem lenw_64 {x : Int} (h : x < 18446744073709551616) : lenw x ≤ 64 := by have := bitLen_max x.toNat (by omega); unfold lenw; omega
/-- The number of binary digits, as an integer. -/
def blenI (a : Nat) : Int := blen a
theorem blenI_lo {a : Nat} (h : a / 18446744073709551616 = 0) : blenI a = lenw (lo a) := by unfold blenI lenw blen; rw [if_pos h, lo_toNat]
theorem blenI_hi {a : Nat} (h : ¬ a / 18446744073709551616 = 0) : blenI a = 64 + lenw (hi a) := by unfold blenI lenw blen; rw [if_neg h, hi_toNat]; omega

/-- Division with k digits still to come: the quotient and the remainder so far. -/
def qat (a b k : Nat) : Nat := a / 2 ^ k / b
def rat (a b k : Nat) : Nat := a / 2 ^ k % b
theorem half_step (a k : Nat) : a / 2 ^ k = 2 * (a / 2 ^ (k + 1)) + (dig a k).toNat := by
  unfold dig
  rw [Nat.pow_succ, ← Nat.div_div_eq_div_mul]
  omega
theorem qat_le (a b k : Nat) : qat a b k ≤ a := Nat.le_trans (Nat.div_le_self _ _) (Nat.div_le_self _ _)
theorem rat_lt {a b k : Nat} (hb : b ≠ 0) : rat a b k < b := Nat.mod_lt _ (by omega)
theorem qat_start {a b k : Nat} (h : a < 2 ^ k) : qat a b k = 0 := by unfold qat; rw [Nat.div_eq_of_lt h, Nat.zero_div]
theorem rat_start {a b k : Nat} (h : a < 2 ^ k) : rat a b k = 0 := by unfold rat; rw [Nat.div_eq_of_lt h, Nat.zero_mod]
theorem div_mod_of {x b c d : Nat} (e : x = c * b + d) (h : d < b) : x / b = c ∧ x % b = d := by
  subst e
  rw [Nat.mul_comm, Nat.mul_add_div (by omega), Nat.mul_add_mod, Nat.div_eq_of_lt h, Nat.mod_eq_of_lt h]
  omega
/-- The digit is 1. -/
theorem step_one {a b k : Nat} (ha : a < big) (hb : b ≠ 0) (hbb : b < big) (h : b ≤ 2 * rat a b (k + 1) + (dig a k).toNat) :
    subw (dbl (rat a b (k + 1)) (dig a k)) b = rat a b k ∧ dbl (qat a b (k + 1)) 1 = qat a b k := by
  have hr := rat_lt (a := a) (k := k + 1) hb
  have hs := half_step a k
  have hd := dig_1 a k
  have hm := Nat.div_add_mod (a / 2 ^ (k + 1)) b
  have hq : a / 2 ^ k / b = 2 * qat a b (k + 1) + 1 ∧ a / 2 ^ k % b = 2 * rat a b (k + 1) + (dig a k).toNat - b := by
    unfold qat rat at *
    have e : a / 2 ^ k = (2 * (a / 2 ^ (k + 1) / b) + 1) * b + (2 * (a / 2 ^ (k + 1) % b) + (dig a k).toNat - b) := by
      rw [hs, Nat.add_mul, Nat.mul_assoc, Nat.mul_comm (a / 2 ^ (k + 1) / b) b]
      omega
    exact div_mod_of e (by omega)
  have hle := qat_le a b k
  have h1 : rat a b k = _ := hq.2
  have h2 : qat a b k = _ := hq.1
  rw [h2] at hle
  rw [h1, h2]
  generalize rat a b (k + 1) = r at *
  generalize qat a b (k + 1) = q at *
  generalize dig a k = d at *
  clear hq h1 h2 hm hs
  unfold subw dbl big at *
  omega
/-- The digit is 0. -/
theorem step_none {a b k : Nat} (ha : a < big) (hbb : b < big) (h : 2 * rat a b (k + 1) + (dig a k).toNat < b) :
    dbl (rat a b (k + 1)) (dig a k) = rat a b k ∧ dbl (qat a b (k + 1)) 0 = qat a b k := by
  have hs := half_step a k
  have hm := Nat.div_add_mod (a / 2 ^ (k + 1)) b
  have hq : a / 2 ^ k / b = 2 * qat a b (k + 1) ∧ a / 2 ^ k % b = 2 * rat a b (k + 1) + (dig a k).toNat := by
    unfold qat rat at *
    have e : a / 2 ^ k = (2 * (a / 2 ^ (k + 1) / b)) * b + (2 * (a / 2 ^ (k + 1) % b) + (dig a k).toNat) := by
      rw [hs, Nat.mul_assoc, Nat.mul_comm (a / 2 ^ (k + 1) / b) b]
      omega
    exact div_mod_of e h
  have hle := qat_le a b k
  have h1 : rat a b k = _ := hq.2
  have h2 : qat a b k = _ := hq.1
  rw [h2] at hle
  rw [h1, h2]
  generalize rat a b (k + 1) = r at *
  generalize qat a b (k + 1) = q at *
  generalize dig a k = d at *
  clear hq h1 h2 hm hs
  unfold dbl big at *
  omega
/-- Which of the two the program takes. -/
theorem takes {a b k : Nat} (hb : b ≠ 0) (hbb : b < big) : (topd (rat a b (k + 1)) = 1 ∨ (topd (rat a b (k + 1)) = 0 ∧ b ≤ dbl (rat a b (k + 1)) (dig a k))) ∧ b ≤ 2 * rat a b (k + 1) + (dig a k).toNat ∨
    (topd (rat a b (k + 1)) = 0 ∧ dbl (rat a b (k + 1)) (dig a k) < b) ∧ 2 * rat a b (k + 1) + (dig a k).toNat < b := by
  have hr := rat_lt (a := a) (k := k + 1) hb
  have hd := dig_1 a k
  have ht := topd_1 (r := rat a b (k + 1)) (by omega)
  have e : 2 * rat a b (k + 1) + 1 < big → dbl (rat a b (k + 1)) (dig a k) = 2 * rat a b (k + 1) + (dig a k).toNat := fun h => by unfold dbl; rw [Nat.mod_eq_of_lt]; omega
  omega
theorem blenI_0 (a : Nat) : 0 ≤ blenI a := by unfold blenI; omega
theorem blenI_128 {a : Nat} (h : a < big) : blenI a ≤ 128 := by have := blen_le h; unfold blenI; omega
theorem qat_0 (a b : Nat) : qat a b 0 = a / b := by unfold qat; simp
theorem rat_0 (a b : Nat) : rat a b 0 = a % b := by unfold rat; simp
theorem hi_0 : hi 0 = 0 := by decide
theorem lo_0 : lo 0 = 0 := by decide
end Go.Proofs.Ytaiepjcnncajcaa
end
section
/- Digits, doubles and lengths of wide numbers, walked: the program and the reference. -/
set_option linter.unusedVariables false
set_option linter.unusedSimpArgs false
set_option linter.unusedSectionVars false
set_option linter.unnecessarySimpa false
namespace Go.Proofs.Ytaiepjcnncajcaa
open Go.RowKit Go.Shelf

theorem pbit (a : Nat) (n : Int) (ha : a < big) (h0 : 0 ≤ n) (h1 : n < 128) (w : World) :
    Calls Try.prog 116 #[W a, .int .i64 n] w fun e w' => e = .returned (.int .u64 (dig a n.toNat)) ∧ Below w.heap.size w w' := by
  by_cases h : 64 ≤ n
  · have E := bit_hi_eq ha h
    obtain ⟨a1, a2⟩ := hi_word ha
    go_enter Try.func116, Try.ntmps116
    go_wp2
    go_ret
    exact ⟨rfl, (Below.refl _ _).alloc (Nat.le_refl _) _⟩
  · have E := bit_lo_eq (a := a) h0 (by omega)
    obtain ⟨a1, a2⟩ := lo_word a
    go_enter Try.func116, Try.ntmps116
    go_wp2
    go_ret
    exact ⟨rfl, (Below.refl _ _).alloc (Nat.le_refl _) _⟩
theorem rbit (a : Nat) (n : Int) (ha : a < big) (h0 : 0 ≤ n) (h1 : n < 128) (w : World) :
    Calls Try.prog 118 #[W a, .int .i64 n] w fun e w' => e = .returned (.int .u64 (dig a n.toNat)) ∧ Below w.heap.size w w' := by
  by_cases h : 64 ≤ n
  · have E := bit_hi_eq ha h
    obtain ⟨a1, a2⟩ := hi_word ha
    go_enter Try.func118, Try.ntmps118
    go_wp2
    go_ret
    exact ⟨rfl, (Below.refl _ _).alloc (Nat.le_refl _) _⟩
  · have E := bit_lo_eq (a := a) h0 (by omega)
    obtain ⟨a1, a2⟩ := lo_word a
    go_enter Try.func118, Try.ntmps118
    go_wp2
    go_ret
    exact ⟨rfl, (Below.refl _ _).alloc (Nat.le_refl _) _⟩
theorem rdouble (a : Nat) (b : Int) (ha : a < big) (hb : 0 ≤ b) (hb1 : b ≤ 1) (w : World) :
    Calls Try.prog 117 #[W a, .int .u64 b] w fun e w' => e = .returned (.tuple #[W (dbl a b), .int .u64 (topd a)]) ∧ Below w.heap.size w w' := by
  obtain ⟨a1, a2⟩ := hi_word ha
  obtain ⟨b1, b2⟩ := lo_word a
  have E1 := dbl_hi ha hb hb1
  have E2 := dbl_lo (r := a) hb hb1
  have E3 := topd_eq a
  go_enter Try.func117, Try.ntmps117
  go_wp2
  go_region
  go_wp2
  simp [bodyPost, results, Try.results117, go_sem]
  (repeat (first | exact Below.refl _ _ | refine Below.setCell ?_ (by first | (simp; done) | (simp; omega) | omega) _ | refine Below.alloc ?_ (by first | (simp; done) | (simp; omega) | omega) _ | refine Below.drew ?_ | refine Below.trans ?_ (Below.mono (by assumption) (by first | (simp; done) | (simp; omega) | omega))))
theorem lenw64 (x : Int) (w : World) (h0 : 0 ≤ x) (h1 : x < 18446744073709551616) :
    Calls Try.prog 84 #[.int .u64 x] w fun e w' => e = .returned (.int .i64 (lenw x)) ∧ w' = w := len64 x w h0 (by omega)
theorem pbits (a : Nat) (ha : a < big) (w : World) :
    Calls Try.prog 115 #[W a] w fun e w' => e = .returned (.int .i64 (blenI a)) ∧ Below w.heap.size w w' := by
  obtain ⟨a1, a2⟩ := hi_word ha
  obtain ⟨b1, b2⟩ := lo_word a
  by_cases h : a / 18446744073709551616 = 0
  · have e1 : hi a = 0 := by unfold hi; omega
    rw [blenI_lo h]
    clear h
    go_enter Try.func115, Try.ntmps115
    go_wp2_with (go_at_call 84; refine (lenw64 (lo a) _ b1 b2).mono ?_; rintro e w' ⟨rfl, rfl⟩)
    go_ret
    exact ⟨rfl, (Below.refl _ _).alloc (Nat.le_refl _) _⟩
  · have e1 : (hi a != 0) = true := by rw [bne_iff_ne]; unfold hi; omega
    rw [blenI_hi h]
    clear h
    have e3 := lenw_64 a2
    have e4 := lenw_0 (hi a)
    go_enter Try.func115, Try.ntmps115
    go_wp2_with (go_at_call 84; refine (lenw64 (hi a) _ a1 a2).mono ?_; rintro e w' ⟨rfl, rfl⟩)
    go_ret
    exact ⟨rfl, (Below.refl _ _).alloc (Nat.le_refl _) _⟩
end Go.Proofs.Ytaiepjcnncajcaa
end
section
/- What memory holds while a long division runs. -/
set_option linter.unusedVariables false
set_option linter.unusedSimpArgs false
set_option linter.unusedSectionVars false
set_option linter.unnecessarySimpa false
namespace Go.Proofs.Ytaiepjcnncajcaa
open Go.RowKit
/-- The two words of a wide number. -/
abbrev Wc (n : Nat) : Array Value := #[.int .u64 (hi n), .int .u64 (lo n)]
/-- Block b holds a wide number. -/
abbrev WB (w : World) (b n : Nat) : Prop := Row w b 72 (Wc n)
/-- The blocks of a division: the two numbers, the two results (still 0), the quotient and the remainder so far. -/
structure DivS (w w' : World) (b0 b1 b2 b3 g0 g1 a b q r : Nat) : Prop where
  ra : WB w' b0 a
  rb : WB w' b1 b
  r2 : Row w' b2 72 #[.int .u64 0, .int .u64 0]
  r3 : Row w' b3 72 #[.int .u64 0, .int .u64 0]
  rq : WB w' g0 q
  rr : WB w' g1 r
  n0 : b0 ≠ g0
  n1 : b1 ≠ g0
  n2 : b2 ≠ g0
  n3 : b3 ≠ g0
  m0 : b0 ≠ g1
  m1 : b1 ≠ g1
  m2 : b2 ≠ g1
  m3 : b3 ≠ g1
  gg : g0 ≠ g1
  old : w.heap.size ≤ g0
  old1 : w.heap.size ≤ g1
  below : Below w.heap.size w w'
section
variable {w w' w'' : World} {b0 b1 b2 b3 g0 g1 a b q r : Nat}
theorem DivS.drew (h : DivS w w' b0 b1 b2 b3 g0 g1 a b q r) : DivS w w'.drew b0 b1 b2 b3 g0 g1 a b q r :=
  { ra := h.ra, rb := h.rb, r2 := h.r2, r3 := h.r3, rq := h.rq, rr := h.rr, n0 := h.n0, n1 := h.n1, n2 := h.n2, n3 := h.n3, m0 := h.m0, m1 := h.m1, m2 := h.m2, m3 := h.m3, gg := h.gg, old := h.old, old1 := h.old1, below := h.below.drew }
theorem DivS.call (h : DivS w w' b0 b1 b2 b3 g0 g1 a b q r) (k : Below w'.heap.size w' w'') : DivS w w'' b0 b1 b2 b3 g0 g1 a b q r :=
  { ra := row_call h.ra k, rb := row_call h.rb k, r2 := row_call h.r2 k, r3 := row_call h.r3 k, rq := row_call h.rq k, rr := row_call h.rr k, n0 := h.n0, n1 := h.n1, n2 := h.n2, n3 := h.n3, m0 := h.m0, m1 := h.m1, m2 := h.m2, m3 := h.m3, gg := h.gg, old := h.old, old1 := h.old1, below := h.below.trans (k.mono h.below.size) }
theorem DivS.setr (h : DivS w w' b0 b1 b2 b3 g0 g1 a b q r) (r' : Nat) : DivS w ((w'.setCell ⟨g1, 0, none⟩ (.int .u64 (hi r'))).setCell ⟨g1, 1, none⟩ (.int .u64 (lo r'))) b0 b1 b2 b3 g0 g1 a b q r' :=
  { ra := row_two_other h.ra h.m0, rb := row_two_other h.rb h.m1, r2 := row_two_other h.r2 h.m2, r3 := row_two_other h.r3 h.m3, rq := row_two_other h.rq h.gg, rr := row_two_set h.rr, n0 := h.n0, n1 := h.n1, n2 := h.n2, n3 := h.n3, m0 := h.m0, m1 := h.m1, m2 := h.m2, m3 := h.m3, gg := h.gg, old := h.old, old1 := h.old1, below := (h.below.setCell h.old1 _).setCell h.old1 _ }
theorem DivS.setq (h : DivS w w' b0 b1 b2 b3 g0 g1 a b q r) (q' : Nat) : DivS w ((w'.setCell ⟨g0, 0, none⟩ (.int .u64 (hi q'))).setCell ⟨g0, 1, none⟩ (.int .u64 (lo q'))) b0 b1 b2 b3 g0 g1 a b q' r :=
  { ra := row_two_other h.ra h.n0, rb := row_two_other h.rb h.n1, r2 := row_two_other h.r2 h.n2, r3 := row_two_other h.r3 h.n3, rq := row_two_set h.rq, rr := row_two_other h.rr h.gg.symm, n0 := h.n0, n1 := h.n1, n2 := h.n2, n3 := h.n3, m0 := h.m0, m1 := h.m1, m2 := h.m2, m3 := h.m3, gg := h.gg, old := h.old, old1 := h.old1, below := (h.below.setCell h.old _).setCell h.old _ }
theorem DivS.setq1 (h : DivS w w' b0 b1 b2 b3 g0 g1 a b q r) (q' : Nat) (e : hi q = hi q') : DivS w (w'.setCell ⟨g0, 1, none⟩ (.int .u64 (lo q'))) b0 b1 b2 b3 g0 g1 a b q' r :=
  { ra := row_other h.ra h.n0 _, rb := row_other h.rb h.n1 _, r2 := row_other h.r2 h.n2 _, r3 := row_other h.r3 h.n3 _, rq := (by have x := row_set h.rq 1 (.int .u64 (lo q')); unfold WB Wc; rw [← e]; exact x), rr := row_other h.rr h.gg.symm _, n0 := h.n0, n1 := h.n1, n2 := h.n2, n3 := h.n3, m0 := h.m0, m1 := h.m1, m2 := h.m2, m3 := h.m3, gg := h.gg, old := h.old, old1 := h.old1, below := h.below.setCell h.old _ }
end
end Go.Proofs.Ytaiepjcnncajcaa
end
section
/- The long division of the program, walked. -/
set_option linter.unusedVariables false
set_option linter.unusedSimpArgs false
set_option linter.unusedSectionVars false
set_option linter.unnecessarySimpa false
namespace Go.Proofs.Ytaiepjcnncajcaa
open Go.RowKit Go.Shelf
set_option maxHeartbeats 4000000 in
theorem pdiv_yes (a b : Nat) (ha : a < big) (hb : b < big) (h : b ≠ 0) (w : World) :
    Calls Try.prog 107 #[W a, W b] w fun e w' => e = .returned (.tuple #[W (a / b), W (a % b), .bool true]) ∧ Below w.heap.size w w' := by
  have hz : decide (b = 0) = false := by simpa using h
  have l0 := blenI_0 a
  have l1 := blenI_128 ha
  go_enter Try.func107, Try.ntmps107
  go_wp2_with (first | (go_at_call 112; refine (pzero b _).mono ?_; rintro e w1 ⟨rfl, hb1⟩; obtain ⟨hc1, hf1⟩ := bcell hb1; have hz1 := hb1.size; simp at hz1; have q1_0 : w.heap.size < w1.heap.size := (by omega); have q1_1 : w.heap.size + 1 < w1.heap.size := (by omega); have q1_2 : w.heap.size + 1 + 1 < w1.heap.size := (by omega); have q1_3 : w.heap.size + 1 + 1 + 1 < w1.heap.size := (by omega)) | (go_at_call 115; refine (pbits a ha _).mono ?_; rintro e w2 ⟨rfl, hb2⟩; obtain ⟨hc2, hf2⟩ := bcell hb2; have hz2 := hb2.size; simp at hz2; have q2_0 : w.heap.size < w2.heap.size := (by omega); have q2_1 : w.heap.size + 1 < w2.heap.size := (by omega); have q2_2 : w.heap.size + 1 + 1 < w2.heap.size := (by omega); have q2_3 : w.heap.size + 1 + 1 + 1 < w2.heap.size := (by omega); have q2_4 : w1.heap.size < w2.heap.size := (by omega); have q2_5 : w1.heap.size + 1 < w2.heap.size := (by omega)))
  have T0 := hi_0
  have T1 := lo_0
  have L : DivS w w2 (w.heap.size) (w.heap.size + 1) (w.heap.size + 1 + 1) (w.heap.size + 1 + 1 + 1) (w1.heap.size) (w1.heap.size + 1) a b 0 0 := by
    have j0 : Row w1 (w.heap.size) 72 (Wc a) := row_call (by (repeat (first | assumption | (refine row_new ?_; (first | (simp; done) | omega)) | refine row_alloc ?_ _ | refine row_drew ?_ | refine row_call ?_ (by assumption)))) hb1
    have j1 : Row w1 (w.heap.size + 1) 72 (Wc b) := row_call (by (repeat (first | assumption | (refine row_new ?_; (first | (simp; done) | omega)) | refine row_alloc ?_ _ | refine row_drew ?_ | refine row_call ?_ (by assumption)))) hb1
    have j2 : Row w1 (w.heap.size + 1 + 1) 72 #[.int .u64 0, .int .u64 0] := row_call (by (repeat (first | assumption | (refine row_new ?_; (first | (simp; done) | omega)) | refine row_alloc ?_ _ | refine row_drew ?_ | refine row_call ?_ (by assumption)))) hb1
    have j3 : Row w1 (w.heap.size + 1 + 1 + 1) 72 #[.int .u64 0, .int .u64 0] := row_call (by (repeat (first | assumption | (refine row_new ?_; (first | (simp; done) | omega)) | refine row_alloc ?_ _ | refine row_drew ?_ | refine row_call ?_ (by assumption)))) hb1
    have o2 : Below w.heap.size w w2 := by (repeat (first | exact Below.refl _ _ | refine Below.setCell ?_ (by first | (simp; done) | (simp; omega) | omega) _ | refine Below.alloc ?_ (by first | (simp; done) | (simp; omega) | omega) _ | refine Below.drew ?_ | refine Below.trans ?_ (Below.mono (by assumption) (by first | (simp; done) | (simp; omega) | omega))))
    refine ⟨row_call (by (repeat (first | assumption | (refine row_new ?_; (first | (simp; done) | omega)) | refine row_alloc ?_ _ | refine row_drew ?_ | refine row_call ?_ (by assumption)))) hb2, row_call (by (repeat (first | assumption | (refine row_new ?_; (first | (simp; done) | omega)) | refine row_alloc ?_ _ | refine row_drew ?_ | refine row_call ?_ (by assumption)))) hb2, row_call (by (repeat (first | assumption | (refine row_new ?_; (first | (simp; done) | omega)) | refine row_alloc ?_ _ | refine row_drew ?_ | refine row_call ?_ (by assumption)))) hb2, row_call (by (repeat (first | assumption | (refine row_new ?_; (first | (simp; done) | omega)) | refine row_alloc ?_ _ | refine row_drew ?_ | refine row_call ?_ (by assumption)))) hb2, row_call (w := (w1.alloc (.cells #[.int .u64 0, .int .u64 0] 72)).alloc (.cells #[.int .u64 0, .int .u64 0] 72)) ?_ hb2, row_call (w := (w1.alloc (.cells #[.int .u64 0, .int .u64 0] 72)).alloc (.cells #[.int .u64 0, .int .u64 0] 72)) ?_ hb2, by omega, by omega, by omega, by omega, by omega, by omega, by omega, by omega, by omega, by omega, by omega, o2⟩
    · rw [Wc, T0, T1]
      (repeat (first | assumption | (refine row_new ?_; (first | (simp; done) | omega)) | refine row_alloc ?_ _ | refine row_drew ?_ | refine row_call ?_ (by assumption)))
    · rw [Wc, T0, T1]
      (repeat (first | assumption | (refine row_new ?_; (first | (simp; done) | omega)) | refine row_alloc ?_ _ | refine row_drew ?_ | refine row_call ?_ (by assumption)))
  clear T0 T1 hc1 hf1 hc2 hf2 hb1 hb2
  go_loopw [9] (fun i wr => ∃ n : Nat, n ≤ blen a ∧ i = .int .i64 ((n : Int) - 1) ∧ DivS w wr (w.heap.size) (w.heap.size + 1) (w.heap.size + 1 + 1) (w.heap.size + 1 + 1 + 1) (w1.heap.size) (w1.heap.size + 1) a b (qat a b n) (rat a b n)) (fun i _ => (intOf i + 1).toNat)
  case atStart =>
    refine ⟨blen a, Nat.le_refl _, rfl, ?_⟩
    rw [qat_start (lt_blen ha), rat_start (lt_blen ha)]
    exact L
  case round =>
    clear L
    obtain ⟨n, hn, rfl, L⟩ := hrel
    rcases n with _ | k
    · rw [qat_0, rat_0] at L
      obtain ⟨A0, A1, _, _⟩ := row_two L.ra; obtain ⟨B0, B1, _, _⟩ := row_two L.rb; obtain ⟨Q0, Q1, U0, U1⟩ := row_two L.rq; obtain ⟨R0, R1, V0, V1⟩ := row_two L.rr
      obtain ⟨Z0, Z1, Z2, Z3⟩ := row_two L.r2
      obtain ⟨Y0, Y1, Y2, Y3⟩ := row_two L.r3
      have hx := L.below
      go_wp2
      go_region
      go_wp2
      simp [bodyPost, results, Try.results107, go_sem, Z0, Z1, Y0, Y1]
      (repeat (first | exact Below.refl _ _ | refine Below.setCell ?_ (by first | (simp; done) | (simp; omega) | omega) _ | refine Below.alloc ?_ (by first | (simp; done) | (simp; omega) | omega) _ | refine Below.drew ?_ | refine Below.trans ?_ (Below.mono (by assumption) (by first | (simp; done) | (simp; omega) | omega))))
    · have ei : (((k + 1 : Nat) : Int) - 1) = (k : Int) := by omega
      have C := pbit a k ha (by omega) (by have := blen_le ha; omega)
      rw [Int.toNat_natCast] at C
      rw [ei]
      have hk : k < 128 := by have := blen_le ha; omega
      have D0 := dig_0 a k
      have D1 := dig_1 a k
      have hrb : rat a b (k + 1) < big := Nat.lt_trans (rat_lt h) hb
      have hkn : k ≤ blen a := by omega
      have hqb : qat a b (k + 1) < big := Nat.lt_of_le_of_lt (qat_le a b (k + 1)) ha
      have HT := Lib.hid (takes (a := a) (k := k) h hb)
      have HE1 := Lib.hid (fun hge => step_one (k := k) ha h hb hge)
      have HE0 := Lib.hid (fun hlt => step_none (b := b) (k := k) ha hb hlt)
      generalize rat a b (k + 1) = r at *
      generalize qat a b (k + 1) = q at *
      have F1 := dbl_hi hrb D0 D1
      have F2 := dbl_lo (r := r) D0 D1
      have F3 := topd_eq r
      have F4 := dbl_hi (d := 0) hqb (by omega) (by omega)
      have F5 := dbl_lo0 q
      have HC := Lib.hid C
      clear ei C
      obtain ⟨A0, A1, _, _⟩ := row_two L.ra; obtain ⟨B0, B1, _, _⟩ := row_two L.rb; obtain ⟨Q0, Q1, U0, U1⟩ := row_two L.rq; obtain ⟨R0, R1, V0, V1⟩ := row_two L.rr
      go_upto_region 8 with (fail)
      refine wp_region_det 15 (fun w' => DivS w w' (w.heap.size) (w.heap.size + 1) (w.heap.size + 1 + 1) (w.heap.size + 1 + 1 + 1) (w1.heap.size) (w1.heap.size + 1) a b q r) (by kernel_rfl) (by kernel_rfl) L.drew ?_
      simp only [List.take_succ_cons, List.take_zero, List.drop_succ_cons, List.drop_zero]
      clear A0 A1 B0 B1 Q0 Q1 U0 U1 R0 R1 V0 V1
      repeat (first | refine wpDet_nil ?_ | (refine wpDet_val ?_ rfl (fun w' hS => ?_) ?_; rotate_left; (obtain ⟨A0, A1, _, _⟩ := row_two hS.ra; obtain ⟨B0, B1, _, _⟩ := row_two hS.rb; obtain ⟨Q0, Q1, U0, U1⟩ := row_two hS.rq; obtain ⟨R0, R1, V0, V1⟩ := row_two hS.rr; go_simp; try with_reducible rfl); simp only [Act.put, List.setIfInBounds_toArray, List.set_cons_zero, List.set_cons_succ]))
      refine wpDet_call (.int .u64 (dig a k)) 116 #[W a, .int .i64 k] rfl (fun w' hS => by go_simp) (fun w' hS => (HC.out w').mono fun e w'' ⟨he, hb⟩ => ⟨he, hS.call hb⟩) ?_
      simp only [Act.put, List.setIfInBounds_toArray, List.set_cons_zero, List.set_cons_succ]
      repeat (first | refine wpDet_nil ?_ | (refine wpDet_val ?_ rfl (fun w' hS => ?_) ?_; rotate_left; (obtain ⟨A0, A1, _, _⟩ := row_two hS.ra; obtain ⟨B0, B1, _, _⟩ := row_two hS.rb; obtain ⟨Q0, Q1, U0, U1⟩ := row_two hS.rq; obtain ⟨R0, R1, V0, V1⟩ := row_two hS.rr; go_simp; try with_reducible rfl); simp only [Act.put, List.setIfInBounds_toArray, List.set_cons_zero, List.set_cons_succ]))
      intro w3 L3
      clear L
      obtain ⟨A0, A1, _, _⟩ := row_two L3.ra; obtain ⟨B0, B1, _, _⟩ := row_two L3.rb; obtain ⟨Q0, Q1, U0, U1⟩ := row_two L3.rq; obtain ⟨R0, R1, V0, V1⟩ := row_two L3.rr
      go_upto_region 9 with (fail)
      clear A0 A1 B0 B1 Q0 Q1 U0 U1 R0 R1 V0 V1
      have L4 := L3.setr (dbl r (dig a k))
      generalize (w3.setCell ⟨w1.heap.size + 1, 0, none⟩ (.int .u64 (hi (dbl r (dig a k))))).setCell ⟨w1.heap.size + 1, 1, none⟩ (.int .u64 (lo (dbl r (dig a k)))) = w4 at L4 ⊢
      clear L3
      obtain ⟨A0, A1, _, _⟩ := row_two L4.ra; obtain ⟨B0, B1, _, _⟩ := row_two L4.rb; obtain ⟨Q0, Q1, U0, U1⟩ := row_two L4.rq; obtain ⟨R0, R1, V0, V1⟩ := row_two L4.rr
      go_upto_region 10 with (fail)
      clear A0 A1 B0 B1 Q0 Q1 U0 U1 R0 R1 V0 V1 F1 F2 F4
      have L5 := L4.setq (dbl q 0)
      generalize (w4.setCell ⟨w1.heap.size, 0, none⟩ (.int .u64 (hi (dbl q 0)))).setCell ⟨w1.heap.size, 1, none⟩ (.int .u64 (lo (dbl q 0))) = w5 at L5 ⊢
      clear L4 F3 F5
      have hxb := dbl_lt r (dig a k)
      generalize dbl r (dig a k) = x at *
      obtain ⟨A0, A1, _, _⟩ := row_two L5.ra; obtain ⟨B0, B1, _, _⟩ := row_two L5.rb; obtain ⟨Q0, Q1, U0, U1⟩ := row_two L5.rq; obtain ⟨R0, R1, V0, V1⟩ := row_two L5.rr
      have KK : {x0 : Nat // x0 = 0} := ⟨0, rfl⟩
      clear KK
      have S1 := subw_lo hxb hb
      have S2 := subw_hi hxb hb
      have S5 := @or_one q
      obtain ⟨e1, e2⟩ := hi_word hxb
      obtain ⟨e3, e4⟩ := lo_word x
      obtain ⟨e5, e6⟩ := hi_word hb
      obtain ⟨e7, e8⟩ := lo_word b
      have S3 := bor_0 (lo x) (lo b)
      have S4 := bor_1 (lo x) (lo b)
      have CM := Lib.hid (fun w' => pcmp_any x b w')
      rcases HT.out with ⟨ht, hge⟩ | ⟨⟨ht, hlt⟩, hnb⟩
      · obtain ⟨E1, E2⟩ := HE1.out hge
        have G1 := Lib.hid E1
        have G2 := Lib.hid E2
        clear E1 E2 hge HE1 HE0 HT
        rcases ht with ht | ⟨ht, hle⟩
        · go_upto_region 11 with (fail)
          go_upto_region 13 with (first | simp only [sub64_0 (lo x) (lo b) e3 e7 e8] | simp only [sub64 (hi x) (hi b) _ e1 e5 e6 S3 S4])
          clear A0 A1 B0 B1 Q0 Q1 U0 U1 R0 R1 V0 V1
          obtain ⟨A0, A1, _, _⟩ := row_two L5.ra; obtain ⟨B0, B1, _, _⟩ := row_two L5.rb; obtain ⟨Q0, Q1, U0, U1⟩ := row_two L5.rq; obtain ⟨R0, R1, V0, V1⟩ := row_two L5.rr
          go_upto_region 14 with (fail)
          have L7 := L5.setr (subw x b)
          generalize (w5.setCell ⟨w1.heap.size + 1, 0, none⟩ (.int .u64 (hi (subw x b)))).setCell ⟨w1.heap.size + 1, 1, none⟩ (.int .u64 (lo (subw x b))) = w7 at L7 ⊢
          clear L5 A0 A1 B0 B1 Q0 Q1 U0 U1 R0 R1 V0 V1 S1 S2 S3 S4
          obtain ⟨A0, A1, _, _⟩ := row_two L7.ra; obtain ⟨B0, B1, _, _⟩ := row_two L7.rb; obtain ⟨Q0, Q1, U0, U1⟩ := row_two L7.rq; obtain ⟨R0, R1, V0, V1⟩ := row_two L7.rr
          go_upto_region 6 with (fail)
          have L8 := L7.setq1 (dbl q 1) hi_one
          rw [G1.out, G2.out] at L8
          generalize hw8 : w7.setCell ⟨w1.heap.size, 1, none⟩ (.int .u64 (lo (dbl q 1))) = w8 at *
          rw [G2.out] at hw8
          rw [hw8] at L8
          clear L7 A0 A1 B0 B1 Q0 Q1 U0 U1 R0 R1 V0 V1 hw8
          go_wp2
          go_roundw
          case rel => exact ⟨k, hkn, by go_num, L8⟩
          case measure => first | (simp [intOf]; done) | (simp [intOf]; omega)
        · have hcm : ¬ cmp x b < 0 := by have := cmp_nonneg hle; omega
          go_upto_region 11 with ((go_at_call 52; refine (CM.out _).mono ?_; rintro e w6 ⟨rfl, hb6⟩))
          have L6 := L5.call hb6
          clear L5 A0 A1 B0 B1 Q0 Q1 U0 U1 R0 R1 V0 V1 hb6
          obtain ⟨w5, rfl⟩ : ∃ x : World, x = w6 := ⟨_, rfl⟩
          have L5 := L6
          clear L6
          obtain ⟨A0, A1, _, _⟩ := row_two L5.ra; obtain ⟨B0, B1, _, _⟩ := row_two L5.rb; obtain ⟨Q0, Q1, U0, U1⟩ := row_two L5.rq; obtain ⟨R0, R1, V0, V1⟩ := row_two L5.rr
          go_upto_region 13 with (first | simp only [sub64_0 (lo x) (lo b) e3 e7 e8] | simp only [sub64 (hi x) (hi b) _ e1 e5 e6 S3 S4])
          clear A0 A1 B0 B1 Q0 Q1 U0 U1 R0 R1 V0 V1
          obtain ⟨A0, A1, _, _⟩ := row_two L5.ra; obtain ⟨B0, B1, _, _⟩ := row_two L5.rb; obtain ⟨Q0, Q1, U0, U1⟩ := row_two L5.rq; obtain ⟨R0, R1, V0, V1⟩ := row_two L5.rr
          go_upto_region 14 with (fail)
          have L7 := L5.setr (subw x b)
          generalize (w5.setCell ⟨w1.heap.size + 1, 0, none⟩ (.int .u64 (hi (subw x b)))).setCell ⟨w1.heap.size + 1, 1, none⟩ (.int .u64 (lo (subw x b))) = w7 at L7 ⊢
          clear L5 A0 A1 B0 B1 Q0 Q1 U0 U1 R0 R1 V0 V1 S1 S2 S3 S4
          obtain ⟨A0, A1, _, _⟩ := row_two L7.ra; obtain ⟨B0, B1, _, _⟩ := row_two L7.rb; obtain ⟨Q0, Q1, U0, U1⟩ := row_two L7.rq; obtain ⟨R0, R1, V0, V1⟩ := row_two L7.rr
          go_upto_region 6 with (fail)
          have L8 := L7.setq1 (dbl q 1) hi_one
          rw [G1.out, G2.out] at L8
          generalize hw8 : w7.setCell ⟨w1.heap.size, 1, none⟩ (.int .u64 (lo (dbl q 1))) = w8 at *
          rw [G2.out] at hw8
          rw [hw8] at L8
          clear L7 A0 A1 B0 B1 Q0 Q1 U0 U1 R0 R1 V0 V1 hw8
          go_wp2
          go_roundw
          case rel => exact ⟨k, hkn, by go_num, L8⟩
          case measure => first | (simp [intOf]; done) | (simp [intOf]; omega)
      · have G3 := Lib.hid (HE0.out hnb)
        have CL := CM.out
        rw [cmp_lt hlt] at CL
        have CM := Lib.hid CL
        clear CL
        clear HE1 HE0 HT hnb hlt
        go_upto_region 6 with ((go_at_call 52; refine (CM.out _).mono ?_; rintro e w6 ⟨rfl, hb6⟩))
        have L6 := L5.call hb6
        rw [G3.out.1, G3.out.2] at L6
        clear L5 A0 A1 B0 B1 Q0 Q1 U0 U1 R0 R1 V0 V1 hb6
        go_wp2
        go_roundw
        case rel => exact ⟨k, hkn, by go_num, L6⟩
        case measure => first | (simp [intOf]; done) | (simp [intOf]; omega)
end Go.Proofs.Ytaiepjcnncajcaa
end
section
/- The long division of the reference, walked. -/
set_option linter.unusedVariables false
set_option linter.unusedSimpArgs false
set_option linter.unusedSectionVars false
set_option linter.unnecessarySimpa false
namespace Go.Proofs.Ytaiepjcnncajcaa
open Go.RowKit Go.Shelf
set_option maxHeartbeats 4000000 in
theorem rdiv_yes (a b : Nat) (ha : a < big) (hb : b < big) (h : b ≠ 0) (w : World) :
    Calls Try.prog 109 #[W a, W b] w fun e w' => e = .returned (.tuple #[W (a / b), W (a % b), .bool true]) ∧ Below w.heap.size w w' := by
  have hz : ∀ w' : World, (binOp .eql 72 (.agg #[.int .u64 (hi b), .int .u64 (lo b)]) (.agg #[.int .u64 0, .int .u64 0])).run Try.prog w' = .ok (.bool false) w' := fun w' => by
    go_simp
    exact fun h1 h2 => h (hi_inj (b := 0) h1 h2)
  go_enter Try.func109, Try.ntmps109
  go_upto_region 4 with (fail)
  have T0 := hi_0
  have T1 := lo_0
  have L : DivS w ((((((w.alloc (.cells (Wc a) 72)).alloc (.cells (Wc b) 72)).alloc (.cells #[.int .u64 0, .int .u64 0] 72)).alloc (.cells #[.int .u64 0, .int .u64 0] 72)).alloc (.cells #[.int .u64 0, .int .u64 0] 72)).alloc (.cells #[.int .u64 0, .int .u64 0] 72)) (w.heap.size) (w.heap.size + 1) (w.heap.size + 1 + 1) (w.heap.size + 1 + 1 + 1) (w.heap.size + 1 + 1 + 1 + 1) (w.heap.size + 1 + 1 + 1 + 1 + 1) a b 0 0 := by
    refine ⟨by (repeat (first | assumption | (refine row_new ?_; (first | (simp; done) | omega)) | refine row_alloc ?_ _ | refine row_drew ?_ | refine row_call ?_ (by assumption))), by (repeat (first | assumption | (refine row_new ?_; (first | (simp; done) | omega)) | refine row_alloc ?_ _ | refine row_drew ?_ | refine row_call ?_ (by assumption))), by (repeat (first | assumption | (refine row_new ?_; (first | (simp; done) | omega)) | refine row_alloc ?_ _ | refine row_drew ?_ | refine row_call ?_ (by assumption))), by (repeat (first | assumption | (refine row_new ?_; (first | (simp; done) | omega)) | refine row_alloc ?_ _ | refine row_drew ?_ | refine row_call ?_ (by assumption))), by unfold WB Wc; rw [T0, T1]; (repeat (first | assumption | (refine row_new ?_; (first | (simp; done) | omega)) | refine row_alloc ?_ _ | refine row_drew ?_ | refine row_call ?_ (by assumption))), by unfold WB Wc; rw [T0, T1]; (repeat (first | assumption | (refine row_new ?_; (first | (simp; done) | omega)) | refine row_alloc ?_ _ | refine row_drew ?_ | refine row_call ?_ (by assumption))), by omega, by omega, by omega, by omega, by omega, by omega, by omega, by omega, by omega, by omega, by omega, by (repeat (first | exact Below.refl _ _ | refine Below.setCell ?_ (by first | (simp; done) | (simp; omega) | omega) _ | refine Below.alloc ?_ (by first | (simp; done) | (simp; omega) | omega) _ | refine Below.drew ?_ | refine Below.trans ?_ (Below.mono (by assumption) (by first | (simp; done) | (simp; omega) | omega))))⟩
  generalize ((((((w.alloc (.cells (Wc a) 72)).alloc (.cells (Wc b) 72)).alloc (.cells #[.int .u64 0, .int .u64 0] 72)).alloc (.cells #[.int .u64 0, .int .u64 0] 72)).alloc (.cells #[.int .u64 0, .int .u64 0] 72)).alloc (.cells #[.int .u64 0, .int .u64 0] 72)) = w2 at L ⊢
  clear T0 T1 hz
  go_wp2_with fail
  go_loopw [9] (fun i wr => ∃ n : Nat, n ≤ 128 ∧ i = .int .i64 ((n : Int) - 1) ∧ DivS w wr (w.heap.size) (w.heap.size + 1) (w.heap.size + 1 + 1) (w.heap.size + 1 + 1 + 1) (w.heap.size + 1 + 1 + 1 + 1) (w.heap.size + 1 + 1 + 1 + 1 + 1) a b (qat a b n) (rat a b n)) (fun i _ => (intOf i + 1).toNat)
  case atStart =>
    refine ⟨128, Nat.le_refl _, rfl, ?_⟩
    have h128 : a < 2 ^ 128 := Nat.lt_of_lt_of_le ha (by decide)
    rw [qat_start h128, rat_start h128]
    exact L
  case round =>
    clear L
    obtain ⟨n, hn, rfl, L⟩ := hrel
    rcases n with _ | k
    · rw [qat_0, rat_0] at L
      obtain ⟨A0, A1, _, _⟩ := row_two L.ra; obtain ⟨B0, B1, _, _⟩ := row_two L.rb; obtain ⟨Q0, Q1, U0, U1⟩ := row_two L.rq; obtain ⟨R0, R1, V0, V1⟩ := row_two L.rr
      obtain ⟨Z0, Z1, Z2, Z3⟩ := row_two L.r2
      obtain ⟨Y0, Y1, Y2, Y3⟩ := row_two L.r3
      have hx := L.below
      go_wp2
      go_region
      go_wp2
      simp [bodyPost, results, Try.results109, go_sem, Z0, Z1, Y0, Y1]
      (repeat (first | exact Below.refl _ _ | refine Below.setCell ?_ (by first | (simp; done) | (simp; omega) | omega) _ | refine Below.alloc ?_ (by first | (simp; done) | (simp; omega) | omega) _ | refine Below.drew ?_ | refine Below.trans ?_ (Below.mono (by assumption) (by first | (simp; done) | (simp; omega) | omega))))
    · have ei : (((k + 1 : Nat) : Int) - 1) = (k : Int) := by omega
      have C := rbit a k ha (by omega) (by omega)
      rw [Int.toNat_natCast] at C
      rw [ei]
      have hk : k < 128 := by omega
      have D0 := dig_0 a k
      have D1 := dig_1 a k
      have hrb : rat a b (k + 1) < big := Nat.lt_trans (rat_lt h) hb
      have hkn : k ≤ 128 := by omega
      have hqb : qat a b (k + 1) < big := Nat.lt_of_le_of_lt (qat_le a b (k + 1)) ha
      have HT := Lib.hid (takes (a := a) (k := k) h hb)
      have HE1 := Lib.hid (fun hge => step_one (k := k) ha h hb hge)
      have HE0 := Lib.hid (fun hlt => step_none (b := b) (k := k) ha hb hlt)
      generalize rat a b (k + 1) = r at *
      generalize qat a b (k + 1) = q at *
      have HC := Lib.hid C
      clear ei C hn
      obtain ⟨A0, A1, _, _⟩ := row_two L.ra; obtain ⟨B0, B1, _, _⟩ := row_two L.rb; obtain ⟨Q0, Q1, U0, U1⟩ := row_two L.rq; obtain ⟨R0, R1, V0, V1⟩ := row_two L.rr
      go_upto_region 8 with (fail)
      clear A0 A1 B0 B1 Q0 Q1 U0 U1 R0 R1 V0 V1
      refine wp_region_free0 [0, 1, 2, 3, 4, 5, 7, 6] [7] [0, 1, 2, 3, 4, 5, 6] 8 (fun w' => DivS w w' (w.heap.size) (w.heap.size + 1) (w.heap.size + 1 + 1) (w.heap.size + 1 + 1 + 1) (w.heap.size + 1 + 1 + 1 + 1) (w.heap.size + 1 + 1 + 1 + 1 + 1) a b q r) (by kernel_rfl) (by kernel_rfl) (fun _ _ d _ _ h => by cases d <;> exact h) ?_ ?_
      · exact L.drew
      (refine plan_val ?_ rfl rfl rfl (fun w' hS => ?_) ?_; rotate_left; (obtain ⟨A0, A1, _, _⟩ := row_two hS.ra; obtain ⟨B0, B1, _, _⟩ := row_two hS.rb; obtain ⟨Q0, Q1, U0, U1⟩ := row_two hS.rq; obtain ⟨R0, R1, V0, V1⟩ := row_two hS.rr; go_simp; try with_reducible rfl); simp only [Act.put, List.setIfInBounds_toArray, List.set_cons_zero, List.set_cons_succ])
      (refine plan_val ?_ rfl rfl rfl (fun w' hS => ?_) ?_; rotate_left; (obtain ⟨A0, A1, _, _⟩ := row_two hS.ra; obtain ⟨B0, B1, _, _⟩ := row_two hS.rb; obtain ⟨Q0, Q1, U0, U1⟩ := row_two hS.rq; obtain ⟨R0, R1, V0, V1⟩ := row_two hS.rr; go_simp; try with_reducible rfl); simp only [Act.put, List.setIfInBounds_toArray, List.set_cons_zero, List.set_cons_succ])
      (refine plan_pure ?_ rfl rfl (fun w' => ?_) ?_; rotate_left; (go_simp; try with_reducible rfl); simp only [Act.put, List.setIfInBounds_toArray, List.set_cons_zero, List.set_cons_succ])
      refine plan_call (.int .u64 (dig a k)) 118 #[W a, .int .i64 k] rfl rfl rfl (fun w' w'' h hb => h.call hb) (fun w' hS => by obtain ⟨A0, A1, _, _⟩ := row_two hS.ra; obtain ⟨B0, B1, _, _⟩ := row_two hS.rb; obtain ⟨Q0, Q1, U0, U1⟩ := row_two hS.rq; obtain ⟨R0, R1, V0, V1⟩ := row_two hS.rr; go_simp) (fun w' hS => (HC.out w')) ?_
      simp only [Act.put, List.setIfInBounds_toArray, List.set_cons_zero, List.set_cons_succ]
      refine plan_call (.tuple #[W (dbl r (dig a k)), .int .u64 (topd r)]) 117 #[W r, .int .u64 (dig a k)] rfl rfl rfl (fun w' w'' h hb => h.call hb) (fun w' hS => by obtain ⟨A0, A1, _, _⟩ := row_two hS.ra; obtain ⟨B0, B1, _, _⟩ := row_two hS.rb; obtain ⟨Q0, Q1, U0, U1⟩ := row_two hS.rq; obtain ⟨R0, R1, V0, V1⟩ := row_two hS.rr; go_simp) (fun w' hS => rdouble r (dig a k) hrb D0 D1 w') ?_
      simp only [Act.put, List.setIfInBounds_toArray, List.set_cons_zero, List.set_cons_succ]
      (refine plan_pure ?_ rfl rfl (fun w' => ?_) ?_; rotate_left; (go_simp; try with_reducible rfl); simp only [Act.put, List.setIfInBounds_toArray, List.set_cons_zero, List.set_cons_succ])
      (refine plan_pure ?_ rfl rfl (fun w' => ?_) ?_; rotate_left; (go_simp; try with_reducible rfl); simp only [Act.put, List.setIfInBounds_toArray, List.set_cons_zero, List.set_cons_succ])
      (refine plan_pure ?_ rfl rfl (fun w' => ?_) ?_; rotate_left; (go_simp; try with_reducible rfl); simp only [Act.put, List.setIfInBounds_toArray, List.set_cons_zero, List.set_cons_succ])
      refine plan_nil ?_
      intro w3 L3
      simp only [List.drop_succ_cons, List.drop_zero]
      try simp only [Act.put, List.setIfInBounds_toArray, List.set_cons_zero, List.set_cons_succ]
      clear L
      obtain ⟨A0, A1, _, _⟩ := row_two L3.ra; obtain ⟨B0, B1, _, _⟩ := row_two L3.rb; obtain ⟨Q0, Q1, U0, U1⟩ := row_two L3.rq; obtain ⟨R0, R1, V0, V1⟩ := row_two L3.rr
      go_upto_region 9 with (fail)
      clear A0 A1 B0 B1 Q0 Q1 U0 U1 R0 R1 V0 V1
      have L5 := L3.setr (dbl r (dig a k))
      generalize (w3.setCell ⟨w.heap.size + 1 + 1 + 1 + 1 + 1, 0, none⟩ (.int .u64 (hi (dbl r (dig a k))))).setCell ⟨w.heap.size + 1 + 1 + 1 + 1 + 1, 1, none⟩ (.int .u64 (lo (dbl r (dig a k)))) = w5 at L5 ⊢
      clear L3
      have hxb := dbl_lt r (dig a k)
      generalize dbl r (dig a k) = x at *
      obtain ⟨A0, A1, _, _⟩ := row_two L5.ra; obtain ⟨B0, B1, _, _⟩ := row_two L5.rb; obtain ⟨Q0, Q1, U0, U1⟩ := row_two L5.rq; obtain ⟨R0, R1, V0, V1⟩ := row_two L5.rr
      have S1 := subw_lo hxb hb
      have S2 := subw_hi hxb hb
      obtain ⟨e1, e2⟩ := hi_word hxb
      obtain ⟨e3, e4⟩ := lo_word x
      obtain ⟨e5, e6⟩ := hi_word hb
      obtain ⟨e7, e8⟩ := lo_word b
      have S3 := bor_0 (lo x) (lo b)
      have S4 := bor_1 (lo x) (lo b)
      rcases HT.out with ⟨ht, hge⟩ | ⟨⟨ht, hlt⟩, hnb⟩
      · obtain ⟨E1, E2⟩ := HE1.out hge
        have G1 := Lib.hid E1
        have G2 := Lib.hid E2
        have DB := Lib.hid (fun w' => rdouble q 1 hqb (by omega) (by omega) w')
        clear E1 E2 hge HE1 HE0 HT HC D0 D1
        rcases ht with ht | ⟨ht, hle⟩
        · go_upto_region 11 with (fail)
          go_upto_region 13 with (first | simp only [sub64_0 (lo x) (lo b) e3 e7 e8] | simp only [sub64 (hi x) (hi b) _ e1 e5 e6 S3 S4])
          clear A0 A1 B0 B1 Q0 Q1 U0 U1 R0 R1 V0 V1
          obtain ⟨A0, A1, _, _⟩ := row_two L5.ra; obtain ⟨B0, B1, _, _⟩ := row_two L5.rb; obtain ⟨Q0, Q1, U0, U1⟩ := row_two L5.rq; obtain ⟨R0, R1, V0, V1⟩ := row_two L5.rr
          go_upto_region 14 with (fail)
          have L7 := L5.setr (subw x b)
          generalize (w5.setCell ⟨w.heap.size + 1 + 1 + 1 + 1 + 1, 0, none⟩ (.int .u64 (hi (subw x b)))).setCell ⟨w.heap.size + 1 + 1 + 1 + 1 + 1, 1, none⟩ (.int .u64 (lo (subw x b))) = w7 at L7 ⊢
          clear L5 A0 A1 B0 B1 Q0 Q1 U0 U1 R0 R1 V0 V1 S1 S2 S3 S4
          obtain ⟨A0, A1, _, _⟩ := row_two L7.ra; obtain ⟨B0, B1, _, _⟩ := row_two L7.rb; obtain ⟨Q0, Q1, U0, U1⟩ := row_two L7.rq; obtain ⟨R0, R1, V0, V1⟩ := row_two L7.rr
          go_wp2_with fail
          refine (DB.out _).mono ?_
          rintro e w8 ⟨rfl, hb8⟩
          have L8 := L7.call hb8
          clear L7 A0 A1 B0 B1 Q0 Q1 U0 U1 R0 R1 V0 V1 hb8
          obtain ⟨A0, A1, _, _⟩ := row_two L8.ra; obtain ⟨B0, B1, _, _⟩ := row_two L8.rb; obtain ⟨Q0, Q1, U0, U1⟩ := row_two L8.rq; obtain ⟨R0, R1, V0, V1⟩ := row_two L8.rr
          go_upto_region 6 with (fail)
          have L9 := L8.setq (dbl q 1)
          generalize (w8.setCell ⟨w.heap.size + 1 + 1 + 1 + 1, 0, none⟩ (.int .u64 (hi (dbl q 1)))).setCell ⟨w.heap.size + 1 + 1 + 1 + 1, 1, none⟩ (.int .u64 (lo (dbl q 1))) = w9 at L9 ⊢
          rw [G1.out, G2.out] at L9
          clear L8 A0 A1 B0 B1 Q0 Q1 U0 U1 R0 R1 V0 V1
          go_wp2
          go_roundw
          case rel => exact ⟨k, hkn, by go_num, L9⟩
          case measure => first | (simp [intOf]; done) | (simp [intOf]; omega)
        · have CL := fun w' => rcmp_any x b w'
          rcases Nat.lt_or_eq_of_le hle with hlt | hxe
          · rw [cmp_gt hlt] at CL
            have CM := Lib.hid CL
            clear CL hle hlt
            go_upto_region 11 with ((go_at_call 53; refine (CM.out _).mono ?_; rintro e w6 ⟨rfl, hb6⟩))
            have L6 := L5.call hb6
            clear L5 A0 A1 B0 B1 Q0 Q1 U0 U1 R0 R1 V0 V1 hb6
            obtain ⟨w5, rfl⟩ : ∃ x : World, x = w6 := ⟨_, rfl⟩
            have L5 := L6
            clear L6
            obtain ⟨A0, A1, _, _⟩ := row_two L5.ra; obtain ⟨B0, B1, _, _⟩ := row_two L5.rb; obtain ⟨Q0, Q1, U0, U1⟩ := row_two L5.rq; obtain ⟨R0, R1, V0, V1⟩ := row_two L5.rr
            go_upto_region 13 with (first | simp only [sub64_0 (lo x) (lo b) e3 e7 e8] | simp only [sub64 (hi x) (hi b) _ e1 e5 e6 S3 S4])
            clear A0 A1 B0 B1 Q0 Q1 U0 U1 R0 R1 V0 V1
            obtain ⟨A0, A1, _, _⟩ := row_two L5.ra; obtain ⟨B0, B1, _, _⟩ := row_two L5.rb; obtain ⟨Q0, Q1, U0, U1⟩ := row_two L5.rq; obtain ⟨R0, R1, V0, V1⟩ := row_two L5.rr
            go_upto_region 14 with (fail)
            have L7 := L5.setr (subw x b)
            generalize (w5.setCell ⟨w.heap.size + 1 + 1 + 1 + 1 + 1, 0, none⟩ (.int .u64 (hi (subw x b)))).setCell ⟨w.heap.size + 1 + 1 + 1 + 1 + 1, 1, none⟩ (.int .u64 (lo (subw x b))) = w7 at L7 ⊢
            clear L5 A0 A1 B0 B1 Q0 Q1 U0 U1 R0 R1 V0 V1 S1 S2 S3 S4
            obtain ⟨A0, A1, _, _⟩ := row_two L7.ra; obtain ⟨B0, B1, _, _⟩ := row_two L7.rb; obtain ⟨Q0, Q1, U0, U1⟩ := row_two L7.rq; obtain ⟨R0, R1, V0, V1⟩ := row_two L7.rr
            go_wp2_with fail
            refine (DB.out _).mono ?_
            rintro e w8 ⟨rfl, hb8⟩
            have L8 := L7.call hb8
            clear L7 A0 A1 B0 B1 Q0 Q1 U0 U1 R0 R1 V0 V1 hb8
            obtain ⟨A0, A1, _, _⟩ := row_two L8.ra; obtain ⟨B0, B1, _, _⟩ := row_two L8.rb; obtain ⟨Q0, Q1, U0, U1⟩ := row_two L8.rq; obtain ⟨R0, R1, V0, V1⟩ := row_two L8.rr
            go_upto_region 6 with (fail)
            have L9 := L8.setq (dbl q 1)
            generalize (w8.setCell ⟨w.heap.size + 1 + 1 + 1 + 1, 0, none⟩ (.int .u64 (hi (dbl q 1)))).setCell ⟨w.heap.size + 1 + 1 + 1 + 1, 1, none⟩ (.int .u64 (lo (dbl q 1))) = w9 at L9 ⊢
            rw [G1.out, G2.out] at L9
            clear L8 A0 A1 B0 B1 Q0 Q1 U0 U1 R0 R1 V0 V1
            go_wp2
            go_roundw
            case rel => exact ⟨k, hkn, by go_num, L9⟩
            case measure => first | (simp [intOf]; done) | (simp [intOf]; omega)
          · have c0 : cmp x b = 0 := by subst hxe; exact cmp_eq _
            rw [c0] at CL
            have CM := Lib.hid CL
            clear CL hle hxe c0
            go_upto_region 11 with ((go_at_call 53; refine (CM.out _).mono ?_; rintro e w6 ⟨rfl, hb6⟩))
            have L6 := L5.call hb6
            clear L5 A0 A1 B0 B1 Q0 Q1 U0 U1 R0 R1 V0 V1 hb6
            obtain ⟨w5, rfl⟩ : ∃ x : World, x = w6 := ⟨_, rfl⟩
            have L5 := L6
            clear L6
            obtain ⟨A0, A1, _, _⟩ := row_two L5.ra; obtain ⟨B0, B1, _, _⟩ := row_two L5.rb; obtain ⟨Q0, Q1, U0, U1⟩ := row_two L5.rq; obtain ⟨R0, R1, V0, V1⟩ := row_two L5.rr
            go_upto_region 13 with (first | simp only [sub64_0 (lo x) (lo b) e3 e7 e8] | simp only [sub64 (hi x) (hi b) _ e1 e5 e6 S3 S4])
            clear A0 A1 B0 B1 Q0 Q1 U0 U1 R0 R1 V0 V1
            obtain ⟨A0, A1, _, _⟩ := row_two L5.ra; obtain ⟨B0, B1, _, _⟩ := row_two L5.rb; obtain ⟨Q0, Q1, U0, U1⟩ := row_two L5.rq; obtain ⟨R0, R1, V0, V1⟩ := row_two L5.rr
            go_upto_region 14 with (fail)
            have L7 := L5.setr (subw x b)
            generalize (w5.setCell ⟨w.heap.size + 1 + 1 + 1 + 1 + 1, 0, none⟩ (.int .u64 (hi (subw x b)))).setCell ⟨w.heap.size + 1 + 1 + 1 + 1 + 1, 1, none⟩ (.int .u64 (lo (subw x b))) = w7 at L7 ⊢
            clear L5 A0 A1 B0 B1 Q0 Q1 U0 U1 R0 R1 V0 V1 S1 S2 S3 S4
            obtain ⟨A0, A1, _, _⟩ := row_two L7.ra; obtain ⟨B0, B1, _, _⟩ := row_two L7.rb; obtain ⟨Q0, Q1, U0, U1⟩ := row_two L7.rq; obtain ⟨R0, R1, V0, V1⟩ := row_two L7.rr
            go_wp2_with fail
            refine (DB.out _).mono ?_
            rintro e w8 ⟨rfl, hb8⟩
            have L8 := L7.call hb8
            clear L7 A0 A1 B0 B1 Q0 Q1 U0 U1 R0 R1 V0 V1 hb8
            obtain ⟨A0, A1, _, _⟩ := row_two L8.ra; obtain ⟨B0, B1, _, _⟩ := row_two L8.rb; obtain ⟨Q0, Q1, U0, U1⟩ := row_two L8.rq; obtain ⟨R0, R1, V0, V1⟩ := row_two L8.rr
            go_upto_region 6 with (fail)
            have L9 := L8.setq (dbl q 1)
            generalize (w8.setCell ⟨w.heap.size + 1 + 1 + 1 + 1, 0, none⟩ (.int .u64 (hi (dbl q 1)))).setCell ⟨w.heap.size + 1 + 1 + 1 + 1, 1, none⟩ (.int .u64 (lo (dbl q 1))) = w9 at L9 ⊢
            rw [G1.out, G2.out] at L9
            clear L8 A0 A1 B0 B1 Q0 Q1 U0 U1 R0 R1 V0 V1
            go_wp2
            go_roundw
            case rel => exact ⟨k, hkn, by go_num, L9⟩
            case measure => first | (simp [intOf]; done) | (simp [intOf]; omega)
      · have G3 := Lib.hid (HE0.out hnb)
        have DB := Lib.hid (fun w' => rdouble q 0 hqb (by omega) (by omega) w')
        have CL := fun w' => rcmp_any x b w'
        rw [cmp_lt hlt] at CL
        have CM := Lib.hid CL
        clear CL HE1 HE0 HT hnb hlt HC D0 D1
        go_upto_region 14 with ((go_at_call 53; refine (CM.out _).mono ?_; rintro e w6 ⟨rfl, hb6⟩))
        have L6 := L5.call hb6
        clear L5 A0 A1 B0 B1 Q0 Q1 U0 U1 R0 R1 V0 V1 hb6
        have L7 := L6
        clear L6
        obtain ⟨w7, rfl⟩ : ∃ x : World, x = w6 := ⟨_, rfl⟩
        obtain ⟨A0, A1, _, _⟩ := row_two L7.ra; obtain ⟨B0, B1, _, _⟩ := row_two L7.rb; obtain ⟨Q0, Q1, U0, U1⟩ := row_two L7.rq; obtain ⟨R0, R1, V0, V1⟩ := row_two L7.rr
        go_wp2_with fail
        refine (DB.out _).mono ?_
        rintro e w8 ⟨rfl, hb8⟩
        have L8 := L7.call hb8
        clear L7 A0 A1 B0 B1 Q0 Q1 U0 U1 R0 R1 V0 V1 hb8
        obtain ⟨A0, A1, _, _⟩ := row_two L8.ra; obtain ⟨B0, B1, _, _⟩ := row_two L8.rb; obtain ⟨Q0, Q1, U0, U1⟩ := row_two L8.rq; obtain ⟨R0, R1, V0, V1⟩ := row_two L8.rr
        go_upto_region 6 with (fail)
        have L9 := L8.setq (dbl q 0)
        generalize (w8.setCell ⟨w.heap.size + 1 + 1 + 1 + 1, 0, none⟩ (.int .u64 (hi (dbl q 0)))).setCell ⟨w.heap.size + 1 + 1 + 1 + 1, 1, none⟩ (.int .u64 (lo (dbl q 0))) = w9 at L9 ⊢
        rw [G3.out.1, G3.out.2] at L9
        clear L8 A0 A1 B0 B1 Q0 Q1 U0 U1 R0 R1 V0 V1
        go_wp2
        go_roundw
        case rel => exact ⟨k, hkn, by go_num, L9⟩
        case measure => first | (simp [intOf]; done) | (simp [intOf]; omega)
end Go.Proofs.Ytaiepjcnncajcaa
end
section
/- Greatest common divisors, and division by 0, walked: the program and the reference. -/
set_option linter.unusedVariables false
set_option linter.unusedSimpArgs false
set_option linter.unusedSectionVars false
set_option linter.unnecessarySimpa false
namespace Go.Proofs.Ytaiepjcnncajcaa
open Go.RowKit Go.Shelf
theorem run_neq_zero {b : Nat} (h : b ≠ 0) (w' : World) : (binOp .neq 72 (.agg #[.int .u64 (hi b), .int .u64 (lo b)]) (.agg #[.int .u64 0, .int .u64 0])).run Try.prog w' = .ok (.bool true) w' := by
  go_simp
  exact fun h1 h2 => h (hi_inj (b := 0) h1 h2)
theorem run_eql_zero {b : Nat} (h : b ≠ 0) (w' : World) : (binOp .eql 72 (.agg #[.int .u64 (hi b), .int .u64 (lo b)]) (.agg #[.int .u64 0, .int .u64 0])).run Try.prog w' = .ok (.bool false) w' := by
  go_simp
  exact fun h1 h2 => h (hi_inj (b := 0) h1 h2)
/-- The state of the search for a divisor. -/
def GcdS (w w' : World) (a b x y : Nat) : Prop := x < big ∧ y < big ∧ Nat.gcd x y = Nat.gcd a b ∧ Row w' (w.heap.size) 72 (Wc x) ∧ Row w' (w.heap.size + 1) 72 (Wc y) ∧ Row w' (w.heap.size + 1 + 1) 72 #[.int .u64 0, .int .u64 0] ∧ Below w.heap.size w w'
theorem GcdS.call {w w' w'' : World} {a b x y : Nat} (h : GcdS w w' a b x y) (k : Below w'.heap.size w' w'') : GcdS w w'' a b x y :=
  ⟨h.1, h.2.1, h.2.2.1, row_call h.2.2.2.1 k, row_call h.2.2.2.2.1 k, row_call h.2.2.2.2.2.1 k, h.2.2.2.2.2.2.trans (k.mono h.2.2.2.2.2.2.size)⟩
theorem GcdS.drew {w w' : World} {a b x y : Nat} (h : GcdS w w' a b x y) : GcdS w w'.drew a b x y := ⟨h.1, h.2.1, h.2.2.1, h.2.2.2.1, h.2.2.2.2.1, h.2.2.2.2.2.1, h.2.2.2.2.2.2.drew⟩
theorem GcdS.step {w w' : World} {a b x y : Nat} (h : GcdS w w' a b x y) (hy : y ≠ 0) : GcdS w ((((w'.setCell ⟨w.heap.size, 0, none⟩ (.int .u64 (hi y))).setCell ⟨w.heap.size, 1, none⟩ (.int .u64 (lo y))).setCell ⟨w.heap.size + 1, 0, none⟩ (.int .u64 (hi (x % y)))).setCell ⟨w.heap.size + 1, 1, none⟩ (.int .u64 (lo (x % y)))) a b y (x % y) := by
  obtain ⟨h1, h2, h3, h4, h5, h6, h7⟩ := h
  refine ⟨h2, Nat.lt_trans (Nat.mod_lt _ (by omega)) h2, ?_, row_two_other (row_two_set h4) (by omega), row_two_set (row_two_other h5 (by omega)), row_two_other (row_two_other h6 (by omega)) (by omega), ?_⟩
  · rw [← h3, Nat.gcd_comm x y, Nat.gcd_rec y x, Nat.gcd_comm]
  · exact (((h7.setCell (by simp) _).setCell (by simp) _).setCell (by simp) _).setCell (by simp) _
set_option maxHeartbeats 2000000 in
theorem pgcd (a b : Nat) (ha : a < big) (hb : b < big) (w : World) :
    Calls Try.prog 95 #[W a, W b] w fun e w' => e = .returned (W (Nat.gcd a b)) ∧ Below w.heap.size w w' := by
  go_enter Try.func95, Try.ntmps95
  go_wp2_with fail
  have L : GcdS w (((w.alloc (.cells (Wc a) 72)).alloc (.cells (Wc b) 72)).alloc (.cells #[.int .u64 0, .int .u64 0] 72)) a b a b := by
    refine ⟨ha, hb, rfl, ?_, ?_, ?_, ?_⟩
    · (repeat (first | assumption | (refine row_new ?_; (first | (simp; done) | omega)) | refine row_alloc ?_ _ | refine row_drew ?_ | refine row_call ?_ (by assumption)))
    · (repeat (first | assumption | (refine row_new ?_; (first | (simp; done) | omega)) | refine row_alloc ?_ _ | refine row_drew ?_ | refine row_call ?_ (by assumption)))
    · (repeat (first | assumption | (refine row_new ?_; (first | (simp; done) | omega)) | refine row_alloc ?_ _ | refine row_drew ?_ | refine row_call ?_ (by assumption)))
    · (repeat (first | exact Below.refl _ _ | refine Below.setCell ?_ (by first | (simp; done) | (simp; omega) | omega) _ | refine Below.alloc ?_ (by first | (simp; done) | (simp; omega) | omega) _ | refine Below.drew ?_ | refine Below.trans ?_ (Below.mono (by assumption) (by first | (simp; done) | (simp; omega) | omega))))
  generalize (((w.alloc (.cells (Wc a) 72)).alloc (.cells (Wc b) 72)).alloc (.cells #[.int .u64 0, .int .u64 0] 72)) = w2 at L ⊢
  go_loopg [] b (fun y wr => ∃ x, GcdS w wr a b x y)
  case atStart => exact ⟨a, L⟩
  case round =>
    clear L
    obtain ⟨x, L⟩ := hrel
    have hx := L.1
    have hy := L.2.1
    have HG := Lib.hid L.2.2.1
    by_cases h0 : gk = 0
    · subst h0
      have L1 := L.2.2.2
      obtain ⟨A00, A01, A02, A03⟩ := row_two L1.1; obtain ⟨A10, A11, A12, A13⟩ := row_two L1.2.1; obtain ⟨A20, A21, A22, A23⟩ := row_two L1.2.2.1
      go_upto_region 4 with (go_at_call 112; refine (pzero 0 _).mono ?_; rintro e w2 ⟨rfl, hb2⟩; obtain ⟨hc2, hf2⟩ := bcell hb2; have hz2 := hb2.size; (try simp at hz2))
      have M0 := row_call L1.1 hb2
      have M2 := row_call L1.2.2.1 hb2
      have B2 := L1.2.2.2.trans (hb2.mono L1.2.2.2.size)
      obtain ⟨C0, C1, _, _⟩ := row_two M0
      obtain ⟨D0, D1, D2, D3⟩ := row_two M2
      have e : Nat.gcd a b = x := by rw [← HG.out, Nat.gcd_zero_right]
      clear L L1 A00 A01 A02 A03 A10 A11 A12 A13 A20 A21 A22 A23 hb2 hc2 hf2
      go_wp2
      simp [bodyPost, results, Try.results95, go_sem, D0, D1, e]
      (repeat (first | exact Below.refl _ _ | refine Below.setCell ?_ (by first | (simp; done) | (simp; omega) | omega) _ | refine Below.alloc ?_ (by first | (simp; done) | (simp; omega) | omega) _ | refine Below.drew ?_ | refine Below.trans ?_ (Below.mono (by assumption) (by first | (simp; done) | (simp; omega) | omega))))
    · have hz : decide (gk = 0) = false := by simpa using h0
      have hq := run_eql_zero h0
      have L1 := L.2.2.2
      obtain ⟨A00, A01, A02, A03⟩ := row_two L1.1; obtain ⟨A10, A11, A12, A13⟩ := row_two L1.2.1; obtain ⟨A20, A21, A22, A23⟩ := row_two L1.2.2.1
      go_upto_region 2 with (go_at_call 112; refine (pzero gk _).mono ?_; rintro e w2 ⟨rfl, hb2⟩; obtain ⟨hc2, hf2⟩ := bcell hb2; have hz2 := hb2.size; (try simp at hz2))
      have L3 := L.call hb2
      clear L L1 A00 A01 A02 A03 A10 A11 A12 A13 A20 A21 A22 A23 hb2 hc2 hf2 hz2
      have L1 := L3.2.2.2
      obtain ⟨A00, A01, A02, A03⟩ := row_two L1.1; obtain ⟨A10, A11, A12, A13⟩ := row_two L1.2.1; obtain ⟨A20, A21, A22, A23⟩ := row_two L1.2.2.1
      clear hq hz
      have HD := Lib.hid (fun w' => pdiv_yes x gk hx hy h0 w')
      go_wp2_with fail
      refine (HD.out _).mono ?_
      rintro e w4 ⟨rfl, hb4⟩
      have L4 := L3.call hb4
      clear L3 L1 A00 A01 A02 A03 A10 A11 A12 A13 A20 A21 A22 A23 hb4
      have L1 := L4.2.2.2
      obtain ⟨A00, A01, A02, A03⟩ := row_two L1.1; obtain ⟨A10, A11, A12, A13⟩ := row_two L1.2.1; obtain ⟨A20, A21, A22, A23⟩ := row_two L1.2.2.1
      have s4 := row_lt L1.2.2.1
      have L5 : GcdS w ((w4.alloc (.cells (Wc (x / gk)) 72)).alloc (.cells (Wc (x % gk)) 72)) a b x gk :=
        ⟨L4.1, L4.2.1, L4.2.2.1, row_alloc (row_alloc L1.1 _) _, row_alloc (row_alloc L1.2.1 _) _, row_alloc (row_alloc L1.2.2.1 _) _, (L1.2.2.2.alloc (by omega) _).alloc (by simp; omega) _⟩
      have N0 : Row ((w4.alloc (.cells (Wc (x / gk)) 72)).alloc (.cells (Wc (x % gk)) 72)) (w4.heap.size + 1) 72 (Wc (x % gk)) := by (repeat (first | assumption | (refine row_new ?_; (first | (simp; done) | omega)) | refine row_alloc ?_ _ | refine row_drew ?_ | refine row_call ?_ (by assumption)))
      go_upto_region 3 with (fail)
      clear L4 L1 A00 A01 A02 A03 A10 A11 A12 A13 A20 A21 A22 A23
      generalize ((w4.alloc (.cells (Wc (x / gk)) 72)).alloc (.cells (Wc (x % gk)) 72)) = w5 at L5 N0 ⊢
      have L1 := L5.2.2.2
      obtain ⟨A00, A01, A02, A03⟩ := row_two L1.1; obtain ⟨A10, A11, A12, A13⟩ := row_two L1.2.1; obtain ⟨A20, A21, A22, A23⟩ := row_two L1.2.2.1
      obtain ⟨C0, C1, _, _⟩ := row_two N0
      have L6 := L5.step h0
      go_region
      have L7 := L6.drew
      clear L6 L5 N0 L1 A00 A01 A02 A03 A10 A11 A12 A13 A20 A21 A22 A23 C0 C1
      generalize ((((w5.setCell ⟨w.heap.size, 0, none⟩ (.int .u64 (hi gk))).setCell ⟨w.heap.size, 1, none⟩ (.int .u64 (lo gk))).setCell ⟨w.heap.size + 1, 0, none⟩ (.int .u64 (hi (x % gk)))).setCell ⟨w.heap.size + 1, 1, none⟩ (.int .u64 (lo (x % gk)))).drew = w7 at L7 ⊢
      go_wp2
      go_roundg (x % gk)
      case measure => exact Nat.mod_lt _ (by omega)
      case rel => exact ⟨gk, L7⟩
set_option maxHeartbeats 2000000 in
theorem rgcd (a b : Nat) (ha : a < big) (hb : b < big) (w : World) :
    Calls Try.prog 108 #[W a, W b] w fun e w' => e = .returned (W (Nat.gcd a b)) ∧ Below w.heap.size w w' := by
  go_enter Try.func108, Try.ntmps108
  go_wp2_with fail
  have L : GcdS w (((w.alloc (.cells (Wc a) 72)).alloc (.cells (Wc b) 72)).alloc (.cells #[.int .u64 0, .int .u64 0] 72)) a b a b := by
    refine ⟨ha, hb, rfl, ?_, ?_, ?_, ?_⟩
    · (repeat (first | assumption | (refine row_new ?_; (first | (simp; done) | omega)) | refine row_alloc ?_ _ | refine row_drew ?_ | refine row_call ?_ (by assumption)))
    · (repeat (first | assumption | (refine row_new ?_; (first | (simp; done) | omega)) | refine row_alloc ?_ _ | refine row_drew ?_ | refine row_call ?_ (by assumption)))
    · (repeat (first | assumption | (refine row_new ?_; (first | (simp; done) | omega)) | refine row_alloc ?_ _ | refine row_drew ?_ | refine row_call ?_ (by assumption)))
    · (repeat (first | exact Below.refl _ _ | refine Below.setCell ?_ (by first | (simp; done) | (simp; omega) | omega) _ | refine Below.alloc ?_ (by first | (simp; done) | (simp; omega) | omega) _ | refine Below.drew ?_ | refine Below.trans ?_ (Below.mono (by assumption) (by first | (simp; done) | (simp; omega) | omega))))
  generalize (((w.alloc (.cells (Wc a) 72)).alloc (.cells (Wc b) 72)).alloc (.cells #[.int .u64 0, .int .u64 0] 72)) = w2 at L ⊢
  go_loopg [] b (fun y wr => ∃ x, GcdS w wr a b x y)
  case atStart => exact ⟨a, L⟩
  case round =>
    clear L
    obtain ⟨x, L⟩ := hrel
    have hx := L.1
    have hy := L.2.1
    have HG := Lib.hid L.2.2.1
    by_cases h0 : gk = 0
    · subst h0
      have T0 := hi_0
      have T1 := lo_0
      have L1 := L.2.2.2
      obtain ⟨A00, A01, A02, A03⟩ := row_two L1.1; obtain ⟨A10, A11, A12, A13⟩ := row_two L1.2.1; obtain ⟨A20, A21, A22, A23⟩ := row_two L1.2.2.1
      go_upto_region 4 with (fail)
      have M0 := L1.1
      have M2 := L1.2.2.1
      have B2 := L1.2.2.2
      obtain ⟨C0, C1, _, _⟩ := row_two M0
      obtain ⟨D0, D1, D2, D3⟩ := row_two M2
      have e : Nat.gcd a b = x := by rw [← HG.out, Nat.gcd_zero_right]
      clear L L1 A00 A01 A02 A03 A10 A11 A12 A13 A20 A21 A22 A23
      go_wp2
      simp [bodyPost, results, Try.results108, go_sem, D0, D1, e]
      (repeat (first | exact Below.refl _ _ | refine Below.setCell ?_ (by first | (simp; done) | (simp; omega) | omega) _ | refine Below.alloc ?_ (by first | (simp; done) | (simp; omega) | omega) _ | refine Below.drew ?_ | refine Below.trans ?_ (Below.mono (by assumption) (by first | (simp; done) | (simp; omega) | omega))))
    · have hz : decide (gk = 0) = false := by simpa using h0
      have hq := run_neq_zero h0
      have L1 := L.2.2.2
      obtain ⟨A00, A01, A02, A03⟩ := row_two L1.1; obtain ⟨A10, A11, A12, A13⟩ := row_two L1.2.1; obtain ⟨A20, A21, A22, A23⟩ := row_two L1.2.2.1
      go_upto_region 2 with (fail)
      have L3 := L
      clear L
      clear hq hz
      have HD := Lib.hid (fun w' => rdiv_yes x gk hx hy h0 w')
      go_wp2_with fail
      refine (HD.out _).mono ?_
      rintro e w4 ⟨rfl, hb4⟩
      have L4 := L3.call hb4
      clear L3 L1 A00 A01 A02 A03 A10 A11 A12 A13 A20 A21 A22 A23 hb4
      have L1 := L4.2.2.2
      obtain ⟨A00, A01, A02, A03⟩ := row_two L1.1; obtain ⟨A10, A11, A12, A13⟩ := row_two L1.2.1; obtain ⟨A20, A21, A22, A23⟩ := row_two L1.2.2.1
      have s4 := row_lt L1.2.2.1
      have L5 : GcdS w ((w4.alloc (.cells (Wc (x / gk)) 72)).alloc (.cells (Wc (x % gk)) 72)) a b x gk :=
        ⟨L4.1, L4.2.1, L4.2.2.1, row_alloc (row_alloc L1.1 _) _, row_alloc (row_alloc L1.2.1 _) _, row_alloc (row_alloc L1.2.2.1 _) _, (L1.2.2.2.alloc (by omega) _).alloc (by simp; omega) _⟩
      have N0 : Row ((w4.alloc (.cells (Wc (x / gk)) 72)).alloc (.cells (Wc (x % gk)) 72)) (w4.heap.size + 1) 72 (Wc (x % gk)) := by (repeat (first | assumption | (refine row_new ?_; (first | (simp; done) | omega)) | refine row_alloc ?_ _ | refine row_drew ?_ | refine row_call ?_ (by assumption)))
      go_upto_region 3 with (fail)
      clear L4 L1 A00 A01 A02 A03 A10 A11 A12 A13 A20 A21 A22 A23
      generalize ((w4.alloc (.cells (Wc (x / gk)) 72)).alloc (.cells (Wc (x % gk)) 72)) = w5 at L5 N0 ⊢
      have L1 := L5.2.2.2
      obtain ⟨A00, A01, A02, A03⟩ := row_two L1.1; obtain ⟨A10, A11, A12, A13⟩ := row_two L1.2.1; obtain ⟨A20, A21, A22, A23⟩ := row_two L1.2.2.1
      obtain ⟨C0, C1, _, _⟩ := row_two N0
      have L6 := L5.step h0
      go_region
      have L7 := L6.drew
      clear L6 L5 N0 L1 A00 A01 A02 A03 A10 A11 A12 A13 A20 A21 A22 A23 C0 C1
      generalize ((((w5.setCell ⟨w.heap.size, 0, none⟩ (.int .u64 (hi gk))).setCell ⟨w.heap.size, 1, none⟩ (.int .u64 (lo gk))).setCell ⟨w.heap.size + 1, 0, none⟩ (.int .u64 (hi (x % gk)))).setCell ⟨w.heap.size + 1, 1, none⟩ (.int .u64 (lo (x % gk)))).drew = w7 at L7 ⊢
      go_wp2
      go_roundg (x % gk)
      case measure => exact Nat.mod_lt _ (by omega)
      case rel => exact ⟨gk, L7⟩
end Go.Proofs.Ytaiepjcnncajcaa
end
section
/- Spreads of marks: which marks have one, walked. -/
set_option linter.unusedVariables false
set_option linter.unusedSimpArgs false
set_option linter.unusedSectionVars false
set_option linter.unnecessarySimpa false
namespace Go.Proofs.Ytaiepjcnncajcaa
open Go.RowKit Go.Shelf
theorem ret_bool {a b : Bool} (h : a = b) : Ending.returned (.bool a) = .returned (.bool b) := by rw [h]
theorem pright_0 (sq tk n s q lw hg : Int) (w : World)  (h : n < 1) : Calls Try.prog 44 #[.agg #[.int .i64 sq, .int .i64 tk, .int .i64 n, .int .i64 s, .int .i64 q, .int .i64 lw, .int .i64 hg]] w fun e w' => e = .returned (.bool false) ∧ Below w.heap.size w w' := by
  go_enter Try.func44, Try.ntmps44
  go_wp2
  go_ret
  exact ⟨by first | rfl | exact ret_bool (by simp; omega), by (repeat (first | exact Below.refl _ _ | refine Below.setCell ?_ (by first | (simp; done) | (simp; omega) | omega) _ | refine Below.alloc ?_ (by first | (simp; done) | (simp; omega) | omega) _ | refine Below.drew ?_ | refine Below.trans ?_ (Below.mono (by assumption) (by first | (simp; done) | (simp; omega) | omega))))⟩
theorem pright_1 (sq tk n s q lw hg : Int) (w : World) (h0 : 1 ≤ n) (h : 65536 < n) : Calls Try.prog 44 #[.agg #[.int .i64 sq, .int .i64 tk, .int .i64 n, .int .i64 s, .int .i64 q, .int .i64 lw, .int .i64 hg]] w fun e w' => e = .returned (.bool false) ∧ Below w.heap.size w w' := by
  go_enter Try.func44, Try.ntmps44
  go_wp2
  go_ret
  exact ⟨by first | rfl | exact ret_bool (by simp; omega), by (repeat (first | exact Below.refl _ _ | refine Below.setCell ?_ (by first | (simp; done) | (simp; omega) | omega) _ | refine Below.alloc ?_ (by first | (simp; done) | (simp; omega) | omega) _ | refine Below.drew ?_ | refine Below.trans ?_ (Below.mono (by assumption) (by first | (simp; done) | (simp; omega) | omega))))⟩
theorem pright_2 (sq tk n s q lw hg : Int) (w : World) (h0 : 1 ≤ n) (h1 : n ≤ 65536) (h : s < -n * 4096) : Calls Try.prog 44 #[.agg #[.int .i64 sq, .int .i64 tk, .int .i64 n, .int .i64 s, .int .i64 q, .int .i64 lw, .int .i64 hg]] w fun e w' => e = .returned (.bool false) ∧ Below w.heap.size w w' := by
  have wn : IntKind.i64.wrap (-n) = -n := IntWalk.i64_in _ (by omega)
  have wnm : IntKind.i64.wrap (-n * 4096) = -n * 4096 := IntWalk.i64_in _ (by omega)
  have wn2 : IntKind.i64.wrap (n * 4096) = n * 4096 := IntWalk.i64_in _ (by omega)
  have wn3 : IntKind.i64.wrap (n * 4096 * 4096) = n * 4096 * 4096 := IntWalk.i64_in _ (by omega)
  go_enter Try.func44, Try.ntmps44
  go_wp2
  go_ret
  exact ⟨by first | rfl | exact ret_bool (by simp; omega), by (repeat (first | exact Below.refl _ _ | refine Below.setCell ?_ (by first | (simp; done) | (simp; omega) | omega) _ | refine Below.alloc ?_ (by first | (simp; done) | (simp; omega) | omega) _ | refine Below.drew ?_ | refine Below.trans ?_ (Below.mono (by assumption) (by first | (simp; done) | (simp; omega) | omega))))⟩
theorem pright_3 (sq tk n s q lw hg : Int) (w : World) (h0 : 1 ≤ n) (h1 : n ≤ 65536) (h2 : -n * 4096 ≤ s) (h : n * 4096 < s) : Calls Try.prog 44 #[.agg #[.int .i64 sq, .int .i64 tk, .int .i64 n, .int .i64 s, .int .i64 q, .int .i64 lw, .int .i64 hg]] w fun e w' => e = .returned (.bool false) ∧ Below w.heap.size w w' := by
  have wn : IntKind.i64.wrap (-n) = -n := IntWalk.i64_in _ (by omega)
  have wnm : IntKind.i64.wrap (-n * 4096) = -n * 4096 := IntWalk.i64_in _ (by omega)
  have wn2 : IntKind.i64.wrap (n * 4096) = n * 4096 := IntWalk.i64_in _ (by omega)
  have wn3 : IntKind.i64.wrap (n * 4096 * 4096) = n * 4096 * 4096 := IntWalk.i64_in _ (by omega)
  go_enter Try.func44, Try.ntmps44
  go_wp2
  go_ret
  exact ⟨by first | rfl | exact ret_bool (by simp; omega), by (repeat (first | exact Below.refl _ _ | refine Below.setCell ?_ (by first | (simp; done) | (simp; omega) | omega) _ | refine Below.alloc ?_ (by first | (simp; done) | (simp; omega) | omega) _ | refine Below.drew ?_ | refine Below.trans ?_ (Below.mono (by assumption) (by first | (simp; done) | (simp; omega) | omega))))⟩
theorem pright_4 (sq tk n s q lw hg : Int) (w : World) (h0 : 1 ≤ n) (h1 : n ≤ 65536) (h2 : -n * 4096 ≤ s) (h3 : s ≤ n * 4096) (h : q < 0) : Calls Try.prog 44 #[.agg #[.int .i64 sq, .int .i64 tk, .int .i64 n, .int .i64 s, .int .i64 q, .int .i64 lw, .int .i64 hg]] w fun e w' => e = .returned (.bool false) ∧ Below w.heap.size w w' := by
  have wn : IntKind.i64.wrap (-n) = -n := IntWalk.i64_in _ (by omega)
  have wnm : IntKind.i64.wrap (-n * 4096) = -n * 4096 := IntWalk.i64_in _ (by omega)
  have wn2 : IntKind.i64.wrap (n * 4096) = n * 4096 := IntWalk.i64_in _ (by omega)
  have wn3 : IntKind.i64.wrap (n * 4096 * 4096) = n * 4096 * 4096 := IntWalk.i64_in _ (by omega)
  go_enter Try.func44, Try.ntmps44
  go_wp2
  go_ret
  exact ⟨by first | rfl | exact ret_bool (by simp; omega), by (repeat (first | exact Below.refl _ _ | refine Below.setCell ?_ (by first | (simp; done) | (simp; omega) | omega) _ | refine Below.alloc ?_ (by first | (simp; done) | (simp; omega) | omega) _ | refine Below.drew ?_ | refine Below.trans ?_ (Below.mono (by assumption) (by first | (simp; done) | (simp; omega) | omega))))⟩
theorem pright_5 (sq tk n s q lw hg : Int) (w : World) (h0 : 1 ≤ n) (h1 : n ≤ 65536) (h2 : -n * 4096 ≤ s) (h3 : s ≤ n * 4096) (h4 : 0 ≤ q) (h : n * 4096 * 4096 < q) : Calls Try.prog 44 #[.agg #[.int .i64 sq, .int .i64 tk, .int .i64 n, .int .i64 s, .int .i64 q, .int .i64 lw, .int .i64 hg]] w fun e w' => e = .returned (.bool false) ∧ Below w.heap.size w w' := by
  have wn : IntKind.i64.wrap (-n) = -n := IntWalk.i64_in _ (by omega)
  have wnm : IntKind.i64.wrap (-n * 4096) = -n * 4096 := IntWalk.i64_in _ (by omega)
  have wn2 : IntKind.i64.wrap (n * 4096) = n * 4096 := IntWalk.i64_in _ (by omega)
  have wn3 : IntKind.i64.wrap (n * 4096 * 4096) = n * 4096 * 4096 := IntWalk.i64_in _ (by omega)
  go_enter Try.func44, Try.ntmps44
  go_wp2
  go_ret
  exact ⟨by first | rfl | exact ret_bool (by simp; omega), by (repeat (first | exact Below.refl _ _ | refine Below.setCell ?_ (by first | (simp; done) | (simp; omega) | omega) _ | refine Below.alloc ?_ (by first | (simp; done) | (simp; omega) | omega) _ | refine Below.drew ?_ | refine Below.trans ?_ (Below.mono (by assumption) (by first | (simp; done) | (simp; omega) | omega))))⟩
theorem pright_6 (sq tk n s q lw hg : Int) (w : World) (h0 : 1 ≤ n) (h1 : n ≤ 65536) (h2 : -n * 4096 ≤ s) (h3 : s ≤ n * 4096) (h4 : 0 ≤ q) (h5 : q ≤ n * 4096 * 4096) (h : n * q < s * s) : Calls Try.prog 44 #[.agg #[.int .i64 sq, .int .i64 tk, .int .i64 n, .int .i64 s, .int .i64 q, .int .i64 lw, .int .i64 hg]] w fun e w' => e = .returned (.bool false) ∧ Below w.heap.size w w' := by
  have wn : IntKind.i64.wrap (-n) = -n := IntWalk.i64_in _ (by omega)
  have wnm : IntKind.i64.wrap (-n * 4096) = -n * 4096 := IntWalk.i64_in _ (by omega)
  have wn2 : IntKind.i64.wrap (n * 4096) = n * 4096 := IntWalk.i64_in _ (by omega)
  have wn3 : IntKind.i64.wrap (n * 4096 * 4096) = n * 4096 * 4096 := IntWalk.i64_in _ (by omega)
  have b1 := sq_small h0 h1 h2 h3
  have b2 := nq_small h0 h1 h4 h5
  have wss : IntKind.i64.wrap (s * s) = s * s := IntWalk.i64_in _ (by omega)
  have wnq : IntKind.i64.wrap (n * q) = n * q := IntWalk.i64_in _ (by omega)
  go_enter Try.func44, Try.ntmps44
  go_wp2
  go_ret
  exact ⟨by first | rfl | exact ret_bool (decide_eq_false (Int.not_le.2 h)) | exact ret_bool (by simp [h0, h1, h2, h3, h4, h5, h]) | exact ret_bool (by simp; omega), by (repeat (first | exact Below.refl _ _ | refine Below.setCell ?_ (by first | (simp; done) | (simp; omega) | omega) _ | refine Below.alloc ?_ (by first | (simp; done) | (simp; omega) | omega) _ | refine Below.drew ?_ | refine Below.trans ?_ (Below.mono (by assumption) (by first | (simp; done) | (simp; omega) | omega))))⟩
theorem pright_7 (sq tk n s q lw hg : Int) (w : World) (h0 : 1 ≤ n) (h1 : n ≤ 65536) (h2 : -n * 4096 ≤ s) (h3 : s ≤ n * 4096) (h4 : 0 ≤ q) (h5 : q ≤ n * 4096 * 4096) (h6 : s * s ≤ n * q) : Calls Try.prog 44 #[.agg #[.int .i64 sq, .int .i64 tk, .int .i64 n, .int .i64 s, .int .i64 q, .int .i64 lw, .int .i64 hg]] w fun e w' => e = .returned (.bool true) ∧ Below w.heap.size w w' := by
  have wn : IntKind.i64.wrap (-n) = -n := IntWalk.i64_in _ (by omega)
  have wnm : IntKind.i64.wrap (-n * 4096) = -n * 4096 := IntWalk.i64_in _ (by omega)
  have wn2 : IntKind.i64.wrap (n * 4096) = n * 4096 := IntWalk.i64_in _ (by omega)
  have wn3 : IntKind.i64.wrap (n * 4096 * 4096) = n * 4096 * 4096 := IntWalk.i64_in _ (by omega)
  have b1 := sq_small h0 h1 h2 h3
  have b2 := nq_small h0 h1 h4 h5
  have wss : IntKind.i64.wrap (s * s) = s * s := IntWalk.i64_in _ (by omega)
  have wnq : IntKind.i64.wrap (n * q) = n * q := IntWalk.i64_in _ (by omega)
  go_enter Try.func44, Try.ntmps44
  go_wp2
  go_ret
  exact ⟨by first | rfl | exact ret_bool (decide_eq_true h6) | exact ret_bool (by simp [h0, h1, h2, h3, h4, h5, h6]) | exact ret_bool (by simp; omega), by (repeat (first | exact Below.refl _ _ | refine Below.setCell ?_ (by first | (simp; done) | (simp; omega) | omega) _ | refine Below.alloc ?_ (by first | (simp; done) | (simp; omega) | omega) _ | refine Below.drew ?_ | refine Below.trans ?_ (Below.mono (by assumption) (by first | (simp; done) | (simp; omega) | omega))))⟩
theorem pright (sq tk n s q lw hg : Int) (w : World) : Calls Try.prog 44 #[.agg #[.int .i64 sq, .int .i64 tk, .int .i64 n, .int .i64 s, .int .i64 q, .int .i64 lw, .int .i64 hg]] w fun e w' => e = .returned (.bool (decide (rightP n s q))) ∧ Below w.heap.size w w' := by
  by_cases h0 : 1 ≤ n
  · skip
    by_cases h1 : n ≤ 65536
    · skip
      by_cases h2 : -n * 4096 ≤ s
      · skip
        by_cases h3 : s ≤ n * 4096
        · skip
          by_cases h4 : 0 ≤ q
          · skip
            by_cases h5 : q ≤ n * 4096 * 4096
            · skip
              by_cases h6 : s * s ≤ n * q
              · skip
                rw [show decide (rightP n s q) = true from decide_eq_true ⟨h0, h1, h2, h3, h4, h5, h6⟩]
                exact pright_7 sq tk n s q lw hg w h0 h1 h2 h3 h4 h5 h6
              · rw [show decide (rightP n s q) = false from decide_eq_false (fun a => h6 a.2.2.2.2.2.2)]
                exact pright_6 sq tk n s q lw hg w h0 h1 h2 h3 h4 h5 (Int.not_le.1 h6)
            · rw [show decide (rightP n s q) = false from decide_eq_false (fun a => h5 a.2.2.2.2.2.1)]
              exact pright_5 sq tk n s q lw hg w h0 h1 h2 h3 h4 (Int.not_le.1 h5)
          · rw [show decide (rightP n s q) = false from decide_eq_false (fun a => h4 a.2.2.2.2.1)]
            exact pright_4 sq tk n s q lw hg w h0 h1 h2 h3 (Int.not_le.1 h4)
        · rw [show decide (rightP n s q) = false from decide_eq_false (fun a => h3 a.2.2.2.1)]
          exact pright_3 sq tk n s q lw hg w h0 h1 h2 (Int.not_le.1 h3)
      · rw [show decide (rightP n s q) = false from decide_eq_false (fun a => h2 a.2.2.1)]
        exact pright_2 sq tk n s q lw hg w h0 h1 (Int.not_le.1 h2)
    · rw [show decide (rightP n s q) = false from decide_eq_false (fun a => h1 a.2.1)]
      exact pright_1 sq tk n s q lw hg w h0 (Int.not_le.1 h1)
  · rw [show decide (rightP n s q) = false from decide_eq_false (fun a => h0 a.1)]
    exact pright_0 sq tk n s q lw hg w  (Int.not_le.1 h0)
end Go.Proofs.Ytaiepjcnncajcaa
end
section
/- Spreads of marks: the spread of a mark, walked. -/
set_option linter.unusedVariables false
set_option linter.unusedSimpArgs false
set_option linter.unusedSectionVars false
set_option linter.unnecessarySimpa false
namespace Go.Proofs.Ytaiepjcnncajcaa
open Go.RowKit Go.Shelf
theorem ptop (sq tk n s q lw hg : Int) (w : World) (h : rightP n s q) : Calls Try.prog 46 #[.agg #[.int .i64 sq, .int .i64 tk, .int .i64 n, .int .i64 s, .int .i64 q, .int .i64 lw, .int .i64 hg]] w fun e w' => e = .returned (.int .i64 (topN n s q)) ∧ Below w.heap.size w w' := by
  have b := right_top h
  have wss : IntKind.i64.wrap (s * s) = s * s := IntWalk.i64_in _ (by omega)
  have wnq : IntKind.i64.wrap (n * q) = n * q := IntWalk.i64_in _ (by omega)
  have wd : IntKind.i64.wrap (n * q - s * s) = (topN n s q : Int) := by rw [IntWalk.i64_in _ (by omega)]; unfold topN; omega
  clear b h
  go_enter Try.func46, Try.ntmps46
  go_wp2
  go_ret
  exact ⟨rfl, by (repeat (first | exact Below.refl _ _ | refine Below.setCell ?_ (by first | (simp; done) | (simp; omega) | omega) _ | refine Below.alloc ?_ (by first | (simp; done) | (simp; omega) | omega) _ | refine Below.drew ?_ | refine Below.trans ?_ (Below.mono (by assumption) (by first | (simp; done) | (simp; omega) | omega))))⟩
theorem psize (a : Nat) (h : a < 9223372036854775808) (w : World) : Calls Try.prog 86 #[.int .i64 a] w fun e w' => e = .returned (.int .u64 a) ∧ w' = w := by
  have h0 : ¬ (a : Int) < 0 := by omega
  have wa : IntKind.u64.wrap (a : Int) = (a : Int) := IntWalk.u64_in _ (by omega)
  go_enter Try.func86, Try.ntmps86
  go_wp2
  go_ret
  exact ⟨rfl, rfl⟩
set_option maxHeartbeats 4000000 in
theorem preduced (a b : Nat) (ha : a < 9223372036854775808) (hb : b < 9223372036854775808) (h : b ≠ 0) (w : World) :
    Calls Try.prog 85 #[.bool false, W a, W b] w fun e w' => e = .returned (.tuple #[.agg #[.int .i64 ((a / Nat.gcd a b : Nat) : Int), .int .i64 ((b / Nat.gcd a b : Nat) : Int)], .bool true]) ∧ Below w.heap.size w w' := by
  have PG := Lib.hid (fun w => pgcd a b (by unfold big; omega) (by unfold big; omega) w)
  have g0 : Nat.gcd a b ≠ 0 := by
    intro e
    exact h (Nat.gcd_eq_zero_iff.1 e).2
  have gb : Nat.gcd a b ≤ b := Nat.gcd_le_right _ (by omega)
  have PA := Lib.hid (fun w => pdiv_yes a (Nat.gcd a b) (by unfold big; omega) (by unfold big; omega) g0 w)
  have PB := Lib.hid (fun w => pdiv_yes b (Nat.gcd a b) (by unfold big; omega) (by unfold big; omega) g0 w)
  have qa : a / Nat.gcd a b ≤ a := Nat.div_le_self _ _
  have qb : b / Nat.gcd a b ≤ b := Nat.div_le_self _ _
  generalize Nat.gcd a b = g at PG PA PB qa qb ⊢
  generalize a % g = ra at PA
  generalize b % g = rb at PB
  generalize a / g = x at PA qa ⊢
  generalize b / g = y at PB qb ⊢
  have e1 := hi_small (n := x) (by omega)
  have e2 := lo_small (n := x) (by omega)
  have e3 := hi_small (n := y) (by omega)
  have e4 := lo_small (n := y) (by omega)
  have c1 : ¬ (9223372036854775808 : Int) ≤ (y : Int) := by omega
  have c2 : ¬ (9223372036854775808 : Int) < (x : Int) := by omega
  have c3 : ((x : Int) == 9223372036854775808) = false := by simp; omega
  have w1 : IntKind.i64.wrap (x : Int) = (x : Int) := IntWalk.i64_in _ (by omega)
  have w2 : IntKind.i64.wrap (y : Int) = (y : Int) := IntWalk.i64_in _ (by omega)
  have ALL := Lib.hid (And.intro e1 (And.intro e2 (And.intro e3 (And.intro e4 (And.intro c1 (And.intro c2 (And.intro c3 (And.intro w1 w2))))))))
  clear g0 gb e1 e2 e3 e4 c1 c2 c3 w1 w2
  go_enter Try.func85, Try.ntmps85
  go_upto_region 1 with (fail)
  have X : Row (((w.alloc (.cells #[.int .u64 (hi a), .int .u64 (lo a)] 72)).alloc (.cells #[.int .u64 (hi b), .int .u64 (lo b)] 72)).alloc (.cells #[.int .i64 0, .int .i64 0] 35)) w.heap.size 72 #[.int .u64 (hi a), .int .u64 (lo a)] := row_alloc (row_alloc (row_new rfl) _) _
  have Y : Row (((w.alloc (.cells #[.int .u64 (hi a), .int .u64 (lo a)] 72)).alloc (.cells #[.int .u64 (hi b), .int .u64 (lo b)] 72)).alloc (.cells #[.int .i64 0, .int .i64 0] 35)) (w.heap.size + 1) 72 #[.int .u64 (hi b), .int .u64 (lo b)] := row_alloc (row_new (by simp)) _
  have R : Row (((w.alloc (.cells #[.int .u64 (hi a), .int .u64 (lo a)] 72)).alloc (.cells #[.int .u64 (hi b), .int .u64 (lo b)] 72)).alloc (.cells #[.int .i64 0, .int .i64 0] 35)) (w.heap.size + 1 + 1) 35 #[.int .i64 0, .int .i64 0] := row_new (by simp)
  have o : Below w.heap.size w (((w.alloc (.cells #[.int .u64 (hi a), .int .u64 (lo a)] 72)).alloc (.cells #[.int .u64 (hi b), .int .u64 (lo b)] 72)).alloc (.cells #[.int .i64 0, .int .i64 0] 35)) := by (repeat (first | exact Below.refl _ _ | refine Below.setCell ?_ (by first | (simp; done) | (simp; omega) | omega) _ | refine Below.alloc ?_ (by first | (simp; done) | (simp; omega) | omega) _ | refine Below.drew ?_ | refine Below.trans ?_ (Below.mono (by assumption) (by first | (simp; done) | (simp; omega) | omega))))
  have z3 : w.heap.size + 1 + 1 < (((w.alloc (.cells #[.int .u64 (hi a), .int .u64 (lo a)] 72)).alloc (.cells #[.int .u64 (hi b), .int .u64 (lo b)] 72)).alloc (.cells #[.int .i64 0, .int .i64 0] 35)).heap.size := row_lt R
  generalize (((w.alloc (.cells #[.int .u64 (hi a), .int .u64 (lo a)] 72)).alloc (.cells #[.int .u64 (hi b), .int .u64 (lo b)] 72)).alloc (.cells #[.int .i64 0, .int .i64 0] 35)) = w3 at X Y R o z3 ⊢
  obtain ⟨X0, X1, X2, X3⟩ := row_two X
  obtain ⟨Y0, Y1, Y2, Y3⟩ := row_two Y
  go_wp2_with fail
  refine (PG.out _).mono ?_
  rintro e w4 ⟨rfl, hb4⟩
  clear X0 X1 X2 X3 Y0 Y1 Y2 Y3
  have X := row_call X hb4
  have Y := row_call Y hb4
  have R := row_call R hb4
  have o := o.trans (hb4.mono o.size)
  have z4 := hb4.size
  go_upto_region 2 with (fail)
  have X := row_alloc X (.cells #[.int .u64 (hi g), .int .u64 (lo g)] 72)
  have Y := row_alloc Y (.cells #[.int .u64 (hi g), .int .u64 (lo g)] 72)
  have R := row_alloc R (.cells #[.int .u64 (hi g), .int .u64 (lo g)] 72)
  have G : Row (w4.alloc (.cells #[.int .u64 (hi g), .int .u64 (lo g)] 72)) w4.heap.size 72 #[.int .u64 (hi g), .int .u64 (lo g)] := row_new rfl
  have o := o.alloc o.size (.cells #[.int .u64 (hi g), .int .u64 (lo g)] 72)
  generalize w4.alloc (.cells #[.int .u64 (hi g), .int .u64 (lo g)] 72) = w5 at X Y R G o ⊢
  generalize w4.heap.size = gb at G z4 ⊢
  obtain ⟨X0, X1, X2, X3⟩ := row_two X
  obtain ⟨G0, G1, G2, G3⟩ := row_two G
  go_wp2_with fail
  refine (PA.out _).mono ?_
  rintro e w6 ⟨rfl, hb6⟩
  clear X0 X1 X2 X3 G0 G1 G2 G3
  have X := row_call X hb6
  have Y := row_call Y hb6
  have R := row_call R hb6
  have G := row_call G hb6
  have o := o.trans (hb6.mono o.size)
  obtain ⟨X0, X1, X2, X3⟩ := row_two X
  go_upto_region 3 with (fail)
  clear X0 X1 X2 X3
  have X := row_two_set (u := .int .u64 (hi x)) (v := .int .u64 (lo x)) X
  have Y := row_two_other (c := w.heap.size) (u := .int .u64 (hi x)) (v := .int .u64 (lo x)) Y (by omega)
  have R := row_two_other (c := w.heap.size) (u := .int .u64 (hi x)) (v := .int .u64 (lo x)) R (by omega)
  have G := row_two_other (c := w.heap.size) (u := .int .u64 (hi x)) (v := .int .u64 (lo x)) G (by omega)
  have o := (o.setCell (p := ⟨w.heap.size, 0, none⟩) (Nat.le_refl _) (.int .u64 (hi x))).setCell (p := ⟨w.heap.size, 1, none⟩) (Nat.le_refl _) (.int .u64 (lo x))
  generalize ((w6.setCell ⟨w.heap.size, 0, none⟩ (.int .u64 (hi x))).setCell ⟨w.heap.size, 1, none⟩ (.int .u64 (lo x))) = w7 at X Y R G o ⊢
  obtain ⟨Y0, Y1, Y2, Y3⟩ := row_two Y
  obtain ⟨G0, G1, G2, G3⟩ := row_two G
  go_wp2_with fail
  refine (PB.out _).mono ?_
  rintro e w8 ⟨rfl, hb8⟩
  clear Y0 Y1 Y2 Y3 G0 G1 G2 G3 G
  have X := row_call X hb8
  have Y := row_call Y hb8
  have R := row_call R hb8
  have o := o.trans (hb8.mono o.size)
  obtain ⟨Y0, Y1, Y2, Y3⟩ := row_two Y
  go_upto_region 4 with (fail)
  clear Y0 Y1 Y2 Y3
  have Y := row_two_set (u := .int .u64 (hi y)) (v := .int .u64 (lo y)) Y
  have X := row_two_other (c := w.heap.size + 1) (u := .int .u64 (hi y)) (v := .int .u64 (lo y)) X (by omega)
  have R := row_two_other (c := w.heap.size + 1) (u := .int .u64 (hi y)) (v := .int .u64 (lo y)) R (by omega)
  have o := (o.setCell (p := ⟨w.heap.size + 1, 0, none⟩) (by simp) (.int .u64 (hi y))).setCell (p := ⟨w.heap.size + 1, 1, none⟩) (by simp) (.int .u64 (lo y))
  generalize ((w8.setCell ⟨w.heap.size + 1, 0, none⟩ (.int .u64 (hi y))).setCell ⟨w.heap.size + 1, 1, none⟩ (.int .u64 (lo y))) = w9 at X Y R o ⊢
  obtain ⟨e1, e2, e3, e4, c1, c2, c3, w1, w2⟩ := ALL.out
  rw [e1, e2] at X
  rw [e3, e4] at Y
  clear e1 e2 e3 e4
  have u1 : (0 : Int) ≤ (x : Int) ∧ (x : Int) < 9223372036854775808 := by omega
  have u2 : (0 : Int) ≤ (y : Int) ∧ (y : Int) < 9223372036854775808 := by omega
  clear c1 c2 c3 w1 w2 qa qb ha hb
  generalize hxi : (x : Int) = xi at X u1
  generalize hyi : (y : Int) = yi at Y u2
  have HXI := Lib.hid hxi
  have HYI := Lib.hid hyi
  clear hxi hyi
  have c1 : ¬ (9223372036854775808 : Int) ≤ yi := by omega
  have c2 : ¬ (9223372036854775808 : Int) < xi := by omega
  have c3 : (xi == 9223372036854775808) = false := by simp; omega
  have w1 : IntKind.i64.wrap xi = xi := IntWalk.i64_in _ (by omega)
  have w2 : IntKind.i64.wrap yi = yi := IntWalk.i64_in _ (by omega)
  obtain ⟨X0, X1, X2, X3⟩ := row_two X
  obtain ⟨Y0, Y1, Y2, Y3⟩ := row_two Y
  obtain ⟨R0, R1, R2, R3⟩ := row_two R
  go_wp2
  exact bodyPost_ret (v := .tuple #[.agg #[.int .i64 xi, .int .i64 yi], .bool true]) (by simp [results, Try.results85, go_sem, R0, R1]) rfl ⟨by rw [HXI.out, HYI.out], by (repeat (first | exact Below.refl _ _ | refine Below.setCell ?_ (by first | (simp; done) | (simp; omega) | omega) _ | refine Below.alloc ?_ (by first | (simp; done) | (simp; omega) | omega) _ | refine Below.drew ?_ | refine Below.trans ?_ (Below.mono (by assumption) (by first | (simp; done) | (simp; omega) | omega))))⟩
theorem pmake (a b : Nat) (ha : a < 9223372036854775808) (hb : b < 9223372036854775808) (h : b ≠ 0) (w : World) :
    Calls Try.prog 45 #[.int .i64 a, .int .i64 b] w fun e w' => e = .returned (.tuple #[.agg #[.int .i64 ((a / Nat.gcd a b : Nat) : Int), .int .i64 ((b / Nat.gcd a b : Nat) : Int)], .bool true]) ∧ Below w.heap.size w w' := by
  have PR := fun w => preduced a b ha hb h w
  have PA := fun w => psize a ha w
  have PB := fun w => psize b hb w
  have OA := fun w => pof a (by omega) w
  have OB := fun w => pof b (by omega) w
  generalize ((a / Nat.gcd a b : Nat) : Int) = x at PR ⊢
  generalize ((b / Nat.gcd a b : Nat) : Int) = y at PR ⊢
  have u0 : (b : Int) ≠ 0 := by omega
  have u1 : 0 ≤ (a : Int) := by omega
  have u2 : 0 ≤ (b : Int) := by omega
  generalize W a = wa at OA PR
  generalize W b = wb at OB PR
  generalize (a : Int) = ai at PA OA u1 ⊢
  generalize (b : Int) = bi at PB OB u0 u2 ⊢
  have t0 : (bi == 0) = false := by simpa using u0
  have t1 : ¬ ai < 0 := by omega
  have t2 : ¬ bi < 0 := by omega
  have PR := Lib.hid PR
  have PA := Lib.hid PA
  have PB := Lib.hid PB
  have OA := Lib.hid OA
  have OB := Lib.hid OB
  clear h ha hb u0 u1 u2
  go_enter Try.func45, Try.ntmps45
  go_wp2_with (first | (go_at_call 86; with_reducible refine (PA.out _).mono ?_; rintro e w9 ⟨rfl, h9⟩; obtain rfl := h9.symm) | (go_at_call 86; with_reducible refine (PB.out _).mono ?_; rintro e w9 ⟨rfl, h9⟩; obtain rfl := h9.symm) | (go_at_call 51; with_reducible refine (OA.out _).mono ?_; rintro e w1 ⟨rfl, hb1⟩; have hz1 := hb1.size; (try simp at hz1); have o1 : Below w.heap.size w w1 := (by (repeat (first | exact Below.refl _ _ | refine Below.setCell ?_ (by first | (simp; done) | (simp; omega) | omega) _ | refine Below.alloc ?_ (by first | (simp; done) | (simp; omega) | omega) _ | refine Below.drew ?_ | refine Below.trans ?_ (Below.mono (by assumption) (by first | (simp; done) | (simp; omega) | omega))))); have q1_0 : w.heap.size < w1.heap.size := (by omega); have r1_0 : Row w1 (w.heap.size) 35 #[.int .i64 0, .int .i64 0] := row_call (by (repeat (first | assumption | (refine row_new ?_; (first | (simp; done) | omega)) | refine row_alloc ?_ _ | refine row_drew ?_ | refine row_call ?_ (by assumption)))) hb1; obtain ⟨c1_0a, c1_0b, f1_0a, f1_0b⟩ := row_two r1_0) | (go_at_call 51; with_reducible refine (OB.out _).mono ?_; rintro e w2 ⟨rfl, hb2⟩; have hz2 := hb2.size; (try simp at hz2); have o2 : Below w.heap.size w w2 := (by (repeat (first | exact Below.refl _ _ | refine Below.setCell ?_ (by first | (simp; done) | (simp; omega) | omega) _ | refine Below.alloc ?_ (by first | (simp; done) | (simp; omega) | omega) _ | refine Below.drew ?_ | refine Below.trans ?_ (Below.mono (by assumption) (by first | (simp; done) | (simp; omega) | omega))))); have q2_0 : w.heap.size < w2.heap.size := (by omega); have r2_0 : Row w2 (w.heap.size) 35 #[.int .i64 0, .int .i64 0] := row_call (by (repeat (first | assumption | (refine row_new ?_; (first | (simp; done) | omega)) | refine row_alloc ?_ _ | refine row_drew ?_ | refine row_call ?_ (by assumption)))) hb2; obtain ⟨c2_0a, c2_0b, f2_0a, f2_0b⟩ := row_two r2_0) | (go_at_call 85; with_reducible refine (PR.out _).mono ?_; rintro e w3 ⟨rfl, hb3⟩; have hz3 := hb3.size; (try simp at hz3); have o3 : Below w.heap.size w w3 := (by (repeat (first | exact Below.refl _ _ | refine Below.setCell ?_ (by first | (simp; done) | (simp; omega) | omega) _ | refine Below.alloc ?_ (by first | (simp; done) | (simp; omega) | omega) _ | refine Below.drew ?_ | refine Below.trans ?_ (Below.mono (by assumption) (by first | (simp; done) | (simp; omega) | omega))))); have q3_0 : w.heap.size < w3.heap.size := (by omega); have r3_0 : Row w3 (w.heap.size) 35 #[.int .i64 0, .int .i64 0] := row_call (by (repeat (first | assumption | (refine row_new ?_; (first | (simp; done) | omega)) | refine row_alloc ?_ _ | refine row_drew ?_ | refine row_call ?_ (by assumption)))) hb3; obtain ⟨c3_0a, c3_0b, f3_0a, f3_0b⟩ := row_two r3_0))
  exact bodyPost_ret (v := .tuple #[.agg #[.int .i64 x, .int .i64 y], .bool true]) (by simp [results, Try.results45, go_sem, c3_0a, c3_0b]) rfl ⟨rfl, by (repeat (first | exact Below.refl _ _ | refine Below.setCell ?_ (by first | (simp; done) | (simp; omega) | omega) _ | refine Below.alloc ?_ (by first | (simp; done) | (simp; omega) | omega) _ | refine Below.drew ?_ | refine Below.trans ?_ (Below.mono (by assumption) (by first | (simp; done) | (simp; omega) | omega))))⟩
def ratA (n s q : Int) : Int := ((topN n s q / Nat.gcd (topN n s q) n.toNat : Nat) : Int)
def ratB (n s q : Int) : Int := ((n.toNat / Nat.gcd (topN n s q) n.toNat : Nat) : Int)
set_option maxHeartbeats 2000000 in
theorem pof_yes (sq tk n s q lw hg : Int) (w : World) (h : rightP n s q) : Calls Try.prog 15 #[.agg #[.int .i64 sq, .int .i64 tk, .int .i64 n, .int .i64 s, .int .i64 q, .int .i64 lw, .int .i64 hg]] w fun e w' => e = .returned (.tuple #[.agg #[.int .i64 (ratA n s q), .int .i64 (ratB n s q)], .bool true]) ∧ Below w.heap.size w w' := by
  unfold ratA ratB
  obtain ⟨nn, rfl⟩ : ∃ nn : Nat, n = (nn : Int) := ⟨n.toNat, by have := h.1; omega⟩
  rw [Int.toNat_natCast]
  have PR := fun w => pright sq tk (nn : Int) s q lw hg w
  rw [decide_eq_true h] at PR
  have PR := Lib.hid PR
  have PT := fun w => ptop sq tk (nn : Int) s q lw hg w h
  have tb : topN (nn : Int) s q < 9223372036854775808 := by
    have := right_top h
    unfold topN
    omega
  have PMK := fun w => pmake (topN (nn : Int) s q) nn tb (by have := h.2.1; omega) (by have := h.1; omega) w
  generalize topN (nn : Int) s q = tp at PT PMK ⊢
  generalize tp / Nat.gcd tp nn = x at PMK ⊢
  generalize nn / Nat.gcd tp nn = y at PMK ⊢
  have PT := Lib.hid PT
  have PMK := Lib.hid PMK
  clear h tb
  go_enter Try.func15, Try.ntmps15
  go_upto_region 3 with (go_at_call 44; with_reducible refine (PR.out _).mono ?_; rintro e w1 ⟨rfl, hb1⟩; have hz1 := hb1.size; (try simp at hz1); have o1 : Below w.heap.size w w1 := (by (repeat (first | exact Below.refl _ _ | refine Below.setCell ?_ (by first | (simp; done) | (simp; omega) | omega) _ | refine Below.alloc ?_ (by first | (simp; done) | (simp; omega) | omega) _ | refine Below.drew ?_ | refine Below.trans ?_ (Below.mono (by assumption) (by first | (simp; done) | (simp; omega) | omega))))); have q1_0 : w.heap.size < w1.heap.size := (by omega); have r1_0 : Row w1 (w.heap.size) 33 #[.int .i64 sq, .int .i64 tk, .int .i64 (nn : Nat), .int .i64 s, .int .i64 q, .int .i64 lw, .int .i64 hg] := row_call (by (repeat (first | assumption | (refine row_new ?_; (first | (simp; done) | omega)) | refine row_alloc ?_ _ | refine row_drew ?_ | refine row_call ?_ (by assumption)))) hb1; obtain ⟨c1_0a, c1_0b, c1_0c, c1_0d, c1_0e, c1_0f, c1_0g, f1_0a, f1_0b, f1_0c, f1_0d, f1_0e, f1_0f, f1_0g⟩ := row_seven r1_0; have q1_1 : w.heap.size + 1 < w1.heap.size := (by omega); have r1_1 : Row w1 (w.heap.size + 1) 35 #[.int .i64 0, .int .i64 0] := row_call (by (repeat (first | assumption | (refine row_new ?_; (first | (simp; done) | omega)) | refine row_alloc ?_ _ | refine row_drew ?_ | refine row_call ?_ (by assumption)))) hb1; obtain ⟨c1_1a, c1_1b, f1_1a, f1_1b⟩ := row_two r1_1)
  have L : Row w1 (w.heap.size) 33 #[.int .i64 sq, .int .i64 tk, .int .i64 (nn : Nat), .int .i64 s, .int .i64 q, .int .i64 lw, .int .i64 hg] ∧ Row w1 (w.heap.size + 1) 35 #[.int .i64 0, .int .i64 0] ∧ Below w.heap.size w w1 := ⟨r1_0, r1_1, o1⟩
  refine wp_region_free0 [0, 1, 2, 3, 4, 5, 6] [] [0, 1, 2, 3, 4, 5, 6] 7 (fun w' => Row w' (w.heap.size) 33 #[.int .i64 sq, .int .i64 tk, .int .i64 (nn : Nat), .int .i64 s, .int .i64 q, .int .i64 lw, .int .i64 hg] ∧ Row w' (w.heap.size + 1) 35 #[.int .i64 0, .int .i64 0] ∧ Below w.heap.size w w') (by kernel_rfl) (by kernel_rfl) (fun _ _ d _ _ h => by cases d <;> exact h) ?_ ?_
  · exact ⟨L.1, L.2.1, L.2.2.drew⟩
  (refine plan_val ?_ rfl rfl rfl (fun w' hS => ?_) ?_; rotate_left; (obtain ⟨X0, X1, X2, X3, X4, X5, X6, _⟩ := row_seven hS.1; go_simp; try with_reducible rfl); simp only [Act.put, List.setIfInBounds_toArray, List.set_cons_zero, List.set_cons_succ])
  refine plan_call (.int .i64 (tp : Nat)) 46 #[.agg #[.int .i64 sq, .int .i64 tk, .int .i64 (nn : Nat), .int .i64 s, .int .i64 q, .int .i64 lw, .int .i64 hg]] rfl rfl rfl (fun _ _ h hb => ⟨row_call h.1 hb, row_call h.2.1 hb, h.2.2.trans (hb.mono h.2.2.size)⟩) (fun w' hS => by obtain ⟨X0, X1, X2, X3, X4, X5, X6, _⟩ := row_seven hS.1; go_simp) (fun w' hS => PT.out w') ?_
  simp only [Act.put, List.setIfInBounds_toArray, List.set_cons_zero, List.set_cons_succ]
  (refine plan_pure ?_ rfl rfl (fun w' => ?_) ?_; rotate_left; (go_simp; try with_reducible rfl); simp only [Act.put, List.setIfInBounds_toArray, List.set_cons_zero, List.set_cons_succ])
  (refine plan_val ?_ rfl rfl rfl (fun w' hS => ?_) ?_; rotate_left; (obtain ⟨X0, X1, X2, X3, X4, X5, X6, _⟩ := row_seven hS.1; go_simp; try with_reducible rfl); simp only [Act.put, List.setIfInBounds_toArray, List.set_cons_zero, List.set_cons_succ])
  refine plan_call (.tuple #[.agg #[.int .i64 (x : Nat), .int .i64 (y : Nat)], .bool true]) 45 #[.int .i64 (tp : Nat), .int .i64 (nn : Nat)] rfl rfl rfl (fun _ _ h hb => ⟨row_call h.1 hb, row_call h.2.1 hb, h.2.2.trans (hb.mono h.2.2.size)⟩) (fun w' hS => by obtain ⟨X0, X1, X2, X3, X4, X5, X6, _⟩ := row_seven hS.1; go_simp) (fun w' hS => PMK.out w') ?_
  simp only [Act.put, List.setIfInBounds_toArray, List.set_cons_zero, List.set_cons_succ]
  (refine plan_pure ?_ rfl rfl (fun w' => ?_) ?_; rotate_left; (go_simp; try with_reducible rfl); simp only [Act.put, List.setIfInBounds_toArray, List.set_cons_zero, List.set_cons_succ])
  (refine plan_pure ?_ rfl rfl (fun w' => ?_) ?_; rotate_left; (go_simp; try with_reducible rfl); simp only [Act.put, List.setIfInBounds_toArray, List.set_cons_zero, List.set_cons_succ])
  refine plan_nil ?_
  intro w3 L3
  simp only [List.drop_succ_cons, List.drop_zero]
  try simp only [Act.put, List.setIfInBounds_toArray, List.set_cons_zero, List.set_cons_succ]
  obtain ⟨r3_0, r3_1, o3⟩ := L3
  obtain ⟨Y0, Y1, Y2, Y3⟩ := row_two r3_1
  clear L r1_0 r1_1 o1
  go_wp2
  exact bodyPost_ret (v := .tuple #[.agg #[.int .i64 (x : Int), .int .i64 (y : Int)], .bool true]) (by simp [results, Try.results15, go_sem, Y0, Y1]) rfl ⟨rfl, by (repeat (first | exact Below.refl _ _ | refine Below.setCell ?_ (by first | (simp; done) | (simp; omega) | omega) _ | refine Below.alloc ?_ (by first | (simp; done) | (simp; omega) | omega) _ | refine Below.drew ?_ | refine Below.trans ?_ (Below.mono (by assumption) (by first | (simp; done) | (simp; omega) | omega))))⟩
end Go.Proofs.Ytaiepjcnncajcaa
end
section
/- Spreads of marks: parameters; the empty histograms; the bound of the number of marks; the example, walked. -/
set_option linter.unusedVariables false
set_option linter.unusedSimpArgs false
set_option linter.unusedSectionVars false
set_option linter.unnecessarySimpa false
namespace Go.Proofs.Ytaiepjcnncajcaa
open Go.RowKit Go.Shelf
def mostV (k cap : Int) : Int := (if 1 ≤ k ∧ k ≤ 64 ∧ 1 ≤ cap ∧ cap ≤ 65536 then 12 * k * (3 * (Lib.bitLen cap.toNat : Nat) + 24) + 4 else 0)
theorem awake14 (w : World) : Calls Try.prog 14 #[] w fun e w' => e = .returned (.bool true) ∧ Below w.heap.size w w' := by
  have PO := fun w => pof_yes 0 0 3 9 41 1 6 w (by unfold rightP; omega)
  rw [show ratA 3 9 41 = 14 by decide, show ratB 3 9 41 = 1 by decide] at PO
  have PO := Lib.hid PO
  go_enter Try.func14, Try.ntmps14
  go_wp2_with (go_at_call 15; with_reducible refine (PO.out _).mono ?_; rintro e w1 ⟨rfl, hb1⟩; have hz1 := hb1.size; (try simp at hz1); have o1 : Below w.heap.size w w1 := (by (repeat (first | exact Below.refl _ _ | refine Below.setCell ?_ (by first | (simp; done) | (simp; omega) | omega) _ | refine Below.alloc ?_ (by first | (simp; done) | (simp; omega) | omega) _ | refine Below.drew ?_ | refine Below.trans ?_ (Below.mono (by assumption) (by first | (simp; done) | (simp; omega) | omega))))))
  go_ret
  exact ⟨rfl, by (repeat (first | exact Below.refl _ _ | refine Below.setCell ?_ (by first | (simp; done) | (simp; omega) | omega) _ | refine Below.alloc ?_ (by first | (simp; done) | (simp; omega) | omega) _ | refine Below.drew ?_ | refine Below.trans ?_ (Below.mono (by assumption) (by first | (simp; done) | (simp; omega) | omega))))⟩
end Go.Proofs.Ytaiepjcnncajcaa
end
section
/- Plain arithmetic of products in two words: no program is in sight. -/
set_option linter.unusedVariables false
set_option linter.unusedSimpArgs false
set_option linter.unusedSectionVars false
set_option linter.unnecessarySimpa false
namespace Go.Proofs.Ytaiepjcnncajcaa
open Go.RowKit
/-- The product, or 0 where it does not fit. -/
def mulV (a b : Nat) : Nat := if a * b < big then a * b else 0
def mulB (a b : Nat) : Bool := decide (a * b < big)
/-- The product of the low words, and of the low word of x and the high one of y. -/
def mlow (x y : Nat) : Nat := (x % 18446744073709551616) * (y % 18446744073709551616)
def mhigh (x y : Nat) : Nat := (x % 18446744073709551616) * (y / 18446744073709551616)
theorem mlow_lt (x y : Nat) : mlow x y < big := mul_big (Nat.mod_lt _ (by decide)) (Nat.mod_lt _ (by decide))
theorem mul_comm' (a b : Nat) : mulV a b = mulV b a ∧ mulB a b = mulB b a := by unfold mulV mulB; rw [Nat.mul_comm]; exact ⟨rfl, rfl⟩
/-- x is one word. -/
theorem mul_split {x y : Nat} (hx : hi x = 0) : x * y = mlow x y + mhigh x y * 18446744073709551616 := by
  have e : x % 18446744073709551616 = x := by unfold hi at hx; omega
  have d := Nat.div_add_mod y 18446744073709551616
  unfold mlow mhigh
  rw [e]
  conv => lhs; rw [← d]
  rw [Nat.mul_add, Nat.add_comm, Nat.mul_comm 18446744073709551616, Nat.mul_assoc]
theorem mul_both {a b : Nat} (ha : hi a ≠ 0) (hb : hi b ≠ 0) : ¬ a * b < big := by
  have h1 : 18446744073709551616 ≤ a := by unfold hi at ha; omega
  have h2 : 18446744073709551616 ≤ b := by unfold hi at hb; omega
  have := Nat.mul_le_mul h1 h2
  unfold big
  omega
theorem mul_high {x y : Nat} (hx : hi x = 0) (h : hi (mhigh x y) ≠ 0) : ¬ x * y < big := by
  rw [mul_split hx]
  unfold hi big at *
  omega
theorem high_shift {m : Nat} (h : hi m = 0) : hi (m * 18446744073709551616) = lo m ∧ lo (m * 18446744073709551616) = 0 := by unfold hi lo at *; omega
theorem high_lt {m : Nat} (h : hi m = 0) : m * 18446744073709551616 < big := by unfold hi big at *; omega
theorem mulV_no {a b : Nat} (h : ¬ a * b < big) : mulV a b = 0 ∧ mulB a b = false := by unfold mulV mulB; simp [h]
theorem mulV_yes {a b : Nat} (h : a * b < big) : mulV a b = a * b ∧ mulB a b = true := by unfold mulV mulB; simp [h]
end Go.Proofs.Ytaiepjcnncajcaa
end
section
/- The product of two wide numbers, walked: the reference. -/
set_option linter.unusedVariables false
set_option linter.unusedSimpArgs false
set_option linter.unusedSectionVars false
set_option linter.unnecessarySimpa false
namespace Go.Proofs.Ytaiepjcnncajcaa
open Go.RowKit Go.Shelf
end Go.Proofs.Ytaiepjcnncajcaa
end
section
/- The product of two wide numbers, walked: the program. -/
set_option linter.unusedVariables false
set_option linter.unusedSimpArgs false
set_option linter.unusedSectionVars false
set_option linter.unnecessarySimpa false
namespace Go.Proofs.Ytaiepjcnncajcaa
open Go.RowKit Go.Shelf
theorem pprod_ll (x y : Nat) (w : World) : Calls Try.prog 50 #[.int .u64 (lo x), .int .u64 (lo y)] w fun e w' => e = .returned (W (mlow x y)) ∧ Below w.heap.size w w' := by
  have h := pproduct (lo x) (lo y) (lo_word x) (lo_word y) w
  rw [lo_toNat, lo_toNat] at h
  exact h
theorem pprod_lh (x y : Nat) (hy : y < big) (w : World) : Calls Try.prog 50 #[.int .u64 (lo x), .int .u64 (hi y)] w fun e w' => e = .returned (W (mhigh x y)) ∧ Below w.heap.size w w' := by
  have h := pproduct (lo x) (hi y) (lo_word x) (hi_word hy) w
  rw [lo_toNat, hi_toNat] at h
  exact h
/-- The last sum of a product. -/
theorem padd_high (x y : Nat) (hx : hi x = 0) (hy : y < big) (hh : hi (mhigh x y) = 0) (w : World) :
    Calls Try.prog 90 #[W (mlow x y), .agg #[.int .u64 (lo (mhigh x y)), .int .u64 0]] w fun e w' => e = .returned (.tuple #[W (mulV x y), .bool (mulB x y)]) ∧ Below w.heap.size w w' := by
  obtain ⟨e1, e2⟩ := high_shift hh
  have hs := mul_split (y := y) hx
  have hl := high_lt hh
  rw [← e1, ← e2]
  by_cases h : x * y < big
  · obtain ⟨v, b⟩ := mulV_yes h
    rw [v, b, hs]
    exact padd_fits _ _ (mlow_lt x y) hl (by rw [← hs]; exact h) w
  · obtain ⟨v, b⟩ := mulV_no h
    rw [v, b]
    exact padd_over _ _ (mlow_lt x y) hl (by rw [← hs]; exact h) w
set_option maxHeartbeats 4000000 in
theorem pmul (a b : Nat) (ha : a < big) (hb : b < big) (w : World) :
    Calls Try.prog 49 #[W a, W b] w fun e w' => e = .returned (.tuple #[W (mulV a b), .bool (mulB a b)]) ∧ Below w.heap.size w w' := by
  by_cases hxa : hi a = 0
  · have t1 : (hi a != 0) = false := by simp [hxa]
    have HX := Lib.hid hxa
    clear hxa
    go_enter Try.func49, Try.ntmps49
    go_upto_region 5 with (fail)
    have hxa := HX.out
    have L : Row (((w.alloc (.cells (Wc a) 72)).alloc (.cells (Wc b) 72)).alloc (.cells #[.int .u64 0, .int .u64 0] 72)) (w.heap.size) 72 (Wc a) ∧ Row (((w.alloc (.cells (Wc a) 72)).alloc (.cells (Wc b) 72)).alloc (.cells #[.int .u64 0, .int .u64 0] 72)) (w.heap.size + 1) 72 (Wc b) ∧ Row (((w.alloc (.cells (Wc a) 72)).alloc (.cells (Wc b) 72)).alloc (.cells #[.int .u64 0, .int .u64 0] 72)) (w.heap.size + 1 + 1) 72 #[.int .u64 0, .int .u64 0] ∧ Below w.heap.size w (((w.alloc (.cells (Wc a) 72)).alloc (.cells (Wc b) 72)).alloc (.cells #[.int .u64 0, .int .u64 0] 72)) := by
      refine ⟨?_, ?_, ?_, ?_⟩
      · (repeat (first | assumption | (refine row_new ?_; (first | (simp; done) | omega)) | refine row_alloc ?_ _ | refine row_drew ?_ | refine row_call ?_ (by assumption)))
      · (repeat (first | assumption | (refine row_new ?_; (first | (simp; done) | omega)) | refine row_alloc ?_ _ | refine row_drew ?_ | refine row_call ?_ (by assumption)))
      · (repeat (first | assumption | (refine row_new ?_; (first | (simp; done) | omega)) | refine row_alloc ?_ _ | refine row_drew ?_ | refine row_call ?_ (by assumption)))
      · (repeat (first | exact Below.refl _ _ | refine Below.setCell ?_ (by first | (simp; done) | (simp; omega) | omega) _ | refine Below.alloc ?_ (by first | (simp; done) | (simp; omega) | omega) _ | refine Below.drew ?_ | refine Below.trans ?_ (Below.mono (by assumption) (by first | (simp; done) | (simp; omega) | omega))))
    generalize (((w.alloc (.cells (Wc a) 72)).alloc (.cells (Wc b) 72)).alloc (.cells #[.int .u64 0, .int .u64 0] 72)) = w2 at L ⊢
    have hw2 := row_lt L.2.2.1
    have HX := Lib.hid hxa
    refine wp_region_free2 [0, 1, 2, 3, 4, 5, 6, 7, 8, 9] [] [0, 1, 2, 3, 4, 5, 6, 7, 8, 9, 10, 11] (10, 72, #[.int .u64 0, .int .u64 0]) (11, 72, #[.int .u64 0, .int .u64 0]) 6 7 12 (fun w' => Row w' (w.heap.size) 72 (Wc a) ∧ Row w' (w.heap.size + 1) 72 (Wc b) ∧ Row w' (w.heap.size + 1 + 1) 72 #[.int .u64 0, .int .u64 0] ∧ Below w.heap.size w w') (by kernel_rfl) (by kernel_rfl) ⟨_, _, rfl, rfl, rfl, fun ρ w' => by go_simp⟩ ⟨_, _, rfl, rfl, rfl, fun ρ w' => by go_simp⟩ rfl rfl (by simp) (by simp) (fun _ h => ⟨row_alloc h.1 _, row_alloc h.2.1 _, row_alloc h.2.2.1 _, h.2.2.2.alloc h.2.2.2.size _⟩) (fun _ h => ⟨row_alloc h.1 _, row_alloc h.2.1 _, row_alloc h.2.2.1 _, h.2.2.2.alloc h.2.2.2.size _⟩) (fun _ _ d _ _ h => by cases d <;> exact h) ?_ ?_
    · exact ⟨L.1, L.2.1, L.2.2.1, L.2.2.2.drew⟩
    (refine plan_pure ?_ rfl rfl (fun w' => ?_) ?_; rotate_left; (go_simp; try with_reducible rfl); simp only [Act.put, List.setIfInBounds_toArray, List.set_cons_zero, List.set_cons_succ])
    (refine plan_val ?_ rfl rfl rfl (fun w' hS => ?_) ?_; rotate_left; (obtain ⟨A00, A01, A02, A03⟩ := row_two hS.1; obtain ⟨A10, A11, A12, A13⟩ := row_two hS.2.1; obtain ⟨A20, A21, A22, A23⟩ := row_two hS.2.2.1; go_simp; try with_reducible rfl); simp only [Act.put, List.setIfInBounds_toArray, List.set_cons_zero, List.set_cons_succ])
    (refine plan_pure ?_ rfl rfl (fun w' => ?_) ?_; rotate_left; (go_simp; try with_reducible rfl); simp only [Act.put, List.setIfInBounds_toArray, List.set_cons_zero, List.set_cons_succ])
    (refine plan_val ?_ rfl rfl rfl (fun w' hS => ?_) ?_; rotate_left; (obtain ⟨A00, A01, A02, A03⟩ := row_two hS.1; obtain ⟨A10, A11, A12, A13⟩ := row_two hS.2.1; obtain ⟨A20, A21, A22, A23⟩ := row_two hS.2.2.1; go_simp; try with_reducible rfl); simp only [Act.put, List.setIfInBounds_toArray, List.set_cons_zero, List.set_cons_succ])
    refine plan_call (W (mlow a b)) 50 #[.int .u64 (lo a), .int .u64 (lo b)] rfl rfl rfl (fun _ _ h hb => ⟨row_call h.1 hb, row_call h.2.1 hb, row_call h.2.2.1 hb, h.2.2.2.trans (hb.mono h.2.2.2.size)⟩) (fun w' hS => by obtain ⟨A00, A01, A02, A03⟩ := row_two hS.1; obtain ⟨A10, A11, A12, A13⟩ := row_two hS.2.1; obtain ⟨A20, A21, A22, A23⟩ := row_two hS.2.2.1; go_simp) (fun w' hS => pprod_ll a b w') ?_
    simp only [Act.put, List.setIfInBounds_toArray, List.set_cons_zero, List.set_cons_succ]
    (refine plan_pure ?_ rfl rfl (fun w' => ?_) ?_; rotate_left; (go_simp; try with_reducible rfl); simp only [Act.put, List.setIfInBounds_toArray, List.set_cons_zero, List.set_cons_succ])
    (refine plan_val ?_ rfl rfl rfl (fun w' hS => ?_) ?_; rotate_left; (obtain ⟨A00, A01, A02, A03⟩ := row_two hS.1; obtain ⟨A10, A11, A12, A13⟩ := row_two hS.2.1; obtain ⟨A20, A21, A22, A23⟩ := row_two hS.2.2.1; go_simp; try with_reducible rfl); simp only [Act.put, List.setIfInBounds_toArray, List.set_cons_zero, List.set_cons_succ])
    (refine plan_pure ?_ rfl rfl (fun w' => ?_) ?_; rotate_left; (go_simp; try with_reducible rfl); simp only [Act.put, List.setIfInBounds_toArray, List.set_cons_zero, List.set_cons_succ])
    (refine plan_val ?_ rfl rfl rfl (fun w' hS => ?_) ?_; rotate_left; (obtain ⟨A00, A01, A02, A03⟩ := row_two hS.1; obtain ⟨A10, A11, A12, A13⟩ := row_two hS.2.1; obtain ⟨A20, A21, A22, A23⟩ := row_two hS.2.2.1; go_simp; try with_reducible rfl); simp only [Act.put, List.setIfInBounds_toArray, List.set_cons_zero, List.set_cons_succ])
    refine plan_call (W (mhigh a b)) 50 #[.int .u64 (lo a), .int .u64 (hi b)] rfl rfl rfl (fun _ _ h hb => ⟨row_call h.1 hb, row_call h.2.1 hb, row_call h.2.2.1 hb, h.2.2.2.trans (hb.mono h.2.2.2.size)⟩) (fun w' hS => by obtain ⟨A00, A01, A02, A03⟩ := row_two hS.1; obtain ⟨A10, A11, A12, A13⟩ := row_two hS.2.1; obtain ⟨A20, A21, A22, A23⟩ := row_two hS.2.2.1; go_simp) (fun w' hS => pprod_lh a b hb w') ?_
    simp only [Act.put, List.setIfInBounds_toArray, List.set_cons_zero, List.set_cons_succ]
    refine plan_nil ?_
    intro g k w3 L3 Rg Rk hgk hg hk
    simp only [List.drop_succ_cons, List.drop_zero]
    try simp only [Act.put, List.setIfInBounds_toArray, List.set_cons_zero, List.set_cons_succ]
    obtain ⟨G0, G1, G2, G3⟩ := row_two Rg
    obtain ⟨K0, K1, K2, K3⟩ := row_two Rk
    go_upto_region 6 with (fail)
    have Rg5 := row_two_other (u := .int .u64 (hi (mhigh a b))) (v := .int .u64 (lo (mhigh a b))) (row_two_set (u := .int .u64 (hi (mlow a b))) (v := .int .u64 (lo (mlow a b))) Rg) hgk
    have Rk5 := row_two_set (u := .int .u64 (hi (mhigh a b))) (v := .int .u64 (lo (mhigh a b))) (row_two_other (u := .int .u64 (hi (mlow a b))) (v := .int .u64 (lo (mlow a b))) Rk (Ne.symm hgk))
    have R45 := row_two_other (c := k) (u := .int .u64 (hi (mhigh a b))) (v := .int .u64 (lo (mhigh a b))) (row_two_other (c := g) (u := .int .u64 (hi (mlow a b))) (v := .int .u64 (lo (mlow a b))) L3.2.2.1 (by omega)) (by omega)
    have B5 := (((L3.2.2.2.setCell (p := ⟨g, 0, none⟩) (show w.heap.size ≤ g by omega) (.int .u64 (hi (mlow a b)))).setCell (p := ⟨g, 1, none⟩) (show w.heap.size ≤ g by omega) (.int .u64 (lo (mlow a b)))).setCell (p := ⟨k, 0, none⟩) (show w.heap.size ≤ k by omega) (.int .u64 (hi (mhigh a b)))).setCell (p := ⟨k, 1, none⟩) (show w.heap.size ≤ k by omega) (.int .u64 (lo (mhigh a b)))
    generalize (((w3.setCell ⟨g, 0, none⟩ (.int .u64 (hi (mlow a b)))).setCell ⟨g, 1, none⟩ (.int .u64 (lo (mlow a b)))).setCell ⟨k, 0, none⟩ (.int .u64 (hi (mhigh a b)))).setCell ⟨k, 1, none⟩ (.int .u64 (lo (mhigh a b))) = w5 at Rg5 Rk5 R45 B5 ⊢
    clear L L3 Rg Rk G0 G1 G2 G3 K0 K1 K2 K3
    obtain ⟨G0, G1, G2, G3⟩ := row_two Rg5
    obtain ⟨K0, K1, K2, K3⟩ := row_two Rk5
    obtain ⟨Z0, Z1, Z2, Z3⟩ := row_two R45
    have z5 := B5.size
    by_cases hh : hi (mhigh a b) = 0
    · have HA := Lib.hid (fun w' => padd_high a b hxa hb hh w')
      have tst : (hi (mhigh a b) != 0) = false := by simp [hh]
      clear hh
      go_wp2_with (go_at_call 90; refine (HA.out _).mono ?_; rintro e w6 ⟨rfl, hb6⟩; have j4 := row_call R45 hb6; obtain ⟨Y0, Y1, Y2, Y3⟩ := row_two j4; have z6 := hb6.size)
      simp [bodyPost, results, Try.results49, go_sem, Y0, Y1]
      (repeat (first | exact Below.refl _ _ | refine Below.setCell ?_ (by first | (simp; done) | (simp; omega) | omega) _ | refine Below.alloc ?_ (by first | (simp; done) | (simp; omega) | omega) _ | refine Below.drew ?_ | refine Below.trans ?_ (Below.mono (by assumption) (by first | (simp; done) | (simp; omega) | omega))))
    · obtain ⟨v1, v2⟩ := mulV_no (mul_high hxa hh)
      have HV := Lib.hid (And.intro v1 v2)
      have tst : (hi (mhigh a b) != 0) = true := by simp [hh]
      clear v1 v2 hh
      go_wp2
      simp [bodyPost, results, Try.results49, go_sem, Z0, Z1, HV.out.1, HV.out.2]
      first | (refine ⟨⟨rfl, rfl⟩, ?_⟩; (repeat (first | exact Below.refl _ _ | refine Below.setCell ?_ (by first | (simp; done) | (simp; omega) | omega) _ | refine Below.alloc ?_ (by first | (simp; done) | (simp; omega) | omega) _ | refine Below.drew ?_ | refine Below.trans ?_ (Below.mono (by assumption) (by first | (simp; done) | (simp; omega) | omega))))) | (repeat (first | exact Below.refl _ _ | refine Below.setCell ?_ (by first | (simp; done) | (simp; omega) | omega) _ | refine Below.alloc ?_ (by first | (simp; done) | (simp; omega) | omega) _ | refine Below.drew ?_ | refine Below.trans ?_ (Below.mono (by assumption) (by first | (simp; done) | (simp; omega) | omega))))
  · by_cases hxb : hi b = 0
    · have t1 : (hi a != 0) = true := by simp [hxa]
      have t2 : (hi b != 0) = false := by simp [hxb]
      have HX := Lib.hid hxb
      clear hxb hxa
      obtain ⟨c1, c2⟩ := mul_comm' a b
      rw [c1, c2]
      clear c1 c2
      go_enter Try.func49, Try.ntmps49
      go_upto_region 5 with (fail)
      have hxb := HX.out
      have L : Row (((w.alloc (.cells (Wc b) 72)).alloc (.cells (Wc a) 72)).alloc (.cells #[.int .u64 0, .int .u64 0] 72)) (w.heap.size) 72 (Wc b) ∧ Row (((w.alloc (.cells (Wc b) 72)).alloc (.cells (Wc a) 72)).alloc (.cells #[.int .u64 0, .int .u64 0] 72)) (w.heap.size + 1) 72 (Wc a) ∧ Row (((w.alloc (.cells (Wc b) 72)).alloc (.cells (Wc a) 72)).alloc (.cells #[.int .u64 0, .int .u64 0] 72)) (w.heap.size + 1 + 1) 72 #[.int .u64 0, .int .u64 0] ∧ Below w.heap.size w (((w.alloc (.cells (Wc b) 72)).alloc (.cells (Wc a) 72)).alloc (.cells #[.int .u64 0, .int .u64 0] 72)) := by
        refine ⟨?_, ?_, ?_, ?_⟩
        · (repeat (first | assumption | (refine row_new ?_; (first | (simp; done) | omega)) | refine row_alloc ?_ _ | refine row_drew ?_ | refine row_call ?_ (by assumption)))
        · (repeat (first | assumption | (refine row_new ?_; (first | (simp; done) | omega)) | refine row_alloc ?_ _ | refine row_drew ?_ | refine row_call ?_ (by assumption)))
        · (repeat (first | assumption | (refine row_new ?_; (first | (simp; done) | omega)) | refine row_alloc ?_ _ | refine row_drew ?_ | refine row_call ?_ (by assumption)))
        · (repeat (first | exact Below.refl _ _ | refine Below.setCell ?_ (by first | (simp; done) | (simp; omega) | omega) _ | refine Below.alloc ?_ (by first | (simp; done) | (simp; omega) | omega) _ | refine Below.drew ?_ | refine Below.trans ?_ (Below.mono (by assumption) (by first | (simp; done) | (simp; omega) | omega))))
      generalize (((w.alloc (.cells (Wc b) 72)).alloc (.cells (Wc a) 72)).alloc (.cells #[.int .u64 0, .int .u64 0] 72)) = w2 at L ⊢
      have hw2 := row_lt L.2.2.1
      have HX := Lib.hid hxb
      refine wp_region_free2 [0, 1, 2, 3, 4, 5, 6, 7, 8, 9] [] [0, 1, 2, 3, 4, 5, 6, 7, 8, 9, 10, 11] (10, 72, #[.int .u64 0, .int .u64 0]) (11, 72, #[.int .u64 0, .int .u64 0]) 6 7 12 (fun w' => Row w' (w.heap.size) 72 (Wc b) ∧ Row w' (w.heap.size + 1) 72 (Wc a) ∧ Row w' (w.heap.size + 1 + 1) 72 #[.int .u64 0, .int .u64 0] ∧ Below w.heap.size w w') (by kernel_rfl) (by kernel_rfl) ⟨_, _, rfl, rfl, rfl, fun ρ w' => by go_simp⟩ ⟨_, _, rfl, rfl, rfl, fun ρ w' => by go_simp⟩ rfl rfl (by simp) (by simp) (fun _ h => ⟨row_alloc h.1 _, row_alloc h.2.1 _, row_alloc h.2.2.1 _, h.2.2.2.alloc h.2.2.2.size _⟩) (fun _ h => ⟨row_alloc h.1 _, row_alloc h.2.1 _, row_alloc h.2.2.1 _, h.2.2.2.alloc h.2.2.2.size _⟩) (fun _ _ d _ _ h => by cases d <;> exact h) ?_ ?_
      · exact ⟨L.1, L.2.1, L.2.2.1, L.2.2.2.drew⟩
      (refine plan_pure ?_ rfl rfl (fun w' => ?_) ?_; rotate_left; (go_simp; try with_reducible rfl); simp only [Act.put, List.setIfInBounds_toArray, List.set_cons_zero, List.set_cons_succ])
      (refine plan_val ?_ rfl rfl rfl (fun w' hS => ?_) ?_; rotate_left; (obtain ⟨A00, A01, A02, A03⟩ := row_two hS.1; obtain ⟨A10, A11, A12, A13⟩ := row_two hS.2.1; obtain ⟨A20, A21, A22, A23⟩ := row_two hS.2.2.1; go_simp; try with_reducible rfl); simp only [Act.put, List.setIfInBounds_toArray, List.set_cons_zero, List.set_cons_succ])
      (refine plan_pure ?_ rfl rfl (fun w' => ?_) ?_; rotate_left; (go_simp; try with_reducible rfl); simp only [Act.put, List.setIfInBounds_toArray, List.set_cons_zero, List.set_cons_succ])
      (refine plan_val ?_ rfl rfl rfl (fun w' hS => ?_) ?_; rotate_left; (obtain ⟨A00, A01, A02, A03⟩ := row_two hS.1; obtain ⟨A10, A11, A12, A13⟩ := row_two hS.2.1; obtain ⟨A20, A21, A22, A23⟩ := row_two hS.2.2.1; go_simp; try with_reducible rfl); simp only [Act.put, List.setIfInBounds_toArray, List.set_cons_zero, List.set_cons_succ])
      refine plan_call (W (mlow b a)) 50 #[.int .u64 (lo b), .int .u64 (lo a)] rfl rfl rfl (fun _ _ h hb => ⟨row_call h.1 hb, row_call h.2.1 hb, row_call h.2.2.1 hb, h.2.2.2.trans (hb.mono h.2.2.2.size)⟩) (fun w' hS => by obtain ⟨A00, A01, A02, A03⟩ := row_two hS.1; obtain ⟨A10, A11, A12, A13⟩ := row_two hS.2.1; obtain ⟨A20, A21, A22, A23⟩ := row_two hS.2.2.1; go_simp) (fun w' hS => pprod_ll b a w') ?_
      simp only [Act.put, List.setIfInBounds_toArray, List.set_cons_zero, List.set_cons_succ]
      (refine plan_pure ?_ rfl rfl (fun w' => ?_) ?_; rotate_left; (go_simp; try with_reducible rfl); simp only [Act.put, List.setIfInBounds_toArray, List.set_cons_zero, List.set_cons_succ])
      (refine plan_val ?_ rfl rfl rfl (fun w' hS => ?_) ?_; rotate_left; (obtain ⟨A00, A01, A02, A03⟩ := row_two hS.1; obtain ⟨A10, A11, A12, A13⟩ := row_two hS.2.1; obtain ⟨A20, A21, A22, A23⟩ := row_two hS.2.2.1; go_simp; try with_reducible rfl); simp only [Act.put, List.setIfInBounds_toArray, List.set_cons_zero, List.set_cons_succ])
      (refine plan_pure ?_ rfl rfl (fun w' => ?_) ?_; rotate_left; (go_simp; try with_reducible rfl); simp only [Act.put, List.setIfInBounds_toArray, List.set_cons_zero, List.set_cons_succ])
      (refine plan_val ?_ rfl rfl rfl (fun w' hS => ?_) ?_; rotate_left; (obtain ⟨A00, A01, A02, A03⟩ := row_two hS.1; obtain ⟨A10, A11, A12, A13⟩ := row_two hS.2.1; obtain ⟨A20, A21, A22, A23⟩ := row_two hS.2.2.1; go_simp; try with_reducible rfl); simp only [Act.put, List.setIfInBounds_toArray, List.set_cons_zero, List.set_cons_succ])
      refine plan_call (W (mhigh b a)) 50 #[.int .u64 (lo b), .int .u64 (hi a)] rfl rfl rfl (fun _ _ h hb => ⟨row_call h.1 hb, row_call h.2.1 hb, row_call h.2.2.1 hb, h.2.2.2.trans (hb.mono h.2.2.2.size)⟩) (fun w' hS => by obtain ⟨A00, A01, A02, A03⟩ := row_two hS.1; obtain ⟨A10, A11, A12, A13⟩ := row_two hS.2.1; obtain ⟨A20, A21, A22, A23⟩ := row_two hS.2.2.1; go_simp) (fun w' hS => pprod_lh b a ha w') ?_
      simp only [Act.put, List.setIfInBounds_toArray, List.set_cons_zero, List.set_cons_succ]
      refine plan_nil ?_
      intro g k w3 L3 Rg Rk hgk hg hk
      simp only [List.drop_succ_cons, List.drop_zero]
      try simp only [Act.put, List.setIfInBounds_toArray, List.set_cons_zero, List.set_cons_succ]
      obtain ⟨G0, G1, G2, G3⟩ := row_two Rg
      obtain ⟨K0, K1, K2, K3⟩ := row_two Rk
      go_upto_region 6 with (fail)
      have Rg5 := row_two_other (u := .int .u64 (hi (mhigh b a))) (v := .int .u64 (lo (mhigh b a))) (row_two_set (u := .int .u64 (hi (mlow b a))) (v := .int .u64 (lo (mlow b a))) Rg) hgk
      have Rk5 := row_two_set (u := .int .u64 (hi (mhigh b a))) (v := .int .u64 (lo (mhigh b a))) (row_two_other (u := .int .u64 (hi (mlow b a))) (v := .int .u64 (lo (mlow b a))) Rk (Ne.symm hgk))
      have R45 := row_two_other (c := k) (u := .int .u64 (hi (mhigh b a))) (v := .int .u64 (lo (mhigh b a))) (row_two_other (c := g) (u := .int .u64 (hi (mlow b a))) (v := .int .u64 (lo (mlow b a))) L3.2.2.1 (by omega)) (by omega)
      have B5 := (((L3.2.2.2.setCell (p := ⟨g, 0, none⟩) (show w.heap.size ≤ g by omega) (.int .u64 (hi (mlow b a)))).setCell (p := ⟨g, 1, none⟩) (show w.heap.size ≤ g by omega) (.int .u64 (lo (mlow b a)))).setCell (p := ⟨k, 0, none⟩) (show w.heap.size ≤ k by omega) (.int .u64 (hi (mhigh b a)))).setCell (p := ⟨k, 1, none⟩) (show w.heap.size ≤ k by omega) (.int .u64 (lo (mhigh b a)))
      generalize (((w3.setCell ⟨g, 0, none⟩ (.int .u64 (hi (mlow b a)))).setCell ⟨g, 1, none⟩ (.int .u64 (lo (mlow b a)))).setCell ⟨k, 0, none⟩ (.int .u64 (hi (mhigh b a)))).setCell ⟨k, 1, none⟩ (.int .u64 (lo (mhigh b a))) = w5 at Rg5 Rk5 R45 B5 ⊢
      clear L L3 Rg Rk G0 G1 G2 G3 K0 K1 K2 K3
      obtain ⟨G0, G1, G2, G3⟩ := row_two Rg5
      obtain ⟨K0, K1, K2, K3⟩ := row_two Rk5
      obtain ⟨Z0, Z1, Z2, Z3⟩ := row_two R45
      have z5 := B5.size
      by_cases hh : hi (mhigh b a) = 0
      · have HA := Lib.hid (fun w' => padd_high b a hxb ha hh w')
        have tst : (hi (mhigh b a) != 0) = false := by simp [hh]
        clear hh
        go_wp2_with (go_at_call 90; refine (HA.out _).mono ?_; rintro e w6 ⟨rfl, hb6⟩; have j4 := row_call R45 hb6; obtain ⟨Y0, Y1, Y2, Y3⟩ := row_two j4; have z6 := hb6.size)
        simp [bodyPost, results, Try.results49, go_sem, Y0, Y1]
        (repeat (first | exact Below.refl _ _ | refine Below.setCell ?_ (by first | (simp; done) | (simp; omega) | omega) _ | refine Below.alloc ?_ (by first | (simp; done) | (simp; omega) | omega) _ | refine Below.drew ?_ | refine Below.trans ?_ (Below.mono (by assumption) (by first | (simp; done) | (simp; omega) | omega))))
      · obtain ⟨v1, v2⟩ := mulV_no (mul_high hxb hh)
        have HV := Lib.hid (And.intro v1 v2)
        have tst : (hi (mhigh b a) != 0) = true := by simp [hh]
        clear v1 v2 hh
        go_wp2
        simp [bodyPost, results, Try.results49, go_sem, Z0, Z1, HV.out.1, HV.out.2]
        first | (refine ⟨⟨rfl, rfl⟩, ?_⟩; (repeat (first | exact Below.refl _ _ | refine Below.setCell ?_ (by first | (simp; done) | (simp; omega) | omega) _ | refine Below.alloc ?_ (by first | (simp; done) | (simp; omega) | omega) _ | refine Below.drew ?_ | refine Below.trans ?_ (Below.mono (by assumption) (by first | (simp; done) | (simp; omega) | omega))))) | (repeat (first | exact Below.refl _ _ | refine Below.setCell ?_ (by first | (simp; done) | (simp; omega) | omega) _ | refine Below.alloc ?_ (by first | (simp; done) | (simp; omega) | omega) _ | refine Below.drew ?_ | refine Below.trans ?_ (Below.mono (by assumption) (by first | (simp; done) | (simp; omega) | omega))))
    · obtain ⟨v1, v2⟩ := mulV_no (mul_both hxa hxb)
      rw [v1, v2]
      have t1 : (hi a != 0) = true := by simp [hxa]
      have t2 : (hi b != 0) = true := by simp [hxb]
      clear v1 v2 hxa hxb
      go_enter Try.func49, Try.ntmps49
      go_wp2
      simp [bodyPost, results, Try.results49, go_sem]
      refine ⟨⟨rfl, rfl⟩, ?_⟩
      (repeat (first | exact Below.refl _ _ | refine Below.setCell ?_ (by first | (simp; done) | (simp; omega) | omega) _ | refine Below.alloc ?_ (by first | (simp; done) | (simp; omega) | omega) _ | refine Below.drew ?_ | refine Below.trans ?_ (Below.mono (by assumption) (by first | (simp; done) | (simp; omega) | omega))))
end Go.Proofs.Ytaiepjcnncajcaa
end
