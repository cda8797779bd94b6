/- What a suffix that is close to a longer one keeps, whatever follows; plain. -/
import Derived.Test.YtaiepjcnncajcaaProg
set_option linter.unusedVariables false
set_option linter.unusedSimpArgs false
set_option linter.unusedSectionVars false
set_option linter.unnecessarySimpa false
namespace Go.Proofs.Ytaiepjcnncajcaa
theorem sqn (x : Int) : 0 ≤ x * x := by
  rcases Int.le_total 0 x with h | h
  · exact Int.mul_nonneg h h
  · have := Int.mul_nonneg (show 0 ≤ -x by omega) (show 0 ≤ -x by omega); rwa [Int.neg_mul_neg] at this
/-- X and Y of the hypothesis; what follows from close marks. -/
theorem close_H2 {k o b TO TB TA P : Int} (ho : 0 ≤ o) (e1 : o * b * TA = (o + b) * (b * TO + o * TB) + P * P) (h2 : (6 * k - 1) * TA * b ≤ 6 * k * TB * (o + b)) :
    (6 * k - 1) * ((o + b) * b * TO + P * P) ≤ TB * (o + b) * o := by
  have h := Int.mul_le_mul_of_nonneg_left h2 ho
  have e : o * ((6 * k - 1) * TA * b) = (6 * k - 1) * ((o + b) * (b * TO + o * TB) + P * P) := by rw [← e1]; grind
  rw [e] at h
  grind
/-- The case of no later items. -/
theorem later_none {k o b TO TB P : Int} (hk : 1 ≤ k) (X0 : 0 ≤ (o + b) * b * TO) (H2 : (6 * k - 1) * ((o + b) * b * TO + P * P) ≤ TB * (o + b) * o) :
    k * ((o + b) * b * TO + P * P) ≤ TB * (o + b) * o := by
  have hy := sqn P
  have := Int.mul_le_mul_of_nonneg_right (show k ≤ 6 * k - 1 by omega) (show 0 ≤ (o + b) * b * TO + P * P by omega)
  omega
theorem later_i {k o b g TO TB P : Int} (hk : 1 ≤ k) (ho : 0 ≤ o) (hb : 1 ≤ b) (hg : b ≤ g) (T0 : 0 ≤ TO) (H1 : (6 * k - 1) * o ≤ b) (H2 : (6 * k - 1) * ((o + b) * b * TO + P * P) ≤ TB * (o + b) * o) :
    k * (o + g) * b * b * TO + 2 * k * g * (P * P) ≤ TB * (o + g) * o * b := by
  have hy := sqn P
  have X0 : 0 ≤ (o + b) * b * TO := Int.mul_nonneg (Int.mul_nonneg (by omega) (by omega)) T0
  -- multiply by (o + b)
  refine Int.le_of_mul_le_mul_left (a := o + b) ?_ (by omega)
  have a1 : k * ((o + g) * b * ((o + b) * b * TO)) ≤ (6 * k - 1) * ((o + g) * b * ((o + b) * b * TO)) :=
    Int.mul_le_mul_of_nonneg_right (by omega) (Int.mul_nonneg (Int.mul_nonneg (by omega) (by omega)) X0)
  have b1 : 2 * k * (o + b) ≤ (6 * k - 1) * b := by
    have c1 : 2 * k * o ≤ (6 * k - 1) * o := Int.mul_le_mul_of_nonneg_right (by omega) ho
    have c2 : (2 * k + 1) * b ≤ (6 * k - 1) * b := Int.mul_le_mul_of_nonneg_right (by omega) (by omega)
    have c3 : 2 * k * (o + b) = 2 * k * o + 2 * k * b := by grind
    have c4 : (2 * k + 1) * b = 2 * k * b + b := by grind
    omega
  have b2 : g * (2 * k * (o + b)) ≤ (o + g) * ((6 * k - 1) * b) := Int.mul_le_mul (by omega) b1 (Int.mul_nonneg (by omega) (by omega)) (by omega)
  have a2 := Int.mul_le_mul_of_nonneg_right b2 hy
  have a3 := Int.mul_le_mul_of_nonneg_left H2 (show 0 ≤ (o + g) * b from Int.mul_nonneg (by omega) (by omega))
  grind
theorem later_ii {k o b c : Int} (hk : 1 ≤ k) (ho : 0 ≤ o) (hb : 1 ≤ b) (hc : 0 ≤ c) (H1 : (6 * k - 1) * o ≤ b) (R : Int) :
    2 * k * c * (o * o) * (R * R) ≤ (R * R) * (o + (b + c)) * o * b := by
  have hr := sqn R
  have h1 : 2 * k * o ≤ b := by
    have := Int.mul_le_mul_of_nonneg_right (show 2 * k ≤ 6 * k - 1 by omega) ho
    omega
  have h2 : c * (2 * k * o) ≤ (o + (b + c)) * b := Int.mul_le_mul (by omega) h1 (Int.mul_nonneg (by omega) ho) (by omega)
  have h3 := Int.mul_le_mul_of_nonneg_left h2 (show 0 ≤ o * (R * R) from Int.mul_nonneg ho hr)
  grind
theorem two_sq (x y : Int) : (x + y) * (x + y) ≤ 2 * (x * x) + 2 * (y * y) := by
  have := sqn (x - y)
  grind
theorem later_some {k o b c TO TB TC TG P PG R : Int} (hk : 1 ≤ k) (ho : 0 ≤ o) (hb : 1 ≤ b) (hc : 1 ≤ c) (T0 : 0 ≤ TO) (TC0 : 0 ≤ TC)
    (e3 : b * PG = (b + c) * P + o * R) (e4 : b * c * TG = (b + c) * (c * TB + b * TC) + R * R)
    (H1 : (6 * k - 1) * o ≤ b) (H2 : (6 * k - 1) * ((o + b) * b * TO + P * P) ≤ TB * (o + b) * o) :
    k * ((o + (b + c)) * (b + c) * TO + PG * PG) ≤ TG * (o + (b + c)) * o := by
  have hi := later_i (g := b + c) hk ho hb (by omega) T0 H1 H2
  have hii := later_ii hk ho hb (show 0 ≤ c by omega) H1 R
  refine Int.le_of_mul_le_mul_left (a := b * b * c) ?_ (Int.mul_pos (Int.mul_pos (by omega) (by omega)) (by omega))
  have s1 : b * b * (PG * PG) ≤ 2 * ((b + c) * (b + c) * (P * P)) + 2 * (o * o * (R * R)) := by
    have := two_sq ((b + c) * P) (o * R)
    rw [← e3] at this
    grind
  have s2 := Int.mul_le_mul_of_nonneg_left s1 (show 0 ≤ k * c from Int.mul_nonneg (by omega) (by omega))
  have s3 := Int.mul_le_mul_of_nonneg_left hi (show 0 ≤ c * (b + c) from Int.mul_nonneg (by omega) (by omega))
  have s4 : (b * c * TG) * ((o + (b + c)) * o * b) = ((b + c) * (c * TB + b * TC) + R * R) * ((o + (b + c)) * o * b) := by rw [e4]
  have s5 : 0 ≤ (b + c) * (b * TC) * ((o + (b + c)) * o * b) := Int.mul_nonneg (Int.mul_nonneg (by omega) (Int.mul_nonneg (by omega) TC0)) (Int.mul_nonneg (Int.mul_nonneg (by omega) ho) (by omega))
  grind
/-- The spread of a mark times its number. -/
def tpI (n s q : Int) : Int := n * q - s * s
theorem tpI_add {a b sa sb qa qb : Int} : a * b * tpI (a + b) (sa + sb) (qa + qb) = (a + b) * (b * tpI a sa qa + a * tpI b sb qb) + (sa * b - sb * a) * (sa * b - sb * a) := by unfold tpI; grind
/-- If a suffix is close to the longer one, then what follows keeps it near. -/
theorem close_later {k o b c sO qO sB qB sC qC : Int} (hk : 1 ≤ k) (ho : 0 ≤ o) (hb : 1 ≤ b) (hc : 0 ≤ c) (tO : 0 ≤ tpI o sO qO) (zO : o = 0 → sO = 0 ∧ qO = 0) (tB : 0 ≤ tpI b sB qB) (tC : 0 ≤ tpI c sC qC) (zC : c = 0 → sC = 0 ∧ qC = 0)
    (h1 : (6 * k - 1) * (o + b) ≤ 6 * k * b) (h2 : (6 * k - 1) * tpI (o + b) (sO + sB) (qO + qB) * b ≤ 6 * k * tpI b sB qB * (o + b)) :
    k * (tpI (o + (b + c)) (sO + (sB + sC)) (qO + (qB + qC)) * (b + c)) ≤ (k + 1) * (tpI (b + c) (sB + sC) (qB + qC) * (o + (b + c))) := by
  have tG : 0 ≤ tpI (b + c) (sB + sC) (qB + qC) := by
    by_cases c0 : c = 0
    · obtain ⟨rfl, rfl⟩ := zC c0
      subst c0
      simpa using tB
    · refine Int.le_of_mul_le_mul_left (a := b * c) ?_ (Int.mul_pos (by omega) (by omega))
      rw [tpI_add, Int.mul_zero]
      have := sqn (sB * c - sC * b)
      have := Int.mul_nonneg (show 0 ≤ b + c by omega) (Int.add_nonneg (Int.mul_nonneg (show 0 ≤ c by omega) tB) (Int.mul_nonneg (show 0 ≤ b by omega) tC))
      omega
  by_cases o0 : o = 0
  · obtain ⟨rfl, rfl⟩ := zO o0
    subst o0
    simp only [Int.zero_add]
    have := Int.mul_nonneg tG (show 0 ≤ b + c by omega)
    grind
  · have e1 := tpI_add (a := o) (b := b) (sa := sO) (sb := sB) (qa := qO) (qb := qB)
    have e2 := tpI_add (a := o) (b := b + c) (sa := sO) (sb := sB + sC) (qa := qO) (qb := qB + qC)
    have e3 : b * (sO * (b + c) - (sB + sC) * o) = (b + c) * (sO * b - sB * o) + o * (sB * c - sC * b) := by grind
    have e4 := tpI_add (a := b) (b := c) (sa := sB) (sb := sC) (qa := qB) (qb := qC)
    have H1 : (6 * k - 1) * o ≤ b := by grind
    have H2 := close_H2 ho e1 h2
    have key : k * ((o + (b + c)) * (b + c) * tpI o sO qO + (sO * (b + c) - (sB + sC) * o) * (sO * (b + c) - (sB + sC) * o)) ≤ tpI (b + c) (sB + sC) (qB + qC) * (o + (b + c)) * o := by
      by_cases c0 : c = 0
      · obtain ⟨rfl, rfl⟩ := zC c0
        subst c0
        simp only [Int.add_zero]
        exact later_none hk (Int.mul_nonneg (Int.mul_nonneg (by omega) (by omega)) tO) H2
      · exact later_some hk ho hb (by omega) tO tC e3 e4 H1 H2
    refine Int.le_of_mul_le_mul_left (a := o) ?_ (by omega)
    generalize tpI (o + (b + c)) (sO + (sB + sC)) (qO + (qB + qC)) = TAC at e2 ⊢
    generalize tpI (b + c) (sB + sC) (qB + qC) = TG at e2 key ⊢
    generalize tpI o sO qO = TO at e2 key
    generalize sO * (b + c) - (sB + sC) * o = PG at e2 key
    clear e1 e3 e4 h1 h2 H1 H2 tO zO tB tC zC tG
    have e2k : k * (o * (b + c) * TAC) = k * ((o + (b + c)) * ((b + c) * TO + o * TG) + PG * PG) := by rw [e2]
    clear e2
    grind
/-- The spread does not fall by items ahead. -/
theorem spread_mono {o g sO qO sG qG : Int} (ho : 0 ≤ o) (hg : 0 ≤ g) (tO : 0 ≤ tpI o sO qO) (zO : o = 0 → sO = 0 ∧ qO = 0) :
    tpI g sG qG * (o + g) ≤ tpI (o + g) (sO + sG) (qO + qG) * g := by
  by_cases o0 : o = 0
  · obtain ⟨rfl, rfl⟩ := zO o0
    subst o0
    simp only [Int.zero_add]
    exact Int.le_refl _
  · have e2 := tpI_add (a := o) (b := g) (sa := sO) (sb := sG) (qa := qO) (qb := qG)
    refine Int.le_of_mul_le_mul_left (a := o) ?_ (by omega)
    have h := sqn (sO * g - sG * o)
    have h2 := Int.mul_nonneg (Int.mul_nonneg (show 0 ≤ o + g by omega) hg) tO
    generalize tpI (o + g) (sO + sG) (qO + qG) = TA at e2 ⊢
    generalize tpI g sG qG = TG at e2 ⊢
    generalize tpI o sO qO = TO at e2 h2
    grind
end Go.Proofs.Ytaiepjcnncajcaa
