/- Spreads of marks: when one is close to another, walked. -/
import Derived.Test.YtaiepjcnncajcaaSprC
import Derived.Test.YtaiepjcnncajcaaRMul
import Derived.Test.YtaiepjcnncajcaaMul
import Derived.Deep.RegionHeld3
import Derived.Deep.DeepCutAuto
set_option linter.unusedVariables false
set_option linter.unusedSimpArgs false
set_option linter.unusedSectionVars false
set_option linter.unnecessarySimpa false
namespace Go.Proofs.Ytaiepjcnncajcaa
open Go.RowKit Go.Shelf
def closeP (na sa qa nb sb qb k : Int) : Prop :=
  rightP na sa qa ∧ rightP nb sb qb ∧ (1 ≤ k ∧ k ≤ 64) ∧ (6 * k - 1) * na ≤ 6 * k * nb ∧ topN na sa qa * nb.toNat * (6 * k - 1).toNat ≤ topN nb sb qb * na.toNat * (6 * k).toNat
instance (na sa qa nb sb qb k : Int) : Decidable (closeP na sa qa nb sb qb k) := by unfold closeP; infer_instance
theorem pofI (x : Int) (h : Word x) (w : World) : Calls Try.prog 51 #[.int .u64 x] w fun e w' => e = .returned (W x.toNat) ∧ Below w.heap.size w w' := by
  have := pof x.toNat (by unfold Word at h; omega) w
  rw [Int.toNat_of_nonneg h.1] at this
  exact this
theorem mul_smallN {a b A B : Nat} (ha : a ≤ A) (hb : b ≤ B) (h : A * B < big) : mulV a b = a * b ∧ mulB a b = true := by
  have : a * b < big := Nat.lt_of_le_of_lt (Nat.mul_le_mul ha hb) h
  unfold mulV mulB
  rw [if_pos this]
  exact ⟨rfl, decide_eq_true this⟩
theorem cmp_dec (a b : Nat) : decide (0 ≤ cmp a b) = decide (b ≤ a) := by
  rcases Nat.lt_trichotomy a b with h | h | h
  · have : ¬ b ≤ a := by omega
    simp [cmp_lt h, this]
  · subst h
    simp [cmp_eq]
  · have : b ≤ a := by omega
    simp [cmp_gt h, this]
theorem pclose_a (sqa tka na sa qa lwa hga sqb tkb nb sb qb lwb hgb k : Int) (w : World) (ha : ¬ rightP na sa qa) : Calls Try.prog 17 #[.agg #[.int .i64 sqa, .int .i64 tka, .int .i64 na, .int .i64 sa, .int .i64 qa, .int .i64 lwa, .int .i64 hga], .agg #[.int .i64 sqb, .int .i64 tkb, .int .i64 nb, .int .i64 sb, .int .i64 qb, .int .i64 lwb, .int .i64 hgb], .int .i64 k] w fun e w' => e = .returned (.bool false) ∧ Below w.heap.size w w' := by
  have PRa := fun w => pright sqa tka na sa qa lwa hga w
  rw [decide_eq_false ha] at PRa
  have PRa := Lib.hid PRa
  clear ha
  go_enter Try.func17, Try.ntmps17
  go_wp2_with (first | (go_at_call 44; with_reducible refine (PRa.out _).mono ?_; rintro e w1 ⟨rfl, hb1⟩; have hz1 := hb1.size; (try simp at hz1); have o1 : Below w.heap.size w w1 := (by (repeat (first | exact Below.refl _ _ | refine Below.setCell ?_ (by first | (simp; done) | (simp; omega) | omega) _ | refine Below.alloc ?_ (by first | (simp; done) | (simp; omega) | omega) _ | refine Below.drew ?_ | refine Below.trans ?_ (Below.mono (by assumption) (by first | (simp; done) | (simp; omega) | omega))))); have q1_0 : w.heap.size < w1.heap.size := (by omega); have r1_0 : Row w1 (w.heap.size) 33 #[.int .i64 sqa, .int .i64 tka, .int .i64 na, .int .i64 sa, .int .i64 qa, .int .i64 lwa, .int .i64 hga] := row_call (by (repeat (first | assumption | (refine row_new ?_; (first | (simp; done) | omega)) | refine row_alloc ?_ _ | refine row_drew ?_ | refine row_call ?_ (by assumption)))) hb1; obtain ⟨c1_0a, c1_0b, c1_0c, c1_0d, c1_0e, c1_0f, c1_0g, f1_0a, f1_0b, f1_0c, f1_0d, f1_0e, f1_0f, f1_0g⟩ := row_seven r1_0; have q1_1 : w.heap.size + 1 < w1.heap.size := (by omega); have r1_1 : Row w1 (w.heap.size + 1) 33 #[.int .i64 sqb, .int .i64 tkb, .int .i64 nb, .int .i64 sb, .int .i64 qb, .int .i64 lwb, .int .i64 hgb] := row_call (by (repeat (first | assumption | (refine row_new ?_; (first | (simp; done) | omega)) | refine row_alloc ?_ _ | refine row_drew ?_ | refine row_call ?_ (by assumption)))) hb1; obtain ⟨c1_1a, c1_1b, c1_1c, c1_1d, c1_1e, c1_1f, c1_1g, f1_1a, f1_1b, f1_1c, f1_1d, f1_1e, f1_1f, f1_1g⟩ := row_seven r1_1))
  go_ret
  exact ⟨rfl, by (repeat (first | exact Below.refl _ _ | refine Below.setCell ?_ (by first | (simp; done) | (simp; omega) | omega) _ | refine Below.alloc ?_ (by first | (simp; done) | (simp; omega) | omega) _ | refine Below.drew ?_ | refine Below.trans ?_ (Below.mono (by assumption) (by first | (simp; done) | (simp; omega) | omega))))⟩
theorem pclose_b (sqa tka na sa qa lwa hga sqb tkb nb sb qb lwb hgb k : Int) (w : World) (ha : rightP na sa qa) (hb : ¬ rightP nb sb qb) : Calls Try.prog 17 #[.agg #[.int .i64 sqa, .int .i64 tka, .int .i64 na, .int .i64 sa, .int .i64 qa, .int .i64 lwa, .int .i64 hga], .agg #[.int .i64 sqb, .int .i64 tkb, .int .i64 nb, .int .i64 sb, .int .i64 qb, .int .i64 lwb, .int .i64 hgb], .int .i64 k] w fun e w' => e = .returned (.bool false) ∧ Below w.heap.size w w' := by
  have PRa := fun w => pright sqa tka na sa qa lwa hga w
  rw [decide_eq_true ha] at PRa
  have PRa := Lib.hid PRa
  have PRb := fun w => pright sqb tkb nb sb qb lwb hgb w
  rw [decide_eq_false hb] at PRb
  have PRb := Lib.hid PRb
  clear ha hb
  go_enter Try.func17, Try.ntmps17
  go_wp2_with (first | (go_at_call 44; with_reducible refine (PRa.out _).mono ?_; rintro e w1 ⟨rfl, hb1⟩; have hz1 := hb1.size; (try simp at hz1); have o1 : Below w.heap.size w w1 := (by (repeat (first | exact Below.refl _ _ | refine Below.setCell ?_ (by first | (simp; done) | (simp; omega) | omega) _ | refine Below.alloc ?_ (by first | (simp; done) | (simp; omega) | omega) _ | refine Below.drew ?_ | refine Below.trans ?_ (Below.mono (by assumption) (by first | (simp; done) | (simp; omega) | omega))))); have q1_0 : w.heap.size < w1.heap.size := (by omega); have r1_0 : Row w1 (w.heap.size) 33 #[.int .i64 sqa, .int .i64 tka, .int .i64 na, .int .i64 sa, .int .i64 qa, .int .i64 lwa, .int .i64 hga] := row_call (by (repeat (first | assumption | (refine row_new ?_; (first | (simp; done) | omega)) | refine row_alloc ?_ _ | refine row_drew ?_ | refine row_call ?_ (by assumption)))) hb1; obtain ⟨c1_0a, c1_0b, c1_0c, c1_0d, c1_0e, c1_0f, c1_0g, f1_0a, f1_0b, f1_0c, f1_0d, f1_0e, f1_0f, f1_0g⟩ := row_seven r1_0; have q1_1 : w.heap.size + 1 < w1.heap.size := (by omega); have r1_1 : Row w1 (w.heap.size + 1) 33 #[.int .i64 sqb, .int .i64 tkb, .int .i64 nb, .int .i64 sb, .int .i64 qb, .int .i64 lwb, .int .i64 hgb] := row_call (by (repeat (first | assumption | (refine row_new ?_; (first | (simp; done) | omega)) | refine row_alloc ?_ _ | refine row_drew ?_ | refine row_call ?_ (by assumption)))) hb1; obtain ⟨c1_1a, c1_1b, c1_1c, c1_1d, c1_1e, c1_1f, c1_1g, f1_1a, f1_1b, f1_1c, f1_1d, f1_1e, f1_1f, f1_1g⟩ := row_seven r1_1) | (go_at_call 44; with_reducible refine (PRb.out _).mono ?_; rintro e w2 ⟨rfl, hb2⟩; have hz2 := hb2.size; (try simp at hz2); have o2 : Below w.heap.size w w2 := (by (repeat (first | exact Below.refl _ _ | refine Below.setCell ?_ (by first | (simp; done) | (simp; omega) | omega) _ | refine Below.alloc ?_ (by first | (simp; done) | (simp; omega) | omega) _ | refine Below.drew ?_ | refine Below.trans ?_ (Below.mono (by assumption) (by first | (simp; done) | (simp; omega) | omega))))); have q2_0 : w.heap.size < w2.heap.size := (by omega); have r2_0 : Row w2 (w.heap.size) 33 #[.int .i64 sqa, .int .i64 tka, .int .i64 na, .int .i64 sa, .int .i64 qa, .int .i64 lwa, .int .i64 hga] := row_call (by (repeat (first | assumption | (refine row_new ?_; (first | (simp; done) | omega)) | refine row_alloc ?_ _ | refine row_drew ?_ | refine row_call ?_ (by assumption)))) hb2; obtain ⟨c2_0a, c2_0b, c2_0c, c2_0d, c2_0e, c2_0f, c2_0g, f2_0a, f2_0b, f2_0c, f2_0d, f2_0e, f2_0f, f2_0g⟩ := row_seven r2_0; have q2_1 : w.heap.size + 1 < w2.heap.size := (by omega); have r2_1 : Row w2 (w.heap.size + 1) 33 #[.int .i64 sqb, .int .i64 tkb, .int .i64 nb, .int .i64 sb, .int .i64 qb, .int .i64 lwb, .int .i64 hgb] := row_call (by (repeat (first | assumption | (refine row_new ?_; (first | (simp; done) | omega)) | refine row_alloc ?_ _ | refine row_drew ?_ | refine row_call ?_ (by assumption)))) hb2; obtain ⟨c2_1a, c2_1b, c2_1c, c2_1d, c2_1e, c2_1f, c2_1g, f2_1a, f2_1b, f2_1c, f2_1d, f2_1e, f2_1f, f2_1g⟩ := row_seven r2_1))
  go_ret
  exact ⟨rfl, by (repeat (first | exact Below.refl _ _ | refine Below.setCell ?_ (by first | (simp; done) | (simp; omega) | omega) _ | refine Below.alloc ?_ (by first | (simp; done) | (simp; omega) | omega) _ | refine Below.drew ?_ | refine Below.trans ?_ (Below.mono (by assumption) (by first | (simp; done) | (simp; omega) | omega))))⟩
theorem pclose_k0 (sqa tka na sa qa lwa hga sqb tkb nb sb qb lwb hgb k : Int) (w : World) (ha : rightP na sa qa) (hb : rightP nb sb qb) (hk : k < 1) : Calls Try.prog 17 #[.agg #[.int .i64 sqa, .int .i64 tka, .int .i64 na, .int .i64 sa, .int .i64 qa, .int .i64 lwa, .int .i64 hga], .agg #[.int .i64 sqb, .int .i64 tkb, .int .i64 nb, .int .i64 sb, .int .i64 qb, .int .i64 lwb, .int .i64 hgb], .int .i64 k] w fun e w' => e = .returned (.bool false) ∧ Below w.heap.size w w' := by
  have PRa := fun w => pright sqa tka na sa qa lwa hga w
  rw [decide_eq_true ha] at PRa
  have PRa := Lib.hid PRa
  have PRb := fun w => pright sqb tkb nb sb qb lwb hgb w
  rw [decide_eq_true hb] at PRb
  have PRb := Lib.hid PRb
  clear ha hb
  go_enter Try.func17, Try.ntmps17
  go_wp2_with (first | (go_at_call 44; with_reducible refine (PRa.out _).mono ?_; rintro e w1 ⟨rfl, hb1⟩; have hz1 := hb1.size; (try simp at hz1); have o1 : Below w.heap.size w w1 := (by (repeat (first | exact Below.refl _ _ | refine Below.setCell ?_ (by first | (simp; done) | (simp; omega) | omega) _ | refine Below.alloc ?_ (by first | (simp; done) | (simp; omega) | omega) _ | refine Below.drew ?_ | refine Below.trans ?_ (Below.mono (by assumption) (by first | (simp; done) | (simp; omega) | omega))))); have q1_0 : w.heap.size < w1.heap.size := (by omega); have r1_0 : Row w1 (w.heap.size) 33 #[.int .i64 sqa, .int .i64 tka, .int .i64 na, .int .i64 sa, .int .i64 qa, .int .i64 lwa, .int .i64 hga] := row_call (by (repeat (first | assumption | (refine row_new ?_; (first | (simp; done) | omega)) | refine row_alloc ?_ _ | refine row_drew ?_ | refine row_call ?_ (by assumption)))) hb1; obtain ⟨c1_0a, c1_0b, c1_0c, c1_0d, c1_0e, c1_0f, c1_0g, f1_0a, f1_0b, f1_0c, f1_0d, f1_0e, f1_0f, f1_0g⟩ := row_seven r1_0; have q1_1 : w.heap.size + 1 < w1.heap.size := (by omega); have r1_1 : Row w1 (w.heap.size + 1) 33 #[.int .i64 sqb, .int .i64 tkb, .int .i64 nb, .int .i64 sb, .int .i64 qb, .int .i64 lwb, .int .i64 hgb] := row_call (by (repeat (first | assumption | (refine row_new ?_; (first | (simp; done) | omega)) | refine row_alloc ?_ _ | refine row_drew ?_ | refine row_call ?_ (by assumption)))) hb1; obtain ⟨c1_1a, c1_1b, c1_1c, c1_1d, c1_1e, c1_1f, c1_1g, f1_1a, f1_1b, f1_1c, f1_1d, f1_1e, f1_1f, f1_1g⟩ := row_seven r1_1) | (go_at_call 44; with_reducible refine (PRb.out _).mono ?_; rintro e w2 ⟨rfl, hb2⟩; have hz2 := hb2.size; (try simp at hz2); have o2 : Below w.heap.size w w2 := (by (repeat (first | exact Below.refl _ _ | refine Below.setCell ?_ (by first | (simp; done) | (simp; omega) | omega) _ | refine Below.alloc ?_ (by first | (simp; done) | (simp; omega) | omega) _ | refine Below.drew ?_ | refine Below.trans ?_ (Below.mono (by assumption) (by first | (simp; done) | (simp; omega) | omega))))); have q2_0 : w.heap.size < w2.heap.size := (by omega); have r2_0 : Row w2 (w.heap.size) 33 #[.int .i64 sqa, .int .i64 tka, .int .i64 na, .int .i64 sa, .int .i64 qa, .int .i64 lwa, .int .i64 hga] := row_call (by (repeat (first | assumption | (refine row_new ?_; (first | (simp; done) | omega)) | refine row_alloc ?_ _ | refine row_drew ?_ | refine row_call ?_ (by assumption)))) hb2; obtain ⟨c2_0a, c2_0b, c2_0c, c2_0d, c2_0e, c2_0f, c2_0g, f2_0a, f2_0b, f2_0c, f2_0d, f2_0e, f2_0f, f2_0g⟩ := row_seven r2_0; have q2_1 : w.heap.size + 1 < w2.heap.size := (by omega); have r2_1 : Row w2 (w.heap.size + 1) 33 #[.int .i64 sqb, .int .i64 tkb, .int .i64 nb, .int .i64 sb, .int .i64 qb, .int .i64 lwb, .int .i64 hgb] := row_call (by (repeat (first | assumption | (refine row_new ?_; (first | (simp; done) | omega)) | refine row_alloc ?_ _ | refine row_drew ?_ | refine row_call ?_ (by assumption)))) hb2; obtain ⟨c2_1a, c2_1b, c2_1c, c2_1d, c2_1e, c2_1f, c2_1g, f2_1a, f2_1b, f2_1c, f2_1d, f2_1e, f2_1f, f2_1g⟩ := row_seven r2_1))
  go_ret
  exact ⟨rfl, by (repeat (first | exact Below.refl _ _ | refine Below.setCell ?_ (by first | (simp; done) | (simp; omega) | omega) _ | refine Below.alloc ?_ (by first | (simp; done) | (simp; omega) | omega) _ | refine Below.drew ?_ | refine Below.trans ?_ (Below.mono (by assumption) (by first | (simp; done) | (simp; omega) | omega))))⟩
theorem pclose_k1 (sqa tka na sa qa lwa hga sqb tkb nb sb qb lwb hgb k : Int) (w : World) (ha : rightP na sa qa) (hb : rightP nb sb qb) (hk0 : 1 ≤ k) (hk : 64 < k) : Calls Try.prog 17 #[.agg #[.int .i64 sqa, .int .i64 tka, .int .i64 na, .int .i64 sa, .int .i64 qa, .int .i64 lwa, .int .i64 hga], .agg #[.int .i64 sqb, .int .i64 tkb, .int .i64 nb, .int .i64 sb, .int .i64 qb, .int .i64 lwb, .int .i64 hgb], .int .i64 k] w fun e w' => e = .returned (.bool false) ∧ Below w.heap.size w w' := by
  have PRa := fun w => pright sqa tka na sa qa lwa hga w
  rw [decide_eq_true ha] at PRa
  have PRa := Lib.hid PRa
  have PRb := fun w => pright sqb tkb nb sb qb lwb hgb w
  rw [decide_eq_true hb] at PRb
  have PRb := Lib.hid PRb
  clear ha hb
  go_enter Try.func17, Try.ntmps17
  go_wp2_with (first | (go_at_call 44; with_reducible refine (PRa.out _).mono ?_; rintro e w1 ⟨rfl, hb1⟩; have hz1 := hb1.size; (try simp at hz1); have o1 : Below w.heap.size w w1 := (by (repeat (first | exact Below.refl _ _ | refine Below.setCell ?_ (by first | (simp; done) | (simp; omega) | omega) _ | refine Below.alloc ?_ (by first | (simp; done) | (simp; omega) | omega) _ | refine Below.drew ?_ | refine Below.trans ?_ (Below.mono (by assumption) (by first | (simp; done) | (simp; omega) | omega))))); have q1_0 : w.heap.size < w1.heap.size := (by omega); have r1_0 : Row w1 (w.heap.size) 33 #[.int .i64 sqa, .int .i64 tka, .int .i64 na, .int .i64 sa, .int .i64 qa, .int .i64 lwa, .int .i64 hga] := row_call (by (repeat (first | assumption | (refine row_new ?_; (first | (simp; done) | omega)) | refine row_alloc ?_ _ | refine row_drew ?_ | refine row_call ?_ (by assumption)))) hb1; obtain ⟨c1_0a, c1_0b, c1_0c, c1_0d, c1_0e, c1_0f, c1_0g, f1_0a, f1_0b, f1_0c, f1_0d, f1_0e, f1_0f, f1_0g⟩ := row_seven r1_0; have q1_1 : w.heap.size + 1 < w1.heap.size := (by omega); have r1_1 : Row w1 (w.heap.size + 1) 33 #[.int .i64 sqb, .int .i64 tkb, .int .i64 nb, .int .i64 sb, .int .i64 qb, .int .i64 lwb, .int .i64 hgb] := row_call (by (repeat (first | assumption | (refine row_new ?_; (first | (simp; done) | omega)) | refine row_alloc ?_ _ | refine row_drew ?_ | refine row_call ?_ (by assumption)))) hb1; obtain ⟨c1_1a, c1_1b, c1_1c, c1_1d, c1_1e, c1_1f, c1_1g, f1_1a, f1_1b, f1_1c, f1_1d, f1_1e, f1_1f, f1_1g⟩ := row_seven r1_1) | (go_at_call 44; with_reducible refine (PRb.out _).mono ?_; rintro e w2 ⟨rfl, hb2⟩; have hz2 := hb2.size; (try simp at hz2); have o2 : Below w.heap.size w w2 := (by (repeat (first | exact Below.refl _ _ | refine Below.setCell ?_ (by first | (simp; done) | (simp; omega) | omega) _ | refine Below.alloc ?_ (by first | (simp; done) | (simp; omega) | omega) _ | refine Below.drew ?_ | refine Below.trans ?_ (Below.mono (by assumption) (by first | (simp; done) | (simp; omega) | omega))))); have q2_0 : w.heap.size < w2.heap.size := (by omega); have r2_0 : Row w2 (w.heap.size) 33 #[.int .i64 sqa, .int .i64 tka, .int .i64 na, .int .i64 sa, .int .i64 qa, .int .i64 lwa, .int .i64 hga] := row_call (by (repeat (first | assumption | (refine row_new ?_; (first | (simp; done) | omega)) | refine row_alloc ?_ _ | refine row_drew ?_ | refine row_call ?_ (by assumption)))) hb2; obtain ⟨c2_0a, c2_0b, c2_0c, c2_0d, c2_0e, c2_0f, c2_0g, f2_0a, f2_0b, f2_0c, f2_0d, f2_0e, f2_0f, f2_0g⟩ := row_seven r2_0; have q2_1 : w.heap.size + 1 < w2.heap.size := (by omega); have r2_1 : Row w2 (w.heap.size + 1) 33 #[.int .i64 sqb, .int .i64 tkb, .int .i64 nb, .int .i64 sb, .int .i64 qb, .int .i64 lwb, .int .i64 hgb] := row_call (by (repeat (first | assumption | (refine row_new ?_; (first | (simp; done) | omega)) | refine row_alloc ?_ _ | refine row_drew ?_ | refine row_call ?_ (by assumption)))) hb2; obtain ⟨c2_1a, c2_1b, c2_1c, c2_1d, c2_1e, c2_1f, c2_1g, f2_1a, f2_1b, f2_1c, f2_1d, f2_1e, f2_1f, f2_1g⟩ := row_seven r2_1))
  go_ret
  exact ⟨rfl, by (repeat (first | exact Below.refl _ _ | refine Below.setCell ?_ (by first | (simp; done) | (simp; omega) | omega) _ | refine Below.alloc ?_ (by first | (simp; done) | (simp; omega) | omega) _ | refine Below.drew ?_ | refine Below.trans ?_ (Below.mono (by assumption) (by first | (simp; done) | (simp; omega) | omega))))⟩
theorem pclose_k (sqa tka na sa qa lwa hga sqb tkb nb sb qb lwb hgb k : Int) (w : World) (ha : rightP na sa qa) (hb : rightP nb sb qb) (hk : ¬ (1 ≤ k ∧ k ≤ 64)) : Calls Try.prog 17 #[.agg #[.int .i64 sqa, .int .i64 tka, .int .i64 na, .int .i64 sa, .int .i64 qa, .int .i64 lwa, .int .i64 hga], .agg #[.int .i64 sqb, .int .i64 tkb, .int .i64 nb, .int .i64 sb, .int .i64 qb, .int .i64 lwb, .int .i64 hgb], .int .i64 k] w fun e w' => e = .returned (.bool false) ∧ Below w.heap.size w w' := by
  by_cases h0 : k < 1
  · exact pclose_k0 sqa tka na sa qa lwa hga sqb tkb nb sb qb lwb hgb k w ha hb h0
  · exact pclose_k1 sqa tka na sa qa lwa hga sqb tkb nb sb qb lwb hgb k w ha hb (by omega) (by omega)
theorem pclose_n (sqa tka na sa qa lwa hga sqb tkb nb sb qb lwb hgb k : Int) (w : World) (ha : rightP na sa qa) (hb : rightP nb sb qb) (hk : 1 ≤ k ∧ k ≤ 64) (h : 6 * k * nb < (6 * k - 1) * na) : Calls Try.prog 17 #[.agg #[.int .i64 sqa, .int .i64 tka, .int .i64 na, .int .i64 sa, .int .i64 qa, .int .i64 lwa, .int .i64 hga], .agg #[.int .i64 sqb, .int .i64 tkb, .int .i64 nb, .int .i64 sb, .int .i64 qb, .int .i64 lwb, .int .i64 hgb], .int .i64 k] w fun e w' => e = .returned (.bool false) ∧ Below w.heap.size w w' := by
  have PRa := fun w => pright sqa tka na sa qa lwa hga w
  rw [decide_eq_true ha] at PRa
  have PRa := Lib.hid PRa
  have PRb := fun w => pright sqb tkb nb sb qb lwb hgb w
  rw [decide_eq_true hb] at PRb
  have PRb := Lib.hid PRb
  have w0 : ¬ k < 1 := by omega
  have w1 : ¬ 64 < k := by omega
  have bk := hk
  obtain ⟨k0, k1⟩ := bk
  have na0 := ha.1
  have na1 := ha.2.1
  have nb0 := hb.1
  have nb1 := hb.2.1
  have m1 : 0 ≤ 6 * k * nb ∧ 6 * k * nb ≤ 25165824 := ⟨Int.mul_nonneg (by omega) (by omega), Int.mul_le_mul (show 6 * k ≤ 384 by omega) nb1 (by omega) (by decide)⟩
  have m2 : 0 ≤ (6 * k - 1) * na ∧ (6 * k - 1) * na ≤ 25165824 := ⟨Int.mul_nonneg (by omega) (by omega), Int.mul_le_mul (show 6 * k - 1 ≤ 384 by omega) na1 (by omega) (by decide)⟩
  have m3 : 0 ≤ 6 * k * na ∧ 6 * k * na ≤ 25165824 := ⟨Int.mul_nonneg (by omega) (by omega), Int.mul_le_mul (show 6 * k ≤ 384 by omega) na1 (by omega) (by decide)⟩
  have m4 : 0 ≤ (6 * k - 1) * nb ∧ (6 * k - 1) * nb ≤ 25165824 := ⟨Int.mul_nonneg (by omega) (by omega), Int.mul_le_mul (show 6 * k - 1 ≤ 384 by omega) nb1 (by omega) (by decide)⟩
  have w6 : IntKind.i64.wrap (6 * k) = 6 * k := IntWalk.i64_in _ (by omega)
  have w61 : IntKind.i64.wrap (6 * k - 1) = 6 * k - 1 := IntWalk.i64_in _ (by omega)
  have wm1 : IntKind.i64.wrap (6 * k * nb) = 6 * k * nb := IntWalk.i64_in _ (by omega)
  have wm2 : IntKind.i64.wrap ((6 * k - 1) * na) = (6 * k - 1) * na := IntWalk.i64_in _ (by omega)
  have wm3 : IntKind.i64.wrap (6 * k * na) = 6 * k * na := IntWalk.i64_in _ (by omega)
  have wm4 : IntKind.i64.wrap ((6 * k - 1) * nb) = (6 * k - 1) * nb := IntWalk.i64_in _ (by omega)
  clear ha hb hk
  go_enter Try.func17, Try.ntmps17
  go_wp2_with (first | (go_at_call 44; with_reducible refine (PRa.out _).mono ?_; rintro e w1 ⟨rfl, hb1⟩; have hz1 := hb1.size; (try simp at hz1); have o1 : Below w.heap.size w w1 := (by (repeat (first | exact Below.refl _ _ | refine Below.setCell ?_ (by first | (simp; done) | (simp; omega) | omega) _ | refine Below.alloc ?_ (by first | (simp; done) | (simp; omega) | omega) _ | refine Below.drew ?_ | refine Below.trans ?_ (Below.mono (by assumption) (by first | (simp; done) | (simp; omega) | omega))))); have q1_0 : w.heap.size < w1.heap.size := (by omega); have r1_0 : Row w1 (w.heap.size) 33 #[.int .i64 sqa, .int .i64 tka, .int .i64 na, .int .i64 sa, .int .i64 qa, .int .i64 lwa, .int .i64 hga] := row_call (by (repeat (first | assumption | (refine row_new ?_; (first | (simp; done) | omega)) | refine row_alloc ?_ _ | refine row_drew ?_ | refine row_call ?_ (by assumption)))) hb1; obtain ⟨c1_0a, c1_0b, c1_0c, c1_0d, c1_0e, c1_0f, c1_0g, f1_0a, f1_0b, f1_0c, f1_0d, f1_0e, f1_0f, f1_0g⟩ := row_seven r1_0; have q1_1 : w.heap.size + 1 < w1.heap.size := (by omega); have r1_1 : Row w1 (w.heap.size + 1) 33 #[.int .i64 sqb, .int .i64 tkb, .int .i64 nb, .int .i64 sb, .int .i64 qb, .int .i64 lwb, .int .i64 hgb] := row_call (by (repeat (first | assumption | (refine row_new ?_; (first | (simp; done) | omega)) | refine row_alloc ?_ _ | refine row_drew ?_ | refine row_call ?_ (by assumption)))) hb1; obtain ⟨c1_1a, c1_1b, c1_1c, c1_1d, c1_1e, c1_1f, c1_1g, f1_1a, f1_1b, f1_1c, f1_1d, f1_1e, f1_1f, f1_1g⟩ := row_seven r1_1) | (go_at_call 44; with_reducible refine (PRb.out _).mono ?_; rintro e w2 ⟨rfl, hb2⟩; have hz2 := hb2.size; (try simp at hz2); have o2 : Below w.heap.size w w2 := (by (repeat (first | exact Below.refl _ _ | refine Below.setCell ?_ (by first | (simp; done) | (simp; omega) | omega) _ | refine Below.alloc ?_ (by first | (simp; done) | (simp; omega) | omega) _ | refine Below.drew ?_ | refine Below.trans ?_ (Below.mono (by assumption) (by first | (simp; done) | (simp; omega) | omega))))); have q2_0 : w.heap.size < w2.heap.size := (by omega); have r2_0 : Row w2 (w.heap.size) 33 #[.int .i64 sqa, .int .i64 tka, .int .i64 na, .int .i64 sa, .int .i64 qa, .int .i64 lwa, .int .i64 hga] := row_call (by (repeat (first | assumption | (refine row_new ?_; (first | (simp; done) | omega)) | refine row_alloc ?_ _ | refine row_drew ?_ | refine row_call ?_ (by assumption)))) hb2; obtain ⟨c2_0a, c2_0b, c2_0c, c2_0d, c2_0e, c2_0f, c2_0g, f2_0a, f2_0b, f2_0c, f2_0d, f2_0e, f2_0f, f2_0g⟩ := row_seven r2_0; have q2_1 : w.heap.size + 1 < w2.heap.size := (by omega); have r2_1 : Row w2 (w.heap.size + 1) 33 #[.int .i64 sqb, .int .i64 tkb, .int .i64 nb, .int .i64 sb, .int .i64 qb, .int .i64 lwb, .int .i64 hgb] := row_call (by (repeat (first | assumption | (refine row_new ?_; (first | (simp; done) | omega)) | refine row_alloc ?_ _ | refine row_drew ?_ | refine row_call ?_ (by assumption)))) hb2; obtain ⟨c2_1a, c2_1b, c2_1c, c2_1d, c2_1e, c2_1f, c2_1g, f2_1a, f2_1b, f2_1c, f2_1d, f2_1e, f2_1f, f2_1g⟩ := row_seven r2_1))
  go_ret
  exact ⟨rfl, by (repeat (first | exact Below.refl _ _ | refine Below.setCell ?_ (by first | (simp; done) | (simp; omega) | omega) _ | refine Below.alloc ?_ (by first | (simp; done) | (simp; omega) | omega) _ | refine Below.drew ?_ | refine Below.trans ?_ (Below.mono (by assumption) (by first | (simp; done) | (simp; omega) | omega))))⟩
set_option maxHeartbeats 4000000 in
theorem pclose_ok (sqa tka na sa qa lwa hga sqb tkb nb sb qb lwb hgb k : Int) (w : World) (ha : rightP na sa qa) (hb : rightP nb sb qb) (hk : 1 ≤ k ∧ k ≤ 64) (h : (6 * k - 1) * na ≤ 6 * k * nb) :
    Calls Try.prog 17 #[.agg #[.int .i64 sqa, .int .i64 tka, .int .i64 na, .int .i64 sa, .int .i64 qa, .int .i64 lwa, .int .i64 hga], .agg #[.int .i64 sqb, .int .i64 tkb, .int .i64 nb, .int .i64 sb, .int .i64 qb, .int .i64 lwb, .int .i64 hgb], .int .i64 k] w fun e w' => e = .returned (.bool (decide (topN na sa qa * nb.toNat * (6 * k - 1).toNat ≤ topN nb sb qb * na.toNat * (6 * k).toNat))) ∧ Below w.heap.size w w' := by
  have PRa := fun w => pright sqa tka na sa qa lwa hga w
  rw [decide_eq_true ha] at PRa
  have PRa := Lib.hid PRa
  have PRb := fun w => pright sqb tkb nb sb qb lwb hgb w
  rw [decide_eq_true hb] at PRb
  have PRb := Lib.hid PRb
  have w0 : ¬ k < 1 := by omega
  have w1 : ¬ 64 < k := by omega
  have bk := hk
  obtain ⟨k0, k1⟩ := bk
  have na0 := ha.1
  have na1 := ha.2.1
  have nb0 := hb.1
  have nb1 := hb.2.1
  have m1 : 0 ≤ 6 * k * nb ∧ 6 * k * nb ≤ 25165824 := ⟨Int.mul_nonneg (by omega) (by omega), Int.mul_le_mul (show 6 * k ≤ 384 by omega) nb1 (by omega) (by decide)⟩
  have m2 : 0 ≤ (6 * k - 1) * na ∧ (6 * k - 1) * na ≤ 25165824 := ⟨Int.mul_nonneg (by omega) (by omega), Int.mul_le_mul (show 6 * k - 1 ≤ 384 by omega) na1 (by omega) (by decide)⟩
  have m3 : 0 ≤ 6 * k * na ∧ 6 * k * na ≤ 25165824 := ⟨Int.mul_nonneg (by omega) (by omega), Int.mul_le_mul (show 6 * k ≤ 384 by omega) na1 (by omega) (by decide)⟩
  have m4 : 0 ≤ (6 * k - 1) * nb ∧ (6 * k - 1) * nb ≤ 25165824 := ⟨Int.mul_nonneg (by omega) (by omega), Int.mul_le_mul (show 6 * k - 1 ≤ 384 by omega) nb1 (by omega) (by decide)⟩
  have w6 : IntKind.i64.wrap (6 * k) = 6 * k := IntWalk.i64_in _ (by omega)
  have w61 : IntKind.i64.wrap (6 * k - 1) = 6 * k - 1 := IntWalk.i64_in _ (by omega)
  have wm1 : IntKind.i64.wrap (6 * k * nb) = 6 * k * nb := IntWalk.i64_in _ (by omega)
  have wm2 : IntKind.i64.wrap ((6 * k - 1) * na) = (6 * k - 1) * na := IntWalk.i64_in _ (by omega)
  have wm3 : IntKind.i64.wrap (6 * k * na) = 6 * k * na := IntWalk.i64_in _ (by omega)
  have wm4 : IntKind.i64.wrap ((6 * k - 1) * nb) = (6 * k - 1) * nb := IntWalk.i64_in _ (by omega)
  have h' : ¬ 6 * k * nb < (6 * k - 1) * na := Int.not_lt.2 h
  have ta := right_top ha
  have tb := right_top hb
  have tA : topN na sa qa ≤ 72057594037927936 := by unfold topN; omega
  have tB : topN nb sb qb ≤ 72057594037927936 := by unfold topN; omega
  have PTa := fun w => ptop sqa tka na sa qa lwa hga w ha
  have PTb := fun w => ptop sqb tkb nb sb qb lwb hgb w hb
  have PPx := fun w => pproduct (topN nb sb qb : Int) na (by unfold Word; omega) (by unfold Word; omega) w
  have PPy := fun w => pproduct (topN na sa qa : Int) nb (by unfold Word; omega) (by unfold Word; omega) w
  rw [Int.toNat_natCast] at PPx PPy
  have p1 : topN nb sb qb * na.toNat ≤ 4722366482869645213696 := Nat.mul_le_mul tB (show na.toNat ≤ 65536 by omega)
  have p2 : topN na sa qa * nb.toNat ≤ 4722366482869645213696 := Nat.mul_le_mul tA (show nb.toNat ≤ 65536 by omega)
  have ux : IntKind.u64.wrap (topN nb sb qb : Int) = (topN nb sb qb : Int) := IntWalk.u64_in _ (by omega)
  have uy : IntKind.u64.wrap (topN na sa qa : Int) = (topN na sa qa : Int) := IntWalk.u64_in _ (by omega)
  generalize topN nb sb qb * na.toNat = px at PPx p1 ⊢
  generalize topN na sa qa * nb.toNat = py at PPy p2 ⊢
  generalize (topN nb sb qb : Int) = tpb at PTb PPx ux
  generalize (topN na sa qa : Int) = tpa at PTa PPy uy
  have un : IntKind.u64.wrap na = na := IntWalk.u64_in _ (by omega)
  have unb : IntKind.u64.wrap nb = nb := IntWalk.u64_in _ (by omega)
  have um : IntKind.u64.wrap (6 * k) = 6 * k := IntWalk.u64_in _ (by omega)
  have ul : IntKind.u64.wrap (6 * k - 1) = 6 * k - 1 := IntWalk.u64_in _ (by omega)
  have Oxx := fun w => pofI (6 * k) (by unfold Word; omega) w
  have Oyy := fun w => pofI (6 * k - 1) (by unfold Word; omega) w
  have q1 : (6 * k).toNat ≤ 384 := by omega
  have q2 : (6 * k - 1).toNat ≤ 384 := by omega
  generalize (6 * k).toNat = mx at Oxx q1 ⊢
  generalize (6 * k - 1).toNat = my at Oyy q2 ⊢
  have Mxx := fun w => pmul px mx (Nat.lt_of_le_of_lt p1 (by decide)) (Nat.lt_of_le_of_lt q1 (by decide)) w
  have Myy := fun w => pmul py my (Nat.lt_of_le_of_lt p2 (by decide)) (Nat.lt_of_le_of_lt q2 (by decide)) w
  have s1 := mul_smallN p1 q1 (by decide)
  have s2 := mul_smallN p2 q2 (by decide)
  rw [s1.1, s1.2] at Mxx
  rw [s2.1, s2.2] at Myy
  have CM := fun w => pcmp_any (px * mx) (py * my) w
  have CD := cmp_dec (px * mx) (py * my)
  generalize px * mx = xx at Mxx CM CD ⊢
  generalize py * my = yy at Myy CM CD ⊢
  rw [← CD]
  generalize cmp xx yy = cv at CM ⊢
  have PTa := Lib.hid PTa
  have PTb := Lib.hid PTb
  have PPx := Lib.hid PPx
  have PPy := Lib.hid PPy
  have Oxx := Lib.hid Oxx
  have Oyy := Lib.hid Oyy
  have Mxx := Lib.hid Mxx
  have Myy := Lib.hid Myy
  have CM := Lib.hid CM
  clear ha hb hk ta tb tA tB h p1 p2 q1 q2 s1 s2 CD m1 m2 m3 m4
  go_enter Try.func17, Try.ntmps17
  go_upto_region 6 with (first | (go_at_call 44; with_reducible refine (PRa.out _).mono ?_; rintro e w1 ⟨rfl, hb1⟩; have hz1 := hb1.size; (try simp at hz1); have o1 : Below w.heap.size w w1 := (by (repeat (first | exact Below.refl _ _ | refine Below.setCell ?_ (by first | (simp; done) | (simp; omega) | omega) _ | refine Below.alloc ?_ (by first | (simp; done) | (simp; omega) | omega) _ | refine Below.drew ?_ | refine Below.trans ?_ (Below.mono (by assumption) (by first | (simp; done) | (simp; omega) | omega))))); have q1_0 : w.heap.size < w1.heap.size := (by omega); have r1_0 : Row w1 (w.heap.size) 33 #[.int .i64 sqa, .int .i64 tka, .int .i64 na, .int .i64 sa, .int .i64 qa, .int .i64 lwa, .int .i64 hga] := row_call (by (repeat (first | assumption | (refine row_new ?_; (first | (simp; done) | omega)) | refine row_alloc ?_ _ | refine row_drew ?_ | refine row_call ?_ (by assumption)))) hb1; obtain ⟨c1_0a, c1_0b, c1_0c, c1_0d, c1_0e, c1_0f, c1_0g, f1_0a, f1_0b, f1_0c, f1_0d, f1_0e, f1_0f, f1_0g⟩ := row_seven r1_0; have q1_1 : w.heap.size + 1 < w1.heap.size := (by omega); have r1_1 : Row w1 (w.heap.size + 1) 33 #[.int .i64 sqb, .int .i64 tkb, .int .i64 nb, .int .i64 sb, .int .i64 qb, .int .i64 lwb, .int .i64 hgb] := row_call (by (repeat (first | assumption | (refine row_new ?_; (first | (simp; done) | omega)) | refine row_alloc ?_ _ | refine row_drew ?_ | refine row_call ?_ (by assumption)))) hb1; obtain ⟨c1_1a, c1_1b, c1_1c, c1_1d, c1_1e, c1_1f, c1_1g, f1_1a, f1_1b, f1_1c, f1_1d, f1_1e, f1_1f, f1_1g⟩ := row_seven r1_1) | (go_at_call 44; with_reducible refine (PRb.out _).mono ?_; rintro e w2 ⟨rfl, hb2⟩; have hz2 := hb2.size; (try simp at hz2); have o2 : Below w.heap.size w w2 := (by (repeat (first | exact Below.refl _ _ | refine Below.setCell ?_ (by first | (simp; done) | (simp; omega) | omega) _ | refine Below.alloc ?_ (by first | (simp; done) | (simp; omega) | omega) _ | refine Below.drew ?_ | refine Below.trans ?_ (Below.mono (by assumption) (by first | (simp; done) | (simp; omega) | omega))))); have q2_0 : w.heap.size < w2.heap.size := (by omega); have r2_0 : Row w2 (w.heap.size) 33 #[.int .i64 sqa, .int .i64 tka, .int .i64 na, .int .i64 sa, .int .i64 qa, .int .i64 lwa, .int .i64 hga] := row_call (by (repeat (first | assumption | (refine row_new ?_; (first | (simp; done) | omega)) | refine row_alloc ?_ _ | refine row_drew ?_ | refine row_call ?_ (by assumption)))) hb2; obtain ⟨c2_0a, c2_0b, c2_0c, c2_0d, c2_0e, c2_0f, c2_0g, f2_0a, f2_0b, f2_0c, f2_0d, f2_0e, f2_0f, f2_0g⟩ := row_seven r2_0; have q2_1 : w.heap.size + 1 < w2.heap.size := (by omega); have r2_1 : Row w2 (w.heap.size + 1) 33 #[.int .i64 sqb, .int .i64 tkb, .int .i64 nb, .int .i64 sb, .int .i64 qb, .int .i64 lwb, .int .i64 hgb] := row_call (by (repeat (first | assumption | (refine row_new ?_; (first | (simp; done) | omega)) | refine row_alloc ?_ _ | refine row_drew ?_ | refine row_call ?_ (by assumption)))) hb2; obtain ⟨c2_1a, c2_1b, c2_1c, c2_1d, c2_1e, c2_1f, c2_1g, f2_1a, f2_1b, f2_1c, f2_1d, f2_1e, f2_1f, f2_1g⟩ := row_seven r2_1))
  have L : Row w2 (w.heap.size) 33 #[.int .i64 sqa, .int .i64 tka, .int .i64 na, .int .i64 sa, .int .i64 qa, .int .i64 lwa, .int .i64 hga] ∧ Row w2 (w.heap.size + 1) 33 #[.int .i64 sqb, .int .i64 tkb, .int .i64 nb, .int .i64 sb, .int .i64 qb, .int .i64 lwb, .int .i64 hgb] ∧ Below w.heap.size w w2 := ⟨r2_0, r2_1, o2⟩
  refine wp_region_free1 [0, 1, 2, 3, 4, 5, 6, 7, 8, 9, 10, 11, 13, 12] [13] [0, 1, 2, 3, 4, 5, 6, 7, 8, 9, 10, 11, 12, 14] (14, 72, #[.int .u64 0, .int .u64 0]) 9 15 (fun w' => Row w' (w.heap.size) 33 #[.int .i64 sqa, .int .i64 tka, .int .i64 na, .int .i64 sa, .int .i64 qa, .int .i64 lwa, .int .i64 hga] ∧ Row w' (w.heap.size + 1) 33 #[.int .i64 sqb, .int .i64 tkb, .int .i64 nb, .int .i64 sb, .int .i64 qb, .int .i64 lwb, .int .i64 hgb] ∧ Below w.heap.size w w') (by kernel_rfl) (by kernel_rfl) ⟨_, _, rfl, rfl, rfl, fun ρ w' => by go_simp⟩ rfl (by simp) (fun _ h => ⟨row_alloc h.1 _, row_alloc h.2.1 _, h.2.2.alloc h.2.2.size _⟩) (fun _ _ d _ _ h => by cases d <;> exact h) ?_ ?_
  · exact ⟨L.1, L.2.1, L.2.2.drew⟩
  (refine plan_val ?_ rfl rfl rfl (fun w' hS => ?_) ?_; rotate_left; (obtain ⟨X0, X1, X2, X3, X4, X5, X6, _⟩ := row_seven hS.1; obtain ⟨Y0, Y1, Y2, Y3, Y4, Y5, Y6, _⟩ := row_seven hS.2.1; go_simp; try with_reducible rfl); simp only [Act.put, List.setIfInBounds_toArray, List.set_cons_zero, List.set_cons_succ])
  refine plan_call (.int .i64 tpb) 46 #[.agg #[.int .i64 sqb, .int .i64 tkb, .int .i64 nb, .int .i64 sb, .int .i64 qb, .int .i64 lwb, .int .i64 hgb]] rfl rfl rfl (fun _ _ h hb => ⟨row_call h.1 hb, row_call h.2.1 hb, h.2.2.trans (hb.mono h.2.2.size)⟩) (fun w' hS => by obtain ⟨X0, X1, X2, X3, X4, X5, X6, _⟩ := row_seven hS.1; obtain ⟨Y0, Y1, Y2, Y3, Y4, Y5, Y6, _⟩ := row_seven hS.2.1; go_simp) (fun w' hS => PTb.out w') ?_
  simp only [Act.put, List.setIfInBounds_toArray, List.set_cons_zero, List.set_cons_succ]
  (refine plan_pure ?_ rfl rfl (fun w' => ?_) ?_; rotate_left; (go_simp; try with_reducible rfl); simp only [Act.put, List.setIfInBounds_toArray, List.set_cons_zero, List.set_cons_succ])
  (refine plan_pure ?_ rfl rfl (fun w' => ?_) ?_; rotate_left; (go_simp; try with_reducible rfl); simp only [Act.put, List.setIfInBounds_toArray, List.set_cons_zero, List.set_cons_succ])
  (refine plan_val ?_ rfl rfl rfl (fun w' hS => ?_) ?_; rotate_left; (obtain ⟨X0, X1, X2, X3, X4, X5, X6, _⟩ := row_seven hS.1; obtain ⟨Y0, Y1, Y2, Y3, Y4, Y5, Y6, _⟩ := row_seven hS.2.1; go_simp; try with_reducible rfl); simp only [Act.put, List.setIfInBounds_toArray, List.set_cons_zero, List.set_cons_succ])
  (refine plan_pure ?_ rfl rfl (fun w' => ?_) ?_; rotate_left; (go_simp; try with_reducible rfl); simp only [Act.put, List.setIfInBounds_toArray, List.set_cons_zero, List.set_cons_succ])
  refine plan_call (W px) 50 #[.int .u64 tpb, .int .u64 na] rfl rfl rfl (fun _ _ h hb => ⟨row_call h.1 hb, row_call h.2.1 hb, h.2.2.trans (hb.mono h.2.2.size)⟩) (fun w' hS => by obtain ⟨X0, X1, X2, X3, X4, X5, X6, _⟩ := row_seven hS.1; obtain ⟨Y0, Y1, Y2, Y3, Y4, Y5, Y6, _⟩ := row_seven hS.2.1; go_simp) (fun w' hS => PPx.out w') ?_
  simp only [Act.put, List.setIfInBounds_toArray, List.set_cons_zero, List.set_cons_succ]
  (refine plan_pure ?_ rfl rfl (fun w' => ?_) ?_; rotate_left; (go_simp; try with_reducible rfl); simp only [Act.put, List.setIfInBounds_toArray, List.set_cons_zero, List.set_cons_succ])
  (refine plan_pure ?_ rfl rfl (fun w' => ?_) ?_; rotate_left; (go_simp; try with_reducible rfl); simp only [Act.put, List.setIfInBounds_toArray, List.set_cons_zero, List.set_cons_succ])
  refine plan_call (W mx) 51 #[.int .u64 (6 * k)] rfl rfl rfl (fun _ _ h hb => ⟨row_call h.1 hb, row_call h.2.1 hb, h.2.2.trans (hb.mono h.2.2.size)⟩) (fun w' hS => by obtain ⟨X0, X1, X2, X3, X4, X5, X6, _⟩ := row_seven hS.1; obtain ⟨Y0, Y1, Y2, Y3, Y4, Y5, Y6, _⟩ := row_seven hS.2.1; go_simp) (fun w' hS => Oxx.out w') ?_
  simp only [Act.put, List.setIfInBounds_toArray, List.set_cons_zero, List.set_cons_succ]
  refine plan_call (.tuple #[W xx, .bool true]) 49 #[W px, W mx] rfl rfl rfl (fun _ _ h hb => ⟨row_call h.1 hb, row_call h.2.1 hb, h.2.2.trans (hb.mono h.2.2.size)⟩) (fun w' hS => by obtain ⟨X0, X1, X2, X3, X4, X5, X6, _⟩ := row_seven hS.1; obtain ⟨Y0, Y1, Y2, Y3, Y4, Y5, Y6, _⟩ := row_seven hS.2.1; go_simp) (fun w' hS => Mxx.out w') ?_
  simp only [Act.put, List.setIfInBounds_toArray, List.set_cons_zero, List.set_cons_succ]
  (refine plan_pure ?_ rfl rfl (fun w' => ?_) ?_; rotate_left; (go_simp; try with_reducible rfl); simp only [Act.put, List.setIfInBounds_toArray, List.set_cons_zero, List.set_cons_succ])
  (refine plan_pure ?_ rfl rfl (fun w' => ?_) ?_; rotate_left; (go_simp; try with_reducible rfl); simp only [Act.put, List.setIfInBounds_toArray, List.set_cons_zero, List.set_cons_succ])
  (refine plan_pure ?_ rfl rfl (fun w' => ?_) ?_; rotate_left; (go_simp; try with_reducible rfl); simp only [Act.put, List.setIfInBounds_toArray, List.set_cons_zero, List.set_cons_succ])
  refine plan_nil ?_
  intro g1 w3 L3 hg1r hg1g
  simp only [List.drop_succ_cons, List.drop_zero]
  try simp only [Act.put, List.setIfInBounds_toArray, List.set_cons_zero, List.set_cons_succ]
  obtain ⟨x1, x2, x3⟩ := L3
  clear L
  obtain ⟨G0, G1, G2, G3⟩ := row_two hg1r
  go_upto_region 7 with (fail)
  have x1 := row_two_other (c := g1) (u := .int .u64 (hi xx)) (v := .int .u64 (lo xx)) x1 (by omega)
  have x2 := row_two_other (c := g1) (u := .int .u64 (hi xx)) (v := .int .u64 (lo xx)) x2 (by omega)
  have G := row_two_set (u := .int .u64 (hi xx)) (v := .int .u64 (lo xx)) hg1r
  have x3 := (x3.setCell (p := ⟨g1, 0, none⟩) (by simp; omega) (.int .u64 (hi xx))).setCell (p := ⟨g1, 1, none⟩) (by simp; omega) (.int .u64 (lo xx))
  generalize ((w3.setCell ⟨g1, 0, none⟩ (.int .u64 (hi xx))).setCell ⟨g1, 1, none⟩ (.int .u64 (lo xx))) = w4 at x1 x2 G x3 ⊢
  clear G0 G1 G2 G3 hg1r
  have gl4 := row_lt G
  have zs4 := x3.size
  have L5 : Row w4 (w.heap.size) 33 #[.int .i64 sqa, .int .i64 tka, .int .i64 na, .int .i64 sa, .int .i64 qa, .int .i64 lwa, .int .i64 hga] ∧ Row w4 (w.heap.size + 1) 33 #[.int .i64 sqb, .int .i64 tkb, .int .i64 nb, .int .i64 sb, .int .i64 qb, .int .i64 lwb, .int .i64 hgb] ∧ Row w4 g1 72 #[.int .u64 (hi xx), .int .u64 (lo xx)] ∧ Below w.heap.size w w4 := ⟨x1, x2, G, x3⟩
  refine wp_region_free1 [0, 1, 2, 3, 4, 5, 6, 7, 8, 9, 10, 11, 13, 12] [13] [0, 1, 2, 3, 4, 5, 6, 7, 8, 9, 10, 11, 12, 14] (14, 72, #[.int .u64 0, .int .u64 0]) 11 15 (fun w' => Row w' (w.heap.size) 33 #[.int .i64 sqa, .int .i64 tka, .int .i64 na, .int .i64 sa, .int .i64 qa, .int .i64 lwa, .int .i64 hga] ∧ Row w' (w.heap.size + 1) 33 #[.int .i64 sqb, .int .i64 tkb, .int .i64 nb, .int .i64 sb, .int .i64 qb, .int .i64 lwb, .int .i64 hgb] ∧ Row w' g1 72 #[.int .u64 (hi xx), .int .u64 (lo xx)] ∧ Below w.heap.size w w') (by kernel_rfl) (by kernel_rfl) ⟨_, _, rfl, rfl, rfl, fun ρ w' => by go_simp⟩ rfl (by simp) (fun _ h => ⟨row_alloc h.1 _, row_alloc h.2.1 _, row_alloc h.2.2.1 _, h.2.2.2.alloc h.2.2.2.size _⟩) (fun _ _ d _ _ h => by cases d <;> exact h) ?_ ?_
  · exact ⟨L5.1, L5.2.1, L5.2.2.1, L5.2.2.2.drew⟩
  (refine plan_val ?_ rfl rfl rfl (fun w' hS => ?_) ?_; rotate_left; (obtain ⟨X0, X1, X2, X3, X4, X5, X6, _⟩ := row_seven hS.1; obtain ⟨Y0, Y1, Y2, Y3, Y4, Y5, Y6, _⟩ := row_seven hS.2.1; go_simp; try with_reducible rfl); simp only [Act.put, List.setIfInBounds_toArray, List.set_cons_zero, List.set_cons_succ])
  refine plan_call (.int .i64 tpa) 46 #[.agg #[.int .i64 sqa, .int .i64 tka, .int .i64 na, .int .i64 sa, .int .i64 qa, .int .i64 lwa, .int .i64 hga]] rfl rfl rfl (fun _ _ h hb => ⟨row_call h.1 hb, row_call h.2.1 hb, row_call h.2.2.1 hb, h.2.2.2.trans (hb.mono h.2.2.2.size)⟩) (fun w' hS => by obtain ⟨X0, X1, X2, X3, X4, X5, X6, _⟩ := row_seven hS.1; obtain ⟨Y0, Y1, Y2, Y3, Y4, Y5, Y6, _⟩ := row_seven hS.2.1; go_simp) (fun w' hS => PTa.out w') ?_
  simp only [Act.put, List.setIfInBounds_toArray, List.set_cons_zero, List.set_cons_succ]
  (refine plan_pure ?_ rfl rfl (fun w' => ?_) ?_; rotate_left; (go_simp; try with_reducible rfl); simp only [Act.put, List.setIfInBounds_toArray, List.set_cons_zero, List.set_cons_succ])
  (refine plan_pure ?_ rfl rfl (fun w' => ?_) ?_; rotate_left; (go_simp; try with_reducible rfl); simp only [Act.put, List.setIfInBounds_toArray, List.set_cons_zero, List.set_cons_succ])
  (refine plan_val ?_ rfl rfl rfl (fun w' hS => ?_) ?_; rotate_left; (obtain ⟨X0, X1, X2, X3, X4, X5, X6, _⟩ := row_seven hS.1; obtain ⟨Y0, Y1, Y2, Y3, Y4, Y5, Y6, _⟩ := row_seven hS.2.1; go_simp; try with_reducible rfl); simp only [Act.put, List.setIfInBounds_toArray, List.set_cons_zero, List.set_cons_succ])
  (refine plan_pure ?_ rfl rfl (fun w' => ?_) ?_; rotate_left; (go_simp; try with_reducible rfl); simp only [Act.put, List.setIfInBounds_toArray, List.set_cons_zero, List.set_cons_succ])
  refine plan_call (W py) 50 #[.int .u64 tpa, .int .u64 nb] rfl rfl rfl (fun _ _ h hb => ⟨row_call h.1 hb, row_call h.2.1 hb, row_call h.2.2.1 hb, h.2.2.2.trans (hb.mono h.2.2.2.size)⟩) (fun w' hS => by obtain ⟨X0, X1, X2, X3, X4, X5, X6, _⟩ := row_seven hS.1; obtain ⟨Y0, Y1, Y2, Y3, Y4, Y5, Y6, _⟩ := row_seven hS.2.1; go_simp) (fun w' hS => PPy.out w') ?_
  simp only [Act.put, List.setIfInBounds_toArray, List.set_cons_zero, List.set_cons_succ]
  (refine plan_pure ?_ rfl rfl (fun w' => ?_) ?_; rotate_left; (go_simp; try with_reducible rfl); simp only [Act.put, List.setIfInBounds_toArray, List.set_cons_zero, List.set_cons_succ])
  (refine plan_pure ?_ rfl rfl (fun w' => ?_) ?_; rotate_left; (go_simp; try with_reducible rfl); simp only [Act.put, List.setIfInBounds_toArray, List.set_cons_zero, List.set_cons_succ])
  refine plan_call (W my) 51 #[.int .u64 (6 * k - 1)] rfl rfl rfl (fun _ _ h hb => ⟨row_call h.1 hb, row_call h.2.1 hb, row_call h.2.2.1 hb, h.2.2.2.trans (hb.mono h.2.2.2.size)⟩) (fun w' hS => by obtain ⟨X0, X1, X2, X3, X4, X5, X6, _⟩ := row_seven hS.1; obtain ⟨Y0, Y1, Y2, Y3, Y4, Y5, Y6, _⟩ := row_seven hS.2.1; go_simp) (fun w' hS => Oyy.out w') ?_
  simp only [Act.put, List.setIfInBounds_toArray, List.set_cons_zero, List.set_cons_succ]
  refine plan_call (.tuple #[W yy, .bool true]) 49 #[W py, W my] rfl rfl rfl (fun _ _ h hb => ⟨row_call h.1 hb, row_call h.2.1 hb, row_call h.2.2.1 hb, h.2.2.2.trans (hb.mono h.2.2.2.size)⟩) (fun w' hS => by obtain ⟨X0, X1, X2, X3, X4, X5, X6, _⟩ := row_seven hS.1; obtain ⟨Y0, Y1, Y2, Y3, Y4, Y5, Y6, _⟩ := row_seven hS.2.1; go_simp) (fun w' hS => Myy.out w') ?_
  simp only [Act.put, List.setIfInBounds_toArray, List.set_cons_zero, List.set_cons_succ]
  (refine plan_pure ?_ rfl rfl (fun w' => ?_) ?_; rotate_left; (go_simp; try with_reducible rfl); simp only [Act.put, List.setIfInBounds_toArray, List.set_cons_zero, List.set_cons_succ])
  (refine plan_pure ?_ rfl rfl (fun w' => ?_) ?_; rotate_left; (go_simp; try with_reducible rfl); simp only [Act.put, List.setIfInBounds_toArray, List.set_cons_zero, List.set_cons_succ])
  (refine plan_pure ?_ rfl rfl (fun w' => ?_) ?_; rotate_left; (go_simp; try with_reducible rfl); simp only [Act.put, List.setIfInBounds_toArray, List.set_cons_zero, List.set_cons_succ])
  refine plan_nil ?_
  intro g2 w5 L6 hg2r hg2g
  simp only [List.drop_succ_cons, List.drop_zero]
  try simp only [Act.put, List.setIfInBounds_toArray, List.set_cons_zero, List.set_cons_succ]
  obtain ⟨x1, x2, G, x3⟩ := L6
  clear L5
  obtain ⟨G0, G1, G2, G3⟩ := row_two hg2r
  go_upto_region 8 with (fail)
  have ng : g1 ≠ g2 := by omega
  have G := row_two_other (c := g2) (u := .int .u64 (hi yy)) (v := .int .u64 (lo yy)) G ng
  have G' := row_two_set (u := .int .u64 (hi yy)) (v := .int .u64 (lo yy)) hg2r
  have x3 := (x3.setCell (p := ⟨g2, 0, none⟩) (by simp; omega) (.int .u64 (hi yy))).setCell (p := ⟨g2, 1, none⟩) (by simp; omega) (.int .u64 (lo yy))
  generalize ((w5.setCell ⟨g2, 0, none⟩ (.int .u64 (hi yy))).setCell ⟨g2, 1, none⟩ (.int .u64 (lo yy))) = w6 at G G' x3 ⊢
  clear G0 G1 G2 G3 hg2r x1 x2
  obtain ⟨G0, G1, G2, G3⟩ := row_two G
  obtain ⟨H0, H1, H2, H3⟩ := row_two G'
  go_wp2_with (go_at_call 52; refine (CM.out _).mono ?_; rintro e w7 ⟨rfl, hb7⟩)
  go_ret
  exact ⟨rfl, x3.trans (hb7.mono x3.size)⟩
theorem pclose (sqa tka na sa qa lwa hga sqb tkb nb sb qb lwb hgb k : Int) (w : World) : Calls Try.prog 17 #[.agg #[.int .i64 sqa, .int .i64 tka, .int .i64 na, .int .i64 sa, .int .i64 qa, .int .i64 lwa, .int .i64 hga], .agg #[.int .i64 sqb, .int .i64 tkb, .int .i64 nb, .int .i64 sb, .int .i64 qb, .int .i64 lwb, .int .i64 hgb], .int .i64 k] w fun e w' => e = .returned (.bool (decide (closeP na sa qa nb sb qb k))) ∧ Below w.heap.size w w' := by
  by_cases ha : rightP na sa qa
  · by_cases hb : rightP nb sb qb
    · by_cases hk : 1 ≤ k ∧ k ≤ 64
      · by_cases h : (6 * k - 1) * na ≤ 6 * k * nb
        · rw [show decide (closeP na sa qa nb sb qb k) = decide (topN na sa qa * nb.toNat * (6 * k - 1).toNat ≤ topN nb sb qb * na.toNat * (6 * k).toNat) from decide_eq_decide.2 ⟨fun a => a.2.2.2.2, fun hh => ⟨ha, hb, hk, h, hh⟩⟩]
          exact pclose_ok sqa tka na sa qa lwa hga sqb tkb nb sb qb lwb hgb k w ha hb hk h
        · rw [decide_eq_false (fun a => h a.2.2.2.1)]
          exact pclose_n sqa tka na sa qa lwa hga sqb tkb nb sb qb lwb hgb k w ha hb hk (Int.not_le.1 h)
      · rw [decide_eq_false (fun a => hk a.2.2.1)]
        exact pclose_k sqa tka na sa qa lwa hga sqb tkb nb sb qb lwb hgb k w ha hb hk
    · rw [decide_eq_false (fun a => hb a.2.1)]
      exact pclose_b sqa tka na sa qa lwa hga sqb tkb nb sb qb lwb hgb k w ha hb
  · rw [decide_eq_false (fun a => ha a.1)]
    exact pclose_a sqa tka na sa qa lwa hga sqb tkb nb sb qb lwb hgb k w ha
theorem rclose_a (sqa tka na sa qa lwa hga sqb tkb nb sb qb lwb hgb k : Int) (w : World) (ha : ¬ rightP na sa qa) : Calls Try.prog 18 #[.agg #[.int .i64 sqa, .int .i64 tka, .int .i64 na, .int .i64 sa, .int .i64 qa, .int .i64 lwa, .int .i64 hga], .agg #[.int .i64 sqb, .int .i64 tkb, .int .i64 nb, .int .i64 sb, .int .i64 qb, .int .i64 lwb, .int .i64 hgb], .int .i64 k] w fun e w' => e = .returned (.bool false) ∧ Below w.heap.size w w' := by
  have PRa := fun w => rright sqa tka na sa qa lwa hga w
  rw [decide_eq_false ha] at PRa
  have PRa := Lib.hid PRa
  clear ha
  go_enter Try.func18, Try.ntmps18
  go_wp2_with (first | (go_at_call 47; with_reducible refine (PRa.out _).mono ?_; rintro e w1 ⟨rfl, hb1⟩; have hz1 := hb1.size; (try simp at hz1); have o1 : Below w.heap.size w w1 := (by (repeat (first | exact Below.refl _ _ | refine Below.setCell ?_ (by first | (simp; done) | (simp; omega) | omega) _ | refine Below.alloc ?_ (by first | (simp; done) | (simp; omega) | omega) _ | refine Below.drew ?_ | refine Below.trans ?_ (Below.mono (by assumption) (by first | (simp; done) | (simp; omega) | omega))))); have q1_0 : w.heap.size < w1.heap.size := (by omega); have r1_0 : Row w1 (w.heap.size) 33 #[.int .i64 sqa, .int .i64 tka, .int .i64 na, .int .i64 sa, .int .i64 qa, .int .i64 lwa, .int .i64 hga] := row_call (by (repeat (first | assumption | (refine row_new ?_; (first | (simp; done) | omega)) | refine row_alloc ?_ _ | refine row_drew ?_ | refine row_call ?_ (by assumption)))) hb1; obtain ⟨c1_0a, c1_0b, c1_0c, c1_0d, c1_0e, c1_0f, c1_0g, f1_0a, f1_0b, f1_0c, f1_0d, f1_0e, f1_0f, f1_0g⟩ := row_seven r1_0; have q1_1 : w.heap.size + 1 < w1.heap.size := (by omega); have r1_1 : Row w1 (w.heap.size + 1) 33 #[.int .i64 sqb, .int .i64 tkb, .int .i64 nb, .int .i64 sb, .int .i64 qb, .int .i64 lwb, .int .i64 hgb] := row_call (by (repeat (first | assumption | (refine row_new ?_; (first | (simp; done) | omega)) | refine row_alloc ?_ _ | refine row_drew ?_ | refine row_call ?_ (by assumption)))) hb1; obtain ⟨c1_1a, c1_1b, c1_1c, c1_1d, c1_1e, c1_1f, c1_1g, f1_1a, f1_1b, f1_1c, f1_1d, f1_1e, f1_1f, f1_1g⟩ := row_seven r1_1))
  go_ret
  exact ⟨rfl, by (repeat (first | exact Below.refl _ _ | refine Below.setCell ?_ (by first | (simp; done) | (simp; omega) | omega) _ | refine Below.alloc ?_ (by first | (simp; done) | (simp; omega) | omega) _ | refine Below.drew ?_ | refine Below.trans ?_ (Below.mono (by assumption) (by first | (simp; done) | (simp; omega) | omega))))⟩
theorem rclose_b (sqa tka na sa qa lwa hga sqb tkb nb sb qb lwb hgb k : Int) (w : World) (ha : rightP na sa qa) (hb : ¬ rightP nb sb qb) : Calls Try.prog 18 #[.agg #[.int .i64 sqa, .int .i64 tka, .int .i64 na, .int .i64 sa, .int .i64 qa, .int .i64 lwa, .int .i64 hga], .agg #[.int .i64 sqb, .int .i64 tkb, .int .i64 nb, .int .i64 sb, .int .i64 qb, .int .i64 lwb, .int .i64 hgb], .int .i64 k] w fun e w' => e = .returned (.bool false) ∧ Below w.heap.size w w' := by
  have PRa := fun w => rright sqa tka na sa qa lwa hga w
  rw [decide_eq_true ha] at PRa
  have PRa := Lib.hid PRa
  have PRb := fun w => rright sqb tkb nb sb qb lwb hgb w
  rw [decide_eq_false hb] at PRb
  have PRb := Lib.hid PRb
  clear ha hb
  go_enter Try.func18, Try.ntmps18
  go_wp2_with (first | (go_at_call 47; with_reducible refine (PRa.out _).mono ?_; rintro e w1 ⟨rfl, hb1⟩; have hz1 := hb1.size; (try simp at hz1); have o1 : Below w.heap.size w w1 := (by (repeat (first | exact Below.refl _ _ | refine Below.setCell ?_ (by first | (simp; done) | (simp; omega) | omega) _ | refine Below.alloc ?_ (by first | (simp; done) | (simp; omega) | omega) _ | refine Below.drew ?_ | refine Below.trans ?_ (Below.mono (by assumption) (by first | (simp; done) | (simp; omega) | omega))))); have q1_0 : w.heap.size < w1.heap.size := (by omega); have r1_0 : Row w1 (w.heap.size) 33 #[.int .i64 sqa, .int .i64 tka, .int .i64 na, .int .i64 sa, .int .i64 qa, .int .i64 lwa, .int .i64 hga] := row_call (by (repeat (first | assumption | (refine row_new ?_; (first | (simp; done) | omega)) | refine row_alloc ?_ _ | refine row_drew ?_ | refine row_call ?_ (by assumption)))) hb1; obtain ⟨c1_0a, c1_0b, c1_0c, c1_0d, c1_0e, c1_0f, c1_0g, f1_0a, f1_0b, f1_0c, f1_0d, f1_0e, f1_0f, f1_0g⟩ := row_seven r1_0; have q1_1 : w.heap.size + 1 < w1.heap.size := (by omega); have r1_1 : Row w1 (w.heap.size + 1) 33 #[.int .i64 sqb, .int .i64 tkb, .int .i64 nb, .int .i64 sb, .int .i64 qb, .int .i64 lwb, .int .i64 hgb] := row_call (by (repeat (first | assumption | (refine row_new ?_; (first | (simp; done) | omega)) | refine row_alloc ?_ _ | refine row_drew ?_ | refine row_call ?_ (by assumption)))) hb1; obtain ⟨c1_1a, c1_1b, c1_1c, c1_1d, c1_1e, c1_1f, c1_1g, f1_1a, f1_1b, f1_1c, f1_1d, f1_1e, f1_1f, f1_1g⟩ := row_seven r1_1) | (go_at_call 47; with_reducible refine (PRb.out _).mono ?_; rintro e w2 ⟨rfl, hb2⟩; have hz2 := hb2.size; (try simp at hz2); have o2 : Below w.heap.size w w2 := (by (repeat (first | exact Below.refl _ _ | refine Below.setCell ?_ (by first | (simp; done) | (simp; omega) | omega) _ | refine Below.alloc ?_ (by first | (simp; done) | (simp; omega) | omega) _ | refine Below.drew ?_ | refine Below.trans ?_ (Below.mono (by assumption) (by first | (simp; done) | (simp; omega) | omega))))); have q2_0 : w.heap.size < w2.heap.size := (by omega); have r2_0 : Row w2 (w.heap.size) 33 #[.int .i64 sqa, .int .i64 tka, .int .i64 na, .int .i64 sa, .int .i64 qa, .int .i64 lwa, .int .i64 hga] := row_call (by (repeat (first | assumption | (refine row_new ?_; (first | (simp; done) | omega)) | refine row_alloc ?_ _ | refine row_drew ?_ | refine row_call ?_ (by assumption)))) hb2; obtain ⟨c2_0a, c2_0b, c2_0c, c2_0d, c2_0e, c2_0f, c2_0g, f2_0a, f2_0b, f2_0c, f2_0d, f2_0e, f2_0f, f2_0g⟩ := row_seven r2_0; have q2_1 : w.heap.size + 1 < w2.heap.size := (by omega); have r2_1 : Row w2 (w.heap.size + 1) 33 #[.int .i64 sqb, .int .i64 tkb, .int .i64 nb, .int .i64 sb, .int .i64 qb, .int .i64 lwb, .int .i64 hgb] := row_call (by (repeat (first | assumption | (refine row_new ?_; (first | (simp; done) | omega)) | refine row_alloc ?_ _ | refine row_drew ?_ | refine row_call ?_ (by assumption)))) hb2; obtain ⟨c2_1a, c2_1b, c2_1c, c2_1d, c2_1e, c2_1f, c2_1g, f2_1a, f2_1b, f2_1c, f2_1d, f2_1e, f2_1f, f2_1g⟩ := row_seven r2_1))
  go_ret
  exact ⟨rfl, by (repeat (first | exact Below.refl _ _ | refine Below.setCell ?_ (by first | (simp; done) | (simp; omega) | omega) _ | refine Below.alloc ?_ (by first | (simp; done) | (simp; omega) | omega) _ | refine Below.drew ?_ | refine Below.trans ?_ (Below.mono (by assumption) (by first | (simp; done) | (simp; omega) | omega))))⟩
theorem rclose_k (sqa tka na sa qa lwa hga sqb tkb nb sb qb lwb hgb k : Int) (w : World) (ha : rightP na sa qa) (hb : rightP nb sb qb) (hk : ¬ (1 ≤ k ∧ k ≤ 64)) : Calls Try.prog 18 #[.agg #[.int .i64 sqa, .int .i64 tka, .int .i64 na, .int .i64 sa, .int .i64 qa, .int .i64 lwa, .int .i64 hga], .agg #[.int .i64 sqb, .int .i64 tkb, .int .i64 nb, .int .i64 sb, .int .i64 qb, .int .i64 lwb, .int .i64 hgb], .int .i64 k] w fun e w' => e = .returned (.bool false) ∧ Below w.heap.size w w' := by
  have PRa := fun w => rright sqa tka na sa qa lwa hga w
  rw [decide_eq_true ha] at PRa
  have PRa := Lib.hid PRa
  have PRb := fun w => rright sqb tkb nb sb qb lwb hgb w
  rw [decide_eq_true hb] at PRb
  have PRb := Lib.hid PRb
  have PK := fun w => rmayk k w
  rw [decide_eq_false hk] at PK
  have PK := Lib.hid PK
  clear ha hb hk
  go_enter Try.func18, Try.ntmps18
  go_wp2_with (first | (go_at_call 47; with_reducible refine (PRa.out _).mono ?_; rintro e w1 ⟨rfl, hb1⟩; have hz1 := hb1.size; (try simp at hz1); have o1 : Below w.heap.size w w1 := (by (repeat (first | exact Below.refl _ _ | refine Below.setCell ?_ (by first | (simp; done) | (simp; omega) | omega) _ | refine Below.alloc ?_ (by first | (simp; done) | (simp; omega) | omega) _ | refine Below.drew ?_ | refine Below.trans ?_ (Below.mono (by assumption) (by first | (simp; done) | (simp; omega) | omega))))); have q1_0 : w.heap.size < w1.heap.size := (by omega); have r1_0 : Row w1 (w.heap.size) 33 #[.int .i64 sqa, .int .i64 tka, .int .i64 na, .int .i64 sa, .int .i64 qa, .int .i64 lwa, .int .i64 hga] := row_call (by (repeat (first | assumption | (refine row_new ?_; (first | (simp; done) | omega)) | refine row_alloc ?_ _ | refine row_drew ?_ | refine row_call ?_ (by assumption)))) hb1; obtain ⟨c1_0a, c1_0b, c1_0c, c1_0d, c1_0e, c1_0f, c1_0g, f1_0a, f1_0b, f1_0c, f1_0d, f1_0e, f1_0f, f1_0g⟩ := row_seven r1_0; have q1_1 : w.heap.size + 1 < w1.heap.size := (by omega); have r1_1 : Row w1 (w.heap.size + 1) 33 #[.int .i64 sqb, .int .i64 tkb, .int .i64 nb, .int .i64 sb, .int .i64 qb, .int .i64 lwb, .int .i64 hgb] := row_call (by (repeat (first | assumption | (refine row_new ?_; (first | (simp; done) | omega)) | refine row_alloc ?_ _ | refine row_drew ?_ | refine row_call ?_ (by assumption)))) hb1; obtain ⟨c1_1a, c1_1b, c1_1c, c1_1d, c1_1e, c1_1f, c1_1g, f1_1a, f1_1b, f1_1c, f1_1d, f1_1e, f1_1f, f1_1g⟩ := row_seven r1_1) | (go_at_call 47; with_reducible refine (PRb.out _).mono ?_; rintro e w2 ⟨rfl, hb2⟩; have hz2 := hb2.size; (try simp at hz2); have o2 : Below w.heap.size w w2 := (by (repeat (first | exact Below.refl _ _ | refine Below.setCell ?_ (by first | (simp; done) | (simp; omega) | omega) _ | refine Below.alloc ?_ (by first | (simp; done) | (simp; omega) | omega) _ | refine Below.drew ?_ | refine Below.trans ?_ (Below.mono (by assumption) (by first | (simp; done) | (simp; omega) | omega))))); have q2_0 : w.heap.size < w2.heap.size := (by omega); have r2_0 : Row w2 (w.heap.size) 33 #[.int .i64 sqa, .int .i64 tka, .int .i64 na, .int .i64 sa, .int .i64 qa, .int .i64 lwa, .int .i64 hga] := row_call (by (repeat (first | assumption | (refine row_new ?_; (first | (simp; done) | omega)) | refine row_alloc ?_ _ | refine row_drew ?_ | refine row_call ?_ (by assumption)))) hb2; obtain ⟨c2_0a, c2_0b, c2_0c, c2_0d, c2_0e, c2_0f, c2_0g, f2_0a, f2_0b, f2_0c, f2_0d, f2_0e, f2_0f, f2_0g⟩ := row_seven r2_0; have q2_1 : w.heap.size + 1 < w2.heap.size := (by omega); have r2_1 : Row w2 (w.heap.size + 1) 33 #[.int .i64 sqb, .int .i64 tkb, .int .i64 nb, .int .i64 sb, .int .i64 qb, .int .i64 lwb, .int .i64 hgb] := row_call (by (repeat (first | assumption | (refine row_new ?_; (first | (simp; done) | omega)) | refine row_alloc ?_ _ | refine row_drew ?_ | refine row_call ?_ (by assumption)))) hb2; obtain ⟨c2_1a, c2_1b, c2_1c, c2_1d, c2_1e, c2_1f, c2_1g, f2_1a, f2_1b, f2_1c, f2_1d, f2_1e, f2_1f, f2_1g⟩ := row_seven r2_1) | (go_at_call 40; with_reducible refine (PK.out _).mono ?_; rintro e w9 ⟨rfl, h9⟩; obtain rfl := h9.symm))
  go_ret
  exact ⟨rfl, by (repeat (first | exact Below.refl _ _ | refine Below.setCell ?_ (by first | (simp; done) | (simp; omega) | omega) _ | refine Below.alloc ?_ (by first | (simp; done) | (simp; omega) | omega) _ | refine Below.drew ?_ | refine Below.trans ?_ (Below.mono (by assumption) (by first | (simp; done) | (simp; omega) | omega))))⟩
theorem rclose_n (sqa tka na sa qa lwa hga sqb tkb nb sb qb lwb hgb k : Int) (w : World) (ha : rightP na sa qa) (hb : rightP nb sb qb) (hk : 1 ≤ k ∧ k ≤ 64) (h : 6 * k * nb < (6 * k - 1) * na) : Calls Try.prog 18 #[.agg #[.int .i64 sqa, .int .i64 tka, .int .i64 na, .int .i64 sa, .int .i64 qa, .int .i64 lwa, .int .i64 hga], .agg #[.int .i64 sqb, .int .i64 tkb, .int .i64 nb, .int .i64 sb, .int .i64 qb, .int .i64 lwb, .int .i64 hgb], .int .i64 k] w fun e w' => e = .returned (.bool false) ∧ Below w.heap.size w w' := by
  have PRa := fun w => rright sqa tka na sa qa lwa hga w
  rw [decide_eq_true ha] at PRa
  have PRa := Lib.hid PRa
  have PRb := fun w => rright sqb tkb nb sb qb lwb hgb w
  rw [decide_eq_true hb] at PRb
  have PRb := Lib.hid PRb
  have PK := fun w => rmayk k w
  rw [decide_eq_true hk] at PK
  have PK := Lib.hid PK
  have bk := hk
  obtain ⟨k0, k1⟩ := bk
  have na0 := ha.1
  have na1 := ha.2.1
  have nb0 := hb.1
  have nb1 := hb.2.1
  have m1 : 0 ≤ 6 * k * nb ∧ 6 * k * nb ≤ 25165824 := ⟨Int.mul_nonneg (by omega) (by omega), Int.mul_le_mul (show 6 * k ≤ 384 by omega) nb1 (by omega) (by decide)⟩
  have m2 : 0 ≤ (6 * k - 1) * na ∧ (6 * k - 1) * na ≤ 25165824 := ⟨Int.mul_nonneg (by omega) (by omega), Int.mul_le_mul (show 6 * k - 1 ≤ 384 by omega) na1 (by omega) (by decide)⟩
  have m3 : 0 ≤ 6 * k * na ∧ 6 * k * na ≤ 25165824 := ⟨Int.mul_nonneg (by omega) (by omega), Int.mul_le_mul (show 6 * k ≤ 384 by omega) na1 (by omega) (by decide)⟩
  have m4 : 0 ≤ (6 * k - 1) * nb ∧ (6 * k - 1) * nb ≤ 25165824 := ⟨Int.mul_nonneg (by omega) (by omega), Int.mul_le_mul (show 6 * k - 1 ≤ 384 by omega) nb1 (by omega) (by decide)⟩
  have w6 : IntKind.i64.wrap (6 * k) = 6 * k := IntWalk.i64_in _ (by omega)
  have w61 : IntKind.i64.wrap (6 * k - 1) = 6 * k - 1 := IntWalk.i64_in _ (by omega)
  have wm1 : IntKind.i64.wrap (6 * k * nb) = 6 * k * nb := IntWalk.i64_in _ (by omega)
  have wm2 : IntKind.i64.wrap ((6 * k - 1) * na) = (6 * k - 1) * na := IntWalk.i64_in _ (by omega)
  have wm3 : IntKind.i64.wrap (6 * k * na) = 6 * k * na := IntWalk.i64_in _ (by omega)
  have wm4 : IntKind.i64.wrap ((6 * k - 1) * nb) = (6 * k - 1) * nb := IntWalk.i64_in _ (by omega)
  clear ha hb hk
  go_enter Try.func18, Try.ntmps18
  go_wp2_with (first | (go_at_call 47; with_reducible refine (PRa.out _).mono ?_; rintro e w1 ⟨rfl, hb1⟩; have hz1 := hb1.size; (try simp at hz1); have o1 : Below w.heap.size w w1 := (by (repeat (first | exact Below.refl _ _ | refine Below.setCell ?_ (by first | (simp; done) | (simp; omega) | omega) _ | refine Below.alloc ?_ (by first | (simp; done) | (simp; omega) | omega) _ | refine Below.drew ?_ | refine Below.trans ?_ (Below.mono (by assumption) (by first | (simp; done) | (simp; omega) | omega))))); have q1_0 : w.heap.size < w1.heap.size := (by omega); have r1_0 : Row w1 (w.heap.size) 33 #[.int .i64 sqa, .int .i64 tka, .int .i64 na, .int .i64 sa, .int .i64 qa, .int .i64 lwa, .int .i64 hga] := row_call (by (repeat (first | assumption | (refine row_new ?_; (first | (simp; done) | omega)) | refine row_alloc ?_ _ | refine row_drew ?_ | refine row_call ?_ (by assumption)))) hb1; obtain ⟨c1_0a, c1_0b, c1_0c, c1_0d, c1_0e, c1_0f, c1_0g, f1_0a, f1_0b, f1_0c, f1_0d, f1_0e, f1_0f, f1_0g⟩ := row_seven r1_0; have q1_1 : w.heap.size + 1 < w1.heap.size := (by omega); have r1_1 : Row w1 (w.heap.size + 1) 33 #[.int .i64 sqb, .int .i64 tkb, .int .i64 nb, .int .i64 sb, .int .i64 qb, .int .i64 lwb, .int .i64 hgb] := row_call (by (repeat (first | assumption | (refine row_new ?_; (first | (simp; done) | omega)) | refine row_alloc ?_ _ | refine row_drew ?_ | refine row_call ?_ (by assumption)))) hb1; obtain ⟨c1_1a, c1_1b, c1_1c, c1_1d, c1_1e, c1_1f, c1_1g, f1_1a, f1_1b, f1_1c, f1_1d, f1_1e, f1_1f, f1_1g⟩ := row_seven r1_1) | (go_at_call 47; with_reducible refine (PRb.out _).mono ?_; rintro e w2 ⟨rfl, hb2⟩; have hz2 := hb2.size; (try simp at hz2); have o2 : Below w.heap.size w w2 := (by (repeat (first | exact Below.refl _ _ | refine Below.setCell ?_ (by first | (simp; done) | (simp; omega) | omega) _ | refine Below.alloc ?_ (by first | (simp; done) | (simp; omega) | omega) _ | refine Below.drew ?_ | refine Below.trans ?_ (Below.mono (by assumption) (by first | (simp; done) | (simp; omega) | omega))))); have q2_0 : w.heap.size < w2.heap.size := (by omega); have r2_0 : Row w2 (w.heap.size) 33 #[.int .i64 sqa, .int .i64 tka, .int .i64 na, .int .i64 sa, .int .i64 qa, .int .i64 lwa, .int .i64 hga] := row_call (by (repeat (first | assumption | (refine row_new ?_; (first | (simp; done) | omega)) | refine row_alloc ?_ _ | refine row_drew ?_ | refine row_call ?_ (by assumption)))) hb2; obtain ⟨c2_0a, c2_0b, c2_0c, c2_0d, c2_0e, c2_0f, c2_0g, f2_0a, f2_0b, f2_0c, f2_0d, f2_0e, f2_0f, f2_0g⟩ := row_seven r2_0; have q2_1 : w.heap.size + 1 < w2.heap.size := (by omega); have r2_1 : Row w2 (w.heap.size + 1) 33 #[.int .i64 sqb, .int .i64 tkb, .int .i64 nb, .int .i64 sb, .int .i64 qb, .int .i64 lwb, .int .i64 hgb] := row_call (by (repeat (first | assumption | (refine row_new ?_; (first | (simp; done) | omega)) | refine row_alloc ?_ _ | refine row_drew ?_ | refine row_call ?_ (by assumption)))) hb2; obtain ⟨c2_1a, c2_1b, c2_1c, c2_1d, c2_1e, c2_1f, c2_1g, f2_1a, f2_1b, f2_1c, f2_1d, f2_1e, f2_1f, f2_1g⟩ := row_seven r2_1) | (go_at_call 40; with_reducible refine (PK.out _).mono ?_; rintro e w9 ⟨rfl, h9⟩; obtain rfl := h9.symm))
  go_ret
  exact ⟨rfl, by (repeat (first | exact Below.refl _ _ | refine Below.setCell ?_ (by first | (simp; done) | (simp; omega) | omega) _ | refine Below.alloc ?_ (by first | (simp; done) | (simp; omega) | omega) _ | refine Below.drew ?_ | refine Below.trans ?_ (Below.mono (by assumption) (by first | (simp; done) | (simp; omega) | omega))))⟩
set_option maxHeartbeats 4000000 in
theorem rclose_ok (sqa tka na sa qa lwa hga sqb tkb nb sb qb lwb hgb k : Int) (w : World) (ha : rightP na sa qa) (hb : rightP nb sb qb) (hk : 1 ≤ k ∧ k ≤ 64) (h : (6 * k - 1) * na ≤ 6 * k * nb) :
    Calls Try.prog 18 #[.agg #[.int .i64 sqa, .int .i64 tka, .int .i64 na, .int .i64 sa, .int .i64 qa, .int .i64 lwa, .int .i64 hga], .agg #[.int .i64 sqb, .int .i64 tkb, .int .i64 nb, .int .i64 sb, .int .i64 qb, .int .i64 lwb, .int .i64 hgb], .int .i64 k] w fun e w' => e = .returned (.bool (decide (topN na sa qa * nb.toNat * (6 * k - 1).toNat ≤ topN nb sb qb * na.toNat * (6 * k).toNat))) ∧ Below w.heap.size w w' := by
  have PRa := fun w => rright sqa tka na sa qa lwa hga w
  rw [decide_eq_true ha] at PRa
  have PRa := Lib.hid PRa
  have PRb := fun w => rright sqb tkb nb sb qb lwb hgb w
  rw [decide_eq_true hb] at PRb
  have PRb := Lib.hid PRb
  have PK := fun w => rmayk k w
  rw [decide_eq_true hk] at PK
  have PK := Lib.hid PK
  have bk := hk
  obtain ⟨k0, k1⟩ := bk
  have na0 := ha.1
  have na1 := ha.2.1
  have nb0 := hb.1
  have nb1 := hb.2.1
  have m1 : 0 ≤ 6 * k * nb ∧ 6 * k * nb ≤ 25165824 := ⟨Int.mul_nonneg (by omega) (by omega), Int.mul_le_mul (show 6 * k ≤ 384 by omega) nb1 (by omega) (by decide)⟩
  have m2 : 0 ≤ (6 * k - 1) * na ∧ (6 * k - 1) * na ≤ 25165824 := ⟨Int.mul_nonneg (by omega) (by omega), Int.mul_le_mul (show 6 * k - 1 ≤ 384 by omega) na1 (by omega) (by decide)⟩
  have m3 : 0 ≤ 6 * k * na ∧ 6 * k * na ≤ 25165824 := ⟨Int.mul_nonneg (by omega) (by omega), Int.mul_le_mul (show 6 * k ≤ 384 by omega) na1 (by omega) (by decide)⟩
  have m4 : 0 ≤ (6 * k - 1) * nb ∧ (6 * k - 1) * nb ≤ 25165824 := ⟨Int.mul_nonneg (by omega) (by omega), Int.mul_le_mul (show 6 * k - 1 ≤ 384 by omega) nb1 (by omega) (by decide)⟩
  have w6 : IntKind.i64.wrap (6 * k) = 6 * k := IntWalk.i64_in _ (by omega)
  have w61 : IntKind.i64.wrap (6 * k - 1) = 6 * k - 1 := IntWalk.i64_in _ (by omega)
  have wm1 : IntKind.i64.wrap (6 * k * nb) = 6 * k * nb := IntWalk.i64_in _ (by omega)
  have wm2 : IntKind.i64.wrap ((6 * k - 1) * na) = (6 * k - 1) * na := IntWalk.i64_in _ (by omega)
  have wm3 : IntKind.i64.wrap (6 * k * na) = 6 * k * na := IntWalk.i64_in _ (by omega)
  have wm4 : IntKind.i64.wrap ((6 * k - 1) * nb) = (6 * k - 1) * nb := IntWalk.i64_in _ (by omega)
  have h' : ¬ 6 * k * nb < (6 * k - 1) * na := Int.not_lt.2 h
  have ta := right_top ha
  have tb := right_top hb
  have tA : topN na sa qa ≤ 72057594037927936 := by unfold topN; omega
  have tB : topN nb sb qb ≤ 72057594037927936 := by unfold topN; omega
  have wsa : IntKind.i64.wrap (sa * sa) = sa * sa := IntWalk.i64_in _ (by omega)
  have wqa : IntKind.i64.wrap (na * qa) = na * qa := IntWalk.i64_in _ (by omega)
  have wda : IntKind.i64.wrap (na * qa - sa * sa) = (topN na sa qa : Int) := by rw [IntWalk.i64_in _ (by omega)]; unfold topN; omega
  have wsb : IntKind.i64.wrap (sb * sb) = sb * sb := IntWalk.i64_in _ (by omega)
  have wqb : IntKind.i64.wrap (nb * qb) = nb * qb := IntWalk.i64_in _ (by omega)
  have wdb : IntKind.i64.wrap (nb * qb - sb * sb) = (topN nb sb qb : Int) := by rw [IntWalk.i64_in _ (by omega)]; unfold topN; omega
  have PPx := fun w => rproduct (topN nb sb qb : Int) (6 * k * na) (by unfold Word; omega) (by unfold Word; omega) w
  have PPy := fun w => rproduct (topN na sa qa : Int) ((6 * k - 1) * nb) (by unfold Word; omega) (by unfold Word; omega) w
  have ex : (topN nb sb qb : Int).toNat * (6 * k * na).toNat = topN nb sb qb * na.toNat * (6 * k).toNat := by
    rw [Int.toNat_natCast, Int.toNat_mul (by omega) (by omega), Nat.mul_comm (6 * k).toNat, Nat.mul_assoc]
  have ey : (topN na sa qa : Int).toNat * ((6 * k - 1) * nb).toNat = topN na sa qa * nb.toNat * (6 * k - 1).toNat := by
    rw [Int.toNat_natCast, Int.toNat_mul (by omega) (by omega), Nat.mul_comm (6 * k - 1).toNat, Nat.mul_assoc]
  rw [ex] at PPx
  rw [ey] at PPy
  have ux : IntKind.u64.wrap (topN nb sb qb : Int) = (topN nb sb qb : Int) := IntWalk.u64_in _ (by omega)
  have uy : IntKind.u64.wrap (topN na sa qa : Int) = (topN na sa qa : Int) := IntWalk.u64_in _ (by omega)
  have um3 : IntKind.u64.wrap (6 * k * na) = 6 * k * na := IntWalk.u64_in _ (by omega)
  have um4 : IntKind.u64.wrap ((6 * k - 1) * nb) = (6 * k - 1) * nb := IntWalk.u64_in _ (by omega)
  have CM := fun w => rcmp_any (topN nb sb qb * na.toNat * (6 * k).toNat) (topN na sa qa * nb.toNat * (6 * k - 1).toNat) w
  have CD := cmp_dec (topN nb sb qb * na.toNat * (6 * k).toNat) (topN na sa qa * nb.toNat * (6 * k - 1).toNat)
  generalize topN nb sb qb * na.toNat * (6 * k).toNat = xx at PPx CM CD ⊢
  generalize topN na sa qa * nb.toNat * (6 * k - 1).toNat = yy at PPy CM CD ⊢
  generalize (topN nb sb qb : Int) = tpb at PPx ux wdb
  generalize (topN na sa qa : Int) = tpa at PPy uy wda
  rw [← CD]
  generalize cmp xx yy = cv at CM ⊢
  have PPx := Lib.hid PPx
  have PPy := Lib.hid PPy
  have CM := Lib.hid CM
  clear ha hb hk ta tb tA tB h CD m1 m2 m3 m4 ex ey
  go_enter Try.func18, Try.ntmps18
  go_upto_region 3 with (first | (go_at_call 47; with_reducible refine (PRa.out _).mono ?_; rintro e w1 ⟨rfl, hb1⟩; have hz1 := hb1.size; (try simp at hz1); have o1 : Below w.heap.size w w1 := (by (repeat (first | exact Below.refl _ _ | refine Below.setCell ?_ (by first | (simp; done) | (simp; omega) | omega) _ | refine Below.alloc ?_ (by first | (simp; done) | (simp; omega) | omega) _ | refine Below.drew ?_ | refine Below.trans ?_ (Below.mono (by assumption) (by first | (simp; done) | (simp; omega) | omega))))); have q1_0 : w.heap.size < w1.heap.size := (by omega); have r1_0 : Row w1 (w.heap.size) 33 #[.int .i64 sqa, .int .i64 tka, .int .i64 na, .int .i64 sa, .int .i64 qa, .int .i64 lwa, .int .i64 hga] := row_call (by (repeat (first | assumption | (refine row_new ?_; (first | (simp; done) | omega)) | refine row_alloc ?_ _ | refine row_drew ?_ | refine row_call ?_ (by assumption)))) hb1; obtain ⟨c1_0a, c1_0b, c1_0c, c1_0d, c1_0e, c1_0f, c1_0g, f1_0a, f1_0b, f1_0c, f1_0d, f1_0e, f1_0f, f1_0g⟩ := row_seven r1_0; have q1_1 : w.heap.size + 1 < w1.heap.size := (by omega); have r1_1 : Row w1 (w.heap.size + 1) 33 #[.int .i64 sqb, .int .i64 tkb, .int .i64 nb, .int .i64 sb, .int .i64 qb, .int .i64 lwb, .int .i64 hgb] := row_call (by (repeat (first | assumption | (refine row_new ?_; (first | (simp; done) | omega)) | refine row_alloc ?_ _ | refine row_drew ?_ | refine row_call ?_ (by assumption)))) hb1; obtain ⟨c1_1a, c1_1b, c1_1c, c1_1d, c1_1e, c1_1f, c1_1g, f1_1a, f1_1b, f1_1c, f1_1d, f1_1e, f1_1f, f1_1g⟩ := row_seven r1_1) | (go_at_call 47; with_reducible refine (PRb.out _).mono ?_; rintro e w2 ⟨rfl, hb2⟩; have hz2 := hb2.size; (try simp at hz2); have o2 : Below w.heap.size w w2 := (by (repeat (first | exact Below.refl _ _ | refine Below.setCell ?_ (by first | (simp; done) | (simp; omega) | omega) _ | refine Below.alloc ?_ (by first | (simp; done) | (simp; omega) | omega) _ | refine Below.drew ?_ | refine Below.trans ?_ (Below.mono (by assumption) (by first | (simp; done) | (simp; omega) | omega))))); have q2_0 : w.heap.size < w2.heap.size := (by omega); have r2_0 : Row w2 (w.heap.size) 33 #[.int .i64 sqa, .int .i64 tka, .int .i64 na, .int .i64 sa, .int .i64 qa, .int .i64 lwa, .int .i64 hga] := row_call (by (repeat (first | assumption | (refine row_new ?_; (first | (simp; done) | omega)) | refine row_alloc ?_ _ | refine row_drew ?_ | refine row_call ?_ (by assumption)))) hb2; obtain ⟨c2_0a, c2_0b, c2_0c, c2_0d, c2_0e, c2_0f, c2_0g, f2_0a, f2_0b, f2_0c, f2_0d, f2_0e, f2_0f, f2_0g⟩ := row_seven r2_0; have q2_1 : w.heap.size + 1 < w2.heap.size := (by omega); have r2_1 : Row w2 (w.heap.size + 1) 33 #[.int .i64 sqb, .int .i64 tkb, .int .i64 nb, .int .i64 sb, .int .i64 qb, .int .i64 lwb, .int .i64 hgb] := row_call (by (repeat (first | assumption | (refine row_new ?_; (first | (simp; done) | omega)) | refine row_alloc ?_ _ | refine row_drew ?_ | refine row_call ?_ (by assumption)))) hb2; obtain ⟨c2_1a, c2_1b, c2_1c, c2_1d, c2_1e, c2_1f, c2_1g, f2_1a, f2_1b, f2_1c, f2_1d, f2_1e, f2_1f, f2_1g⟩ := row_seven r2_1) | (go_at_call 40; with_reducible refine (PK.out _).mono ?_; rintro e w9 ⟨rfl, h9⟩; obtain rfl := h9.symm))
  clear c1_0a c1_0b c1_0c c1_0d c1_0e c1_0f c1_0g c1_1a c1_1b c1_1c c1_1d c1_1e c1_1f c1_1g
  go_cut [7, 8] (fun x y wx => x = .int .u64 tpb ∧ y = .int .u64 tpa ∧ Row wx (w.heap.size) 33 #[.int .i64 sqa, .int .i64 tka, .int .i64 na, .int .i64 sa, .int .i64 qa, .int .i64 lwa, .int .i64 hga] ∧ Row wx (w.heap.size + 1) 33 #[.int .i64 sqb, .int .i64 tkb, .int .i64 nb, .int .i64 sb, .int .i64 qb, .int .i64 lwb, .int .i64 hgb] ∧ Below w.heap.size w wx)
  case first =>
    go_region_held3 (fun w' => w'.cell? ⟨w.heap.size, 2, none⟩ = some (.int .i64 na) ∧ w'.cell? ⟨w.heap.size, 3, none⟩ = some (.int .i64 sa) ∧ w'.cell? ⟨w.heap.size, 4, none⟩ = some (.int .i64 qa) ∧ w'.cell? ⟨w.heap.size + 1, 2, none⟩ = some (.int .i64 nb) ∧ w'.cell? ⟨w.heap.size + 1, 3, none⟩ = some (.int .i64 sb) ∧ w'.cell? ⟨w.heap.size + 1, 4, none⟩ = some (.int .i64 qb)) (go_keep) (fail)
    all_goals
      go_wp2_with fail
      go_meet
      exact ⟨rfl, rfl, row_drew r2_0, row_drew r2_1, o2.drew⟩
  case rest =>
    obtain ⟨rfl, rfl, r1, r2, o3⟩ := hcut
    have L : Row wc (w.heap.size) 33 #[.int .i64 sqa, .int .i64 tka, .int .i64 na, .int .i64 sa, .int .i64 qa, .int .i64 lwa, .int .i64 hga] ∧ Row wc (w.heap.size + 1) 33 #[.int .i64 sqb, .int .i64 tkb, .int .i64 nb, .int .i64 sb, .int .i64 qb, .int .i64 lwb, .int .i64 hgb] ∧ Below w.heap.size w wc := ⟨r1, r2, o3⟩
    go_upto_region 4 with (fail)
    refine wp_region_free0 [0, 1, 2, 3, 4, 5, 6, 7, 8, 9, 10, 11, 12, 13, 14, 15, 16, 17, 18] [] [0, 1, 2, 3, 4, 5, 6, 7, 8, 9, 10, 11, 12, 13, 14, 15, 16, 17, 18] 19 (fun w' => Row w' (w.heap.size) 33 #[.int .i64 sqa, .int .i64 tka, .int .i64 na, .int .i64 sa, .int .i64 qa, .int .i64 lwa, .int .i64 hga] ∧ Row w' (w.heap.size + 1) 33 #[.int .i64 sqb, .int .i64 tkb, .int .i64 nb, .int .i64 sb, .int .i64 qb, .int .i64 lwb, .int .i64 hgb] ∧ Below w.heap.size w w') (by kernel_rfl) (by kernel_rfl) (fun _ _ d _ _ h => by cases d <;> exact h) ?_ ?_
    · exact ⟨L.1, L.2.1, L.2.2.drew⟩
    (refine plan_pure ?_ rfl rfl (fun w' => ?_) ?_; rotate_left; (go_simp; try with_reducible rfl); simp only [Act.put, List.setIfInBounds_toArray, List.set_cons_zero, List.set_cons_succ])
    (refine plan_pure ?_ rfl rfl (fun w' => ?_) ?_; rotate_left; (go_simp; try with_reducible rfl); simp only [Act.put, List.setIfInBounds_toArray, List.set_cons_zero, List.set_cons_succ])
    (refine plan_pure ?_ rfl rfl (fun w' => ?_) ?_; rotate_left; (go_simp; try with_reducible rfl); simp only [Act.put, List.setIfInBounds_toArray, List.set_cons_zero, List.set_cons_succ])
    (refine plan_pure ?_ rfl rfl (fun w' => ?_) ?_; rotate_left; (go_simp; try with_reducible rfl); simp only [Act.put, List.setIfInBounds_toArray, List.set_cons_zero, List.set_cons_succ])
    (refine plan_val ?_ rfl rfl rfl (fun w' hS => ?_) ?_; rotate_left; (obtain ⟨X0, X1, X2, X3, X4, X5, X6, _⟩ := row_seven hS.1; obtain ⟨Y0, Y1, Y2, Y3, Y4, Y5, Y6, _⟩ := row_seven hS.2.1; go_simp; try with_reducible rfl); simp only [Act.put, List.setIfInBounds_toArray, List.set_cons_zero, List.set_cons_succ])
    (refine plan_pure ?_ rfl rfl (fun w' => ?_) ?_; rotate_left; (go_simp; try with_reducible rfl); simp only [Act.put, List.setIfInBounds_toArray, List.set_cons_zero, List.set_cons_succ])
    (refine plan_pure ?_ rfl rfl (fun w' => ?_) ?_; rotate_left; (go_simp; try with_reducible rfl); simp only [Act.put, List.setIfInBounds_toArray, List.set_cons_zero, List.set_cons_succ])
    refine plan_call (W xx) 54 #[.int .u64 tpb, .int .u64 (6 * k * na)] rfl rfl rfl (fun _ _ h hb => ⟨row_call h.1 hb, row_call h.2.1 hb, h.2.2.trans (hb.mono h.2.2.size)⟩) (fun w' hS => by obtain ⟨X0, X1, X2, X3, X4, X5, X6, _⟩ := row_seven hS.1; obtain ⟨Y0, Y1, Y2, Y3, Y4, Y5, Y6, _⟩ := row_seven hS.2.1; go_simp) (fun w' hS => PPx.out w') ?_
    simp only [Act.put, List.setIfInBounds_toArray, List.set_cons_zero, List.set_cons_succ]
    (refine plan_pure ?_ rfl rfl (fun w' => ?_) ?_; rotate_left; (go_simp; try with_reducible rfl); simp only [Act.put, List.setIfInBounds_toArray, List.set_cons_zero, List.set_cons_succ])
    (refine plan_pure ?_ rfl rfl (fun w' => ?_) ?_; rotate_left; (go_simp; try with_reducible rfl); simp only [Act.put, List.setIfInBounds_toArray, List.set_cons_zero, List.set_cons_succ])
    (refine plan_pure ?_ rfl rfl (fun w' => ?_) ?_; rotate_left; (go_simp; try with_reducible rfl); simp only [Act.put, List.setIfInBounds_toArray, List.set_cons_zero, List.set_cons_succ])
    (refine plan_pure ?_ rfl rfl (fun w' => ?_) ?_; rotate_left; (go_simp; try with_reducible rfl); simp only [Act.put, List.setIfInBounds_toArray, List.set_cons_zero, List.set_cons_succ])
    (refine plan_pure ?_ rfl rfl (fun w' => ?_) ?_; rotate_left; (go_simp; try with_reducible rfl); simp only [Act.put, List.setIfInBounds_toArray, List.set_cons_zero, List.set_cons_succ])
    (refine plan_val ?_ rfl rfl rfl (fun w' hS => ?_) ?_; rotate_left; (obtain ⟨X0, X1, X2, X3, X4, X5, X6, _⟩ := row_seven hS.1; obtain ⟨Y0, Y1, Y2, Y3, Y4, Y5, Y6, _⟩ := row_seven hS.2.1; go_simp; try with_reducible rfl); simp only [Act.put, List.setIfInBounds_toArray, List.set_cons_zero, List.set_cons_succ])
    (refine plan_pure ?_ rfl rfl (fun w' => ?_) ?_; rotate_left; (go_simp; try with_reducible rfl); simp only [Act.put, List.setIfInBounds_toArray, List.set_cons_zero, List.set_cons_succ])
    (refine plan_pure ?_ rfl rfl (fun w' => ?_) ?_; rotate_left; (go_simp; try with_reducible rfl); simp only [Act.put, List.setIfInBounds_toArray, List.set_cons_zero, List.set_cons_succ])
    refine plan_call (W yy) 54 #[.int .u64 tpa, .int .u64 ((6 * k - 1) * nb)] rfl rfl rfl (fun _ _ h hb => ⟨row_call h.1 hb, row_call h.2.1 hb, h.2.2.trans (hb.mono h.2.2.size)⟩) (fun w' hS => by obtain ⟨X0, X1, X2, X3, X4, X5, X6, _⟩ := row_seven hS.1; obtain ⟨Y0, Y1, Y2, Y3, Y4, Y5, Y6, _⟩ := row_seven hS.2.1; go_simp) (fun w' hS => PPy.out w') ?_
    simp only [Act.put, List.setIfInBounds_toArray, List.set_cons_zero, List.set_cons_succ]
    refine plan_call (.int .i64 cv) 53 #[W xx, W yy] rfl rfl rfl (fun _ _ h hb => ⟨row_call h.1 hb, row_call h.2.1 hb, h.2.2.trans (hb.mono h.2.2.size)⟩) (fun w' hS => by obtain ⟨X0, X1, X2, X3, X4, X5, X6, _⟩ := row_seven hS.1; obtain ⟨Y0, Y1, Y2, Y3, Y4, Y5, Y6, _⟩ := row_seven hS.2.1; go_simp) (fun w' hS => CM.out w') ?_
    simp only [Act.put, List.setIfInBounds_toArray, List.set_cons_zero, List.set_cons_succ]
    (refine plan_pure ?_ rfl rfl (fun w' => ?_) ?_; rotate_left; (go_simp; try with_reducible rfl); simp only [Act.put, List.setIfInBounds_toArray, List.set_cons_zero, List.set_cons_succ])
    refine plan_nil ?_
    intro w4 L4
    simp only [List.drop_succ_cons, List.drop_zero]
    try simp only [Act.put, List.setIfInBounds_toArray, List.set_cons_zero, List.set_cons_succ]
    have o4 := L4.2.2
    clear L L4
    go_wp2
    go_ret
    exact ⟨rfl, o4⟩
theorem rclose (sqa tka na sa qa lwa hga sqb tkb nb sb qb lwb hgb k : Int) (w : World) : Calls Try.prog 18 #[.agg #[.int .i64 sqa, .int .i64 tka, .int .i64 na, .int .i64 sa, .int .i64 qa, .int .i64 lwa, .int .i64 hga], .agg #[.int .i64 sqb, .int .i64 tkb, .int .i64 nb, .int .i64 sb, .int .i64 qb, .int .i64 lwb, .int .i64 hgb], .int .i64 k] w fun e w' => e = .returned (.bool (decide (closeP na sa qa nb sb qb k))) ∧ Below w.heap.size w w' := by
  by_cases ha : rightP na sa qa
  · by_cases hb : rightP nb sb qb
    · by_cases hk : 1 ≤ k ∧ k ≤ 64
      · by_cases h : (6 * k - 1) * na ≤ 6 * k * nb
        · rw [show decide (closeP na sa qa nb sb qb k) = decide (topN na sa qa * nb.toNat * (6 * k - 1).toNat ≤ topN nb sb qb * na.toNat * (6 * k).toNat) from decide_eq_decide.2 ⟨fun a => a.2.2.2.2, fun hh => ⟨ha, hb, hk, h, hh⟩⟩]
          exact rclose_ok sqa tka na sa qa lwa hga sqb tkb nb sb qb lwb hgb k w ha hb hk h
        · rw [decide_eq_false (fun a => h a.2.2.2.1)]
          exact rclose_n sqa tka na sa qa lwa hga sqb tkb nb sb qb lwb hgb k w ha hb hk (Int.not_le.1 h)
      · rw [decide_eq_false (fun a => hk a.2.2.1)]
        exact rclose_k sqa tka na sa qa lwa hga sqb tkb nb sb qb lwb hgb k w ha hb hk
    · rw [decide_eq_false (fun a => hb a.2.1)]
      exact rclose_b sqa tka na sa qa lwa hga sqb tkb nb sb qb lwb hgb k w ha hb
  · rw [decide_eq_false (fun a => ha a.1)]
    exact rclose_a sqa tka na sa qa lwa hga sqb tkb nb sb qb lwb hgb k w ha
end Go.Proofs.Ytaiepjcnncajcaa
