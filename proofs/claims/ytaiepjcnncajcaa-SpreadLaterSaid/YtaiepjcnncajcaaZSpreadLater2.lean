/- What the law SpreadLater needs, joined of its texts by a program (slim.py); part 2. -/
import Derived.Test.YtaiepjcnncajcaaZSpreadLater1
section
/- Spreads of marks: when one is close to another, walked. -/
set_option linter.unusedVariables false
set_option linter.unusedSimpArgs false
set_option linter.unusedSectionVars false
set_option linter.unnecessarySimpa false
namespace Go.Proofs.Ytaiepjcnncajcaa
open Go.RowKit Go.Shelf
def closeP (na sa qa nb sb qb k : Int) : Prop :=
  rightP na sa qa ∧ rightP nb sb qb ∧ (1 ≤ k ∧ k ≤ 64) ∧ (6 * k - 1) * na ≤ 6 * k * nb ∧ topN na sa qa * nb.toNat * (6 * k - 1).toNat ≤ topN nb sb qb * na.toNat * (6 * k).toNat
instance (na sa qa nb sb qb k : Int) : Decidable (closeP na sa qa nb sb qb k) := by unfold closeP; infer_instance
theorem pofI (x : Int) (h : Word x) (w : World) : Calls Try.prog 51 #[.int .u64 x] w fun e w' => e = .returned (W x.toNat) ∧ Below w.heap.size w w' := by
  have := pof x.toNat (by unfold Word at h; omega) w
  rw [Int.toNat_of_nonneg h.1] at this
  exact this
theorem mul_smallN {a b A B : Nat} (ha : a ≤ A) (hb : b ≤ B) (h : A * B < big) : mulV a b = a * b ∧ mulB a b = true := by
  have : a * b < big := Nat.lt_of_le_of_lt (Nat.mul_le_mul ha hb) h
  unfold mulV mulB
  rw [if_pos this]
  exact ⟨rfl, decide_eq_true this⟩
theorem cmp_dec (a b : Nat) : decide (0 ≤ cmp a b) = decide (b ≤ a) := by
  rcases Nat.lt_trichotomy a b with h | h | h
  · have : ¬ b ≤ a := by omega
    simp [cmp_lt h, this]
  · subst h
    simp [cmp_eq]
  · have : b ≤ a := by omega
    simp [cmp_gt h, this]
theorem pclose_a (sqa tka na sa qa lwa hga sqb tkb nb sb qb lwb hgb k : Int) (w : World) (ha : ¬ rightP na sa qa) : Calls Try.prog 17 #[.agg #[.int .i64 sqa, .int .i64 tka, .int .i64 na, .int .i64 sa, .int .i64 qa, .int .i64 lwa, .int .i64 hga], .agg #[.int .i64 sqb, .int .i64 tkb, .int .i64 nb, .int .i64 sb, .int .i64 qb, .int .i64 lwb, .int .i64 hgb], .int .i64 k] w fun e w' => e = .returned (.bool false) ∧ Below w.heap.size w w' := by
  have PRa := fun w => pright sqa tka na sa qa lwa hga w
  rw [decide_eq_false ha] at PRa
  have PRa := Lib.hid PRa
  clear ha
  go_enter Try.func17, Try.ntmps17
  go_wp2_with (first | (go_at_call 44; with_reducible refine (PRa.out _).mono ?_; rintro e w1 ⟨rfl, hb1⟩; have hz1 := hb1.size; (try simp at hz1); have o1 : Below w.heap.size w w1 := (by (repeat (first | exact Below.refl _ _ | refine Below.setCell ?_ (by first | (simp; done) | (simp; omega) | omega) _ | refine Below.alloc ?_ (by first | (simp; done) | (simp; omega) | omega) _ | refine Below.drew ?_ | refine Below.trans ?_ (Below.mono (by assumption) (by first | (simp; done) | (simp; omega) | omega))))); have q1_0 : w.heap.size < w1.heap.size := (by omega); have r1_0 : Row w1 (w.heap.size) 33 #[.int .i64 sqa, .int .i64 tka, .int .i64 na, .int .i64 sa, .int .i64 qa, .int .i64 lwa, .int .i64 hga] := row_call (by (repeat (first | assumption | (refine row_new ?_; (first | (simp; done) | omega)) | refine row_alloc ?_ _ | refine row_drew ?_ | refine row_call ?_ (by assumption)))) hb1; obtain ⟨c1_0a, c1_0b, c1_0c, c1_0d, c1_0e, c1_0f, c1_0g, f1_0a, f1_0b, f1_0c, f1_0d, f1_0e, f1_0f, f1_0g⟩ := row_seven r1_0; have q1_1 : w.heap.size + 1 < w1.heap.size := (by omega); have r1_1 : Row w1 (w.heap.size + 1) 33 #[.int .i64 sqb, .int .i64 tkb, .int .i64 nb, .int .i64 sb, .int .i64 qb, .int .i64 lwb, .int .i64 hgb] := row_call (by (repeat (first | assumption | (refine row_new ?_; (first | (simp; done) | omega)) | refine row_alloc ?_ _ | refine row_drew ?_ | refine row_call ?_ (by assumption)))) hb1; obtain ⟨c1_1a, c1_1b, c1_1c, c1_1d, c1_1e, c1_1f, c1_1g, f1_1a, f1_1b, f1_1c, f1_1d, f1_1e, f1_1f, f1_1g⟩ := row_seven r1_1))
  go_ret
  exact ⟨rfl, by (repeat (first | exact Below.refl _ _ | refine Below.setCell ?_ (by first | (simp; done) | (simp; omega) | omega) _ | refine Below.alloc ?_ (by first | (simp; done) | (simp; omega) | omega) _ | refine Below.drew ?_ | refine Below.trans ?_ (Below.mono (by assumption) (by first | (simp; done) | (simp; omega) | omega))))⟩
theorem pclose_b (sqa tka na sa qa lwa hga sqb tkb nb sb qb lwb hgb k : Int) (w : World) (ha : rightP na sa qa) (hb : ¬ rightP nb sb qb) : Calls Try.prog 17 #[.agg #[.int .i64 sqa, .int .i64 tka, .int .i64 na, .int .i64 sa, .int .i64 qa, .int .i64 lwa, .int .i64 hga], .agg #[.int .i64 sqb, .int .i64 tkb, .int .i64 nb, .int .i64 sb, .int .i64 qb, .int .i64 lwb, .int .i64 hgb], .int .i64 k] w fun e w' => e = .returned (.bool false) ∧ Below w.heap.size w w' := by
  have PRa := fun w => pright sqa tka na sa qa lwa hga w
  rw [decide_eq_true ha] at PRa
  have PRa := Lib.hid PRa
  have PRb := fun w => pright sqb tkb nb sb qb lwb hgb w
  rw [decide_eq_false hb] at PRb
  have PRb := Lib.hid PRb
  clear ha hb
  go_enter Try.func17, Try.ntmps17
  go_wp2_with (first | (go_at_call 44; with_reducible refine (PRa.out _).mono ?_; rintro e w1 ⟨rfl, hb1⟩; have hz1 := hb1.size; (try simp at hz1); have o1 : Below w.heap.size w w1 := (by (repeat (first | exact Below.refl _ _ | refine Below.setCell ?_ (by first | (simp; done) | (simp; omega) | omega) _ | refine Below.alloc ?_ (by first | (simp; done) | (simp; omega) | omega) _ | refine Below.drew ?_ | refine Below.trans ?_ (Below.mono (by assumption) (by first | (simp; done) | (simp; omega) | omega))))); have q1_0 : w.heap.size < w1.heap.size := (by omega); have r1_0 : Row w1 (w.heap.size) 33 #[.int .i64 sqa, .int .i64 tka, .int .i64 na, .int .i64 sa, .int .i64 qa, .int .i64 lwa, .int .i64 hga] := row_call (by (repeat (first | assumption | (refine row_new ?_; (first | (simp; done) | omega)) | refine row_alloc ?_ _ | refine row_drew ?_ | refine row_call ?_ (by assumption)))) hb1; obtain ⟨c1_0a, c1_0b, c1_0c, c1_0d, c1_0e, c1_0f, c1_0g, f1_0a, f1_0b, f1_0c, f1_0d, f1_0e, f1_0f, f1_0g⟩ := row_seven r1_0; have q1_1 : w.heap.size + 1 < w1.heap.size := (by omega); have r1_1 : Row w1 (w.heap.size + 1) 33 #[.int .i64 sqb, .int .i64 tkb, .int .i64 nb, .int .i64 sb, .int .i64 qb, .int .i64 lwb, .int .i64 hgb] := row_call (by (repeat (first | assumption | (refine row_new ?_; (first | (simp; done) | omega)) | refine row_alloc ?_ _ | refine row_drew ?_ | refine row_call ?_ (by assumption)))) hb1; obtain ⟨c1_1a, c1_1b, c1_1c, c1_1d, c1_1e, c1_1f, c1_1g, f1_1a, f1_1b, f1_1c, f1_1d, f1_1e, f1_1f, f1_1g⟩ := row_seven r1_1) | (go_at_call 44; with_reducible refine (PRb.out _).mono ?_; rintro e w2 ⟨rfl, hb2⟩; have hz2 := hb2.size; (try simp at hz2); have o2 : Below w.heap.size w w2 := (by (repeat (first | exact Below.refl _ _ | refine Below.setCell ?_ (by first | (simp; done) | (simp; omega) | omega) _ | refine Below.alloc ?_ (by first | (simp; done) | (simp; omega) | omega) _ | refine Below.drew ?_ | refine Below.trans ?_ (Below.mono (by assumption) (by first | (simp; done) | (simp; omega) | omega))))); have q2_0 : w.heap.size < w2.heap.size := (by omega); have r2_0 : Row w2 (w.heap.size) 33 #[.int .i64 sqa, .int .i64 tka, .int .i64 na, .int .i64 sa, .int .i64 qa, .int .i64 lwa, .int .i64 hga] := row_call (by (repeat (first | assumption | (refine row_new ?_; (first | (simp; done) | omega)) | refine row_alloc ?_ _ | refine row_drew ?_ | refine row_call ?_ (by assumption)))) hb2; obtain ⟨c2_0a, c2_0b, c2_0c, c2_0d, c2_0e, c2_0f, c2_0g, f2_0a, f2_0b, f2_0c, f2_0d, f2_0e, f2_0f, f2_0g⟩ := row_seven r2_0; have q2_1 : w.heap.size + 1 < w2.heap.size := (by omega); have r2_1 : Row w2 (w.heap.size + 1) 33 #[.int .i64 sqb, .int .i64 tkb, .int .i64 nb, .int .i64 sb, .int .i64 qb, .int .i64 lwb, .int .i64 hgb] := row_call (by (repeat (first | assumption | (refine row_new ?_; (first | (simp; done) | omega)) | refine row_alloc ?_ _ | refine row_drew ?_ | refine row_call ?_ (by assumption)))) hb2; obtain ⟨c2_1a, c2_1b, c2_1c, c2_1d, c2_1e, c2_1f, c2_1g, f2_1a, f2_1b, f2_1c, f2_1d, f2_1e, f2_1f, f2_1g⟩ := row_seven r2_1))
  go_ret
  exact ⟨rfl, by (repeat (first | exact Below.refl _ _ | refine Below.setCell ?_ (by first | (simp; done) | (simp; omega) | omega) _ | refine Below.alloc ?_ (by first | (simp; done) | (simp; omega) | omega) _ | refine Below.drew ?_ | refine Below.trans ?_ (Below.mono (by assumption) (by first | (simp; done) | (simp; omega) | omega))))⟩
theorem pclose_k0 (sqa tka na sa qa lwa hga sqb tkb nb sb qb lwb hgb k : Int) (w : World) (ha : rightP na sa qa) (hb : rightP nb sb qb) (hk : k < 1) : Calls Try.prog 17 #[.agg #[.int .i64 sqa, .int .i64 tka, .int .i64 na, .int .i64 sa, .int .i64 qa, .int .i64 lwa, .int .i64 hga], .agg #[.int .i64 sqb, .int .i64 tkb, .int .i64 nb, .int .i64 sb, .int .i64 qb, .int .i64 lwb, .int .i64 hgb], .int .i64 k] w fun e w' => e = .returned (.bool false) ∧ Below w.heap.size w w' := by
  have PRa := fun w => pright sqa tka na sa qa lwa hga w
  rw [decide_eq_true ha] at PRa
  have PRa := Lib.hid PRa
  have PRb := fun w => pright sqb tkb nb sb qb lwb hgb w
  rw [decide_eq_true hb] at PRb
  have PRb := Lib.hid PRb
  clear ha hb
  go_enter Try.func17, Try.ntmps17
  go_wp2_with (first | (go_at_call 44; with_reducible refine (PRa.out _).mono ?_; rintro e w1 ⟨rfl, hb1⟩; have hz1 := hb1.size; (try simp at hz1); have o1 : Below w.heap.size w w1 := (by (repeat (first | exact Below.refl _ _ | refine Below.setCell ?_ (by first | (simp; done) | (simp; omega) | omega) _ | refine Below.alloc ?_ (by first | (simp; done) | (simp; omega) | omega) _ | refine Below.drew ?_ | refine Below.trans ?_ (Below.mono (by assumption) (by first | (simp; done) | (simp; omega) | omega))))); have q1_0 : w.heap.size < w1.heap.size := (by omega); have r1_0 : Row w1 (w.heap.size) 33 #[.int .i64 sqa, .int .i64 tka, .int .i64 na, .int .i64 sa, .int .i64 qa, .int .i64 lwa, .int .i64 hga] := row_call (by (repeat (first | assumption | (refine row_new ?_; (first | (simp; done) | omega)) | refine row_alloc ?_ _ | refine row_drew ?_ | refine row_call ?_ (by assumption)))) hb1; obtain ⟨c1_0a, c1_0b, c1_0c, c1_0d, c1_0e, c1_0f, c1_0g, f1_0a, f1_0b, f1_0c, f1_0d, f1_0e, f1_0f, f1_0g⟩ := row_seven r1_0; have q1_1 : w.heap.size + 1 < w1.heap.size := (by omega); have r1_1 : Row w1 (w.heap.size + 1) 33 #[.int .i64 sqb, .int .i64 tkb, .int .i64 nb, .int .i64 sb, .int .i64 qb, .int .i64 lwb, .int .i64 hgb] := row_call (by (repeat (first | assumption | (refine row_new ?_; (first | (simp; done) | omega)) | refine row_alloc ?_ _ | refine row_drew ?_ | refine row_call ?_ (by assumption)))) hb1; obtain ⟨c1_1a, c1_1b, c1_1c, c1_1d, c1_1e, c1_1f, c1_1g, f1_1a, f1_1b, f1_1c, f1_1d, f1_1e, f1_1f, f1_1g⟩ := row_seven r1_1) | (go_at_call 44; with_reducible refine (PRb.out _).mono ?_; rintro e w2 ⟨rfl, hb2⟩; have hz2 := hb2.size; (try simp at hz2); have o2 : Below w.heap.size w w2 := (by (repeat (first | exact Below.refl _ _ | refine Below.setCell ?_ (by first | (simp; done) | (simp; omega) | omega) _ | refine Below.alloc ?_ (by first | (simp; done) | (simp; omega) | omega) _ | refine Below.drew ?_ | refine Below.trans ?_ (Below.mono (by assumption) (by first | (simp; done) | (simp; omega) | omega))))); have q2_0 : w.heap.size < w2.heap.size := (by omega); have r2_0 : Row w2 (w.heap.size) 33 #[.int .i64 sqa, .int .i64 tka, .int .i64 na, .int .i64 sa, .int .i64 qa, .int .i64 lwa, .int .i64 hga] := row_call (by (repeat (first | assumption | (refine row_new ?_; (first | (simp; done) | omega)) | refine row_alloc ?_ _ | refine row_drew ?_ | refine row_call ?_ (by assumption)))) hb2; obtain ⟨c2_0a, c2_0b, c2_0c, c2_0d, c2_0e, c2_0f, c2_0g, f2_0a, f2_0b, f2_0c, f2_0d, f2_0e, f2_0f, f2_0g⟩ := row_seven r2_0; have q2_1 : w.heap.size + 1 < w2.heap.size := (by omega); have r2_1 : Row w2 (w.heap.size + 1) 33 #[.int .i64 sqb, .int .i64 tkb, .int .i64 nb, .int .i64 sb, .int .i64 qb, .int .i64 lwb, .int .i64 hgb] := row_call (by (repeat (first | assumption | (refine row_new ?_; (first | (simp; done) | omega)) | refine row_alloc ?_ _ | refine row_drew ?_ | refine row_call ?_ (by assumption)))) hb2; obtain ⟨c2_1a, c2_1b, c2_1c, c2_1d, c2_1e, c2_1f, c2_1g, f2_1a, f2_1b, f2_1c, f2_1d, f2_1e, f2_1f, f2_1g⟩ := row_seven r2_1))
  go_ret
  exact ⟨rfl, by (repeat (first | exact Below.refl _ _ | refine Below.setCell ?_ (by first | (simp; done) | (simp; omega) | omega) _ | refine Below.alloc ?_ (by first | (simp; done) | (simp; omega) | omega) _ | refine Below.drew ?_ | refine Below.trans ?_ (Below.mono (by assumption) (by first | (simp; done) | (simp; omega) | omega))))⟩
theorem pclose_k1 (sqa tka na sa qa lwa hga sqb tkb nb sb qb lwb hgb k : Int) (w : World) (ha : rightP na sa qa) (hb : rightP nb sb qb) (hk0 : 1 ≤ k) (hk : 64 < k) : Calls Try.prog 17 #[.agg #[.int .i64 sqa, .int .i64 tka, .int .i64 na, .int .i64 sa, .int .i64 qa, .int .i64 lwa, .int .i64 hga], .agg #[.int .i64 sqb, .int .i64 tkb, .int .i64 nb, .int .i64 sb, .int .i64 qb, .int .i64 lwb, .int .i64 hgb], .int .i64 k] w fun e w' => e = .returned (.bool false) ∧ Below w.heap.size w w' := by
  have PRa := fun w => pright sqa tka na sa qa lwa hga w
  rw [decide_eq_true ha] at PRa
  have PRa := Lib.hid PRa
  have PRb := fun w => pright sqb tkb nb sb qb lwb hgb w
  rw [decide_eq_true hb] at PRb
  have PRb := Lib.hid PRb
  clear ha hb
  go_enter Try.func17, Try.ntmps17
  go_wp2_with (first | (go_at_call 44; with_reducible refine (PRa.out _).mono ?_; rintro e w1 ⟨rfl, hb1⟩; have hz1 := hb1.size; (try simp at hz1); have o1 : Below w.heap.size w w1 := (by (repeat (first | exact Below.refl _ _ | refine Below.setCell ?_ (by first | (simp; done) | (simp; omega) | omega) _ | refine Below.alloc ?_ (by first | (simp; done) | (simp; omega) | omega) _ | refine Below.drew ?_ | refine Below.trans ?_ (Below.mono (by assumption) (by first | (simp; done) | (simp; omega) | omega))))); have q1_0 : w.heap.size < w1.heap.size := (by omega); have r1_0 : Row w1 (w.heap.size) 33 #[.int .i64 sqa, .int .i64 tka, .int .i64 na, .int .i64 sa, .int .i64 qa, .int .i64 lwa, .int .i64 hga] := row_call (by (repeat (first | assumption | (refine row_new ?_; (first | (simp; done) | omega)) | refine row_alloc ?_ _ | refine row_drew ?_ | refine row_call ?_ (by assumption)))) hb1; obtain ⟨c1_0a, c1_0b, c1_0c, c1_0d, c1_0e, c1_0f, c1_0g, f1_0a, f1_0b, f1_0c, f1_0d, f1_0e, f1_0f, f1_0g⟩ := row_seven r1_0; have q1_1 : w.heap.size + 1 < w1.heap.size := (by omega); have r1_1 : Row w1 (w.heap.size + 1) 33 #[.int .i64 sqb, .int .i64 tkb, .int .i64 nb, .int .i64 sb, .int .i64 qb, .int .i64 lwb, .int .i64 hgb] := row_call (by (repeat (first | assumption | (refine row_new ?_; (first | (simp; done) | omega)) | refine row_alloc ?_ _ | refine row_drew ?_ | refine row_call ?_ (by assumption)))) hb1; obtain ⟨c1_1a, c1_1b, c1_1c, c1_1d, c1_1e, c1_1f, c1_1g, f1_1a, f1_1b, f1_1c, f1_1d, f1_1e, f1_1f, f1_1g⟩ := row_seven r1_1) | (go_at_call 44; with_reducible refine (PRb.out _).mono ?_; rintro e w2 ⟨rfl, hb2⟩; have hz2 := hb2.size; (try simp at hz2); have o2 : Below w.heap.size w w2 := (by (repeat (first | exact Below.refl _ _ | refine Below.setCell ?_ (by first | (simp; done) | (simp; omega) | omega) _ | refine Below.alloc ?_ (by first | (simp; done) | (simp; omega) | omega) _ | refine Below.drew ?_ | refine Below.trans ?_ (Below.mono (by assumption) (by first | (simp; done) | (simp; omega) | omega))))); have q2_0 : w.heap.size < w2.heap.size := (by omega); have r2_0 : Row w2 (w.heap.size) 33 #[.int .i64 sqa, .int .i64 tka, .int .i64 na, .int .i64 sa, .int .i64 qa, .int .i64 lwa, .int .i64 hga] := row_call (by (repeat (first | assumption | (refine row_new ?_; (first | (simp; done) | omega)) | refine row_alloc ?_ _ | refine row_drew ?_ | refine row_call ?_ (by assumption)))) hb2; obtain ⟨c2_0a, c2_0b, c2_0c, c2_0d, c2_0e, c2_0f, c2_0g, f2_0a, f2_0b, f2_0c, f2_0d, f2_0e, f2_0f, f2_0g⟩ := row_seven r2_0; have q2_1 : w.heap.size + 1 < w2.heap.size := (by omega); have r2_1 : Row w2 (w.heap.size + 1) 33 #[.int .i64 sqb, .int .i64 tkb, .int .i64 nb, .int .i64 sb, .int .i64 qb, .int .i64 lwb, .int .i64 hgb] := row_call (by (repeat (first | assumption | (refine row_new ?_; (first | (simp; done) | omega)) | refine row_alloc ?_ _ | refine row_drew ?_ | refine row_call ?_ (by assumption)))) hb2; obtain ⟨c2_1a, c2_1b, c2_1c, c2_1d, c2_1e, c2_1f, c2_1g, f2_1a, f2_1b, f2_1c, f2_1d, f2_1e, f2_1f, f2_1g⟩ := row_seven r2_1))
  go_ret
  exact ⟨rfl, by (repeat (first | exact Below.refl _ _ | refine Below.setCell ?_ (by first | (simp; done) | (simp; omega) | omega) _ | refine Below.alloc ?_ (by first | (simp; done) | (simp; omega) | omega) _ | refine Below.drew ?_ | refine Below.trans ?_ (Below.mono (by assumption) (by first | (simp; done) | (simp; omega) | omega))))⟩
theorem pclose_k (sqa tka na sa qa lwa hga sqb tkb nb sb qb lwb hgb k : Int) (w : World) (ha : rightP na sa qa) (hb : rightP nb sb qb) (hk : ¬ (1 ≤ k ∧ k ≤ 64)) : Calls Try.prog 17 #[.agg #[.int .i64 sqa, .int .i64 tka, .int .i64 na, .int .i64 sa, .int .i64 qa, .int .i64 lwa, .int .i64 hga], .agg #[.int .i64 sqb, .int .i64 tkb, .int .i64 nb, .int .i64 sb, .int .i64 qb, .int .i64 lwb, .int .i64 hgb], .int .i64 k] w fun e w' => e = .returned (.bool false) ∧ Below w.heap.size w w' := by
  by_cases h0 : k < 1
  · exact pclose_k0 sqa tka na sa qa lwa hga sqb tkb nb sb qb lwb hgb k w ha hb h0
  · exact pclose_k1 sqa tka na sa qa lwa hga sqb tkb nb sb qb lwb hgb k w ha hb (by omega) (by omega)
theorem pclose_n (sqa tka na sa qa lwa hga sqb tkb nb sb qb lwb hgb k : Int) (w : World) (ha : rightP na sa qa) (hb : rightP nb sb qb) (hk : 1 ≤ k ∧ k ≤ 64) (h : 6 * k * nb < (6 * k - 1) * na) : Calls Try.prog 17 #[.agg #[.int .i64 sqa, .int .i64 tka, .int .i64 na, .int .i64 sa, .int .i64 qa, .int .i64 lwa, .int .i64 hga], .agg #[.int .i64 sqb, .int .i64 tkb, .int .i64 nb, .int .i64 sb, .int .i64 qb, .int .i64 lwb, .int .i64 hgb], .int .i64 k] w fun e w' => e = .returned (.bool false) ∧ Below w.heap.size w w' := by
  have PRa := fun w => pright sqa tka na sa qa lwa hga w
  rw [decide_eq_true ha] at PRa
  have PRa := Lib.hid PRa
  have PRb := fun w => pright sqb tkb nb sb qb lwb hgb w
  rw [decide_eq_true hb] at PRb
  have PRb := Lib.hid PRb
  have w0 : ¬ k < 1 := by omega
  have w1 : ¬ 64 < k := by omega
  have bk := hk
  obtain ⟨k0, k1⟩ := bk
  have na0 := ha.1
  have na1 := ha.2.1
  have nb0 := hb.1
  have nb1 := hb.2.1
  have m1 : 0 ≤ 6 * k * nb ∧ 6 * k * nb ≤ 25165824 := ⟨Int.mul_nonneg (by omega) (by omega), Int.mul_le_mul (show 6 * k ≤ 384 by omega) nb1 (by omega) (by decide)⟩
  have m2 : 0 ≤ (6 * k - 1) * na ∧ (6 * k - 1) * na ≤ 25165824 := ⟨Int.mul_nonneg (by omega) (by omega), Int.mul_le_mul (show 6 * k - 1 ≤ 384 by omega) na1 (by omega) (by decide)⟩
  have m3 : 0 ≤ 6 * k * na ∧ 6 * k * na ≤ 25165824 := ⟨Int.mul_nonneg (by omega) (by omega), Int.mul_le_mul (show 6 * k ≤ 384 by omega) na1 (by omega) (by decide)⟩
  have m4 : 0 ≤ (6 * k - 1) * nb ∧ (6 * k - 1) * nb ≤ 25165824 := ⟨Int.mul_nonneg (by omega) (by omega), Int.mul_le_mul (show 6 * k - 1 ≤ 384 by omega) nb1 (by omega) (by decide)⟩
  have w6 : IntKind.i64.wrap (6 * k) = 6 * k := IntWalk.i64_in _ (by omega)
  have w61 : IntKind.i64.wrap (6 * k - 1) = 6 * k - 1 := IntWalk.i64_in _ (by omega)
  have wm1 : IntKind.i64.wrap (6 * k * nb) = 6 * k * nb := IntWalk.i64_in _ (by omega)
  have wm2 : IntKind.i64.wrap ((6 * k - 1) * na) = (6 * k - 1) * na := IntWalk.i64_in _ (by omega)
  have wm3 : IntKind.i64.wrap (6 * k * na) = 6 * k * na := IntWalk.i64_in _ (by omega)
  have wm4 : IntKind.i64.wrap ((6 * k - 1) * nb) = (6 * k - 1) * nb := IntWalk.i64_in _ (by omega)
  clear ha hb hk
  go_enter Try.func17, Try.ntmps17
  go_wp2_with (first | (go_at_call 44; with_reducible refine (PRa.out _).mono ?_; rintro e w1 ⟨rfl, hb1⟩; have hz1 := hb1.size; (try simp at hz1); have o1 : Below w.heap.size w w1 := (by (repeat (first | exact Below.refl _ _ | refine Below.setCell ?_ (by first | (simp; done) | (simp; omega) | omega) _ | refine Below.alloc ?_ (by first | (simp; done) | (simp; omega) | omega) _ | refine Below.drew ?_ | refine Below.trans ?_ (Below.mono (by assumption) (by first | (simp; done) | (simp; omega) | omega))))); have q1_0 : w.heap.size < w1.heap.size := (by omega); have r1_0 : Row w1 (w.heap.size) 33 #[.int .i64 sqa, .int .i64 tka, .int .i64 na, .int .i64 sa, .int .i64 qa, .int .i64 lwa, .int .i64 hga] := row_call (by (repeat (first | assumption | (refine row_new ?_; (first | (simp; done) | omega)) | refine row_alloc ?_ _ | refine row_drew ?_ | refine row_call ?_ (by assumption)))) hb1; obtain ⟨c1_0a, c1_0b, c1_0c, c1_0d, c1_0e, c1_0f, c1_0g, f1_0a, f1_0b, f1_0c, f1_0d, f1_0e, f1_0f, f1_0g⟩ := row_seven r1_0; have q1_1 : w.heap.size + 1 < w1.heap.size := (by omega); have r1_1 : Row w1 (w.heap.size + 1) 33 #[.int .i64 sqb, .int .i64 tkb, .int .i64 nb, .int .i64 sb, .int .i64 qb, .int .i64 lwb, .int .i64 hgb] := row_call (by (repeat (first | assumption | (refine row_new ?_; (first | (simp; done) | omega)) | refine row_alloc ?_ _ | refine row_drew ?_ | refine row_call ?_ (by assumption)))) hb1; obtain ⟨c1_1a, c1_1b, c1_1c, c1_1d, c1_1e, c1_1f, c1_1g, f1_1a, f1_1b, f1_1c, f1_1d, f1_1e, f1_1f, f1_1g⟩ := row_seven r1_1) | (go_at_call 44; with_reducible refine (PRb.out _).mono ?_; rintro e w2 ⟨rfl, hb2⟩; have hz2 := hb2.size; (try simp at hz2); have o2 : Below w.heap.size w w2 := (by (repeat (first | exact Below.refl _ _ | refine Below.setCell ?_ (by first | (simp; done) | (simp; omega) | omega) _ | refine Below.alloc ?_ (by first | (simp; done) | (simp; omega) | omega) _ | refine Below.drew ?_ | refine Below.trans ?_ (Below.mono (by assumption) (by first | (simp; done) | (simp; omega) | omega))))); have q2_0 : w.heap.size < w2.heap.size := (by omega); have r2_0 : Row w2 (w.heap.size) 33 #[.int .i64 sqa, .int .i64 tka, .int .i64 na, .int .i64 sa, .int .i64 qa, .int .i64 lwa, .int .i64 hga] := row_call (by (repeat (first | assumption | (refine row_new ?_; (first | (simp; done) | omega)) | refine row_alloc ?_ _ | refine row_drew ?_ | refine row_call ?_ (by assumption)))) hb2; obtain ⟨c2_0a, c2_0b, c2_0c, c2_0d, c2_0e, c2_0f, c2_0g, f2_0a, f2_0b, f2_0c, f2_0d, f2_0e, f2_0f, f2_0g⟩ := row_seven r2_0; have q2_1 : w.heap.size + 1 < w2.heap.size := (by omega); have r2_1 : Row w2 (w.heap.size + 1) 33 #[.int .i64 sqb, .int .i64 tkb, .int .i64 nb, .int .i64 sb, .int .i64 qb, .int .i64 lwb, .int .i64 hgb] := row_call (by (repeat (first | assumption | (refine row_new ?_; (first | (simp; done) | omega)) | refine row_alloc ?_ _ | refine row_drew ?_ | refine row_call ?_ (by assumption)))) hb2; obtain ⟨c2_1a, c2_1b, c2_1c, c2_1d, c2_1e, c2_1f, c2_1g, f2_1a, f2_1b, f2_1c, f2_1d, f2_1e, f2_1f, f2_1g⟩ := row_seven r2_1))
  go_ret
  exact ⟨rfl, by (repeat (first | exact Below.refl _ _ | refine Below.setCell ?_ (by first | (simp; done) | (simp; omega) | omega) _ | refine Below.alloc ?_ (by first | (simp; done) | (simp; omega) | omega) _ | refine Below.drew ?_ | refine Below.trans ?_ (Below.mono (by assumption) (by first | (simp; done) | (simp; omega) | omega))))⟩
set_option maxHeartbeats 4000000 in
theorem pclose_ok (sqa tka na sa qa lwa hga sqb tkb nb sb qb lwb hgb k : Int) (w : World) (ha : rightP na sa qa) (hb : rightP nb sb qb) (hk : 1 ≤ k ∧ k ≤ 64) (h : (6 * k - 1) * na ≤ 6 * k * nb) :
    Calls Try.prog 17 #[.agg #[.int .i64 sqa, .int .i64 tka, .int .i64 na, .int .i64 sa, .int .i64 qa, .int .i64 lwa, .int .i64 hga], .agg #[.int .i64 sqb, .int .i64 tkb, .int .i64 nb, .int .i64 sb, .int .i64 qb, .int .i64 lwb, .int .i64 hgb], .int .i64 k] w fun e w' => e = .returned (.bool (decide (topN na sa qa * nb.toNat * (6 * k - 1).toNat ≤ topN nb sb qb * na.toNat * (6 * k).toNat))) ∧ Below w.heap.size w w' := by
  have PRa := fun w => pright sqa tka na sa qa lwa hga w
  rw [decide_eq_true ha] at PRa
  have PRa := Lib.hid PRa
  have PRb := fun w => pright sqb tkb nb sb qb lwb hgb w
  rw [decide_eq_true hb] at PRb
  have PRb := Lib.hid PRb
  have w0 : ¬ k < 1 := by omega
  have w1 : ¬ 64 < k := by omega
  have bk := hk
  obtain ⟨k0, k1⟩ := bk
  have na0 := ha.1
  have na1 := ha.2.1
  have nb0 := hb.1
  have nb1 := hb.2.1
  have m1 : 0 ≤ 6 * k * nb ∧ 6 * k * nb ≤ 25165824 := ⟨Int.mul_nonneg (by omega) (by omega), Int.mul_le_mul (show 6 * k ≤ 384 by omega) nb1 (by omega) (by decide)⟩
  have m2 : 0 ≤ (6 * k - 1) * na ∧ (6 * k - 1) * na ≤ 25165824 := ⟨Int.mul_nonneg (by omega) (by omega), Int.mul_le_mul (show 6 * k - 1 ≤ 384 by omega) na1 (by omega) (by decide)⟩
  have m3 : 0 ≤ 6 * k * na ∧ 6 * k * na ≤ 25165824 := ⟨Int.mul_nonneg (by omega) (by omega), Int.mul_le_mul (show 6 * k ≤ 384 by omega) na1 (by omega) (by decide)⟩
  have m4 : 0 ≤ (6 * k - 1) * nb ∧ (6 * k - 1) * nb ≤ 25165824 := ⟨Int.mul_nonneg (by omega) (by omega), Int.mul_le_mul (show 6 * k - 1 ≤ 384 by omega) nb1 (by omega) (by decide)⟩
  have w6 : IntKind.i64.wrap (6 * k) = 6 * k := IntWalk.i64_in _ (by omega)
  have w61 : IntKind.i64.wrap (6 * k - 1) = 6 * k - 1 := IntWalk.i64_in _ (by omega)
  have wm1 : IntKind.i64.wrap (6 * k * nb) = 6 * k * nb := IntWalk.i64_in _ (by omega)
  have wm2 : IntKind.i64.wrap ((6 * k - 1) * na) = (6 * k - 1) * na := IntWalk.i64_in _ (by omega)
  have wm3 : IntKind.i64.wrap (6 * k * na) = 6 * k * na := IntWalk.i64_in _ (by omega)
  have wm4 : IntKind.i64.wrap ((6 * k - 1) * nb) = (6 * k - 1) * nb := IntWalk.i64_in _ (by omega)
  have h' : ¬ 6 * k * nb < (6 * k - 1) * na := Int.not_lt.2 h
  have ta := right_top ha
  have tb := right_top hb
  have tA : topN na sa qa ≤ 72057594037927936 := by unfold topN; omega
  have tB : topN nb sb qb ≤ 72057594037927936 := by unfold topN; omega
  have PTa := fun w => ptop sqa tka na sa qa lwa hga w ha
  have PTb := fun w => ptop sqb tkb nb sb qb lwb hgb w hb
  have PPx := fun w => pproduct (topN nb sb qb : Int) na (by unfold Word; omega) (by unfold Word; omega) w
  have PPy := fun w => pproduct (topN na sa qa : Int) nb (by unfold Word; omega) (by unfold Word; omega) w
  rw [Int.toNat_natCast] at PPx PPy
  have p1 : topN nb sb qb * na.toNat ≤ 4722366482869645213696 := Nat.mul_le_mul tB (show na.toNat ≤ 65536 by omega)
  have p2 : topN na sa qa * nb.toNat ≤ 4722366482869645213696 := Nat.mul_le_mul tA (show nb.toNat ≤ 65536 by omega)
  have ux : IntKind.u64.wrap (topN nb sb qb : Int) = (topN nb sb qb : Int) := IntWalk.u64_in _ (by omega)
  have uy : IntKind.u64.wrap (topN na sa qa : Int) = (topN na sa qa : Int) := IntWalk.u64_in _ (by omega)
  generalize topN nb sb qb * na.toNat = px at PPx p1 ⊢
  generalize topN na sa qa * nb.toNat = py at PPy p2 ⊢
  generalize (topN nb sb qb : Int) = tpb at PTb PPx ux
  generalize (topN na sa qa : Int) = tpa at PTa PPy uy
  have un : IntKind.u64.wrap na = na := IntWalk.u64_in _ (by omega)
  have unb : IntKind.u64.wrap nb = nb := IntWalk.u64_in _ (by omega)
  have um : IntKind.u64.wrap (6 * k) = 6 * k := IntWalk.u64_in _ (by omega)
  have ul : IntKind.u64.wrap (6 * k - 1) = 6 * k - 1 := IntWalk.u64_in _ (by omega)
  have Oxx := fun w => pofI (6 * k) (by unfold Word; omega) w
  have Oyy := fun w => pofI (6 * k - 1) (by unfold Word; omega) w
  have q1 : (6 * k).toNat ≤ 384 := by omega
  have q2 : (6 * k - 1).toNat ≤ 384 := by omega
  generalize (6 * k).toNat = mx at Oxx q1 ⊢
  generalize (6 * k - 1).toNat = my at Oyy q2 ⊢
  have Mxx := fun w => pmul px mx (Nat.lt_of_le_of_lt p1 (by decide)) (Nat.lt_of_le_of_lt q1 (by decide)) w
  have Myy := fun w => pmul py my (Nat.lt_of_le_of_lt p2 (by decide)) (Nat.lt_of_le_of_lt q2 (by decide)) w
  have s1 := mul_smallN p1 q1 (by decide)
  have s2 := mul_smallN p2 q2 (by decide)
  rw [s1.1, s1.2] at Mxx
  rw [s2.1, s2.2] at Myy
  have CM := fun w => pcmp_any (px * mx) (py * my) w
  have CD := cmp_dec (px * mx) (py * my)
  generalize px * mx = xx at Mxx CM CD ⊢
  generalize py * my = yy at Myy CM CD ⊢
  rw [← CD]
  generalize cmp xx yy = cv at CM ⊢
  have PTa := Lib.hid PTa
  have PTb := Lib.hid PTb
  have PPx := Lib.hid PPx
  have PPy := Lib.hid PPy
  have Oxx := Lib.hid Oxx
  have Oyy := Lib.hid Oyy
  have Mxx := Lib.hid Mxx
  have Myy := Lib.hid Myy
  have CM := Lib.hid CM
  clear ha hb hk ta tb tA tB h p1 p2 q1 q2 s1 s2 CD m1 m2 m3 m4
  go_enter Try.func17, Try.ntmps17
  go_upto_region 6 with (first | (go_at_call 44; with_reducible refine (PRa.out _).mono ?_; rintro e w1 ⟨rfl, hb1⟩; have hz1 := hb1.size; (try simp at hz1); have o1 : Below w.heap.size w w1 := (by (repeat (first | exact Below.refl _ _ | refine Below.setCell ?_ (by first | (simp; done) | (simp; omega) | omega) _ | refine Below.alloc ?_ (by first | (simp; done) | (simp; omega) | omega) _ | refine Below.drew ?_ | refine Below.trans ?_ (Below.mono (by assumption) (by first | (simp; done) | (simp; omega) | omega))))); have q1_0 : w.heap.size < w1.heap.size := (by omega); have r1_0 : Row w1 (w.heap.size) 33 #[.int .i64 sqa, .int .i64 tka, .int .i64 na, .int .i64 sa, .int .i64 qa, .int .i64 lwa, .int .i64 hga] := row_call (by (repeat (first | assumption | (refine row_new ?_; (first | (simp; done) | omega)) | refine row_alloc ?_ _ | refine row_drew ?_ | refine row_call ?_ (by assumption)))) hb1; obtain ⟨c1_0a, c1_0b, c1_0c, c1_0d, c1_0e, c1_0f, c1_0g, f1_0a, f1_0b, f1_0c, f1_0d, f1_0e, f1_0f, f1_0g⟩ := row_seven r1_0; have q1_1 : w.heap.size + 1 < w1.heap.size := (by omega); have r1_1 : Row w1 (w.heap.size + 1) 33 #[.int .i64 sqb, .int .i64 tkb, .int .i64 nb, .int .i64 sb, .int .i64 qb, .int .i64 lwb, .int .i64 hgb] := row_call (by (repeat (first | assumption | (refine row_new ?_; (first | (simp; done) | omega)) | refine row_alloc ?_ _ | refine row_drew ?_ | refine row_call ?_ (by assumption)))) hb1; obtain ⟨c1_1a, c1_1b, c1_1c, c1_1d, c1_1e, c1_1f, c1_1g, f1_1a, f1_1b, f1_1c, f1_1d, f1_1e, f1_1f, f1_1g⟩ := row_seven r1_1) | (go_at_call 44; with_reducible refine (PRb.out _).mono ?_; rintro e w2 ⟨rfl, hb2⟩; have hz2 := hb2.size; (try simp at hz2); have o2 : Below w.heap.size w w2 := (by (repeat (first | exact Below.refl _ _ | refine Below.setCell ?_ (by first | (simp; done) | (simp; omega) | omega) _ | refine Below.alloc ?_ (by first | (simp; done) | (simp; omega) | omega) _ | refine Below.drew ?_ | refine Below.trans ?_ (Below.mono (by assumption) (by first | (simp; done) | (simp; omega) | omega))))); have q2_0 : w.heap.size < w2.heap.size := (by omega); have r2_0 : Row w2 (w.heap.size) 33 #[.int .i64 sqa, .int .i64 tka, .int .i64 na, .int .i64 sa, .int .i64 qa, .int .i64 lwa, .int .i64 hga] := row_call (by (repeat (first | assumption | (refine row_new ?_; (first | (simp; done) | omega)) | refine row_alloc ?_ _ | refine row_drew ?_ | refine row_call ?_ (by assumption)))) hb2; obtain ⟨c2_0a, c2_0b, c2_0c, c2_0d, c2_0e, c2_0f, c2_0g, f2_0a, f2_0b, f2_0c, f2_0d, f2_0e, f2_0f, f2_0g⟩ := row_seven r2_0; have q2_1 : w.heap.size + 1 < w2.heap.size := (by omega); have r2_1 : Row w2 (w.heap.size + 1) 33 #[.int .i64 sqb, .int .i64 tkb, .int .i64 nb, .int .i64 sb, .int .i64 qb, .int .i64 lwb, .int .i64 hgb] := row_call (by (repeat (first | assumption | (refine row_new ?_; (first | (simp; done) | omega)) | refine row_alloc ?_ _ | refine row_drew ?_ | refine row_call ?_ (by assumption)))) hb2; obtain ⟨c2_1a, c2_1b, c2_1c, c2_1d, c2_1e, c2_1f, c2_1g, f2_1a, f2_1b, f2_1c, f2_1d, f2_1e, f2_1f, f2_1g⟩ := row_seven r2_1))
  have L : Row w2 (w.heap.size) 33 #[.int .i64 sqa, .int .i64 tka, .int .i64 na, .int .i64 sa, .int .i64 qa, .int .i64 lwa, .int .i64 hga] ∧ Row w2 (w.heap.size + 1) 33 #[.int .i64 sqb, .int .i64 tkb, .int .i64 nb, .int .i64 sb, .int .i64 qb, .int .i64 lwb, .int .i64 hgb] ∧ Below w.heap.size w w2 := ⟨r2_0, r2_1, o2⟩
  refine wp_region_free1 [0, 1, 2, 3, 4, 5, 6, 7, 8, 9, 10, 11, 13, 12] [13] [0, 1, 2, 3, 4, 5, 6, 7, 8, 9, 10, 11, 12, 14] (14, 72, #[.int .u64 0, .int .u64 0]) 9 15 (fun w' => Row w' (w.heap.size) 33 #[.int .i64 sqa, .int .i64 tka, .int .i64 na, .int .i64 sa, .int .i64 qa, .int .i64 lwa, .int .i64 hga] ∧ Row w' (w.heap.size + 1) 33 #[.int .i64 sqb, .int .i64 tkb, .int .i64 nb, .int .i64 sb, .int .i64 qb, .int .i64 lwb, .int .i64 hgb] ∧ Below w.heap.size w w') (by kernel_rfl) (by kernel_rfl) ⟨_, _, rfl, rfl, rfl, fun ρ w' => by go_simp⟩ rfl (by simp) (fun _ h => ⟨row_alloc h.1 _, row_alloc h.2.1 _, h.2.2.alloc h.2.2.size _⟩) (fun _ _ d _ _ h => by cases d <;> exact h) ?_ ?_
  · exact ⟨L.1, L.2.1, L.2.2.drew⟩
  (refine plan_val ?_ rfl rfl rfl (fun w' hS => ?_) ?_; rotate_left; (obtain ⟨X0, X1, X2, X3, X4, X5, X6, _⟩ := row_seven hS.1; obtain ⟨Y0, Y1, Y2, Y3, Y4, Y5, Y6, _⟩ := row_seven hS.2.1; go_simp; try with_reducible rfl); simp only [Act.put, List.setIfInBounds_toArray, List.set_cons_zero, List.set_cons_succ])
  refine plan_call (.int .i64 tpb) 46 #[.agg #[.int .i64 sqb, .int .i64 tkb, .int .i64 nb, .int .i64 sb, .int .i64 qb, .int .i64 lwb, .int .i64 hgb]] rfl rfl rfl (fun _ _ h hb => ⟨row_call h.1 hb, row_call h.2.1 hb, h.2.2.trans (hb.mono h.2.2.size)⟩) (fun w' hS => by obtain ⟨X0, X1, X2, X3, X4, X5, X6, _⟩ := row_seven hS.1; obtain ⟨Y0, Y1, Y2, Y3, Y4, Y5, Y6, _⟩ := row_seven hS.2.1; go_simp) (fun w' hS => PTb.out w') ?_
  simp only [Act.put, List.setIfInBounds_toArray, List.set_cons_zero, List.set_cons_succ]
  (refine plan_pure ?_ rfl rfl (fun w' => ?_) ?_; rotate_left; (go_simp; try with_reducible rfl); simp only [Act.put, List.setIfInBounds_toArray, List.set_cons_zero, List.set_cons_succ])
  (refine plan_pure ?_ rfl rfl (fun w' => ?_) ?_; rotate_left; (go_simp; try with_reducible rfl); simp only [Act.put, List.setIfInBounds_toArray, List.set_cons_zero, List.set_cons_succ])
  (refine plan_val ?_ rfl rfl rfl (fun w' hS => ?_) ?_; rotate_left; (obtain ⟨X0, X1, X2, X3, X4, X5, X6, _⟩ := row_seven hS.1; obtain ⟨Y0, Y1, Y2, Y3, Y4, Y5, Y6, _⟩ := row_seven hS.2.1; go_simp; try with_reducible rfl); simp only [Act.put, List.setIfInBounds_toArray, List.set_cons_zero, List.set_cons_succ])
  (refine plan_pure ?_ rfl rfl (fun w' => ?_) ?_; rotate_left; (go_simp; try with_reducible rfl); simp only [Act.put, List.setIfInBounds_toArray, List.set_cons_zero, List.set_cons_succ])
  refine plan_call (W px) 50 #[.int .u64 tpb, .int .u64 na] rfl rfl rfl (fun _ _ h hb => ⟨row_call h.1 hb, row_call h.2.1 hb, h.2.2.trans (hb.mono h.2.2.size)⟩) (fun w' hS => by obtain ⟨X0, X1, X2, X3, X4, X5, X6, _⟩ := row_seven hS.1; obtain ⟨Y0, Y1, Y2, Y3, Y4, Y5, Y6, _⟩ := row_seven hS.2.1; go_simp) (fun w' hS => PPx.out w') ?_
  simp only [Act.put, List.setIfInBounds_toArray, List.set_cons_zero, List.set_cons_succ]
  (refine plan_pure ?_ rfl rfl (fun w' => ?_) ?_; rotate_left; (go_simp; try with_reducible rfl); simp only [Act.put, List.setIfInBounds_toArray, List.set_cons_zero, List.set_cons_succ])
  (refine plan_pure ?_ rfl rfl (fun w' => ?_) ?_; rotate_left; (go_simp; try with_reducible rfl); simp only [Act.put, List.setIfInBounds_toArray, List.set_cons_zero, List.set_cons_succ])
  refine plan_call (W mx) 51 #[.int .u64 (6 * k)] rfl rfl rfl (fun _ _ h hb => ⟨row_call h.1 hb, row_call h.2.1 hb, h.2.2.trans (hb.mono h.2.2.size)⟩) (fun w' hS => by obtain ⟨X0, X1, X2, X3, X4, X5, X6, _⟩ := row_seven hS.1; obtain ⟨Y0, Y1, Y2, Y3, Y4, Y5, Y6, _⟩ := row_seven hS.2.1; go_simp) (fun w' hS => Oxx.out w') ?_
  simp only [Act.put, List.setIfInBounds_toArray, List.set_cons_zero, List.set_cons_succ]
  refine plan_call (.tuple #[W xx, .bool true]) 49 #[W px, W mx] rfl rfl rfl (fun _ _ h hb => ⟨row_call h.1 hb, row_call h.2.1 hb, h.2.2.trans (hb.mono h.2.2.size)⟩) (fun w' hS => by obtain ⟨X0, X1, X2, X3, X4, X5, X6, _⟩ := row_seven hS.1; obtain ⟨Y0, Y1, Y2, Y3, Y4, Y5, Y6, _⟩ := row_seven hS.2.1; go_simp) (fun w' hS => Mxx.out w') ?_
  simp only [Act.put, List.setIfInBounds_toArray, List.set_cons_zero, List.set_cons_succ]
  (refine plan_pure ?_ rfl rfl (fun w' => ?_) ?_; rotate_left; (go_simp; try with_reducible rfl); simp only [Act.put, List.setIfInBounds_toArray, List.set_cons_zero, List.set_cons_succ])
  (refine plan_pure ?_ rfl rfl (fun w' => ?_) ?_; rotate_left; (go_simp; try with_reducible rfl); simp only [Act.put, List.setIfInBounds_toArray, List.set_cons_zero, List.set_cons_succ])
  (refine plan_pure ?_ rfl rfl (fun w' => ?_) ?_; rotate_left; (go_simp; try with_reducible rfl); simp only [Act.put, List.setIfInBounds_toArray, List.set_cons_zero, List.set_cons_succ])
  refine plan_nil ?_
  intro g1 w3 L3 hg1r hg1g
  simp only [List.drop_succ_cons, List.drop_zero]
  try simp only [Act.put, List.setIfInBounds_toArray, List.set_cons_zero, List.set_cons_succ]
  obtain ⟨x1, x2, x3⟩ := L3
  clear L
  obtain ⟨G0, G1, G2, G3⟩ := row_two hg1r
  go_upto_region 7 with (fail)
  have x1 := row_two_other (c := g1) (u := .int .u64 (hi xx)) (v := .int .u64 (lo xx)) x1 (by omega)
  have x2 := row_two_other (c := g1) (u := .int .u64 (hi xx)) (v := .int .u64 (lo xx)) x2 (by omega)
  have G := row_two_set (u := .int .u64 (hi xx)) (v := .int .u64 (lo xx)) hg1r
  have x3 := (x3.setCell (p := ⟨g1, 0, none⟩) (by simp; omega) (.int .u64 (hi xx))).setCell (p := ⟨g1, 1, none⟩) (by simp; omega) (.int .u64 (lo xx))
  generalize ((w3.setCell ⟨g1, 0, none⟩ (.int .u64 (hi xx))).setCell ⟨g1, 1, none⟩ (.int .u64 (lo xx))) = w4 at x1 x2 G x3 ⊢
  clear G0 G1 G2 G3 hg1r
  have gl4 := row_lt G
  have zs4 := x3.size
  have L5 : Row w4 (w.heap.size) 33 #[.int .i64 sqa, .int .i64 tka, .int .i64 na, .int .i64 sa, .int .i64 qa, .int .i64 lwa, .int .i64 hga] ∧ Row w4 (w.heap.size + 1) 33 #[.int .i64 sqb, .int .i64 tkb, .int .i64 nb, .int .i64 sb, .int .i64 qb, .int .i64 lwb, .int .i64 hgb] ∧ Row w4 g1 72 #[.int .u64 (hi xx), .int .u64 (lo xx)] ∧ Below w.heap.size w w4 := ⟨x1, x2, G, x3⟩
  refine wp_region_free1 [0, 1, 2, 3, 4, 5, 6, 7, 8, 9, 10, 11, 13, 12] [13] [0, 1, 2, 3, 4, 5, 6, 7, 8, 9, 10, 11, 12, 14] (14, 72, #[.int .u64 0, .int .u64 0]) 11 15 (fun w' => Row w' (w.heap.size) 33 #[.int .i64 sqa, .int .i64 tka, .int .i64 na, .int .i64 sa, .int .i64 qa, .int .i64 lwa, .int .i64 hga] ∧ Row w' (w.heap.size + 1) 33 #[.int .i64 sqb, .int .i64 tkb, .int .i64 nb, .int .i64 sb, .int .i64 qb, .int .i64 lwb, .int .i64 hgb] ∧ Row w' g1 72 #[.int .u64 (hi xx), .int .u64 (lo xx)] ∧ Below w.heap.size w w') (by kernel_rfl) (by kernel_rfl) ⟨_, _, rfl, rfl, rfl, fun ρ w' => by go_simp⟩ rfl (by simp) (fun _ h => ⟨row_alloc h.1 _, row_alloc h.2.1 _, row_alloc h.2.2.1 _, h.2.2.2.alloc h.2.2.2.size _⟩) (fun _ _ d _ _ h => by cases d <;> exact h) ?_ ?_
  · exact ⟨L5.1, L5.2.1, L5.2.2.1, L5.2.2.2.drew⟩
  (refine plan_val ?_ rfl rfl rfl (fun w' hS => ?_) ?_; rotate_left; (obtain ⟨X0, X1, X2, X3, X4, X5, X6, _⟩ := row_seven hS.1; obtain ⟨Y0, Y1, Y2, Y3, Y4, Y5, Y6, _⟩ := row_seven hS.2.1; go_simp; try with_reducible rfl); simp only [Act.put, List.setIfInBounds_toArray, List.set_cons_zero, List.set_cons_succ])
  refine plan_call (.int .i64 tpa) 46 #[.agg #[.int .i64 sqa, .int .i64 tka, .int .i64 na, .int .i64 sa, .int .i64 qa, .int .i64 lwa, .int .i64 hga]] rfl rfl rfl (fun _ _ h hb => ⟨row_call h.1 hb, row_call h.2.1 hb, row_call h.2.2.1 hb, h.2.2.2.trans (hb.mono h.2.2.2.size)⟩) (fun w' hS => by obtain ⟨X0, X1, X2, X3, X4, X5, X6, _⟩ := row_seven hS.1; obtain ⟨Y0, Y1, Y2, Y3, Y4, Y5, Y6, _⟩ := row_seven hS.2.1; go_simp) (fun w' hS => PTa.out w') ?_
  simp only [Act.put, List.setIfInBounds_toArray, List.set_cons_zero, List.set_cons_succ]
  (refine plan_pure ?_ rfl rfl (fun w' => ?_) ?_; rotate_left; (go_simp; try with_reducible rfl); simp only [Act.put, List.setIfInBounds_toArray, List.set_cons_zero, List.set_cons_succ])
  (refine plan_pure ?_ rfl rfl (fun w' => ?_) ?_; rotate_left; (go_simp; try with_reducible rfl); simp only [Act.put, List.setIfInBounds_toArray, List.set_cons_zero, List.set_cons_succ])
  (refine plan_val ?_ rfl rfl rfl (fun w' hS => ?_) ?_; rotate_left; (obtain ⟨X0, X1, X2, X3, X4, X5, X6, _⟩ := row_seven hS.1; obtain ⟨Y0, Y1, Y2, Y3, Y4, Y5, Y6, _⟩ := row_seven hS.2.1; go_simp; try with_reducible rfl); simp only [Act.put, List.setIfInBounds_toArray, List.set_cons_zero, List.set_cons_succ])
  (refine plan_pure ?_ rfl rfl (fun w' => ?_) ?_; rotate_left; (go_simp; try with_reducible rfl); simp only [Act.put, List.setIfInBounds_toArray, List.set_cons_zero, List.set_cons_succ])
  refine plan_call (W py) 50 #[.int .u64 tpa, .int .u64 nb] rfl rfl rfl (fun _ _ h hb => ⟨row_call h.1 hb, row_call h.2.1 hb, row_call h.2.2.1 hb, h.2.2.2.trans (hb.mono h.2.2.2.size)⟩) (fun w' hS => by obtain ⟨X0, X1, X2, X3, X4, X5, X6, _⟩ := row_seven hS.1; obtain ⟨Y0, Y1, Y2, Y3, Y4, Y5, Y6, _⟩ := row_seven hS.2.1; go_simp) (fun w' hS => PPy.out w') ?_
  simp only [Act.put, List.setIfInBounds_toArray, List.set_cons_zero, List.set_cons_succ]
  (refine plan_pure ?_ rfl rfl (fun w' => ?_) ?_; rotate_left; (go_simp; try with_reducible rfl); simp only [Act.put, List.setIfInBounds_toArray, List.set_cons_zero, List.set_cons_succ])
  (refine plan_pure ?_ rfl rfl (fun w' => ?_) ?_; rotate_left; (go_simp; try with_reducible rfl); simp only [Act.put, List.setIfInBounds_toArray, List.set_cons_zero, List.set_cons_succ])
  refine plan_call (W my) 51 #[.int .u64 (6 * k - 1)] rfl rfl rfl (fun _ _ h hb => ⟨row_call h.1 hb, row_call h.2.1 hb, row_call h.2.2.1 hb, h.2.2.2.trans (hb.mono h.2.2.2.size)⟩) (fun w' hS => by obtain ⟨X0, X1, X2, X3, X4, X5, X6, _⟩ := row_seven hS.1; obtain ⟨Y0, Y1, Y2, Y3, Y4, Y5, Y6, _⟩ := row_seven hS.2.1; go_simp) (fun w' hS => Oyy.out w') ?_
  simp only [Act.put, List.setIfInBounds_toArray, List.set_cons_zero, List.set_cons_succ]
  refine plan_call (.tuple #[W yy, .bool true]) 49 #[W py, W my] rfl rfl rfl (fun _ _ h hb => ⟨row_call h.1 hb, row_call h.2.1 hb, row_call h.2.2.1 hb, h.2.2.2.trans (hb.mono h.2.2.2.size)⟩) (fun w' hS => by obtain ⟨X0, X1, X2, X3, X4, X5, X6, _⟩ := row_seven hS.1; obtain ⟨Y0, Y1, Y2, Y3, Y4, Y5, Y6, _⟩ := row_seven hS.2.1; go_simp) (fun w' hS => Myy.out w') ?_
  simp only [Act.put, List.setIfInBounds_toArray, List.set_cons_zero, List.set_cons_succ]
  (refine plan_pure ?_ rfl rfl (fun w' => ?_) ?_; rotate_left; (go_simp; try with_reducible rfl); simp only [Act.put, List.setIfInBounds_toArray, List.set_cons_zero, List.set_cons_succ])
  (refine plan_pure ?_ rfl rfl (fun w' => ?_) ?_; rotate_left; (go_simp; try with_reducible rfl); simp only [Act.put, List.setIfInBounds_toArray, List.set_cons_zero, List.set_cons_succ])
  (refine plan_pure ?_ rfl rfl (fun w' => ?_) ?_; rotate_left; (go_simp; try with_reducible rfl); simp only [Act.put, List.setIfInBounds_toArray, List.set_cons_zero, List.set_cons_succ])
  refine plan_nil ?_
  intro g2 w5 L6 hg2r hg2g
  simp only [List.drop_succ_cons, List.drop_zero]
  try simp only [Act.put, List.setIfInBounds_toArray, List.set_cons_zero, List.set_cons_succ]
  obtain ⟨x1, x2, G, x3⟩ := L6
  clear L5
  obtain ⟨G0, G1, G2, G3⟩ := row_two hg2r
  go_upto_region 8 with (fail)
  have ng : g1 ≠ g2 := by omega
  have G := row_two_other (c := g2) (u := .int .u64 (hi yy)) (v := .int .u64 (lo yy)) G ng
  have G' := row_two_set (u := .int .u64 (hi yy)) (v := .int .u64 (lo yy)) hg2r
  have x3 := (x3.setCell (p := ⟨g2, 0, none⟩) (by simp; omega) (.int .u64 (hi yy))).setCell (p := ⟨g2, 1, none⟩) (by simp; omega) (.int .u64 (lo yy))
  generalize ((w5.setCell ⟨g2, 0, none⟩ (.int .u64 (hi yy))).setCell ⟨g2, 1, none⟩ (.int .u64 (lo yy))) = w6 at G G' x3 ⊢
  clear G0 G1 G2 G3 hg2r x1 x2
  obtain ⟨G0, G1, G2, G3⟩ := row_two G
  obtain ⟨H0, H1, H2, H3⟩ := row_two G'
  go_wp2_with (go_at_call 52; refine (CM.out _).mono ?_; rintro e w7 ⟨rfl, hb7⟩)
  go_ret
  exact ⟨rfl, x3.trans (hb7.mono x3.size)⟩
theorem pclose (sqa tka na sa qa lwa hga sqb tkb nb sb qb lwb hgb k : Int) (w : World) : Calls Try.prog 17 #[.agg #[.int .i64 sqa, .int .i64 tka, .int .i64 na, .int .i64 sa, .int .i64 qa, .int .i64 lwa, .int .i64 hga], .agg #[.int .i64 sqb, .int .i64 tkb, .int .i64 nb, .int .i64 sb, .int .i64 qb, .int .i64 lwb, .int .i64 hgb], .int .i64 k] w fun e w' => e = .returned (.bool (decide (closeP na sa qa nb sb qb k))) ∧ Below w.heap.size w w' := by
  by_cases ha : rightP na sa qa
  · by_cases hb : rightP nb sb qb
    · by_cases hk : 1 ≤ k ∧ k ≤ 64
      · by_cases h : (6 * k - 1) * na ≤ 6 * k * nb
        · rw [show decide (closeP na sa qa nb sb qb k) = decide (topN na sa qa * nb.toNat * (6 * k - 1).toNat ≤ topN nb sb qb * na.toNat * (6 * k).toNat) from decide_eq_decide.2 ⟨fun a => a.2.2.2.2, fun hh => ⟨ha, hb, hk, h, hh⟩⟩]
          exact pclose_ok sqa tka na sa qa lwa hga sqb tkb nb sb qb lwb hgb k w ha hb hk h
        · rw [decide_eq_false (fun a => h a.2.2.2.1)]
          exact pclose_n sqa tka na sa qa lwa hga sqb tkb nb sb qb lwb hgb k w ha hb hk (Int.not_le.1 h)
      · rw [decide_eq_false (fun a => hk a.2.2.1)]
        exact pclose_k sqa tka na sa qa lwa hga sqb tkb nb sb qb lwb hgb k w ha hb hk
    · rw [decide_eq_false (fun a => hb a.2.1)]
      exact pclose_b sqa tka na sa qa lwa hga sqb tkb nb sb qb lwb hgb k w ha hb
  · rw [decide_eq_false (fun a => ha a.1)]
    exact pclose_a sqa tka na sa qa lwa hga sqb tkb nb sb qb lwb hgb k w ha
end Go.Proofs.Ytaiepjcnncajcaa
end
section
/- Smooth histograms of the variance: what stays valid, what lies between the bounds, few marks; plain. -/
set_option linter.unusedVariables false
set_option linter.unusedSimpArgs false
set_option linter.unusedSectionVars false
set_option linter.unnecessarySimpa false
namespace Go.Proofs.Ytaiepjcnncajcaa
/-- The spread of a mark times its number. -/
def tpM (m : Mk) : Int := tpI m.n m.s m.q
def closeM (k : Int) (a b : Mk) : Prop := closeP a.n a.s a.q b.n b.s b.q k
instance (k : Int) (a b : Mk) : Decidable (closeM k a b) := by unfold closeM; infer_instance
def closeB (k : Int) (a b : Mk) : Bool := decide (closeM k a b)
def spGood (wd k cap now : Int) : Prop := 1 ≤ wd ∧ wd ≤ 1048576 ∧ 1 ≤ k ∧ k ≤ 64 ∧ 1 ≤ cap ∧ cap ≤ 65536 ∧ 0 ≤ now ∧ now ≤ 16777216
instance (wd k cap now : Int) : Decidable (spGood wd k cap now) := by unfold spGood; infer_instance
def spAt (k : Int) (l : List Mk) (i : Nat) : Prop := 2 ≤ i → ¬ closeM k (mkAt l (i - 2)) (mkAt l i)
instance (k : Int) (l : List Mk) (i : Nat) : Decidable (spAt k l i) := by unfold spAt; infer_instance
/-- A valid histogram of the variance. -/
def spValid (wd k cap now seq : Int) (l : List Mk) : Prop := spGood wd k cap now ∧ mvalid l seq cap now wd (-4096) ∧ ∀ i, i < l.length → spAt k l i
instance (wd k cap now seq : Int) (l : List Mk) : Decidable (spValid wd k cap now seq l) := by unfold spValid; infer_instance
def spvalE (wd k cap now seq : Int) (l : List Mk) : Int := if spValid wd k cap now seq l then 0 else 2
/-- What a call that answers a state and an error leaves. -/
structure SpOut where
  wd : Int
  k : Int
  cap : Int
  now : Int
  seq : Int
  ms : List Mk
  f : Int
def spZero (f : Int) : SpOut := ⟨0, 0, 0, 0, 0, [], f⟩
def spNew (wd k cap now : Int) : SpOut := if spGood wd k cap now then ⟨wd, k, cap, now, 0, [], 0⟩ else spZero 1
def spTick (wd k cap now seq : Int) (l : List Mk) (tt : Int) : SpOut :=
  if spvalE wd k cap now seq l = 0 then if tt < now ∨ 16777216 < tt then spZero 3 else ⟨wd, k, cap, tt, seq, dropM tt wd l, 0⟩ else spZero 2
def spAdd (wd k cap now seq : Int) (l : List Mk) (v : Int) : SpOut :=
  if spvalE wd k cap now seq l = 0 then if v < -4096 ∨ 4096 < v then spZero 4 else if smFull cap seq l then spZero 5 else ⟨wd, k, cap, now, seq + 1, prune (closeB k) (incl l (seq + 1) now v), 0⟩ else spZero 2
/-- Neighbours with a gap between them. -/
def GapL (L : Mk → Mk → Prop) (l : List Mk) : Prop := ∀ i, i + 1 < l.length → 1 < (mkAt l (i + 1)).seq - (mkAt l i).seq → L (mkAt l i) (mkAt l (i + 1))
theorem tpI_snoc {n s q v : Int} (hn : 0 ≤ n) (h : 0 ≤ tpI n s q) (hz : n = 0 → s = 0 ∧ q = 0) : 0 ≤ tpI (n + 1) (s + v) (q + v * v) := by
  by_cases n0 : n = 0
  · obtain ⟨rfl, rfl⟩ := hz n0
    subst n0
    unfold tpI
    grind
  · have e := tpI_add (a := n) (b := 1) (sa := s) (sb := v) (qa := q) (qb := v * v)
    have e1 : tpI 1 v (v * v) = 0 := by unfold tpI; grind
    rw [e1] at e
    have h1 := sqn (s * 1 - v * n)
    have h2 := Int.mul_nonneg (show 0 ≤ n + 1 by omega) h
    refine Int.le_of_mul_le_mul_left (a := n) ?_ (by omega)
    grind
/-- What was close once, and has been followed by the same items since. -/
def LaterM (k : Int) (a b : Mk) : Prop := ∃ cn cs cq : Int, 0 ≤ cn ∧ 0 ≤ tpI cn cs cq ∧ (cn = 0 → cs = 0 ∧ cq = 0) ∧ 1 ≤ b.n - cn ∧ 0 ≤ tpI (b.n - cn) (b.s - cs) (b.q - cq) ∧
  (6 * k - 1) * (a.n - cn) ≤ 6 * k * (b.n - cn) ∧ (6 * k - 1) * tpI (a.n - cn) (a.s - cs) (a.q - cq) * (b.n - cn) ≤ 6 * k * tpI (b.n - cn) (b.s - cs) (b.q - cq) * (a.n - cn)
theorem right_tp {n s q : Int} (h : rightP n s q) : 0 ≤ tpI n s q ∧ (topN n s q : Int) = tpI n s q := by
  have := (right_top h).1
  unfold tpI topN
  omega
/-- How many of the first n have a property. -/
def cntB (g : Nat → Bool) : Nat → Nat
  | 0 => 0
  | n + 1 => cntB g n + if g n = true then 1 else 0
theorem common (f : Nat → Int) (hf : ∀ j, 1 ≤ f j) : ∀ n, ∃ P : Int, 1 ≤ P ∧ ∀ j, j ≤ n → ∃ u, P = f j * u
  | 0 => ⟨f 0, hf 0, fun j hj => ⟨1, by rw [show j = 0 by omega, Int.mul_one]⟩⟩
  | n + 1 => by
    obtain ⟨P, h1, h2⟩ := common f hf n
    refine ⟨P * f (n + 1), ?_, fun j hj => ?_⟩
    · have := Int.mul_le_mul h1 (hf (n + 1)) (by omega) (by omega)
      omega
    · by_cases c : j = n + 1
      · exact ⟨P, by rw [c, Int.mul_comm]⟩
      · obtain ⟨u, e⟩ := h2 j (by omega)
        exact ⟨u * f (n + 1), by rw [e, Int.mul_assoc]⟩
end Go.Proofs.Ytaiepjcnncajcaa
end
section
/- Marks of smooth histograms: words; small functions. -/
set_option linter.unusedVariables false
set_option linter.unusedSimpArgs false
set_option linter.unusedSectionVars false
set_option linter.unnecessarySimpa false
namespace Go.Proofs.Ytaiepjcnncajcaa
open Go.RowKit
/-- The cells of a list of marks. -/
def mcells (l : List Mk) : List Value := l.flatMap fun m => [.int .i64 m.seq, .int .i64 m.t, .int .i64 m.n, .int .i64 m.s, .int .i64 m.q, .int .i64 m.lo, .int .i64 m.hi]
def I64 (x : Int) : Prop := -9223372036854775808 ≤ x ∧ x ≤ 9223372036854775807
/-- A mark's numbers are numbers of 64 bits. -/
def M64 (m : Mk) : Prop := I64 m.seq ∧ I64 m.t ∧ I64 m.n ∧ I64 m.s ∧ I64 m.q ∧ I64 m.lo ∧ I64 m.hi
/-- The seven cells of a mark. -/
def MkCells (w : World) (a : Addr) (m : Mk) : Prop := w.cell? a = some (.int .i64 m.seq) ∧ w.cell? ⟨a.block, a.off + 1, none⟩ = some (.int .i64 m.t) ∧ w.cell? ⟨a.block, a.off + 2, none⟩ = some (.int .i64 m.n) ∧ w.cell? ⟨a.block, a.off + 3, none⟩ = some (.int .i64 m.s) ∧ w.cell? ⟨a.block, a.off + 4, none⟩ = some (.int .i64 m.q) ∧ w.cell? ⟨a.block, a.off + 5, none⟩ = some (.int .i64 m.lo) ∧ w.cell? ⟨a.block, a.off + 6, none⟩ = some (.int .i64 m.hi)
section
variable {w w' : World} {B m : Nat} {A : Option Addr} {l : List Mk}
end
/-- Marks as an argument. -/
structure MIn (A : Option Addr) (m c : Nat) (l : List Mk) (w : World) : Prop where
  reads : Reads w w.heap.size 7 A m (mcells l)
  mB : ∀ i, M64 (mkAt l i)
  mc : m ≤ c
  cB : c ≤ maxLen
section
variable {w w' : World} {m c : Nat} {A : Option Addr} {l : List Mk}
end
end Go.Proofs.Ytaiepjcnncajcaa
end
section
/- Rows of the call's own that ownsRow tells of: what keeps them; what an argument reads behind a store elsewhere. -/
set_option linter.unusedVariables false
set_option linter.unusedSimpArgs false
set_option linter.unusedSectionVars false
set_option linter.unnecessarySimpa false
namespace Go.Proofs.Ytaiepjcnncajcaa
open Go.RowKit
theorem orow_keep {w w' : World} {base : Nat} {e : TypeId} {size : Nat} {v : Value} {n : Nat} {xs : List Value} (h : w.ownsRow base e size v n xs) (hg : ∀ g, v.ownBlock = some g → w'.heap[g]? = w.heap[g]?) : w'.ownsRow base e size v n xs := by
  refine ⟨h.1, ?_⟩
  rcases h.2 with hn | ⟨g, cap, cur, rfl, hb, hgg, rest⟩
  · exact .inl hn
  · exact .inr ⟨g, cap, cur, rfl, hb, by rw [hg g rfl]; exact hgg, rest⟩
theorem orow_forms {w : World} {base : Nat} {e : TypeId} {size : Nat} {v : Value} {n : Nat} {xs : List Value} (h : w.ownsRow base e size v n xs) :
    ∃ A c, v = .slice A n c ∧ Reads w w.heap.size size A n xs ∧ n ≤ c ∧ c ≤ maxLen ∧ ∀ a, A = some a → base ≤ a.block ∧ a.block < w.heap.size := by
  rcases h.2 with ⟨rfl, rfl⟩ | ⟨g, cap, cur, rfl, hb, hgg, h1, h2, _⟩
  · exact ⟨none, 0, rfl, Reads.of_own h, Nat.le_refl _, Nat.zero_le _, fun a e => by cases e⟩
  · exact ⟨_, cap, rfl, Reads.of_own h, h1, h2, fun a e => by cases e; exact h.lt _ rfl⟩
theorem reads_keep {w w' : World} {B size n : Nat} {A : Option Addr} {xs : List Value} (h : Reads w B size A n xs) (hk : ∀ a, A = some a → a.block < B → w'.heap[a.block]? = w.heap[a.block]?) : Reads w' B size A n xs := by
  refine ⟨h.1, fun hn => ?_⟩
  obtain ⟨ad, e, hb, hc⟩ := h.2 hn
  refine ⟨ad, e, hb, fun j u hu => ?_⟩
  have hq : (ad.add j).block = ad.block := block_of_add ..
  exact (World.cell?_of_block (w := w) (w' := w') (a := ad.add j) (by rw [hq]; exact hk ad e hb)).trans (hc j u hu)
theorem reads_grown {w w' : World} {B size n : Nat} {A : Option Addr} {xs : List Value} (h : Reads w B size A n xs) {r : Option Nat} (hg : w.grownBy w' r) (hr : ∀ k, r = some k → B ≤ k) (hB : B ≤ w.heap.size) : Reads w' B size A n xs :=
  reads_keep h fun a _ hb => hg.block a.block (by omega) (fun e => by have := hr _ e.symm; omega)
end Go.Proofs.Ytaiepjcnncajcaa
end
section
/- Marks of smooth histograms: a value more in all marks, walked. -/
set_option linter.unusedVariables false
set_option linter.unusedSimpArgs false
set_option linter.unusedSectionVars false
set_option linter.unnecessarySimpa false
namespace Go.Proofs.Ytaiepjcnncajcaa
open Go.RowKit
/-- What a call that answers marks of its own leaves. -/
def MRet (n : Nat) (l : List Mk) (w : World) (e : Ending) (w' : World) : Prop := ∃ v, e = .returned v ∧ w'.ownsRow w.heap.size 33 7 v n (mcells l) ∧ Below w.heap.size w w'
/-- Small numbers. -/
def SmallM (m : Mk) : Prop := (0 ≤ m.n ∧ m.n ≤ 65536) ∧ (-268435456 ≤ m.s ∧ m.s ≤ 268435456) ∧ 0 ≤ m.q ∧ m.q ≤ 1099511627776
end Go.Proofs.Ytaiepjcnncajcaa
end
section
/- Intervals of integers, walked (out of AskB). -/
set_option linter.unusedVariables false
set_option linter.unusedSimpArgs false
set_option linter.unusedSectionVars false
set_option linter.unnecessarySimpa false
namespace Go.Proofs.Ytaiepjcnncajcaa
open Go.RowKit
end Go.Proofs.Ytaiepjcnncajcaa
end
section
/- Bounds: ratios in lowest terms, walked. -/
set_option linter.unusedVariables false
set_option linter.unusedSimpArgs false
set_option linter.unusedSectionVars false
set_option linter.unnecessarySimpa false
namespace Go.Proofs.Ytaiepjcnncajcaa
open Go.RowKit
set_option maxHeartbeats 2000000 in
theorem pratval (a b : Nat) (w : World) (ha : a < 9223372036854775808) (hb0 : 1 ≤ b) (hb : b < 9223372036854775808) (hg : Nat.gcd a b = 1) : Calls Try.prog 60 #[.agg #[.int .i64 (a : Nat), .int .i64 (b : Nat)]] w fun e w' => e = .returned (.bool true) ∧ Below w.heap.size w w' := by
  have PZ := Lib.hid (fun w => psize a ha w)
  have PA := Lib.hid (fun w => pof a (by omega) w)
  have PB := Lib.hid (fun w => pof b (by omega) w)
  have PO := Lib.hid (fun w => pof 1 (by omega) w)
  have PG := fun w => pgcd a b (by unfold big; omega) (by unfold big; omega) w
  rw [hg] at PG
  replace PG := Lib.hid PG
  have i1 : (1 : Int) ≤ (b : Int) := by omega
  have d1 : decide ((1 : Int) ≤ (b : Int)) = true := decide_eq_true i1
  have wb : IntKind.u64.wrap (b : Int) = (b : Int) := IntWalk.u64_in _ (by omega)
  clear hg
  go_enter Try.func60, Try.ntmps60
  go_upto_region 1 with (fail)
  have X : Row (w.alloc (.cells #[.int .i64 (a : Nat), .int .i64 (b : Nat)] 35)) w.heap.size 35 #[.int .i64 (a : Nat), .int .i64 (b : Nat)] := row_new rfl
  have o : Below w.heap.size w (w.alloc (.cells #[.int .i64 (a : Nat), .int .i64 (b : Nat)] 35)) := by (repeat (first | exact Below.refl _ _ | refine Below.setCell ?_ (by first | (simp; done) | (simp; omega) | omega) _ | refine Below.alloc ?_ (by first | (simp; done) | (simp; omega) | omega) _ | refine Below.drew ?_ | refine Below.trans ?_ (Below.mono (by assumption) (by first | (simp; done) | (simp; omega) | omega))))
  generalize (w.alloc (.cells #[.int .i64 (a : Nat), .int .i64 (b : Nat)] 35)) = w1 at X o ⊢
  refine wp_region_free0 [0, 1, 2, 3, 4, 5, 6, 7, 8, 9, 10, 11, 12, 13, 14, 15] [] [0, 1, 2, 3, 4, 5, 6, 7, 8, 9, 10, 11, 12, 13, 14, 15] 16 (fun w' => Row w' (w.heap.size) 35 #[.int .i64 (a : Nat), .int .i64 (b : Nat)] ∧ Below w.heap.size w w') (by kernel_rfl) (by kernel_rfl) (fun _ _ d _ _ h => by cases d <;> exact h) ?_ ?_
  · exact ⟨X, o.drew⟩
  (refine plan_pure ?_ rfl rfl (fun w' => ?_) ?_; rotate_left; (go_simp; try with_reducible rfl); simp only [Act.put, List.setIfInBounds_toArray, List.set_cons_zero, List.set_cons_succ])
  (refine plan_val ?_ rfl rfl rfl (fun w' hS => ?_) ?_; rotate_left; (obtain ⟨X0, X1, Xf0, Xf1⟩ := row_two hS.1; go_simp; try with_reducible rfl); simp only [Act.put, List.setIfInBounds_toArray, List.set_cons_zero, List.set_cons_succ])
  (refine plan_pure ?_ rfl rfl (fun w' => ?_) ?_; rotate_left; (go_simp; try with_reducible rfl); simp only [Act.put, List.setIfInBounds_toArray, List.set_cons_zero, List.set_cons_succ])
  (refine plan_pure ?_ rfl rfl (fun w' => ?_) ?_; rotate_left; (go_simp; try with_reducible rfl); simp only [Act.put, List.setIfInBounds_toArray, List.set_cons_zero, List.set_cons_succ])
  (refine plan_pure ?_ rfl rfl (fun w' => ?_) ?_; rotate_left; (go_simp; try with_reducible rfl); simp only [Act.put, List.setIfInBounds_toArray, List.set_cons_zero, List.set_cons_succ])
  (refine plan_val ?_ rfl rfl rfl (fun w' hS => ?_) ?_; rotate_left; (obtain ⟨X0, X1, Xf0, Xf1⟩ := row_two hS.1; go_simp; try with_reducible rfl); simp only [Act.put, List.setIfInBounds_toArray, List.set_cons_zero, List.set_cons_succ])
  refine plan_call (.int .u64 (a : Nat)) 86 #[.int .i64 (a : Nat)] rfl rfl rfl (fun _ _ h hb => ⟨row_call h.1 hb, h.2.trans (hb.mono h.2.size)⟩) (fun w' hS => by obtain ⟨X0, X1, Xf0, Xf1⟩ := row_two hS.1; go_simp) (fun w' hS => (PZ.out w').mono fun _ _ h => ⟨h.1, by rw [h.2]; exact Below.refl _ _⟩) ?_
  simp only [Act.put, List.setIfInBounds_toArray, List.set_cons_zero, List.set_cons_succ]
  refine plan_call (W a) 51 #[.int .u64 (a : Nat)] rfl rfl rfl (fun _ _ h hb => ⟨row_call h.1 hb, h.2.trans (hb.mono h.2.size)⟩) (fun w' hS => by obtain ⟨X0, X1, Xf0, Xf1⟩ := row_two hS.1; go_simp) (fun w' hS => PA.out w') ?_
  simp only [Act.put, List.setIfInBounds_toArray, List.set_cons_zero, List.set_cons_succ]
  (refine plan_pure ?_ rfl rfl (fun w' => ?_) ?_; rotate_left; (go_simp; try with_reducible rfl); simp only [Act.put, List.setIfInBounds_toArray, List.set_cons_zero, List.set_cons_succ])
  (refine plan_val ?_ rfl rfl rfl (fun w' hS => ?_) ?_; rotate_left; (obtain ⟨X0, X1, Xf0, Xf1⟩ := row_two hS.1; go_simp; try with_reducible rfl); simp only [Act.put, List.setIfInBounds_toArray, List.set_cons_zero, List.set_cons_succ])
  (refine plan_pure ?_ rfl rfl (fun w' => ?_) ?_; rotate_left; (go_simp; try with_reducible rfl); simp only [Act.put, List.setIfInBounds_toArray, List.set_cons_zero, List.set_cons_succ])
  refine plan_call (W b) 51 #[.int .u64 (b : Nat)] rfl rfl rfl (fun _ _ h hb => ⟨row_call h.1 hb, h.2.trans (hb.mono h.2.size)⟩) (fun w' hS => by obtain ⟨X0, X1, Xf0, Xf1⟩ := row_two hS.1; go_simp) (fun w' hS => PB.out w') ?_
  simp only [Act.put, List.setIfInBounds_toArray, List.set_cons_zero, List.set_cons_succ]
  refine plan_call (W 1) 95 #[W a, W b] rfl rfl rfl (fun _ _ h hb => ⟨row_call h.1 hb, h.2.trans (hb.mono h.2.size)⟩) (fun w' hS => by obtain ⟨X0, X1, Xf0, Xf1⟩ := row_two hS.1; go_simp) (fun w' hS => PG.out w') ?_
  simp only [Act.put, List.setIfInBounds_toArray, List.set_cons_zero, List.set_cons_succ]
  refine plan_call (W 1) 51 #[.int .u64 1] rfl rfl rfl (fun _ _ h hb => ⟨row_call h.1 hb, h.2.trans (hb.mono h.2.size)⟩) (fun w' hS => by obtain ⟨X0, X1, Xf0, Xf1⟩ := row_two hS.1; go_simp) (fun w' hS => PO.out w') ?_
  simp only [Act.put, List.setIfInBounds_toArray, List.set_cons_zero, List.set_cons_succ]
  (refine plan_pure ?_ rfl rfl (fun w' => ?_) ?_; rotate_left; (go_simp; try with_reducible rfl); simp only [Act.put, List.setIfInBounds_toArray, List.set_cons_zero, List.set_cons_succ])
  (refine plan_pure ?_ rfl rfl (fun w' => ?_) ?_; rotate_left; (go_simp; try with_reducible rfl); simp only [Act.put, List.setIfInBounds_toArray, List.set_cons_zero, List.set_cons_succ])
  refine plan_nil ?_
  intro w3 L
  simp only [List.drop_succ_cons, List.drop_zero]
  try simp only [Act.put, List.setIfInBounds_toArray, List.set_cons_zero, List.set_cons_succ]
  have o2 := L.2
  clear L X o
  go_wp2
  go_ret
  exact ⟨rfl, o2⟩
end Go.Proofs.Ytaiepjcnncajcaa
end
section
/- Plain facts on products of signed numbers: no program is in sight. -/
set_option linter.unusedVariables false
set_option linter.unusedSimpArgs false
set_option linter.unusedSectionVars false
set_option linter.unnecessarySimpa false
namespace Go.Proofs.Ytaiepjcnncajcaa
open Go.RowKit
/-- The order of two integers. -/
def icmp (p q : Int) : Int := if p < q then -1 else if p = q then 0 else 1
/-- The magnitude of a product. -/
def pabs (a b : Int) : Nat := a.natAbs * b.natAbs
/-- The product is below 0 as far as the signs say. -/
def sneg (a b : Int) : Bool := decide (a < 0) != decide (b < 0)
/-- The product is below 0. -/
def pneg (a b : Int) : Bool := sneg a b && !decide (pabs a b = 0)
/-- The sign. -/
def isign (a : Int) : Int := if a < 0 then -1 else if 0 < a then 1 else 0
theorem i64_abs {a : Int} (h : -9223372036854775808 ≤ a ∧ a ≤ 9223372036854775807) : a.natAbs < 18446744073709551616 := by omega
theorem pabs_eq (a b : Int) : pabs a b = (a * b).natAbs := (Int.natAbs_mul a b).symm
theorem pneg_eq (a b : Int) : pneg a b = decide (a * b < 0) := by
  have hz : pabs a b = 0 ↔ a = 0 ∨ b = 0 := by
    unfold pabs
    rw [Nat.mul_eq_zero]
    omega
  unfold pneg sneg
  rcases Int.lt_trichotomy a 0 with h | h | h <;> rcases Int.lt_trichotomy b 0 with k | k | k
  · have := Int.mul_pos_of_neg_of_neg h k
    simp [h, k]; omega
  · subst k; simp [h, hz]
  · have := Int.mul_neg_of_neg_of_pos h k
    have n0 : ¬ b < 0 := by omega
    have : ¬ (pabs a b = 0) := by rw [hz]; omega
    simp [h, n0, this]; omega
  · subst h; simp [k, hz]
  · subst h; subst k; simp
  · subst h; simp [hz] <;> omega
  · have := Int.mul_neg_of_pos_of_neg h k
    have n0 : ¬ a < 0 := by omega
    have : ¬ (pabs a b = 0) := by rw [hz]; omega
    simp [k, n0, this]; omega
  · subst k; simp [hz] <;> omega
  · have := Int.mul_pos h k
    have n0 : ¬ a < 0 := by omega
    have n1 : ¬ b < 0 := by omega
    simp [n0, n1]; omega
/-- What the program answers. -/
def pcrossV (m n : Bool) (x y : Nat) : Int := if m then (if n then cmp y x else -1) else (if n then 1 else cmp x y)
theorem cross_is (a b c d : Int) : pcrossV (pneg a b) (pneg c d) (pabs a b) (pabs c d) = icmp (a * b) (c * d) := by
  rw [pneg_eq, pneg_eq, pabs_eq, pabs_eq]
  generalize a * b = p
  generalize c * d = q
  unfold pcrossV icmp cmp
  by_cases h : p < 0 <;> by_cases k : q < 0 <;> simp only [h, k, decide_true, decide_false, if_true, if_false, Bool.false_eq_true] <;> repeat (first | omega | split)
/-- What the reference answers. -/
def rcrossV (p q : Int) (x y : Nat) : Int := if p < q then -1 else if q < p then 1 else p * cmp x y
end Go.Proofs.Ytaiepjcnncajcaa
end
section
/- The exact comparison of two products, walked: the program, the reference and the law. -/
set_option linter.unusedVariables false
set_option linter.unusedSimpArgs false
set_option linter.unusedSectionVars false
set_option linter.unnecessarySimpa false
namespace Go.Proofs.Ytaiepjcnncajcaa
open Go.RowKit Go.Shelf
theorem ret_eqX {k : IntKind} {a b : Int} (h : a = b) : Ending.returned (.int k a) = .returned (.int k b) := by rw [h]
theorem neg_wrap (a : Int) (h : -9223372036854775808 ≤ a) (k : a < 0) : IntKind.u64.wrap (-IntKind.u64.wrap a) = (a.natAbs : Int) := by
  rw [IntKind.wrap_u64, IntKind.wrap_u64]
  omega
theorem wpsize (a : Int) (h : -9223372036854775808 ≤ a ∧ a ≤ 9223372036854775807) (w : World) :
    Calls Try.prog 119 #[.int .i64 a] w fun e w' => e = .returned (.int .u64 (a.natAbs : Int)) ∧ w' = w := by
  obtain ⟨h1, h2⟩ := h
  by_cases hn : a < 0
  all_goals
    go_enter Try.func119, Try.ntmps119
    go_wp2
    go_ret
    exact ⟨ret_eqX (by first | omega | exact neg_wrap a h1 hn), rfl⟩
theorem pprodn (x y : Nat) (hx : x < 18446744073709551616) (hy : y < 18446744073709551616) (w : World) :
    Calls Try.prog 50 #[.int .u64 x, .int .u64 y] w fun e w' => e = .returned (W (x * y)) ∧ Below w.heap.size w w' := pproduct x y ⟨by omega, by omega⟩ ⟨by omega, by omega⟩ w
theorem psigned (a b : Int) (ha : -9223372036854775808 ≤ a ∧ a ≤ 9223372036854775807) (hb : -9223372036854775808 ≤ b ∧ b ≤ 9223372036854775807) (w : World) :
    Calls Try.prog 114 #[.int .i64 a, .int .i64 b] w fun e w' => e = .returned (.tuple #[.bool (sneg a b), W (pabs a b)]) ∧ Below w.heap.size w w' := by
  have HA := Lib.hid (fun w => wpsize a ha w)
  have HB := Lib.hid (fun w => wpsize b hb w)
  have HP := Lib.hid (fun w => pprodn a.natAbs b.natAbs (i64_abs ha) (i64_abs hb) w)
  clear ha hb
  unfold sneg pabs
  generalize a.natAbs * b.natAbs = z at HP ⊢
  generalize a.natAbs = x at HA HP
  generalize b.natAbs = y at HB HP
  go_enter Try.func114, Try.ntmps114
  go_wp2_with (first | (go_at_call 119; (first | with_reducible refine (HA.out _).mono ?_ | with_reducible refine (HB.out _).mono ?_); rintro e w9 ⟨rfl, rfl⟩) | (go_at_call 50; refine (HP.out _).mono ?_; rintro e w1 ⟨rfl, hb1⟩; have hz1 := hb1.size; (try simp at hz1); have q1_0 : w.heap.size < w1.heap.size := (by omega); have r1_0 : Row w1 (w.heap.size) 72 #[.int .u64 0, .int .u64 0] := row_call (by (repeat (first | assumption | (refine row_new ?_; (first | (simp; done) | omega)) | refine row_alloc ?_ _ | refine row_drew ?_ | refine row_call ?_ (by assumption)))) hb1; obtain ⟨c1_0a, c1_0b, f1_0a, f1_0b⟩ := row_two r1_0))
  have r2 := row_two_set (u := .int .u64 (hi z)) (v := .int .u64 (lo z)) r1_0
  have o2 : Below w.heap.size w ((w1.setCell ⟨w.heap.size, 0, none⟩ (.int .u64 (hi z))).setCell ⟨w.heap.size, 1, none⟩ (.int .u64 (lo z))) := by
    (repeat (first | exact Below.refl _ _ | refine Below.setCell ?_ (by first | (simp; done) | (simp; omega) | omega) _ | refine Below.alloc ?_ (by first | (simp; done) | (simp; omega) | omega) _ | refine Below.drew ?_ | refine Below.trans ?_ (Below.mono (by assumption) (by first | (simp; done) | (simp; omega) | omega))))
  generalize ((w1.setCell ⟨w.heap.size, 0, none⟩ (.int .u64 (hi z))).setCell ⟨w.heap.size, 1, none⟩ (.int .u64 (lo z))) = w2 at r2 o2 ⊢
  obtain ⟨d1, d2, _, _⟩ := row_two r2
  exact bodyPost_ret (v := .tuple #[.bool (decide (a < 0) != decide (b < 0)), W z]) (by simp [results, Try.results114, go_sem, bne, W, d1, d2]) rfl ⟨rfl, o2⟩
theorem pcross_in (a b c d : Int) (s1 s2 z1 z2 : Bool) (x y : Nat)
    (H1 : RowKit.Hid (∀ w, Calls Try.prog 114 #[.int .i64 a, .int .i64 b] w fun e w' => e = .returned (.tuple #[.bool s1, W x]) ∧ Below w.heap.size w w'))
    (H2 : RowKit.Hid (∀ w, Calls Try.prog 114 #[.int .i64 c, .int .i64 d] w fun e w' => e = .returned (.tuple #[.bool s2, W y]) ∧ Below w.heap.size w w'))
    (Z1 : RowKit.Hid (∀ w, Calls Try.prog 112 #[W x] w fun e w' => e = .returned (.bool z1) ∧ Below w.heap.size w w'))
    (Z2 : RowKit.Hid (∀ w, Calls Try.prog 112 #[W y] w fun e w' => e = .returned (.bool z2) ∧ Below w.heap.size w w')) (w : World) :
    Calls Try.prog 106 #[.int .i64 a, .int .i64 b, .int .i64 c, .int .i64 d] w fun e w' => e = .returned (.int .i64 (pcrossV (s1 && !z1) (s2 && !z2) x y)) ∧ Below w.heap.size w w' := by
  cases s1 <;> cases s2 <;> cases z1 <;> cases z2
  all_goals
    go_enter Try.func106, Try.ntmps106
    go_wp2_with (first | (go_at_call 114; with_reducible refine (H1.out _).mono ?_; rintro e w1 ⟨rfl, hb1⟩; have hz1 := hb1.size; (try simp at hz1)) | (go_at_call 114; with_reducible refine (H2.out _).mono ?_; rintro e w2 ⟨rfl, hb2⟩; have hz2 := hb2.size; (try simp at hz2); have q2_0 : w1.heap.size < w2.heap.size := (by omega); have r2_0 : Row w2 (w1.heap.size) 72 (Wc x) := row_call (by (repeat (first | assumption | (refine row_new ?_; (first | (simp; done) | omega)) | refine row_alloc ?_ _ | refine row_drew ?_ | refine row_call ?_ (by assumption)))) hb2; obtain ⟨c2_0a, c2_0b, f2_0a, f2_0b⟩ := row_two r2_0) | (go_at_call 112; with_reducible refine (Z1.out _).mono ?_; rintro e w3 ⟨rfl, hb3⟩; have hz3 := hb3.size; (try simp at hz3); have q3_0 : w1.heap.size < w3.heap.size := (by omega); have r3_0 : Row w3 (w1.heap.size) 72 (Wc x) := row_call (by (repeat (first | assumption | (refine row_new ?_; (first | (simp; done) | omega)) | refine row_alloc ?_ _ | refine row_drew ?_ | refine row_call ?_ (by assumption)))) hb3; obtain ⟨c3_0a, c3_0b, f3_0a, f3_0b⟩ := row_two r3_0; have q3_1 : w2.heap.size < w3.heap.size := (by omega); have r3_1 : Row w3 (w2.heap.size) 72 (Wc y) := row_call (by (repeat (first | assumption | (refine row_new ?_; (first | (simp; done) | omega)) | refine row_alloc ?_ _ | refine row_drew ?_ | refine row_call ?_ (by assumption)))) hb3; obtain ⟨c3_1a, c3_1b, f3_1a, f3_1b⟩ := row_two r3_1) | (go_at_call 112; with_reducible refine (Z2.out _).mono ?_; rintro e w4 ⟨rfl, hb4⟩; have hz4 := hb4.size; (try simp at hz4); have q4_0 : w1.heap.size < w4.heap.size := (by omega); have r4_0 : Row w4 (w1.heap.size) 72 (Wc x) := row_call (by (repeat (first | assumption | (refine row_new ?_; (first | (simp; done) | omega)) | refine row_alloc ?_ _ | refine row_drew ?_ | refine row_call ?_ (by assumption)))) hb4; obtain ⟨c4_0a, c4_0b, f4_0a, f4_0b⟩ := row_two r4_0; have q4_1 : w2.heap.size < w4.heap.size := (by omega); have r4_1 : Row w4 (w2.heap.size) 72 (Wc y) := row_call (by (repeat (first | assumption | (refine row_new ?_; (first | (simp; done) | omega)) | refine row_alloc ?_ _ | refine row_drew ?_ | refine row_call ?_ (by assumption)))) hb4; obtain ⟨c4_1a, c4_1b, f4_1a, f4_1b⟩ := row_two r4_1) | (go_at_call 52; refine (pcmp_any _ _ _).mono ?_; rintro e w5 ⟨rfl, hb5⟩; have hz5 := hb5.size; (try simp at hz5)))
    all_goals
      go_ret
      refine ⟨rfl, ?_⟩
      (repeat (first | exact Below.refl _ _ | refine Below.setCell ?_ (by first | (simp; done) | (simp; omega) | omega) _ | refine Below.alloc ?_ (by first | (simp; done) | (simp; omega) | omega) _ | refine Below.drew ?_ | refine Below.trans ?_ (Below.mono (by assumption) (by first | (simp; done) | (simp; omega) | omega))))
theorem pcross (a b c d : Int) (ha : -9223372036854775808 ≤ a ∧ a ≤ 9223372036854775807) (hb : -9223372036854775808 ≤ b ∧ b ≤ 9223372036854775807) (hc : -9223372036854775808 ≤ c ∧ c ≤ 9223372036854775807) (hd : -9223372036854775808 ≤ d ∧ d ≤ 9223372036854775807) (w : World) :
    Calls Try.prog 106 #[.int .i64 a, .int .i64 b, .int .i64 c, .int .i64 d] w fun e w' => e = .returned (.int .i64 (icmp (a * b) (c * d))) ∧ Below w.heap.size w w' := by
  have h := pcross_in a b c d _ _ _ _ _ _ (Lib.hid fun w => psigned a b ha hb w) (Lib.hid fun w => psigned c d hc hd w) (Lib.hid fun w => pzero (pabs a b) w) (Lib.hid fun w => pzero (pabs c d) w) w
  rw [show (sneg a b && !decide (pabs a b = 0)) = pneg a b from rfl, show (sneg c d && !decide (pabs c d = 0)) = pneg c d from rfl, cross_is] at h
  exact h
end Go.Proofs.Ytaiepjcnncajcaa
end
section
/- Unsigned numbers of 256 bits times a word, walked. -/
set_option linter.unusedVariables false
set_option linter.unusedSimpArgs false
set_option linter.unusedSectionVars false
set_option linter.unnecessarySimpa false
namespace Go.Proofs.Ytaiepjcnncajcaa
open Go.RowKit Go.Shelf
/-- The word i of a number. -/
def qd (i N : Nat) : Nat := N / 18446744073709551616 ^ i % 18446744073709551616
/-- What the words below i carry over in the product with n. -/
def qc (N n i : Nat) : Nat := N % 18446744073709551616 ^ i * n / 18446744073709551616 ^ i
def QV (N : Nat) : Value := .agg #[.int .u64 (qd 0 N), .int .u64 (qd 1 N), .int .u64 (qd 2 N), .int .u64 (qd 3 N)]
theorem qd_lt (i N : Nat) : qd i N < 18446744073709551616 := Nat.mod_lt _ (by decide)
theorem pow_pos64 (i : Nat) : 0 < 18446744073709551616 ^ i := Nat.pow_pos (by decide)
theorem qc_split (N n i : Nat) : N * n / 18446744073709551616 ^ i = N / 18446744073709551616 ^ i * n + qc N n i := by
  have h := pow_pos64 i
  unfold qc
  generalize 18446744073709551616 ^ i = b at *
  have e : N * n = N % b * n + b * (N / b * n) := by
    have := Nat.mod_add_div N b
    calc N * n = (N % b + b * (N / b)) * n := by rw [this]
      _ = N % b * n + b * (N / b * n) := by rw [Nat.add_mul, Nat.mul_assoc]
  rw [e, Nat.add_mul_div_left _ _ h, Nat.add_comm]
theorem qc_lt {N n i : Nat} (hn : n < 18446744073709551616) : qc N n i < 18446744073709551616 := by
  have h := pow_pos64 i
  unfold qc
  generalize 18446744073709551616 ^ i = b at *
  have h1 : N % b * n ≤ b * n := Nat.mul_le_mul_right _ (Nat.le_of_lt (Nat.mod_lt _ h))
  have h2 : N % b * n / b ≤ b * n / b := Nat.div_le_div_right h1
  rw [Nat.mul_div_cancel_left _ h] at h2
  omega
theorem qd_step (N i : Nat) : N / 18446744073709551616 ^ i = qd i N + 18446744073709551616 * (N / 18446744073709551616 ^ (i + 1)) := by
  unfold qd
  rw [Nat.pow_succ, ← Nat.div_div_eq_div_mul]
  exact (Nat.mod_add_div _ _).symm
theorem q_mod (N n i : Nat) : (qd i N * n + qc N n i) % 18446744073709551616 = qd i (N * n) := by
  have h := qc_split N n i
  have e : qd i (N * n) = (N / 18446744073709551616 ^ i * n + qc N n i) % 18446744073709551616 := by rw [← h]; rfl
  rw [e, qd_step N i, Nat.add_mul, Nat.mul_assoc, Nat.add_right_comm, Nat.add_mul_mod_self_left]
theorem q_div (N n i : Nat) : (qd i N * n + qc N n i) / 18446744073709551616 = qc N n (i + 1) := by
  have h := qc_split N n i
  have h2 := qc_split N n (i + 1)
  have h3 : N * n / 18446744073709551616 ^ (i + 1) = N * n / 18446744073709551616 ^ i / 18446744073709551616 := by rw [Nat.pow_succ, Nat.div_div_eq_div_mul]
  have h4 : (N / 18446744073709551616 ^ i * n + qc N n i) / 18446744073709551616 = (qd i N * n + qc N n i) / 18446744073709551616 + N / 18446744073709551616 ^ (i + 1) * n := by
    rw [qd_step N i, Nat.add_mul, Nat.mul_assoc, Nat.add_right_comm, Nat.add_mul_div_left _ _ (by decide)]
  rw [h3, h, h4] at h2
  generalize N / 18446744073709551616 ^ (i + 1) * n = y at h2
  generalize (qd i N * n + qc N n i) / 18446744073709551616 = z at h2 ⊢
  omega
theorem qc_zero (N n : Nat) : qc N n 0 = 0 := by unfold qc; simp [Nat.mod_one]
theorem lo_hi_add {P c : Nat} (hP : P < big) (hc : c < 18446744073709551616) : (lo P + (c : Int)) % 18446744073709551616 = (((P + c) % 18446744073709551616 : Nat) : Int) ∧ hi P + (lo P + (c : Int)) / 18446744073709551616 = (((P + c) / 18446744073709551616 : Nat) : Int) := by
  unfold lo hi
  omega
theorem q_words {N n i : Nat} (hn : n < 18446744073709551616) : (lo (qd i N * n) + (qc N n i : Int)) % 18446744073709551616 = (qd i (N * n) : Nat) ∧ IntKind.u64.wrap (hi (qd i N * n) + (lo (qd i N * n) + (qc N n i : Int)) / 18446744073709551616) = (qc N n (i + 1) : Nat) := by
  obtain ⟨h1, h2⟩ := lo_hi_add (P := qd i N * n) (c := qc N n i) (mul_big (qd_lt i N) hn) (qc_lt hn)
  rw [h1, h2, q_mod, q_div]
  exact ⟨rfl, wrap_word ⟨by omega, by have := @qc_lt N n (i + 1) hn; omega⟩⟩
theorem qmul64 (x n : Nat) (hx : x < 18446744073709551616) (hn : n < 18446744073709551616) (w : World) : Calls Try.prog 91 #[.int .u64 (x : Nat), .int .u64 (n : Nat)] w fun e w' => e = .returned (.tuple #[.int .u64 (hi (x * n)), .int .u64 (lo (x * n))]) ∧ w' = w := by
  have h := mul64 (x : Int) (n : Int) ⟨by omega, by omega⟩ ⟨by omega, by omega⟩ w
  rw [Int.toNat_natCast, Int.toNat_natCast] at h
  exact h
set_option maxHeartbeats 4000000 in
theorem ptimes_flat (x0 x1 x2 x3 r0 r1 r2 r3 k1 k2 k3 k4 : Int) (N n : Nat) (w : World) (hn : n < 18446744073709551616)
    (hx0 : x0 = (qd 0 N : Nat)) (hx1 : x1 = (qd 1 N : Nat)) (hx2 : x2 = (qd 2 N : Nat)) (hx3 : x3 = (qd 3 N : Nat))
    (hr0 : r0 = (qd 0 (N * n) : Nat)) (hr1 : r1 = (qd 1 (N * n) : Nat)) (hr2 : r2 = (qd 2 (N * n) : Nat)) (hr3 : r3 = (qd 3 (N * n) : Nat))
    (hk1 : k1 = (qc N n 1 : Nat)) (hk2 : k2 = (qc N n 2 : Nat)) (hk3 : k3 = (qc N n 3 : Nat)) (hk4 : k4 = (qc N n 4 : Nat)) :
    Calls Try.prog 62 #[.agg #[.int .u64 x0, .int .u64 x1, .int .u64 x2, .int .u64 x3], .int .u64 (n : Nat)] w fun e w' => e = .returned (.agg #[.int .u64 r0, .int .u64 r1, .int .u64 r2, .int .u64 r3]) ∧ Below w.heap.size w w' := by
  obtain ⟨p0, s0⟩ := q_words (N := N) (n := n) (i := 0) hn
  have M0 := fun w => qmul64 (qd 0 N) n (qd_lt 0 N) hn w
  have l0 := (lo_word (qd 0 N * n)).1
  rw [qc_zero] at p0 s0
  rw [← hx0] at M0
  rw [← hr0] at p0
  rw [show 0 + 1 = 1 from rfl, ← hk1] at s0
  generalize lo (qd 0 N * n) = lo0 at M0 p0 s0 l0
  generalize hi (qd 0 N * n) = hi0 at M0 s0
  replace M0 := Lib.hid M0
  obtain ⟨p1, s1⟩ := q_words (N := N) (n := n) (i := 1) hn
  have M1 := fun w => qmul64 (qd 1 N) n (qd_lt 1 N) hn w
  have l1 := (lo_word (qd 1 N * n)).1
  rw [← hx1] at M1
  rw [← hr1] at p1
  rw [show 1 + 1 = 2 from rfl, ← hk2] at s1
  rw [← hk1] at p1 s1
  have b1 : 0 ≤ k1 := by omega
  generalize lo (qd 1 N * n) = lo1 at M1 p1 s1 l1
  generalize hi (qd 1 N * n) = hi1 at M1 s1
  replace M1 := Lib.hid M1
  obtain ⟨p2, s2⟩ := q_words (N := N) (n := n) (i := 2) hn
  have M2 := fun w => qmul64 (qd 2 N) n (qd_lt 2 N) hn w
  have l2 := (lo_word (qd 2 N * n)).1
  rw [← hx2] at M2
  rw [← hr2] at p2
  rw [show 2 + 1 = 3 from rfl, ← hk3] at s2
  rw [← hk2] at p2 s2
  have b2 : 0 ≤ k2 := by omega
  generalize lo (qd 2 N * n) = lo2 at M2 p2 s2 l2
  generalize hi (qd 2 N * n) = hi2 at M2 s2
  replace M2 := Lib.hid M2
  obtain ⟨p3, s3⟩ := q_words (N := N) (n := n) (i := 3) hn
  have M3 := fun w => qmul64 (qd 3 N) n (qd_lt 3 N) hn w
  have l3 := (lo_word (qd 3 N * n)).1
  rw [← hx3] at M3
  rw [← hr3] at p3
  rw [show 3 + 1 = 4 from rfl, ← hk4] at s3
  rw [← hk3] at p3 s3
  have b3 : 0 ≤ k3 := by omega
  generalize lo (qd 3 N * n) = lo3 at M3 p3 s3 l3
  generalize hi (qd 3 N * n) = hi3 at M3 s3
  replace M3 := Lib.hid M3
  rw [show (((0 : Nat) : Int)) = 0 from rfl, Int.add_zero] at p0 s0
  clear hx0 hx1 hx2 hx3 hr0 hr1 hr2 hr3 hk1 hk2 hk3 hk4
  go_enter Try.func62, Try.ntmps62
  go_upto_region 3 with (fail)
  have W0 : Row (((w.alloc (.cells #[.int .u64 x0, .int .u64 x1, .int .u64 x2, .int .u64 x3] 86)).alloc (.cells #[.int .u64 0, .int .u64 0, .int .u64 0, .int .u64 0] 86)).alloc (.cells #[.int .u64 0, .int .u64 0, .int .u64 0, .int .u64 0] 86)) (w.heap.size) 86 #[.int .u64 x0, .int .u64 x1, .int .u64 x2, .int .u64 x3] := row_alloc (row_alloc (row_new rfl) _) _
  have W1 : Row (((w.alloc (.cells #[.int .u64 x0, .int .u64 x1, .int .u64 x2, .int .u64 x3] 86)).alloc (.cells #[.int .u64 0, .int .u64 0, .int .u64 0, .int .u64 0] 86)).alloc (.cells #[.int .u64 0, .int .u64 0, .int .u64 0, .int .u64 0] 86)) (w.heap.size + 1) 86 #[.int .u64 0, .int .u64 0, .int .u64 0, .int .u64 0] := row_alloc (row_new (by simp)) _
  have W2 : Row (((w.alloc (.cells #[.int .u64 x0, .int .u64 x1, .int .u64 x2, .int .u64 x3] 86)).alloc (.cells #[.int .u64 0, .int .u64 0, .int .u64 0, .int .u64 0] 86)).alloc (.cells #[.int .u64 0, .int .u64 0, .int .u64 0, .int .u64 0] 86)) (w.heap.size + 2) 86 #[.int .u64 0, .int .u64 0, .int .u64 0, .int .u64 0] := row_new (by simp)
  have o : Below w.heap.size w (((w.alloc (.cells #[.int .u64 x0, .int .u64 x1, .int .u64 x2, .int .u64 x3] 86)).alloc (.cells #[.int .u64 0, .int .u64 0, .int .u64 0, .int .u64 0] 86)).alloc (.cells #[.int .u64 0, .int .u64 0, .int .u64 0, .int .u64 0] 86)) := by (repeat (first | exact Below.refl _ _ | refine Below.setCell ?_ (by first | (simp; done) | (simp; omega) | omega) _ | refine Below.alloc ?_ (by first | (simp; done) | (simp; omega) | omega) _ | refine Below.drew ?_ | refine Below.trans ?_ (Below.mono (by assumption) (by first | (simp; done) | (simp; omega) | omega))))
  generalize (((w.alloc (.cells #[.int .u64 x0, .int .u64 x1, .int .u64 x2, .int .u64 x3] 86)).alloc (.cells #[.int .u64 0, .int .u64 0, .int .u64 0, .int .u64 0] 86)).alloc (.cells #[.int .u64 0, .int .u64 0, .int .u64 0, .int .u64 0] 86)) = w3 at W0 W1 W2 o ⊢
  go_upto_region 4 with (fail)
  go_loopw [6, 12] (fun cv i wr => (i = .int .i64 0 ∧ cv = .int .u64 0 ∧ Row wr (w.heap.size) 86 #[.int .u64 x0, .int .u64 x1, .int .u64 x2, .int .u64 x3] ∧ Row wr (w.heap.size + 1) 86 #[.int .u64 0, .int .u64 0, .int .u64 0, .int .u64 0] ∧ Row wr (w.heap.size + 2) 86 #[.int .u64 0, .int .u64 0, .int .u64 0, .int .u64 0] ∧ Below w.heap.size w wr) ∨ (i = .int .i64 1 ∧ cv = .int .u64 k1 ∧ Row wr (w.heap.size) 86 #[.int .u64 x0, .int .u64 x1, .int .u64 x2, .int .u64 x3] ∧ Row wr (w.heap.size + 1) 86 #[.int .u64 0, .int .u64 0, .int .u64 0, .int .u64 0] ∧ Row wr (w.heap.size + 2) 86 #[.int .u64 r0, .int .u64 0, .int .u64 0, .int .u64 0] ∧ Below w.heap.size w wr) ∨ (i = .int .i64 2 ∧ cv = .int .u64 k2 ∧ Row wr (w.heap.size) 86 #[.int .u64 x0, .int .u64 x1, .int .u64 x2, .int .u64 x3] ∧ Row wr (w.heap.size + 1) 86 #[.int .u64 0, .int .u64 0, .int .u64 0, .int .u64 0] ∧ Row wr (w.heap.size + 2) 86 #[.int .u64 r0, .int .u64 r1, .int .u64 0, .int .u64 0] ∧ Below w.heap.size w wr) ∨ (i = .int .i64 3 ∧ cv = .int .u64 k3 ∧ Row wr (w.heap.size) 86 #[.int .u64 x0, .int .u64 x1, .int .u64 x2, .int .u64 x3] ∧ Row wr (w.heap.size + 1) 86 #[.int .u64 0, .int .u64 0, .int .u64 0, .int .u64 0] ∧ Row wr (w.heap.size + 2) 86 #[.int .u64 r0, .int .u64 r1, .int .u64 r2, .int .u64 0] ∧ Below w.heap.size w wr) ∨ (i = .int .i64 4 ∧ cv = .int .u64 k4 ∧ Row wr (w.heap.size) 86 #[.int .u64 x0, .int .u64 x1, .int .u64 x2, .int .u64 x3] ∧ Row wr (w.heap.size + 1) 86 #[.int .u64 0, .int .u64 0, .int .u64 0, .int .u64 0] ∧ Row wr (w.heap.size + 2) 86 #[.int .u64 r0, .int .u64 r1, .int .u64 r2, .int .u64 r3] ∧ Below w.heap.size w wr)) (fun _ i _ => 4 - (intOf i).toNat)
  case atStart => exact .inl ⟨rfl, rfl, W0, W1, W2, o⟩
  case round =>
    clear W0 W1 W2 o
    rcases hrel with ⟨rfl, rfl, W0, W1, W2, o⟩ | ⟨rfl, rfl, W0, W1, W2, o⟩ | ⟨rfl, rfl, W0, W1, W2, o⟩ | ⟨rfl, rfl, W0, W1, W2, o⟩ | ⟨rfl, rfl, W0, W1, W2, o⟩
    · obtain ⟨X0, X1, X2, X3, Xf0, Xf1, Xf2, Xf3⟩ := row_four W0
      obtain ⟨O0, O1, O2, O3, Of0, Of1, Of2, Of3⟩ := row_four W2
      go_wp2_with (first | (go_at_call 91; refine (M0.out _).mono ?_; rintro e w' ⟨rfl, h9⟩; obtain rfl := h9.symm) | simp only [add64_0 lo0 0 l0 (Int.le_refl 0)])
      go_roundw
      case rel => exact .inr (.inl ⟨rfl, rfl, row_other W0 (by show w.heap.size ≠ w.heap.size + 2; omega) _, row_other W1 (by show w.heap.size + 1 ≠ w.heap.size + 2; omega) _, row_set W2 0 _, o.setCell (by show w.heap.size ≤ w.heap.size + 2; omega) _⟩)
      case measure => simp [intOf]
    · obtain ⟨X0, X1, X2, X3, Xf0, Xf1, Xf2, Xf3⟩ := row_four W0
      obtain ⟨O0, O1, O2, O3, Of0, Of1, Of2, Of3⟩ := row_four W2
      go_wp2_with (first | (go_at_call 91; refine (M1.out _).mono ?_; rintro e w' ⟨rfl, h9⟩; obtain rfl := h9.symm) | simp only [add64_0 lo1 k1 l1 b1])
      go_roundw
      case rel => exact .inr (.inr (.inl ⟨rfl, rfl, row_other W0 (by show w.heap.size ≠ w.heap.size + 2; omega) _, row_other W1 (by show w.heap.size + 1 ≠ w.heap.size + 2; omega) _, row_set W2 1 _, o.setCell (by show w.heap.size ≤ w.heap.size + 2; omega) _⟩))
      case measure => simp [intOf]
    · obtain ⟨X0, X1, X2, X3, Xf0, Xf1, Xf2, Xf3⟩ := row_four W0
      obtain ⟨O0, O1, O2, O3, Of0, Of1, Of2, Of3⟩ := row_four W2
      go_wp2_with (first | (go_at_call 91; refine (M2.out _).mono ?_; rintro e w' ⟨rfl, h9⟩; obtain rfl := h9.symm) | simp only [add64_0 lo2 k2 l2 b2])
      go_roundw
      case rel => exact .inr (.inr (.inr (.inl ⟨rfl, rfl, row_other W0 (by show w.heap.size ≠ w.heap.size + 2; omega) _, row_other W1 (by show w.heap.size + 1 ≠ w.heap.size + 2; omega) _, row_set W2 2 _, o.setCell (by show w.heap.size ≤ w.heap.size + 2; omega) _⟩)))
      case measure => simp [intOf]
    · obtain ⟨X0, X1, X2, X3, Xf0, Xf1, Xf2, Xf3⟩ := row_four W0
      obtain ⟨O0, O1, O2, O3, Of0, Of1, Of2, Of3⟩ := row_four W2
      go_wp2_with (first | (go_at_call 91; refine (M3.out _).mono ?_; rintro e w' ⟨rfl, h9⟩; obtain rfl := h9.symm) | simp only [add64_0 lo3 k3 l3 b3])
      go_roundw
      case rel => exact .inr (.inr (.inr (.inr (⟨rfl, rfl, row_other W0 (by show w.heap.size ≠ w.heap.size + 2; omega) _, row_other W1 (by show w.heap.size + 1 ≠ w.heap.size + 2; omega) _, row_set W2 3 _, o.setCell (by show w.heap.size ≤ w.heap.size + 2; omega) _⟩))))
      case measure => simp [intOf]
    · obtain ⟨O0, O1, O2, O3, Of0, Of1, Of2, Of3⟩ := row_four W2
      obtain ⟨R0, R1, R2, R3, Rf0, Rf1, Rf2, Rf3⟩ := row_four W1
      have hbge : w.heap.size ≤ w.heap.size + 1 := by omega
      go_wp2
      have R9 : Row ((((wr.setCell ⟨w.heap.size + 1, 0, none⟩ (.int .u64 r0)).setCell ⟨w.heap.size + 1, 1, none⟩ (.int .u64 r1)).setCell ⟨w.heap.size + 1, 2, none⟩ (.int .u64 r2)).setCell ⟨w.heap.size + 1, 3, none⟩ (.int .u64 r3)) (w.heap.size + 1) 86 #[.int .u64 r0, .int .u64 r1, .int .u64 r2, .int .u64 r3] := (row_set (row_set (row_set (row_set W1 0 (.int .u64 r0)) 1 (.int .u64 r1)) 2 (.int .u64 r2)) 3 (.int .u64 r3))
      have o9 : Below w.heap.size w ((((wr.setCell ⟨w.heap.size + 1, 0, none⟩ (.int .u64 r0)).setCell ⟨w.heap.size + 1, 1, none⟩ (.int .u64 r1)).setCell ⟨w.heap.size + 1, 2, none⟩ (.int .u64 r2)).setCell ⟨w.heap.size + 1, 3, none⟩ (.int .u64 r3)) := (Below.setCell (p := ⟨w.heap.size + 1, 3, none⟩) (Below.setCell (p := ⟨w.heap.size + 1, 2, none⟩) (Below.setCell (p := ⟨w.heap.size + 1, 1, none⟩) (Below.setCell (p := ⟨w.heap.size + 1, 0, none⟩) o hbge (.int .u64 r0)) hbge (.int .u64 r1)) hbge (.int .u64 r2)) hbge (.int .u64 r3))
      generalize ((((wr.setCell ⟨w.heap.size + 1, 0, none⟩ (.int .u64 r0)).setCell ⟨w.heap.size + 1, 1, none⟩ (.int .u64 r1)).setCell ⟨w.heap.size + 1, 2, none⟩ (.int .u64 r2)).setCell ⟨w.heap.size + 1, 3, none⟩ (.int .u64 r3)) = w9 at R9 o9 ⊢
      obtain ⟨N0, N1, N2, N3, Nf0, Nf1, Nf2, Nf3⟩ := row_four R9
      exact bodyPost_ret (v := .agg #[.int .u64 r0, .int .u64 r1, .int .u64 r2, .int .u64 r3]) (by simp [results, Try.results62, go_sem, List.getElem?_toArray, N0, N1, N2, N3]) rfl ⟨rfl, o9⟩
theorem ptimes (N n : Nat) (w : World) (hn : n < 18446744073709551616) : Calls Try.prog 62 #[QV N, .int .u64 (n : Nat)] w fun e w' => e = .returned (QV (N * n)) ∧ Below w.heap.size w w' :=
  ptimes_flat _ _ _ _ _ _ _ _ _ _ _ _ N n w hn rfl rfl rfl rfl rfl rfl rfl rfl rfl rfl rfl rfl
end Go.Proofs.Ytaiepjcnncajcaa
end
section
/- Ratios are compared, intervals are valid and hold a number: for ratios that are not negative, walked. -/
set_option linter.unusedVariables false
set_option linter.unusedSimpArgs false
set_option linter.unusedSectionVars false
set_option linter.unnecessarySimpa false
namespace Go.Proofs.Ytaiepjcnncajcaa
open Go.RowKit Go.Shelf
/-- A ratio in lowest terms that is not negative and not large. -/
def RatOK (a b : Nat) : Prop := a < 4611686018427387904 ∧ (1 ≤ b ∧ b ≤ 4294967295) ∧ Nat.gcd a b = 1
theorem pvR {a b : Nat} (h : RatOK a b) (w : World) : Calls Try.prog 60 #[.agg #[.int .i64 (a : Nat), .int .i64 (b : Nat)]] w fun e w' => e = .returned (.bool true) ∧ Below w.heap.size w w' := pratval a b w (by have := h.1; omega) h.2.1.1 (by have := h.2.1.2; omega) h.2.2
theorem pcmpR {a b c d : Nat} (h1 : RatOK a b) (h2 : RatOK c d) (w : World) : Calls Try.prog 81 #[.agg #[.int .i64 (a : Nat), .int .i64 (b : Nat)], .agg #[.int .i64 (c : Nat), .int .i64 (d : Nat)]] w fun e w' => e = .returned (.int .i64 (icmp ((a : Int) * (d : Int)) ((c : Int) * (b : Int)))) ∧ Below w.heap.size w w' := by
  have P1 := Lib.hid (fun w => pvR h1 w)
  have P2 := Lib.hid (fun w => pvR h2 w)
  have P3 := fun w => pcross (a : Int) (d : Int) (c : Int) (b : Int) (by have := h1.1; omega) (by have := h2.2.1.2; omega) (by have := h2.1; omega) (by have := h1.2.1.2; omega) w
  generalize icmp ((a : Int) * (d : Int)) ((c : Int) * (b : Int)) = r at P3 ⊢
  replace P3 := Lib.hid P3
  clear h1 h2
  go_enter Try.func81, Try.ntmps81
  go_wp2_with (first | (go_at_call 60; with_reducible refine (P1.out _).mono ?_; rintro e w1 ⟨rfl, hb1⟩; have hz1 := hb1.size; (try simp at hz1); have o1 : Below w.heap.size w w1 := (by (repeat (first | exact Below.refl _ _ | refine Below.setCell ?_ (by first | (simp; done) | (simp; omega) | omega) _ | refine Below.alloc ?_ (by first | (simp; done) | (simp; omega) | omega) _ | refine Below.drew ?_ | refine Below.trans ?_ (Below.mono (by assumption) (by first | (simp; done) | (simp; omega) | omega))))); have q1_0 : w.heap.size < w1.heap.size := (by omega); have r1_0 : Row w1 (w.heap.size) 35 #[.int .i64 (a : Nat), .int .i64 (b : Nat)] := row_call (by (repeat (first | assumption | (refine row_new ?_; (first | (simp; done) | omega)) | refine row_alloc ?_ _ | refine row_drew ?_ | refine row_call ?_ (by assumption)))) hb1; obtain ⟨c1_0a, c1_0b, f1_0a, f1_0b⟩ := row_two r1_0; have q1_1 : w.heap.size + 1 < w1.heap.size := (by omega); have r1_1 : Row w1 (w.heap.size + 1) 35 #[.int .i64 (c : Nat), .int .i64 (d : Nat)] := row_call (by (repeat (first | assumption | (refine row_new ?_; (first | (simp; done) | omega)) | refine row_alloc ?_ _ | refine row_drew ?_ | refine row_call ?_ (by assumption)))) hb1; obtain ⟨c1_1a, c1_1b, f1_1a, f1_1b⟩ := row_two r1_1) | (go_at_call 60; with_reducible refine (P2.out _).mono ?_; rintro e w2 ⟨rfl, hb2⟩; have hz2 := hb2.size; (try simp at hz2); have o2 : Below w.heap.size w w2 := (by (repeat (first | exact Below.refl _ _ | refine Below.setCell ?_ (by first | (simp; done) | (simp; omega) | omega) _ | refine Below.alloc ?_ (by first | (simp; done) | (simp; omega) | omega) _ | refine Below.drew ?_ | refine Below.trans ?_ (Below.mono (by assumption) (by first | (simp; done) | (simp; omega) | omega))))); have q2_0 : w.heap.size < w2.heap.size := (by omega); have r2_0 : Row w2 (w.heap.size) 35 #[.int .i64 (a : Nat), .int .i64 (b : Nat)] := row_call (by (repeat (first | assumption | (refine row_new ?_; (first | (simp; done) | omega)) | refine row_alloc ?_ _ | refine row_drew ?_ | refine row_call ?_ (by assumption)))) hb2; obtain ⟨c2_0a, c2_0b, f2_0a, f2_0b⟩ := row_two r2_0; have q2_1 : w.heap.size + 1 < w2.heap.size := (by omega); have r2_1 : Row w2 (w.heap.size + 1) 35 #[.int .i64 (c : Nat), .int .i64 (d : Nat)] := row_call (by (repeat (first | assumption | (refine row_new ?_; (first | (simp; done) | omega)) | refine row_alloc ?_ _ | refine row_drew ?_ | refine row_call ?_ (by assumption)))) hb2; obtain ⟨c2_1a, c2_1b, f2_1a, f2_1b⟩ := row_two r2_1) | (go_at_call 106; with_reducible refine (P3.out _).mono ?_; rintro e w3 ⟨rfl, hb3⟩; have hz3 := hb3.size; (try simp at hz3); have o3 : Below w.heap.size w w3 := (by (repeat (first | exact Below.refl _ _ | refine Below.setCell ?_ (by first | (simp; done) | (simp; omega) | omega) _ | refine Below.alloc ?_ (by first | (simp; done) | (simp; omega) | omega) _ | refine Below.drew ?_ | refine Below.trans ?_ (Below.mono (by assumption) (by first | (simp; done) | (simp; omega) | omega)))))))
  go_ret
  exact ⟨rfl, o3⟩
theorem icmp_le {p q : Int} (h : p ≤ q) : icmp p q ≤ 0 := by unfold icmp; split <;> (try split) <;> omega
theorem pleR {a b c d : Nat} (h1 : RatOK a b) (h2 : RatOK c d) (h : a * d ≤ c * b) : ∃ r : Int, r ≤ 0 ∧ ∀ w, Calls Try.prog 81 #[.agg #[.int .i64 (a : Nat), .int .i64 (b : Nat)], .agg #[.int .i64 (c : Nat), .int .i64 (d : Nat)]] w fun e w' => e = .returned (.int .i64 r) ∧ Below w.heap.size w w' :=
  ⟨_, icmp_le (by rw [← Int.natCast_mul, ← Int.natCast_mul]; exact Int.ofNat_le.2 h), fun w => pcmpR h1 h2 w⟩
/-- An interval of ratios with an estimate in it. -/
structure BndOK (l1 l2 m1 m2 h1 h2 : Nat) : Prop where
  lo : RatOK l1 l2
  md : RatOK m1 m2
  hi : RatOK h1 h2
  lm : l1 * m2 ≤ m1 * l2
  mh : m1 * h2 ≤ h1 * m2
set_option maxHeartbeats 1000000 in
theorem pbvalid {l1 l2 m1 m2 h1 h2 : Nat} (h : BndOK l1 l2 m1 m2 h1 h2) (w : World) : Calls Try.prog 59 #[.agg #[.int .i64 (l1 : Nat), .int .i64 (l2 : Nat), .int .i64 (m1 : Nat), .int .i64 (m2 : Nat), .int .i64 (h1 : Nat), .int .i64 (h2 : Nat)]] w fun e w' => e = .returned (.bool true) ∧ Below w.heap.size w w' := by
  have P1 := Lib.hid (fun w => pvR h.lo w)
  have P2 := Lib.hid (fun w => pvR h.md w)
  have P3 := Lib.hid (fun w => pvR h.hi w)
  obtain ⟨r4, i4, P4⟩ := pleR h.lo h.md h.lm
  obtain ⟨r5, i5, P5⟩ := pleR h.md h.hi h.mh
  replace P4 := Lib.hid P4
  replace P5 := Lib.hid P5
  clear h
  go_enter Try.func59, Try.ntmps59
  go_upto_region 1 with (fail)
  have X : Row (w.alloc (.cells #[.int .i64 (l1 : Nat), .int .i64 (l2 : Nat), .int .i64 (m1 : Nat), .int .i64 (m2 : Nat), .int .i64 (h1 : Nat), .int .i64 (h2 : Nat)] 45)) w.heap.size 45 #[.int .i64 (l1 : Nat), .int .i64 (l2 : Nat), .int .i64 (m1 : Nat), .int .i64 (m2 : Nat), .int .i64 (h1 : Nat), .int .i64 (h2 : Nat)] := row_new rfl
  have o : Below w.heap.size w (w.alloc (.cells #[.int .i64 (l1 : Nat), .int .i64 (l2 : Nat), .int .i64 (m1 : Nat), .int .i64 (m2 : Nat), .int .i64 (h1 : Nat), .int .i64 (h2 : Nat)] 45)) := by (repeat (first | exact Below.refl _ _ | refine Below.setCell ?_ (by first | (simp; done) | (simp; omega) | omega) _ | refine Below.alloc ?_ (by first | (simp; done) | (simp; omega) | omega) _ | refine Below.drew ?_ | refine Below.trans ?_ (Below.mono (by assumption) (by first | (simp; done) | (simp; omega) | omega))))
  generalize (w.alloc (.cells #[.int .i64 (l1 : Nat), .int .i64 (l2 : Nat), .int .i64 (m1 : Nat), .int .i64 (m2 : Nat), .int .i64 (h1 : Nat), .int .i64 (h2 : Nat)] 45)) = w0 at X o ⊢
  obtain ⟨X0, X1, X2, X3, X4, X5, Xf0, Xf1, Xf2, Xf3, Xf4, Xf5⟩ := row_six X
  go_wp2_with fail
  refine (P1.out _).mono ?_
  rintro e w1 ⟨rfl, hb⟩
  replace X := row_call X hb
  replace o := o.trans (hb.mono o.size)
  clear hb X0 Xf0 X1 Xf1 X2 Xf2 X3 Xf3 X4 Xf4 X5 Xf5
  obtain ⟨X0, X1, X2, X3, X4, X5, Xf0, Xf1, Xf2, Xf3, Xf4, Xf5⟩ := row_six X
  go_wp2_with fail
  refine (P2.out _).mono ?_
  rintro e w2 ⟨rfl, hb⟩
  replace X := row_call X hb
  replace o := o.trans (hb.mono o.size)
  clear hb X0 Xf0 X1 Xf1 X2 Xf2 X3 Xf3 X4 Xf4 X5 Xf5
  obtain ⟨X0, X1, X2, X3, X4, X5, Xf0, Xf1, Xf2, Xf3, Xf4, Xf5⟩ := row_six X
  go_wp2_with fail
  refine (P3.out _).mono ?_
  rintro e w3 ⟨rfl, hb⟩
  replace X := row_call X hb
  replace o := o.trans (hb.mono o.size)
  clear hb X0 Xf0 X1 Xf1 X2 Xf2 X3 Xf3 X4 Xf4 X5 Xf5
  obtain ⟨X0, X1, X2, X3, X4, X5, Xf0, Xf1, Xf2, Xf3, Xf4, Xf5⟩ := row_six X
  go_wp2_with fail
  refine (P4.out _).mono ?_
  rintro e w4 ⟨rfl, hb⟩
  replace X := row_call X hb
  replace o := o.trans (hb.mono o.size)
  clear hb X0 Xf0 X1 Xf1 X2 Xf2 X3 Xf3 X4 Xf4 X5 Xf5
  obtain ⟨X0, X1, X2, X3, X4, X5, Xf0, Xf1, Xf2, Xf3, Xf4, Xf5⟩ := row_six X
  go_wp2_with fail
  refine (P5.out _).mono ?_
  rintro e w5 ⟨rfl, hb⟩
  replace X := row_call X hb
  replace o := o.trans (hb.mono o.size)
  clear hb X0 Xf0 X1 Xf1 X2 Xf2 X3 Xf3 X4 Xf4 X5 Xf5
  go_wp2
  go_ret
  exact ⟨by first | rfl | (simp; omega), o⟩
theorem pbsize (a : Nat) (h : a < 9223372036854775808) (w : World) : Calls Try.prog 96 #[.int .i64 (a : Nat)] w fun e w' => e = .returned (.int .u64 (a : Nat)) ∧ w' = w := by
  have h0 : ¬ (a : Int) < 0 := by omega
  have hw : IntKind.u64.wrap (a : Int) = a := IntWalk.u64_in _ (by omega)
  go_enter Try.func96, Try.ntmps96
  go_wp2
  go_ret
  exact ⟨rfl, rfl⟩
set_option maxHeartbeats 2000000 in
theorem pwidth {l1 l2 m1 m2 h1 h2 : Nat} (hb : BndOK l1 l2 m1 m2 h1 h2) (hle : l1 * h2 ≤ h1 * l2) (w : World) : Calls Try.prog 61 #[.agg #[.int .i64 (l1 : Nat), .int .i64 (l2 : Nat), .int .i64 (m1 : Nat), .int .i64 (m2 : Nat), .int .i64 (h1 : Nat), .int .i64 (h2 : Nat)]] w fun e w' => e = .returned (W (h1 * l2 - l1 * h2)) ∧ Below w.heap.size w w' := by
  have z1 := hb.hi.1
  have z2 := hb.lo.1
  have z3 := hb.hi.2.1.2
  have z4 := hb.lo.2.1.2
  have PS1 := Lib.hid (fun w => pbsize h1 (by omega) w)
  have PS2 := Lib.hid (fun w => pbsize l1 (by omega) w)
  have PX := fun w => pprodn h1 l2 (by omega) (by omega) w
  have PY := fun w => pprodn l1 h2 (by omega) (by omega) w
  have x1 : h1 * l2 < big := mul_big (by omega) (by omega)
  have y1 : l1 * h2 < big := mul_big (by omega) (by omega)
  have hw1 : IntKind.u64.wrap (l2 : Int) = l2 := IntWalk.u64_in _ (by omega)
  have hw2 : IntKind.u64.wrap (h2 : Int) = h2 := IntWalk.u64_in _ (by omega)
  have n1 : ¬ (h1 : Int) < 0 := by omega
  have n2 : ¬ (l1 : Int) < 0 := by omega
  generalize h1 * l2 = x at PX x1 hle ⊢
  generalize l1 * h2 = y at PY y1 hle ⊢
  have PD := Lib.hid (fun w => psub_yes x y x1 y1 hle w)
  replace PX := Lib.hid PX
  replace PY := Lib.hid PY
  generalize x - y = d at PD ⊢
  clear hb x1 y1 hle z1 z2 z3 z4
  go_enter Try.func61, Try.ntmps61
  go_upto_region 1 with (fail)
  have X : Row ((w.alloc (.cells #[.int .i64 (l1 : Nat), .int .i64 (l2 : Nat), .int .i64 (m1 : Nat), .int .i64 (m2 : Nat), .int .i64 (h1 : Nat), .int .i64 (h2 : Nat)] 45)).alloc (.cells #[.int .u64 0, .int .u64 0] 72)) w.heap.size 45 #[.int .i64 (l1 : Nat), .int .i64 (l2 : Nat), .int .i64 (m1 : Nat), .int .i64 (m2 : Nat), .int .i64 (h1 : Nat), .int .i64 (h2 : Nat)] := row_alloc (row_new rfl) _
  have R : Row ((w.alloc (.cells #[.int .i64 (l1 : Nat), .int .i64 (l2 : Nat), .int .i64 (m1 : Nat), .int .i64 (m2 : Nat), .int .i64 (h1 : Nat), .int .i64 (h2 : Nat)] 45)).alloc (.cells #[.int .u64 0, .int .u64 0] 72)) (w.heap.size + 1) 72 #[.int .u64 0, .int .u64 0] := row_new (by simp)
  have o : Below w.heap.size w ((w.alloc (.cells #[.int .i64 (l1 : Nat), .int .i64 (l2 : Nat), .int .i64 (m1 : Nat), .int .i64 (m2 : Nat), .int .i64 (h1 : Nat), .int .i64 (h2 : Nat)] 45)).alloc (.cells #[.int .u64 0, .int .u64 0] 72)) := by (repeat (first | exact Below.refl _ _ | refine Below.setCell ?_ (by first | (simp; done) | (simp; omega) | omega) _ | refine Below.alloc ?_ (by first | (simp; done) | (simp; omega) | omega) _ | refine Below.drew ?_ | refine Below.trans ?_ (Below.mono (by assumption) (by first | (simp; done) | (simp; omega) | omega))))
  generalize hW : ((w.alloc (.cells #[.int .i64 (l1 : Nat), .int .i64 (l2 : Nat), .int .i64 (m1 : Nat), .int .i64 (m2 : Nat), .int .i64 (h1 : Nat), .int .i64 (h2 : Nat)] 45)).alloc (.cells #[.int .u64 0, .int .u64 0] 72)) = w0 at X R o ⊢
  have rlt := row_lt R
  clear hW
  refine wp_region_free2 [0, 1, 2, 3, 4, 5, 6, 7, 8, 9, 10, 11, 12, 13, 14, 15, 16, 17] [] [0, 1, 2, 3, 4, 5, 6, 7, 8, 9, 10, 11, 12, 13, 14, 15, 16, 17, 18, 19] (18, 72, #[.int .u64 0, .int .u64 0]) (19, 72, #[.int .u64 0, .int .u64 0]) 3 4 20 (fun w' => Row w' (w.heap.size) 45 #[.int .i64 (l1 : Nat), .int .i64 (l2 : Nat), .int .i64 (m1 : Nat), .int .i64 (m2 : Nat), .int .i64 (h1 : Nat), .int .i64 (h2 : Nat)] ∧ Row w' (w.heap.size + 1) 72 #[.int .u64 0, .int .u64 0] ∧ Below w.heap.size w w') (by kernel_rfl) (by kernel_rfl) ⟨_, _, rfl, rfl, rfl, fun ρ w' => by go_simp⟩ ⟨_, _, rfl, rfl, rfl, fun ρ w' => by go_simp⟩ rfl rfl (by simp) (by simp) (fun _ h => ⟨row_alloc h.1 _, row_alloc h.2.1 _, h.2.2.alloc h.2.2.size _⟩) (fun _ h => ⟨row_alloc h.1 _, row_alloc h.2.1 _, h.2.2.alloc h.2.2.size _⟩) (fun _ _ d _ _ h => by cases d <;> exact h) ?_ ?_
  · exact ⟨X, R, o.drew⟩
  (refine plan_pure ?_ rfl rfl (fun w' => ?_) ?_; rotate_left; (go_simp; try with_reducible rfl); simp only [Act.put, List.setIfInBounds_toArray, List.set_cons_zero, List.set_cons_succ])
  (refine plan_pure ?_ rfl rfl (fun w' => ?_) ?_; rotate_left; (go_simp; try with_reducible rfl); simp only [Act.put, List.setIfInBounds_toArray, List.set_cons_zero, List.set_cons_succ])
  (refine plan_val ?_ rfl rfl rfl (fun w' hS => ?_) ?_; rotate_left; (obtain ⟨X0, X1, X2, X3, X4, X5, Xf0, Xf1, Xf2, Xf3, Xf4, Xf5⟩ := row_six hS.1; go_simp; try with_reducible rfl); simp only [Act.put, List.setIfInBounds_toArray, List.set_cons_zero, List.set_cons_succ])
  refine plan_call (.int .u64 (h1 : Nat)) 96 #[.int .i64 (h1 : Nat)] rfl rfl rfl (fun _ _ h hb => ⟨row_call h.1 hb, row_call h.2.1 hb, h.2.2.trans (hb.mono h.2.2.size)⟩) (fun w' hS => by obtain ⟨X0, X1, X2, X3, X4, X5, Xf0, Xf1, Xf2, Xf3, Xf4, Xf5⟩ := row_six hS.1; go_simp) (fun w' hS => (PS1.out w').mono (fun e w'' h => ⟨h.1, by rw [h.2]; exact Below.refl _ _⟩)) ?_
  simp only [Act.put, List.setIfInBounds_toArray, List.set_cons_zero, List.set_cons_succ]
  (refine plan_pure ?_ rfl rfl (fun w' => ?_) ?_; rotate_left; (go_simp; try with_reducible rfl); simp only [Act.put, List.setIfInBounds_toArray, List.set_cons_zero, List.set_cons_succ])
  (refine plan_pure ?_ rfl rfl (fun w' => ?_) ?_; rotate_left; (go_simp; try with_reducible rfl); simp only [Act.put, List.setIfInBounds_toArray, List.set_cons_zero, List.set_cons_succ])
  (refine plan_val ?_ rfl rfl rfl (fun w' hS => ?_) ?_; rotate_left; (obtain ⟨X0, X1, X2, X3, X4, X5, Xf0, Xf1, Xf2, Xf3, Xf4, Xf5⟩ := row_six hS.1; go_simp; try with_reducible rfl); simp only [Act.put, List.setIfInBounds_toArray, List.set_cons_zero, List.set_cons_succ])
  (refine plan_pure ?_ rfl rfl (fun w' => ?_) ?_; rotate_left; (go_simp; try with_reducible rfl); simp only [Act.put, List.setIfInBounds_toArray, List.set_cons_zero, List.set_cons_succ])
  refine plan_call (W x) 50 #[.int .u64 (h1 : Nat), .int .u64 (l2 : Nat)] rfl rfl rfl (fun _ _ h hb => ⟨row_call h.1 hb, row_call h.2.1 hb, h.2.2.trans (hb.mono h.2.2.size)⟩) (fun w' hS => by obtain ⟨X0, X1, X2, X3, X4, X5, Xf0, Xf1, Xf2, Xf3, Xf4, Xf5⟩ := row_six hS.1; go_simp) (fun w' hS => PX.out w') ?_
  simp only [Act.put, List.setIfInBounds_toArray, List.set_cons_zero, List.set_cons_succ]
  (refine plan_pure ?_ rfl rfl (fun w' => ?_) ?_; rotate_left; (go_simp; try with_reducible rfl); simp only [Act.put, List.setIfInBounds_toArray, List.set_cons_zero, List.set_cons_succ])
  (refine plan_pure ?_ rfl rfl (fun w' => ?_) ?_; rotate_left; (go_simp; try with_reducible rfl); simp only [Act.put, List.setIfInBounds_toArray, List.set_cons_zero, List.set_cons_succ])
  (refine plan_val ?_ rfl rfl rfl (fun w' hS => ?_) ?_; rotate_left; (obtain ⟨X0, X1, X2, X3, X4, X5, Xf0, Xf1, Xf2, Xf3, Xf4, Xf5⟩ := row_six hS.1; go_simp; try with_reducible rfl); simp only [Act.put, List.setIfInBounds_toArray, List.set_cons_zero, List.set_cons_succ])
  refine plan_call (.int .u64 (l1 : Nat)) 96 #[.int .i64 (l1 : Nat)] rfl rfl rfl (fun _ _ h hb => ⟨row_call h.1 hb, row_call h.2.1 hb, h.2.2.trans (hb.mono h.2.2.size)⟩) (fun w' hS => by obtain ⟨X0, X1, X2, X3, X4, X5, Xf0, Xf1, Xf2, Xf3, Xf4, Xf5⟩ := row_six hS.1; go_simp) (fun w' hS => (PS2.out w').mono (fun e w'' h => ⟨h.1, by rw [h.2]; exact Below.refl _ _⟩)) ?_
  simp only [Act.put, List.setIfInBounds_toArray, List.set_cons_zero, List.set_cons_succ]
  (refine plan_pure ?_ rfl rfl (fun w' => ?_) ?_; rotate_left; (go_simp; try with_reducible rfl); simp only [Act.put, List.setIfInBounds_toArray, List.set_cons_zero, List.set_cons_succ])
  (refine plan_pure ?_ rfl rfl (fun w' => ?_) ?_; rotate_left; (go_simp; try with_reducible rfl); simp only [Act.put, List.setIfInBounds_toArray, List.set_cons_zero, List.set_cons_succ])
  (refine plan_val ?_ rfl rfl rfl (fun w' hS => ?_) ?_; rotate_left; (obtain ⟨X0, X1, X2, X3, X4, X5, Xf0, Xf1, Xf2, Xf3, Xf4, Xf5⟩ := row_six hS.1; go_simp; try with_reducible rfl); simp only [Act.put, List.setIfInBounds_toArray, List.set_cons_zero, List.set_cons_succ])
  (refine plan_pure ?_ rfl rfl (fun w' => ?_) ?_; rotate_left; (go_simp; try with_reducible rfl); simp only [Act.put, List.setIfInBounds_toArray, List.set_cons_zero, List.set_cons_succ])
  refine plan_call (W y) 50 #[.int .u64 (l1 : Nat), .int .u64 (h2 : Nat)] rfl rfl rfl (fun _ _ h hb => ⟨row_call h.1 hb, row_call h.2.1 hb, h.2.2.trans (hb.mono h.2.2.size)⟩) (fun w' hS => by obtain ⟨X0, X1, X2, X3, X4, X5, Xf0, Xf1, Xf2, Xf3, Xf4, Xf5⟩ := row_six hS.1; go_simp) (fun w' hS => PY.out w') ?_
  simp only [Act.put, List.setIfInBounds_toArray, List.set_cons_zero, List.set_cons_succ]
  refine plan_nil ?_
  intro g1 g2 w3 L hr1 hr2 hne hg1 hg2
  simp only [List.drop_succ_cons, List.drop_zero]
  try simp only [Act.put, List.setIfInBounds_toArray, List.set_cons_zero, List.set_cons_succ]
  obtain ⟨X', R', o'⟩ := L
  clear X R o
  unfold W
  have q1 : w.heap.size + 1 ≠ g1 := by omega
  have q2 : w.heap.size + 1 ≠ g2 := by omega
  have q3 : w.heap.size ≠ g1 := by omega
  have q4 : w.heap.size ≠ g2 := by omega
  have q5 : w.heap.size ≤ g1 := by omega
  have q6 : w.heap.size ≤ g2 := by omega
  obtain ⟨A0, A1, Af0, Af1⟩ := row_two hr1
  obtain ⟨C0, C1, Cf0, Cf1⟩ := row_two hr2
  go_upto_region 2 with (fail)
  have Rg := row_two_other (c := g2) (u := .int .u64 (hi y)) (v := .int .u64 (lo y)) (row_two_set (u := .int .u64 (hi x)) (v := .int .u64 (lo x)) hr1) hne
  have Rk := row_two_set (u := .int .u64 (hi y)) (v := .int .u64 (lo y)) (row_two_other (c := g1) (u := .int .u64 (hi x)) (v := .int .u64 (lo x)) hr2 (Ne.symm hne))
  have X := row_two_other (c := g2) (u := .int .u64 (hi y)) (v := .int .u64 (lo y)) (row_two_other (c := g1) (u := .int .u64 (hi x)) (v := .int .u64 (lo x)) X' q3) q4
  have R := row_two_other (c := g2) (u := .int .u64 (hi y)) (v := .int .u64 (lo y)) (row_two_other (c := g1) (u := .int .u64 (hi x)) (v := .int .u64 (lo x)) R' q1) q2
  have o := (((o'.setCell (p := ⟨g1, 0, none⟩) q5 (.int .u64 (hi x))).setCell (p := ⟨g1, 1, none⟩) q5 (.int .u64 (lo x))).setCell (p := ⟨g2, 0, none⟩) q6 (.int .u64 (hi y))).setCell (p := ⟨g2, 1, none⟩) q6 (.int .u64 (lo y))
  generalize (((w3.setCell ⟨g1, 0, none⟩ (.int .u64 (hi x))).setCell ⟨g1, 1, none⟩ (.int .u64 (lo x))).setCell ⟨g2, 0, none⟩ (.int .u64 (hi y))).setCell ⟨g2, 1, none⟩ (.int .u64 (lo y)) = w5 at Rg Rk X R o ⊢
  clear hr1 hr2 X' R' o' A0 A1 Af0 Af1 C0 C1 Cf0 Cf1
  have gl1 := row_lt Rg
  have gl2 := row_lt Rk
  have rl5 := row_lt R
  go_upto_region 4 with (fail)
  have D := row_new (w := w5) (t := 72) (cs := #[.int .u64 0, .int .u64 0]) rfl
  replace Rg := row_alloc Rg (.cells #[.int .u64 0, .int .u64 0] 72)
  replace Rk := row_alloc Rk (.cells #[.int .u64 0, .int .u64 0] 72)
  replace X := row_alloc X (.cells #[.int .u64 0, .int .u64 0] 72)
  replace R := row_alloc R (.cells #[.int .u64 0, .int .u64 0] 72)
  replace o := o.alloc o.size (.cells #[.int .u64 0, .int .u64 0] 72)
  generalize w5.alloc (.cells #[.int .u64 0, .int .u64 0] 72) = w6 at Rg Rk X R D o ⊢
  have d1 : w.heap.size ≤ w5.heap.size := by omega
  have d2 : w.heap.size + 1 ≠ w5.heap.size := by omega
  generalize w5.heap.size = db at D d1 d2 gl1 gl2 rl5 ⊢
  obtain ⟨X0, X1, X2, X3, X4, X5, Xf0, Xf1, Xf2, Xf3, Xf4, Xf5⟩ := row_six X
  obtain ⟨A0, A1, Af0, Af1⟩ := row_two Rg
  obtain ⟨C0, C1, Cf0, Cf1⟩ := row_two Rk
  have PD2 := PD.out
  unfold W at PD2
  replace PD2 := Lib.hid PD2
  go_wp2_with fail
  refine (PD2.out _).mono ?_
  rintro e w7 ⟨rfl, hb⟩
  replace D := row_call D hb
  replace R := row_call R hb
  replace o := o.trans (hb.mono o.size)
  clear hb X X0 X1 X2 X3 X4 X5 Xf0 Xf1 Xf2 Xf3 Xf4 Xf5 Rg Rk A0 A1 Af0 Af1 C0 C1 Cf0 Cf1
  obtain ⟨D0, D1, Df0, Df1⟩ := row_two D
  go_upto_region 8 with (fail)
  have D' := row_two_set (u := .int .u64 (hi d)) (v := .int .u64 (lo d)) D
  replace R := row_two_other (c := db) (u := .int .u64 (hi d)) (v := .int .u64 (lo d)) R d2
  replace o := (o.setCell (p := ⟨db, 0, none⟩) d1 (.int .u64 (hi d))).setCell (p := ⟨db, 1, none⟩) d1 (.int .u64 (lo d))
  generalize (w7.setCell ⟨db, 0, none⟩ (.int .u64 (hi d))).setCell ⟨db, 1, none⟩ (.int .u64 (lo d)) = w8 at D' R o ⊢
  clear D D0 D1 Df0 Df1
  obtain ⟨D0, D1, Df0, Df1⟩ := row_two D'
  obtain ⟨R0, R1, Rf0, Rf1⟩ := row_two R
  go_wp2
  have r9 := row_two_set (u := .int .u64 (hi d)) (v := .int .u64 (lo d)) R
  have hbr : w.heap.size ≤ w.heap.size + 1 := by omega
  have o9 : Below w.heap.size w ((w8.setCell ⟨w.heap.size + 1, 0, none⟩ (.int .u64 (hi d))).setCell ⟨w.heap.size + 1, 1, none⟩ (.int .u64 (lo d))) := (o.setCell (p := ⟨w.heap.size + 1, 0, none⟩) hbr (.int .u64 (hi d))).setCell (p := ⟨w.heap.size + 1, 1, none⟩) hbr (.int .u64 (lo d))
  generalize (w8.setCell ⟨w.heap.size + 1, 0, none⟩ (.int .u64 (hi d))).setCell ⟨w.heap.size + 1, 1, none⟩ (.int .u64 (lo d)) = w9 at r9 o9 ⊢
  obtain ⟨e1, e2, _, _⟩ := row_two r9
  exact bodyPost_ret (v := W d) (by simp [results, Try.results61, go_sem, W, e1, e2]) rfl ⟨rfl, o9⟩
end Go.Proofs.Ytaiepjcnncajcaa
end
section
/- Ratios of spreads in lowest terms: their order, what lies between, what is narrow; plain. -/
set_option linter.unusedVariables false
set_option linter.unusedSimpArgs false
set_option linter.unusedSectionVars false
set_option linter.unnecessarySimpa false
namespace Go.Proofs.Ytaiepjcnncajcaa
def rn (T n : Nat) : Nat := T / Nat.gcd T n
def rd (T n : Nat) : Nat := n / Nat.gcd T n
theorem rat_g {T n : Nat} (hn : 1 ≤ n) : ∃ g, 1 ≤ g ∧ T = rn T n * g ∧ n = rd T n * g ∧ g = Nat.gcd T n := by
  have hg : 0 < Nat.gcd T n := Nat.gcd_pos_of_pos_right _ (by omega)
  exact ⟨_, hg, (Nat.div_mul_cancel (Nat.gcd_dvd_left T n)).symm, (Nat.div_mul_cancel (Nat.gcd_dvd_right T n)).symm, rfl⟩
theorem rat_ok {T n : Nat} (hT : T < 4611686018427387904) (hn : 1 ≤ n) (hn2 : n ≤ 65536) : RatOK (rn T n) (rd T n) := by
  have hg : 0 < Nat.gcd T n := Nat.gcd_pos_of_pos_right _ (by omega)
  have h1 : rn T n ≤ T := Nat.div_le_self _ _
  have h2 : rd T n ≤ n := Nat.div_le_self _ _
  obtain ⟨g, g1, _, e2, _⟩ := rat_g (T := T) hn
  refine ⟨by omega, ⟨?_, by omega⟩, by unfold rn rd; rw [Nat.gcd_div (Nat.gcd_dvd_left T n) (Nat.gcd_dvd_right T n), Nat.div_self hg]⟩
  rcases Nat.eq_zero_or_pos (rd T n) with h | h
  · rw [h, Nat.zero_mul] at e2; omega
  · exact h
theorem rat_le {T n T' n' : Nat} (hn : 1 ≤ n) (hn' : 1 ≤ n') (h : T * n' ≤ T' * n) : rn T n * rd T' n' ≤ rn T' n' * rd T n := by
  obtain ⟨g, g1, e1, e2, _⟩ := rat_g (T := T) hn
  obtain ⟨g', g1', e1', e2', _⟩ := rat_g (T := T') hn'
  generalize rn T n = a at *
  generalize rd T n = b at *
  generalize rn T' n' = c at *
  generalize rd T' n' = d at *
  subst e1 e2 e1' e2'
  have : (a * d) * (g * g') ≤ (c * b) * (g * g') := by grind
  exact Nat.le_of_mul_le_mul_right this (Nat.mul_pos g1 g1')
theorem rat_within {k T1 n1 T2 n2 T n : Nat} (h1 : 1 ≤ n1) (h2 : 1 ≤ n2) (hn : 1 ≤ n) (hle : T2 * n1 ≤ T1 * n2) (h : k * (T1 * n2 - T2 * n1) * n ≤ T * (n2 * n1)) :
    k * (rn T1 n1 * rd T2 n2 - rn T2 n2 * rd T1 n1) * rd T n ≤ rn T n * (rd T2 n2 * rd T1 n1) := by
  obtain ⟨g1, q1, e1, f1, _⟩ := rat_g (T := T1) h1
  obtain ⟨g2, q2, e2, f2, _⟩ := rat_g (T := T2) h2
  obtain ⟨g, q, e, f, _⟩ := rat_g (T := T) hn
  generalize rn T1 n1 = a1 at *
  generalize rd T1 n1 = b1 at *
  generalize rn T2 n2 = a2 at *
  generalize rd T2 n2 = b2 at *
  generalize rn T n = a at *
  generalize rd T n = b at *
  subst e1 f1 e2 f2 e f
  have s : a1 * g1 * (b2 * g2) - a2 * g2 * (b1 * g1) = (a1 * b2 - a2 * b1) * (g1 * g2) := by
    rw [Nat.sub_mul]
    congr 1 <;> grind
  rw [s] at h
  generalize a1 * b2 - a2 * b1 = d at *
  have : (k * d * b) * (g1 * g2 * g) ≤ (a * (b2 * b1)) * (g1 * g2 * g) := by grind
  exact Nat.le_of_mul_le_mul_right this (Nat.mul_pos (Nat.mul_pos q1 q2) q)
/-- A mark's spread as a ratio that is not in lowest terms. -/
def mT (m : Mk) : Nat := topN m.n m.s m.q
def mN (m : Mk) : Nat := m.n.toNat
/-- The bounds of an answer, as the marks that they are of. -/
def loT (now wd : Int) (l : List Mk) : Nat := if l = [] then 0 else if now - wd < (mkAt l 0).t then mT (mkAt l 0) else mT (mkAt l 1)
def loN (now wd : Int) (l : List Mk) : Nat := if l = [] then 1 else if now - wd < (mkAt l 0).t then mN (mkAt l 0) else mN (mkAt l 1)
def hiT (now wd : Int) (l : List Mk) : Nat := if l = [] then 0 else if now - wd < (mkAt l 0).t then mT (mkAt l 0) else if (mkAt l 1).seq = (mkAt l 0).seq + 1 then mT (mkAt l 1) else mT (mkAt l 0)
def hiN (now wd : Int) (l : List Mk) : Nat := if l = [] then 1 else if now - wd < (mkAt l 0).t then mN (mkAt l 0) else if (mkAt l 1).seq = (mkAt l 0).seq + 1 then mN (mkAt l 1) else mN (mkAt l 0)
/-- The spread of items times their number; the number. -/
def itT (l : List Itm) : Nat := (l.length * isq l - isum l * isum l : Int).toNat
def itN (l : List Itm) : Nat := max l.length 1
/-- Items ahead of others. -/
theorem isq_isum : ∀ l : List Itm, 0 ≤ tpI l.length (isum l) (isq l)
  | [] => by simp [tpI, isum, isq]
  | x :: l => by
    have ih := isq_isum l
    have := tpI_snoc (n := l.length) (s := isum l) (q := isq l) (v := x.v) (by omega) ih (fun e => by
      have : l = [] := List.eq_nil_of_length_eq_zero (by omega)
      rw [this]; exact ⟨rfl, rfl⟩)
    rw [isum, isq, List.length_cons]
    rw [show ((l.length + 1 : Nat) : Int) = (l.length : Int) + 1 by omega, Int.add_comm x.v, Int.add_comm (x.v * x.v)]
    exact this
theorem itT_eq (l : List Itm) : (itT l : Int) = tpI l.length (isum l) (isq l) := by
  have := isq_isum l
  unfold itT
  unfold tpI at *
  omega
theorem it_mono (a b : List Itm) (hb : b ≠ []) : itT b * itN (a ++ b) ≤ itT (a ++ b) * itN b := by
  have hbl : 1 ≤ b.length := by cases b with | nil => exact absurd rfl hb | cons x b => simp
  have h := spread_mono (o := a.length) (g := b.length) (sO := isum a) (qO := isq a) (sG := isum b) (qG := isq b) (by omega) (by omega) (isq_isum a) (fun e => by
    have : a = [] := List.eq_nil_of_length_eq_zero (by omega)
    rw [this]; exact ⟨rfl, rfl⟩)
  rw [← itT_eq b, ← isum_append, ← isq_append, show (a.length : Int) + (b.length : Int) = ((a ++ b).length : Int) by simp, ← itT_eq (a ++ b)] at h
  have e1 : itN (a ++ b) = (a ++ b).length := by unfold itN; simp; omega
  have e2 : itN b = b.length := by unfold itN; omega
  rw [e1, e2]
  have h' : ((itT b * (a ++ b).length : Nat) : Int) ≤ ((itT (a ++ b) * b.length : Nat) : Int) := by rw [Int.natCast_mul, Int.natCast_mul]; exact h
  omega
/-- What is said of the bounds and the exact spread of the live items. -/
structure SpTrue (k lT lN hT hN vT vN : Nat) : Prop where
  lo : RatOK (rn lT lN) (rd lT lN)
  hi : RatOK (rn hT hN) (rd hT hN)
  v : RatOK (rn vT vN) (rd vT vN)
  l1 : 1 ≤ lN
  h1 : 1 ≤ hN
  v1 : 1 ≤ vN
  lv : lT * vN ≤ vT * lN
  vh : vT * hN ≤ hT * vN
  lh : lT * hN ≤ hT * lN
  nar : k * (hT * lN - lT * hN) * vN ≤ vT * (lN * hN)
end Go.Proofs.Ytaiepjcnncajcaa
end
section
/- Windows, live items and extremes, walked. -/
set_option linter.unusedVariables false
set_option linter.unusedSimpArgs false
set_option linter.unusedSectionVars false
set_option linter.unnecessarySimpa false
namespace Go.Proofs.Ytaiepjcnncajcaa
open Go.RowKit
/-- The capacity that a number is turned into. -/
def mcap (c : Int) : Int := if c % 4 = 0 then 65536 else if c % 4 = 1 then 200 else 1 + c % 40
set_option maxHeartbeats 2000000 in
theorem rmin (A : Option Addr) (m c : Nat) (l : List Itm) (w : World) (hin : Reads w w.heap.size 2 A m (icells l)) (hm : m ≤ 100000) (hm0 : 0 < m) :
    Calls Try.prog 58 #[.slice A m c, .bool false] w fun e w' => ∃ v, e = .returned (.tuple #[.int .i64 v, .bool true]) ∧ IsMin l v ∧ Below w.heap.size w w' := by
  have HL := Lib.hid hin.itm_len
  obtain ⟨ad, rfl, hadb, ht0⟩ := hin.itm hm0
  have HR := Lib.hid hin
  obtain ⟨p0, p1⟩ := ht0
  have IN0 := Lib.hid (show (∃ x ∈ l, x.v = (itmAt l 0).v) from ⟨itmAt l 0, by rw [← itm_eq (by rw [HL.out]; exact hm0)]; exact List.getElem_mem _, rfl⟩)
  generalize (itmAt l 0).v = v0 at p1 IN0
  generalize (itmAt l 0).t = t0 at p0
  have p1' : w.cell? ⟨ad.block, ad.off + 1, none⟩ = some (.int .i64 v0) := p1
  have mz : ((m : Int) == 0) = false := by simp; omega
  have g0 : (0 : Int) < (m : Int) := by omega
  clear hin
  go_enter Try.func58, Try.ntmps58
  go_wp2
  go_loopw [6, 18] (fun x i wr => ∃ (k : Nat) (v : Int), k ≤ m ∧ i = .int .i64 (k : Nat) ∧ x = .int .i64 v ∧ RowKit.Hid ((∃ y ∈ l, y.v = v) ∧ ∀ j, j < k → v ≤ (itmAt l j).v) ∧ Below w.heap.size w wr) (fun _ i _ => m - (intOf i).toNat)
  case atStart => exact ⟨0, v0, by omega, rfl, rfl, Lib.hid ⟨IN0.out, fun j h => absurd h (by omega)⟩, Below.refl _ _⟩
  case round =>
    clear p0 p1 p1' IN0
    obtain ⟨k, v, hk, rfl, rfl, HV, hb⟩ := hrel
    by_cases hlt : k < m
    · obtain ⟨ad', e', hadb', hi0⟩ := HR.out.itm hlt
      obtain rfl := Option.some.inj e'
      obtain ⟨c0, c1⟩ := hi0.below hb (by rw [block_of_add]; exact hadb')
      have MEM : ∃ y ∈ l, y.v = (itmAt l k).v := ⟨itmAt l k, by rw [← itm_eq (by rw [HL.out]; exact hlt)]; exact List.getElem_mem _, rfl⟩
      have NX : ∀ vn, ((∃ y ∈ l, y.v = vn) ∧ (vn ≤ v) ∧ vn ≤ (itmAt l k).v) → RowKit.Hid ((∃ y ∈ l, y.v = vn) ∧ ∀ j, j < k + 1 → vn ≤ (itmAt l j).v) := fun vn h => Lib.hid ⟨h.1, fun j hj => by
        by_cases e : j = k
        · rw [e]; exact h.2.2
        · have := HV.out.2 j (by omega); have := h.2.1; omega⟩
      have HVV := HV.out.1
      generalize (itmAt l k).v = vk at c1 MEM NX
      generalize (itmAt l k).t = tk at c0
      have i2 : (k : Int) < (m : Int) := by omega
      have i4 : (0 : Int) ≤ (k : Int) := by omega
      have zb := hb.size
      clear hi0 e'
      by_cases ct : vk < v
      · have NH := NX vk ⟨MEM, by omega, by omega⟩
        clear NX MEM HVV
        go_wp2
        go_roundw
        case rel => exact ⟨k + 1, vk, by omega, by go_num, rfl, NH, hb.alloc zb _⟩
        case measure => simp [intOf]; omega
      · have NH := NX v ⟨HVV, by omega, by omega⟩
        clear NX MEM HVV
        go_wp2
        go_roundw
        case rel => exact ⟨k + 1, v, by omega, by go_num, rfl, NH, hb.alloc zb _⟩
        case measure => simp [intOf]; omega
    · have i2 : ¬ (k : Int) < (m : Int) := by omega
      obtain rfl : k = m := by omega
      have FIN : IsMin l v := ⟨HV.out.1, fun y hy => by
        obtain ⟨j, hj, e⟩ := List.getElem_of_mem hy
        have := HV.out.2 j (by rw [← HL.out]; exact hj)
        rw [← itm_eq hj, e] at this
        exact this⟩
      go_wp2
      exact bodyPost_ret (v := .tuple #[.int .i64 v, .bool true]) (by simp [results, Try.results58, go_sem]) rfl ⟨v, rfl, FIN, hb⟩
set_option maxHeartbeats 2000000 in
theorem rmax (A : Option Addr) (m c : Nat) (l : List Itm) (w : World) (hin : Reads w w.heap.size 2 A m (icells l)) (hm : m ≤ 100000) (hm0 : 0 < m) :
    Calls Try.prog 58 #[.slice A m c, .bool true] w fun e w' => ∃ v, e = .returned (.tuple #[.int .i64 v, .bool true]) ∧ IsMax l v ∧ Below w.heap.size w w' := by
  have HL := Lib.hid hin.itm_len
  obtain ⟨ad, rfl, hadb, ht0⟩ := hin.itm hm0
  have HR := Lib.hid hin
  obtain ⟨p0, p1⟩ := ht0
  have IN0 := Lib.hid (show (∃ x ∈ l, x.v = (itmAt l 0).v) from ⟨itmAt l 0, by rw [← itm_eq (by rw [HL.out]; exact hm0)]; exact List.getElem_mem _, rfl⟩)
  generalize (itmAt l 0).v = v0 at p1 IN0
  generalize (itmAt l 0).t = t0 at p0
  have p1' : w.cell? ⟨ad.block, ad.off + 1, none⟩ = some (.int .i64 v0) := p1
  have mz : ((m : Int) == 0) = false := by simp; omega
  have g0 : (0 : Int) < (m : Int) := by omega
  clear hin
  go_enter Try.func58, Try.ntmps58
  go_wp2
  go_loopw [6, 18] (fun x i wr => ∃ (k : Nat) (v : Int), k ≤ m ∧ i = .int .i64 (k : Nat) ∧ x = .int .i64 v ∧ RowKit.Hid ((∃ y ∈ l, y.v = v) ∧ ∀ j, j < k → (itmAt l j).v ≤ v) ∧ Below w.heap.size w wr) (fun _ i _ => m - (intOf i).toNat)
  case atStart => exact ⟨0, v0, by omega, rfl, rfl, Lib.hid ⟨IN0.out, fun j h => absurd h (by omega)⟩, Below.refl _ _⟩
  case round =>
    clear p0 p1 p1' IN0
    obtain ⟨k, v, hk, rfl, rfl, HV, hb⟩ := hrel
    by_cases hlt : k < m
    · obtain ⟨ad', e', hadb', hi0⟩ := HR.out.itm hlt
      obtain rfl := Option.some.inj e'
      obtain ⟨c0, c1⟩ := hi0.below hb (by rw [block_of_add]; exact hadb')
      have MEM : ∃ y ∈ l, y.v = (itmAt l k).v := ⟨itmAt l k, by rw [← itm_eq (by rw [HL.out]; exact hlt)]; exact List.getElem_mem _, rfl⟩
      have NX : ∀ vn, ((∃ y ∈ l, y.v = vn) ∧ (v ≤ vn) ∧ (itmAt l k).v ≤ vn) → RowKit.Hid ((∃ y ∈ l, y.v = vn) ∧ ∀ j, j < k + 1 → (itmAt l j).v ≤ vn) := fun vn h => Lib.hid ⟨h.1, fun j hj => by
        by_cases e : j = k
        · rw [e]; exact h.2.2
        · have := HV.out.2 j (by omega); have := h.2.1; omega⟩
      have HVV := HV.out.1
      generalize (itmAt l k).v = vk at c1 MEM NX
      generalize (itmAt l k).t = tk at c0
      have i2 : (k : Int) < (m : Int) := by omega
      have i4 : (0 : Int) ≤ (k : Int) := by omega
      have zb := hb.size
      clear hi0 e'
      by_cases ct : v < vk
      · have NH := NX vk ⟨MEM, by omega, by omega⟩
        clear NX MEM HVV
        go_wp2
        go_roundw
        case rel => exact ⟨k + 1, vk, by omega, by go_num, rfl, NH, hb.alloc zb _⟩
        case measure => simp [intOf]; omega
      · have NH := NX v ⟨HVV, by omega, by omega⟩
        clear NX MEM HVV
        go_wp2
        go_roundw
        case rel => exact ⟨k + 1, v, by omega, by go_num, rfl, NH, hb.alloc zb _⟩
        case measure => simp [intOf]; omega
    · have i2 : ¬ (k : Int) < (m : Int) := by omega
      obtain rfl : k = m := by omega
      have FIN : IsMax l v := ⟨HV.out.1, fun y hy => by
        obtain ⟨j, hj, e⟩ := List.getElem_of_mem hy
        have := HV.out.2 j (by rw [← HL.out]; exact hj)
        rw [← itm_eq hj, e] at this
        exact this⟩
      go_wp2
      exact bodyPost_ret (v := .tuple #[.int .i64 v, .bool true]) (by simp [results, Try.results58, go_sem]) rfl ⟨v, rfl, FIN, hb⟩
theorem isum_bd : ∀ l : List Itm, (∀ x ∈ l, -4096 ≤ x.v ∧ x.v ≤ 4096) → -4096 * (l.length : Int) ≤ isum l ∧ isum l ≤ 4096 * (l.length : Int)
  | [], _ => by simp [isum]
  | x :: l, h => by
    have h1 := isum_bd l (fun y hy => h y (by simp [hy]))
    have h2 := h x (by simp)
    rw [isum, List.length_cons]
    omega
theorem isq_bd : ∀ l : List Itm, (∀ x ∈ l, -4096 ≤ x.v ∧ x.v ≤ 4096) → 0 ≤ isq l ∧ isq l ≤ 16777216 * (l.length : Int)
  | [], _ => by simp [isq]
  | x :: l, h => by
    have h1 := isq_bd l (fun y hy => h y (by simp [hy]))
    have h2 := h x (by simp)
    have h3 := vv_small h2.1 h2.2
    rw [isq, List.length_cons]
    omega
theorem isum_take {l : List Itm} {k : Nat} (h : k < l.length) : isum (l.take (k + 1)) = isum (l.take k) + (itmAt l k).v := by
  rw [List.take_succ_eq_append_getElem h, itm_eq h, isum_append]
  simp [isum]
theorem isq_take {l : List Itm} {k : Nat} (h : k < l.length) : isq (l.take (k + 1)) = isq (l.take k) + (itmAt l k).v * (itmAt l k).v := by
  rw [List.take_succ_eq_append_getElem h, itm_eq h, isq_append]
  simp [isq]
/-- What the loop of 'truth' adds up. -/
def tsum (agg : Int) (l : List Itm) : Int := if agg = 1 then l.length else if agg = 2 then isum l else if agg = 3 then isq l else 0
/-- What an item adds. -/
def tone (agg v : Int) : Int := if agg = 1 then 1 else if agg = 2 then v else if agg = 3 then v * v else 0
end Go.Proofs.Ytaiepjcnncajcaa
end
section
/- Spreads of marks: the reference's spread of a mark; the law of marks, walked. -/
set_option linter.unusedVariables false
set_option linter.unusedSimpArgs false
set_option linter.unusedSectionVars false
set_option linter.unnecessarySimpa false
namespace Go.Proofs.Ytaiepjcnncajcaa
open Go.RowKit Go.Shelf
theorem rabs (a : Int) (h0 : 0 ≤ a) (h : a < 9223372036854775808) (w : World) : Calls Try.prog 89 #[.int .i64 a] w fun e w' => e = .returned (.int .u64 a) ∧ w' = w := by
  have t0 : ¬ a < 0 := by omega
  have wa : IntKind.u64.wrap a = a := IntWalk.u64_in _ (by omega)
  clear h h0
  go_enter Try.func89, Try.ntmps89
  go_wp2
  go_ret
  exact ⟨rfl, rfl⟩
set_option maxHeartbeats 4000000 in
theorem rreduced (a b : Nat) (ha : a < 9223372036854775808) (hb : b < 9223372036854775808) (h : b ≠ 0) (w : World) :
    Calls Try.prog 87 #[.bool false, W a, W b] w fun e w' => e = .returned (.tuple #[.agg #[.int .i64 ((a / Nat.gcd a b : Nat) : Int), .int .i64 ((b / Nat.gcd a b : Nat) : Int)], .bool true]) ∧ Below w.heap.size w w' := by
  have PG := Lib.hid (fun w => rgcd a b (by unfold big; omega) (by unfold big; omega) w)
  have g0 : Nat.gcd a b ≠ 0 := by
    intro e
    exact h (Nat.gcd_eq_zero_iff.1 e).2
  have gb : Nat.gcd a b ≤ b := Nat.gcd_le_right _ (by omega)
  have PA := Lib.hid (fun w => rdiv_yes a (Nat.gcd a b) (by unfold big; omega) (by unfold big; omega) g0 w)
  have PB := Lib.hid (fun w => rdiv_yes b (Nat.gcd a b) (by unfold big; omega) (by unfold big; omega) g0 w)
  have qa : a / Nat.gcd a b ≤ a := Nat.div_le_self _ _
  have qb : b / Nat.gcd a b ≤ b := Nat.div_le_self _ _
  generalize Nat.gcd a b = g at PG PA PB qa qb ⊢
  generalize a % g = ra at PA
  generalize b % g = rb at PB
  generalize a / g = x at PA qa ⊢
  generalize b / g = y at PB qb ⊢
  have e1 := hi_small (n := x) (by omega)
  have e2 := lo_small (n := x) (by omega)
  have e3 := hi_small (n := y) (by omega)
  have e4 := lo_small (n := y) (by omega)
  have u1 : (0 : Int) ≤ (x : Int) ∧ (x : Int) < 9223372036854775808 := by omega
  have u2 : (0 : Int) ≤ (y : Int) ∧ (y : Int) < 9223372036854775808 := by omega
  have ALL := Lib.hid (And.intro e1 (And.intro e2 (And.intro e3 (And.intro e4 (And.intro u1 u2)))))
  clear g0 gb e1 e2 e3 e4 u1 u2 qa qb ha hb
  go_enter Try.func87, Try.ntmps87
  go_upto_region 1 with (fail)
  have X : Row (((w.alloc (.cells #[.int .u64 (hi a), .int .u64 (lo a)] 72)).alloc (.cells #[.int .u64 (hi b), .int .u64 (lo b)] 72)).alloc (.cells #[.int .i64 0, .int .i64 0] 35)) w.heap.size 72 #[.int .u64 (hi a), .int .u64 (lo a)] := row_alloc (row_alloc (row_new rfl) _) _
  have Y : Row (((w.alloc (.cells #[.int .u64 (hi a), .int .u64 (lo a)] 72)).alloc (.cells #[.int .u64 (hi b), .int .u64 (lo b)] 72)).alloc (.cells #[.int .i64 0, .int .i64 0] 35)) (w.heap.size + 1) 72 #[.int .u64 (hi b), .int .u64 (lo b)] := row_alloc (row_new (by simp)) _
  have R : Row (((w.alloc (.cells #[.int .u64 (hi a), .int .u64 (lo a)] 72)).alloc (.cells #[.int .u64 (hi b), .int .u64 (lo b)] 72)).alloc (.cells #[.int .i64 0, .int .i64 0] 35)) (w.heap.size + 1 + 1) 35 #[.int .i64 0, .int .i64 0] := row_new (by simp)
  have o : Below w.heap.size w (((w.alloc (.cells #[.int .u64 (hi a), .int .u64 (lo a)] 72)).alloc (.cells #[.int .u64 (hi b), .int .u64 (lo b)] 72)).alloc (.cells #[.int .i64 0, .int .i64 0] 35)) := by (repeat (first | exact Below.refl _ _ | refine Below.setCell ?_ (by first | (simp; done) | (simp; omega) | omega) _ | refine Below.alloc ?_ (by first | (simp; done) | (simp; omega) | omega) _ | refine Below.drew ?_ | refine Below.trans ?_ (Below.mono (by assumption) (by first | (simp; done) | (simp; omega) | omega))))
  have z3 : w.heap.size + 1 + 1 < (((w.alloc (.cells #[.int .u64 (hi a), .int .u64 (lo a)] 72)).alloc (.cells #[.int .u64 (hi b), .int .u64 (lo b)] 72)).alloc (.cells #[.int .i64 0, .int .i64 0] 35)).heap.size := row_lt R
  generalize (((w.alloc (.cells #[.int .u64 (hi a), .int .u64 (lo a)] 72)).alloc (.cells #[.int .u64 (hi b), .int .u64 (lo b)] 72)).alloc (.cells #[.int .i64 0, .int .i64 0] 35)) = w3 at X Y R o z3 ⊢
  obtain ⟨X0, X1, X2, X3⟩ := row_two X
  obtain ⟨Y0, Y1, Y2, Y3⟩ := row_two Y
  go_wp2_with fail
  refine (PG.out _).mono ?_
  rintro e w4 ⟨rfl, hb4⟩
  clear X0 X1 X2 X3 Y0 Y1 Y2 Y3
  have X := row_call X hb4
  have Y := row_call Y hb4
  have R := row_call R hb4
  have o := o.trans (hb4.mono o.size)
  have z4 := hb4.size
  go_upto_region 2 with (fail)
  have X := row_alloc X (.cells #[.int .u64 (hi g), .int .u64 (lo g)] 72)
  have Y := row_alloc Y (.cells #[.int .u64 (hi g), .int .u64 (lo g)] 72)
  have R := row_alloc R (.cells #[.int .u64 (hi g), .int .u64 (lo g)] 72)
  have G : Row (w4.alloc (.cells #[.int .u64 (hi g), .int .u64 (lo g)] 72)) w4.heap.size 72 #[.int .u64 (hi g), .int .u64 (lo g)] := row_new rfl
  have o := o.alloc o.size (.cells #[.int .u64 (hi g), .int .u64 (lo g)] 72)
  generalize w4.alloc (.cells #[.int .u64 (hi g), .int .u64 (lo g)] 72) = w5 at X Y R G o ⊢
  generalize w4.heap.size = gb at G z4 ⊢
  obtain ⟨X0, X1, X2, X3⟩ := row_two X
  obtain ⟨G0, G1, G2, G3⟩ := row_two G
  go_wp2_with fail
  refine (PA.out _).mono ?_
  rintro e w6 ⟨rfl, hb6⟩
  clear X0 X1 X2 X3 G0 G1 G2 G3 X
  have Y := row_call Y hb6
  have R := row_call R hb6
  have G := row_call G hb6
  have o := o.trans (hb6.mono o.size)
  have z6 := hb6.size
  go_upto_region 3 with (fail)
  have N : Row ((w6.alloc (.cells #[.int .u64 (hi x), .int .u64 (lo x)] 72)).alloc (.cells #[.int .u64 (hi ra), .int .u64 (lo ra)] 72)) w6.heap.size 72 #[.int .u64 (hi x), .int .u64 (lo x)] := row_alloc (row_new rfl) _
  have Y := row_alloc (row_alloc Y (.cells #[.int .u64 (hi x), .int .u64 (lo x)] 72)) (.cells #[.int .u64 (hi ra), .int .u64 (lo ra)] 72)
  have R := row_alloc (row_alloc R (.cells #[.int .u64 (hi x), .int .u64 (lo x)] 72)) (.cells #[.int .u64 (hi ra), .int .u64 (lo ra)] 72)
  have G := row_alloc (row_alloc G (.cells #[.int .u64 (hi x), .int .u64 (lo x)] 72)) (.cells #[.int .u64 (hi ra), .int .u64 (lo ra)] 72)
  have o : Below w.heap.size w ((w6.alloc (.cells #[.int .u64 (hi x), .int .u64 (lo x)] 72)).alloc (.cells #[.int .u64 (hi ra), .int .u64 (lo ra)] 72)) := (o.alloc o.size _).alloc (by have := o.size; simp; omega) _
  generalize ((w6.alloc (.cells #[.int .u64 (hi x), .int .u64 (lo x)] 72)).alloc (.cells #[.int .u64 (hi ra), .int .u64 (lo ra)] 72)) = w7 at N Y R G o ⊢
  generalize w6.heap.size = nb at N z6 ⊢
  obtain ⟨Y0, Y1, Y2, Y3⟩ := row_two Y
  obtain ⟨G0, G1, G2, G3⟩ := row_two G
  go_wp2_with fail
  refine (PB.out _).mono ?_
  rintro e w8 ⟨rfl, hb8⟩
  clear Y0 Y1 Y2 Y3 G0 G1 G2 G3 G Y
  have N := row_call N hb8
  have R := row_call R hb8
  have o := o.trans (hb8.mono o.size)
  go_upto_region 4 with (fail)
  have D : Row ((w8.alloc (.cells #[.int .u64 (hi y), .int .u64 (lo y)] 72)).alloc (.cells #[.int .u64 (hi rb), .int .u64 (lo rb)] 72)) w8.heap.size 72 #[.int .u64 (hi y), .int .u64 (lo y)] := row_alloc (row_new rfl) _
  have N := row_alloc (row_alloc N (.cells #[.int .u64 (hi y), .int .u64 (lo y)] 72)) (.cells #[.int .u64 (hi rb), .int .u64 (lo rb)] 72)
  have R := row_alloc (row_alloc R (.cells #[.int .u64 (hi y), .int .u64 (lo y)] 72)) (.cells #[.int .u64 (hi rb), .int .u64 (lo rb)] 72)
  have o : Below w.heap.size w ((w8.alloc (.cells #[.int .u64 (hi y), .int .u64 (lo y)] 72)).alloc (.cells #[.int .u64 (hi rb), .int .u64 (lo rb)] 72)) := (o.alloc o.size _).alloc (by have := o.size; simp; omega) _
  generalize ((w8.alloc (.cells #[.int .u64 (hi y), .int .u64 (lo y)] 72)).alloc (.cells #[.int .u64 (hi rb), .int .u64 (lo rb)] 72)) = w9 at N D R o ⊢
  generalize w8.heap.size = db at D ⊢
  obtain ⟨e1, e2, e3, e4, u1, u2⟩ := ALL.out
  rw [e1, e2] at N
  rw [e3, e4] at D
  clear e1 e2 e3 e4
  generalize hxi : (x : Int) = xi at N u1
  generalize hyi : (y : Int) = yi at D u2
  have HXI := Lib.hid hxi
  have HYI := Lib.hid hyi
  clear hxi hyi
  have c1 : ¬ (9223372036854775808 : Int) ≤ yi := by omega
  have c2 : ¬ (9223372036854775808 : Int) < xi := by omega
  have c3 : (xi == 9223372036854775808) = false := by simp; omega
  have w1 : IntKind.i64.wrap xi = xi := IntWalk.i64_in _ (by omega)
  have w2 : IntKind.i64.wrap yi = yi := IntWalk.i64_in _ (by omega)
  obtain ⟨X0, X1, X2, X3⟩ := row_two N
  obtain ⟨Y0, Y1, Y2, Y3⟩ := row_two D
  obtain ⟨R0, R1, R2, R3⟩ := row_two R
  go_wp2
  exact bodyPost_ret (v := .tuple #[.agg #[.int .i64 xi, .int .i64 yi], .bool true]) (by simp [results, Try.results87, go_sem, R0, R1]) rfl ⟨by rw [HXI.out, HYI.out], by (repeat (first | exact Below.refl _ _ | refine Below.setCell ?_ (by first | (simp; done) | (simp; omega) | omega) _ | refine Below.alloc ?_ (by first | (simp; done) | (simp; omega) | omega) _ | refine Below.drew ?_ | refine Below.trans ?_ (Below.mono (by assumption) (by first | (simp; done) | (simp; omega) | omega))))⟩
theorem rmake (a b : Nat) (ha : a < 9223372036854775808) (hb : b < 9223372036854775808) (h : b ≠ 0) (w : World) :
    Calls Try.prog 48 #[.int .i64 a, .int .i64 b] w fun e w' => e = .returned (.tuple #[.agg #[.int .i64 ((a / Nat.gcd a b : Nat) : Int), .int .i64 ((b / Nat.gcd a b : Nat) : Int)], .bool true]) ∧ Below w.heap.size w w' := by
  have PR := fun w => rreduced a b ha hb h w
  have PA := fun w => rabs (a : Int) (by omega) (by omega) w
  have PB := fun w => rabs (b : Int) (by omega) (by omega) w
  have OA := fun w => rof a (by omega) w
  have OB := fun w => rof b (by omega) w
  generalize ((a / Nat.gcd a b : Nat) : Int) = x at PR ⊢
  generalize ((b / Nat.gcd a b : Nat) : Int) = y at PR ⊢
  have u0 : (b : Int) ≠ 0 := by omega
  have u1 : 0 ≤ (a : Int) := by omega
  have u2 : 0 ≤ (b : Int) := by omega
  generalize W a = wa at OA PR
  generalize W b = wb at OB PR
  generalize (a : Int) = ai at PA OA u1 ⊢
  generalize (b : Int) = bi at PB OB u0 u2 ⊢
  have t0 : (bi == 0) = false := by simpa using u0
  have t1 : ¬ ai < 0 := by omega
  have t2 : ¬ bi < 0 := by omega
  have PR := Lib.hid PR
  have PA := Lib.hid PA
  have PB := Lib.hid PB
  have OA := Lib.hid OA
  have OB := Lib.hid OB
  clear h ha hb u0 u1 u2
  go_enter Try.func48, Try.ntmps48
  go_wp2_with (first | (go_at_call 89; with_reducible refine (PA.out _).mono ?_; rintro e w9 ⟨rfl, h9⟩; obtain rfl := h9.symm) | (go_at_call 89; with_reducible refine (PB.out _).mono ?_; rintro e w9 ⟨rfl, h9⟩; obtain rfl := h9.symm) | (go_at_call 88; with_reducible refine (OA.out _).mono ?_; rintro e w1 ⟨rfl, hb1⟩; have hz1 := hb1.size; (try simp at hz1); have o1 : Below w.heap.size w w1 := (by (repeat (first | exact Below.refl _ _ | refine Below.setCell ?_ (by first | (simp; done) | (simp; omega) | omega) _ | refine Below.alloc ?_ (by first | (simp; done) | (simp; omega) | omega) _ | refine Below.drew ?_ | refine Below.trans ?_ (Below.mono (by assumption) (by first | (simp; done) | (simp; omega) | omega))))); have q1_0 : w.heap.size < w1.heap.size := (by omega); have r1_0 : Row w1 (w.heap.size) 35 #[.int .i64 0, .int .i64 0] := row_call (by (repeat (first | assumption | (refine row_new ?_; (first | (simp; done) | omega)) | refine row_alloc ?_ _ | refine row_drew ?_ | refine row_call ?_ (by assumption)))) hb1; obtain ⟨c1_0a, c1_0b, f1_0a, f1_0b⟩ := row_two r1_0) | (go_at_call 88; with_reducible refine (OB.out _).mono ?_; rintro e w2 ⟨rfl, hb2⟩; have hz2 := hb2.size; (try simp at hz2); have o2 : Below w.heap.size w w2 := (by (repeat (first | exact Below.refl _ _ | refine Below.setCell ?_ (by first | (simp; done) | (simp; omega) | omega) _ | refine Below.alloc ?_ (by first | (simp; done) | (simp; omega) | omega) _ | refine Below.drew ?_ | refine Below.trans ?_ (Below.mono (by assumption) (by first | (simp; done) | (simp; omega) | omega))))); have q2_0 : w.heap.size < w2.heap.size := (by omega); have r2_0 : Row w2 (w.heap.size) 35 #[.int .i64 0, .int .i64 0] := row_call (by (repeat (first | assumption | (refine row_new ?_; (first | (simp; done) | omega)) | refine row_alloc ?_ _ | refine row_drew ?_ | refine row_call ?_ (by assumption)))) hb2; obtain ⟨c2_0a, c2_0b, f2_0a, f2_0b⟩ := row_two r2_0) | (go_at_call 87; with_reducible refine (PR.out _).mono ?_; rintro e w3 ⟨rfl, hb3⟩; have hz3 := hb3.size; (try simp at hz3); have o3 : Below w.heap.size w w3 := (by (repeat (first | exact Below.refl _ _ | refine Below.setCell ?_ (by first | (simp; done) | (simp; omega) | omega) _ | refine Below.alloc ?_ (by first | (simp; done) | (simp; omega) | omega) _ | refine Below.drew ?_ | refine Below.trans ?_ (Below.mono (by assumption) (by first | (simp; done) | (simp; omega) | omega))))); have q3_0 : w.heap.size < w3.heap.size := (by omega); have r3_0 : Row w3 (w.heap.size) 35 #[.int .i64 0, .int .i64 0] := row_call (by (repeat (first | assumption | (refine row_new ?_; (first | (simp; done) | omega)) | refine row_alloc ?_ _ | refine row_drew ?_ | refine row_call ?_ (by assumption)))) hb3; obtain ⟨c3_0a, c3_0b, f3_0a, f3_0b⟩ := row_two r3_0))
  exact bodyPost_ret (v := .tuple #[.agg #[.int .i64 x, .int .i64 y], .bool true]) (by simp [results, Try.results48, go_sem, c3_0a, c3_0b]) rfl ⟨rfl, by (repeat (first | exact Below.refl _ _ | refine Below.setCell ?_ (by first | (simp; done) | (simp; omega) | omega) _ | refine Below.alloc ?_ (by first | (simp; done) | (simp; omega) | omega) _ | refine Below.drew ?_ | refine Below.trans ?_ (Below.mono (by assumption) (by first | (simp; done) | (simp; omega) | omega))))⟩
end Go.Proofs.Ytaiepjcnncajcaa
end
section
/- Spread histograms: the exact spread of items, and the answers, walked. -/
set_option linter.unusedVariables false
set_option linter.unusedSimpArgs false
set_option linter.unusedSectionVars false
set_option linter.unnecessarySimpa false
namespace Go.Proofs.Ytaiepjcnncajcaa
open Go.RowKit
/-- The sum of the squared differences of an item and others. -/
def dsum (x : Int) : List Itm → Int
  | [] => 0
  | y :: l => (x - y.v) * (x - y.v) + dsum x l
theorem dsum_append (x : Int) : ∀ a b : List Itm, dsum x (a ++ b) = dsum x a + dsum x b
  | [], b => by simp [dsum]
  | y :: a, b => by rw [List.cons_append, dsum, dsum, dsum_append x a b]; omega
theorem dsum_take {x : Int} {l : List Itm} {k : Nat} (h : k < l.length) : dsum x (l.take (k + 1)) = dsum x (l.take k) + (x - (itmAt l k).v) * (x - (itmAt l k).v) := by
  rw [List.take_succ_eq_append_getElem h, itm_eq h, dsum_append]
  simp [dsum]
theorem dsum_is (x : Int) : ∀ l : List Itm, dsum x l = (l.length : Int) * (x * x) - 2 * x * isum l + isq l
  | [] => by simp [dsum, isum, isq]
  | y :: l => by
    rw [dsum, isum, isq, dsum_is x l, List.length_cons, show ((l.length + 1 : Nat) : Int) = (l.length : Int) + 1 by omega]
    grind
theorem tp_take {l : List Itm} {k : Nat} (h : k < l.length) : tpI ((l.take (k + 1)).length : Int) (isum (l.take (k + 1))) (isq (l.take (k + 1))) = tpI ((l.take k).length : Int) (isum (l.take k)) (isq (l.take k)) + dsum (itmAt l k).v (l.take k) := by
  rw [isum_take h, isq_take h, dsum_is, show ((l.take (k + 1)).length : Int) = ((l.take k).length : Int) + 1 by simp; omega]
  unfold tpI
  grind
theorem dsum_bd {x : Int} (hx : -4096 ≤ x ∧ x ≤ 4096) : ∀ l : List Itm, (∀ y ∈ l, -4096 ≤ y.v ∧ y.v ≤ 4096) → 0 ≤ dsum x l ∧ dsum x l ≤ 67108864 * (l.length : Int)
  | [], _ => by simp [dsum]
  | y :: l, h => by
    have ih := dsum_bd hx l (fun z hz => h z (by simp [hz]))
    have hy := h y (by simp)
    have sq := sq_bound (s := x - y.v) (B := 8192) (by omega) (by omega)
    rw [dsum, List.length_cons]
    omega
theorem tp_bd {l : List Itm} (h : ∀ y ∈ l, -4096 ≤ y.v ∧ y.v ≤ 4096) (hl : l.length ≤ 1000) : tpI (l.length : Int) (isum l) (isq l) ≤ 16777216000000 := by
  have h1 := isq_bd l h
  have h2 : (l.length : Int) * isq l ≤ 1000 * (16777216 * 1000) := Int.mul_le_mul (by omega) (by omega) h1.1 (by omega)
  have h3 := sqn (isum l)
  unfold tpI
  omega
set_option maxHeartbeats 4000000 in
theorem rspread8 (A : Option Addr) (m c : Nat) (l : List Itm) (w : World) (hin : Reads w w.heap.size 2 A m (icells l)) (hm : m ≤ 1000) (hv : ∀ x ∈ l, -4096 ≤ x.v ∧ x.v ≤ 4096) :
    Calls Try.prog 22 #[.slice A m c] w fun e w' => e = .returned (.agg #[.int .i64 (rn (itT l) (itN l) : Nat), .int .i64 (rd (itT l) (itN l) : Nat)]) ∧ Below w.heap.size w w' := by
  have hl := hin.itm_len
  have HL := Lib.hid hl
  have HR := Lib.hid hin
  have HV := Lib.hid hv
  have hIT := itT_eq l
  have hTB := tp_bd hv (by omega)
  have hN : itN l = max m 1 := by unfold itN; rw [hl]
  have PM := fun w => rmake (itT l) (itN l) (by omega) (by omega) (by omega) w
  rw [show itT l / Nat.gcd (itT l) (itN l) = rn (itT l) (itN l) from rfl, show itN l / Nat.gcd (itT l) (itN l) = rd (itT l) (itN l) from rfl, hIT] at PM
  have hmx : ((itN l : Nat) : Int) = max (m : Int) 1 := by rw [hN]; omega
  rw [hmx] at PM
  generalize rn (itT l) (itN l) = an at PM ⊢
  generalize rd (itT l) (itN l) = ad0 at PM ⊢
  replace PM := Lib.hid PM
  clear hin hv hIT hTB hN hmx
  have Z : Row (w.alloc (.cells #[.int .i64 0, .int .i64 0] 35)) w.heap.size 35 #[.int .i64 0, .int .i64 0] := row_new rfl
  have o : Below w.heap.size w (w.alloc (.cells #[.int .i64 0, .int .i64 0] 35)) := by (repeat (first | exact Below.refl _ _ | refine Below.setCell ?_ (by first | (simp; done) | (simp; omega) | omega) _ | refine Below.alloc ?_ (by first | (simp; done) | (simp; omega) | omega) _ | refine Below.drew ?_ | refine Below.trans ?_ (Below.mono (by assumption) (by first | (simp; done) | (simp; omega) | omega))))
  go_enter Try.func22, Try.ntmps22
  go_upto_region 3 with (fail)
  generalize w.alloc (.cells #[.int .i64 0, .int .i64 0] 35) = w1 at Z o ⊢
  go_loopw [3, 11] (fun d i wr => ∃ k : Nat, k ≤ m ∧ i = .int .i64 (k : Nat) ∧ d = .int .i64 (tpI ((l.take k).length : Int) (isum (l.take k)) (isq (l.take k))) ∧ Row wr w.heap.size 35 #[.int .i64 0, .int .i64 0] ∧ Below w.heap.size w wr) (fun _ i _ => m - (intOf i).toNat)
  case atStart => exact ⟨0, by omega, rfl, by simp [tpI, isum, isq], Z, o⟩
  case round =>
    clear Z o
    obtain ⟨k, hk, rfl, rfl, Z, o⟩ := hrel
    by_cases hlt : k < m
    · obtain ⟨ad, rfl, hadb, hi0⟩ := HR.out.itm hlt
      have HI := Lib.hid hi0
      have TK := Lib.hid (tp_take (show k < l.length by rw [HL.out]; exact hlt))
      have vk := HV.out (itmAt l k) (by rw [← itm_eq (by rw [HL.out]; exact hlt)]; exact List.getElem_mem _)
      have tb0 := tp_bd (l := l.take k) (fun x hx => HV.out x (List.mem_of_mem_take hx)) (by rw [List.length_take]; omega)
      have tb1 := isq_isum (l.take k)
      generalize tpI ((l.take k).length : Int) (isum (l.take k)) (isq (l.take k)) = T0 at TK tb0 tb1 ⊢
      have i2 : (k : Int) < (m : Int) := by omega
      have i4 : (0 : Int) ≤ (k : Int) := by omega
      have zb := o.size
      have bdK := Lib.hid (fun j (hj : j ≤ k) => dsum_bd vk (l.take j) (fun x hx => HV.out x (List.mem_of_mem_take hx)))
      clear hi0
      go_wp2
      go_loopw [3, 5] (fun d i wr2 => ∃ j : Nat, j ≤ k ∧ i = .int .i64 (j : Nat) ∧ d = .int .i64 (T0 + dsum (itmAt l k).v (l.take j)) ∧ Row wr2 w.heap.size 35 #[.int .i64 0, .int .i64 0] ∧ Below w.heap.size w wr2) (fun _ i _ => k - (intOf i).toNat)
      case atStart => exact ⟨0, by omega, rfl, by simp [dsum], Z, o⟩
      case round =>
        clear Z o
        obtain ⟨j, hj, rfl, rfl, Z, o⟩ := hrel
        by_cases hjk : j < k
        · obtain ⟨ad', e', hadb', hj0⟩ := HR.out.itm (show j < m by omega)
          obtain rfl := Option.some.inj e'
          obtain ⟨c0, c1⟩ := hj0.below o (by rw [block_of_add]; exact hadb')
          obtain ⟨p0, p1⟩ := HI.out.below o (by rw [block_of_add]; exact hadb)
          have vj := HV.out (itmAt l j) (by rw [← itm_eq (by rw [HL.out]; omega)]; exact List.getElem_mem _)
          have DT := dsum_take (x := (itmAt l k).v) (l := l) (k := j) (by rw [HL.out]; omega)
          have B1 := (bdK.out (j + 1) (by omega)).2
          have B0 := (bdK.out j (by omega)).1
          have B2 := (bdK.out (j + 1) (by omega)).1
          rw [List.length_take, HL.out] at B1
          rw [DT] at B1 B2
          have DTh := Lib.hid DT
          generalize dsum (itmAt l k).v (l.take j) = D at B0 B1 B2 DTh ⊢
          generalize (itmAt l k).v = x at p1 vk B1 B2 DTh
          generalize (itmAt l j).v = y at c1 vj B1 B2 DTh
          have w1 : IntKind.i64.wrap (x - y) = x - y := IntWalk.i64_in _ (by omega)
          have sq := sq_bound (s := x - y) (B := 8192) (by omega) (by omega)
          have w2 : IntKind.i64.wrap ((x - y) * (x - y)) = (x - y) * (x - y) := IntWalk.i64_in _ (by omega)
          have w3 : IntKind.i64.wrap (T0 + D + (x - y) * (x - y)) = T0 + D + (x - y) * (x - y) := IntWalk.i64_in _ (by omega)
          have j2 : (j : Int) < (k : Int) := by omega
          have j3 : (j : Int) < (m : Int) := by omega
          have j4 : (0 : Int) ≤ (j : Int) := by omega
          clear DT hj0 e' B0 B1 B2 sq vj
          go_upto_region 8 with (fail)
          go_quiet (fail)
          go_wp2
          go_roundw
          case rel => exact ⟨j + 1, by omega, by go_num, by rw [DTh.out, ← Int.add_assoc], Z, o.trans ⟨rfl, rfl, rfl, Nat.le_refl _, fun _ _ => rfl⟩⟩
          case measure => simp [intOf]; omega
        · have j2 : ¬ (j : Int) < (k : Int) := by omega
          obtain rfl : j = k := by omega
          go_wp2
          go_roundw
          case rel => exact ⟨j + 1, by omega, by go_num, by rw [TK.out], Z, o⟩
          case measure => simp [intOf]; omega
    · have i2 : ¬ (k : Int) < (m : Int) := by omega
      obtain rfl : k = m := by omega
      rw [List.take_of_length_le (by rw [HL.out]; exact Nat.le_refl _)]
      generalize tpI (l.length : Int) (isum l) (isq l) = TT at PM ⊢
      go_wp2_with fail
      refine (PM.out _).mono ?_
      rintro e w5 ⟨rfl, hb⟩
      replace Z := row_call Z hb
      replace o := o.trans (hb.mono o.size)
      clear hb
      go_upto_region 12 with (fail)
      have V : Row (w5.alloc (.cells #[.int .i64 an, .int .i64 ad0] 35)) w5.heap.size 35 #[.int .i64 an, .int .i64 ad0] := row_new rfl
      replace Z := row_alloc Z (.cells #[.int .i64 an, .int .i64 ad0] 35)
      replace o := o.alloc o.size (.cells #[.int .i64 an, .int .i64 ad0] 35)
      generalize w5.alloc (.cells #[.int .i64 an, .int .i64 ad0] 35) = w6 at V Z o ⊢
      generalize w5.heap.size = vb at V ⊢
      obtain ⟨V0, V1, _, _⟩ := row_two V
      obtain ⟨Z0, Z1, Zf0, Zf1⟩ := row_two Z
      go_wp2
      have r9 := row_two_set (u := .int .i64 an) (v := .int .i64 ad0) Z
      have o9 : Below w.heap.size w ((w6.setCell ⟨w.heap.size, 0, none⟩ (.int .i64 an)).setCell ⟨w.heap.size, 1, none⟩ (.int .i64 ad0)) := (o.setCell (p := ⟨w.heap.size, 0, none⟩) (Nat.le_refl _) (.int .i64 an)).setCell (p := ⟨w.heap.size, 1, none⟩) (Nat.le_refl _) (.int .i64 ad0)
      generalize (w6.setCell ⟨w.heap.size, 0, none⟩ (.int .i64 an)).setCell ⟨w.heap.size, 1, none⟩ (.int .i64 ad0) = w9 at r9 o9 ⊢
      obtain ⟨e1, e2, _, _⟩ := row_two r9
      exact bodyPost_ret (v := .agg #[.int .i64 an, .int .i64 ad0]) (by simp [results, Try.results22, go_sem, e1, e2]) rfl ⟨rfl, o9⟩
end Go.Proofs.Ytaiepjcnncajcaa
end
section
/- A law on statements whose order is open and whose last operations wait for all the others: the operations ahead of them are taken in whatever order, a condition S on the world holding behind each of them; the last ones stand in their own order, and S need not outlive them. -/
set_option linter.unusedVariables false
set_option linter.unusedSimpArgs false
set_option linter.unusedSectionVars false
set_option linter.unnecessarySimpa false
namespace Go.Proofs.Ytaiepjcnncajcaa
open Go.RowKit
section
variable {P : Program} {ops : Array Oper} {md : Region.Mode} {S : World → Prop} {Q : Exit → Act → World → Prop} {n g : Nat} {tail : List Oper}
/-- What is left of the operations ahead, in whatever order; then the last ones. -/
def HeadW (P : Program) (md : Region.Mode) (ops : Array Oper) (S : World → Prop) (Q : Exit → Act → World → Prop) (n g : Nat) (tail : List Oper) : Nat → Array Bool → Act → World → Prop
  | 0, listed, a, w => Region.seqB md ops g n listed = true ∧ wpList P ops Q tail a w
  | f + 1, listed, a, w => Region.ready md ops listed ≠ [] ∧ ∀ i ∈ Region.ready md ops listed, i < n ∧ wpOp P ops Q i (fun a' w' => S w' ∧ HeadW P md ops S Q n g tail f (listed.setIfInBounds i true) a' w') a w
theorem headW_any (hg : tail.length = g) (ht : ∀ j, tail[j]? = ops[n + j]?) : ∀ (f : Nat) (listed : Array Bool) (a : Act) (w : World), HeadW P md ops S Q n g tail f listed a w → wpAny P md ops Q (f + g) listed a w
  | 0, listed, a, w, h => by
    rw [Nat.zero_add]
    subst hg
    exact wpAny_of_seq tail n listed a w ht h.1 h.2
  | f + 1, listed, a, w, h => by
    rw [show f + 1 + g = (f + g) + 1 from by omega]
    exact ⟨fun h0 => absurd h0 h.1, fun i hi => wpOp_mono (fun a' w' h' => headW_any hg ht f _ a' w' h'.2) (h.2 i hi).2⟩
/-- The conditions on the statement. -/
structure PhaseOK (md : Region.Mode) (ops : Array Oper) (n : Nat) : Prop where
  sel : Region.noSelect ops = true
  sink : Region.sinkB md ops n = true
  chain : Region.chainB md ops n = true
  lt : n < ops.size
theorem headW_first (ok : PhaseOK md ops n) {i : Nat} {oi : Oper} {v : Value} (hi : ops[i]? = some oi) (hin : i < n) (hQ : ∀ c a w, Q (.panic c) (a.put oi.dst v) w → Q (.panic c) a w) :
    ∀ (f : Nat) (listed : Array Bool) (a : Act) (w : World), HeadInv md ops n listed →
      (∀ j oj, ops[j]? = some oj → j ≠ i → listed.getD j true = false → (∀ e ∈ oj.after, Region.binds md e = true → e.on ≠ i) → oi.apart ops oj = true) →
      i ∈ Region.ready md ops listed → YieldsIf P ops S oi v a → S w → HeadW P md ops S Q n g tail f (listed.setIfInBounds i true) (a.put oi.dst v) w → HeadW P md ops S Q n g tail (f + 1) listed a w := by
  have hsel := Region.noSelect_spec ok.sel
  intro f
  induction f with
  | zero =>
    intro listed a w inv _ hr hy hS H
    refine ⟨fun h0 => by rw [h0] at hr; exact absurd hr (by simp), fun j hj => ?_⟩
    have hjn : j < n := Nat.lt_of_not_le fun hle => tail_waits ok.sink ok.chain ok.lt inv _ i rfl hin (mem_ready.1 hr).1 j hle hj
    by_cases hji : j = i
    · subst hji
      exact ⟨hjn, hy.wpOp hi hS ⟨hS, H⟩⟩
    · exact absurd (seqB_ready H.1 j (ready_mono hj hji)) (by omega)
  | succ f ih =>
    intro listed a w inv hfree hr hy hS H
    refine ⟨fun h0 => by rw [h0] at hr; exact absurd hr (by simp), fun j hj => ?_⟩
    have hun := (mem_ready.1 hr).1
    have hjn : j < n := Nat.lt_of_not_le fun hle => tail_waits ok.sink ok.chain ok.lt inv _ i rfl hin hun j hle hj
    by_cases hji : j = i
    · subst hji
      exact ⟨hjn, hy.wpOp hi hS ⟨hS, H⟩⟩
    · have h1 := (H.2 j (ready_mono hj hji)).2
      obtain ⟨hjun, oj, hoj, hall⟩ := mem_ready.1 hj
      have hnot : ∀ e ∈ oj.after, Region.binds md e = true → e.on ≠ i := fun e he hb heq => by
        have h1 := hall e he hb
        rw [heq, getD_both hun] at h1
        cases h1
      have h2 := wpOp_putIf hoj (hfree j oj hoj hji hjun hnot) (fun cs b => hsel i oi cs b hi) (fun cs b => hsel j oj cs b hoj) hQ hy h1
      refine ⟨hjn, wpOp_mono (fun a' w' h3 => ⟨h3.2.1, ih (listed.setIfInBounds j true) a' w' (inv.set hj hjn) (fun k ok' hk hki hku hno => ?_) (ready_mono hr (Ne.symm hji)) h3.1 h3.2.1 ?_⟩) h2⟩
      · refine hfree k ok' hk hki ?_ hno
        by_cases hjk : j = k
        · subst hjk
          exact hjun
        · rw [getD_set_ne true hjk] at hku
          exact hku
      · rw [Array.setIfInBounds_comm _ _ hji]
        exact h3.2.2
/-- The same, where what is listed hangs together. -/
def HW (P : Program) (md : Region.Mode) (ops : Array Oper) (S : World → Prop) (Q : Exit → Act → World → Prop) (n g : Nat) (tail : List Oper) (f : Nat) (listed : Array Bool) (a : Act) (w : World) : Prop :=
  HeadInv md ops n listed → HeadW P md ops S Q n g tail f listed a w
variable {f : Nat} {listed : Array Bool} {a : Act} {w : World}
/-- An operation that gives one value in every world that meets S is taken first. -/
theorem hw_take (ok : PhaseOK md ops n) {i : Nat} {oi : Oper} (v : Value) (hi : ops[i]? = some oi) (hin : i < n) (hf : Region.free md ops listed i = true) (hr : (Region.ready md ops listed).contains i = true)
    (hQ : ∀ c a w, Q (.panic c) (a.put oi.dst v) w → Q (.panic c) a w) (hy : YieldsIf P ops S oi v a) (hS : S w) (h : HW P md ops S Q n g tail f (listed.setIfInBounds i true) (a.put oi.dst v) w) : HW P md ops S Q n g tail (f + 1) listed a w := fun inv =>
  have hr' : i ∈ Region.ready md ops listed := by simpa using hr
  headW_first ok hi hin hQ f listed a w inv (Region.free_spec hi hf) hr' hy hS (h (inv.set hr' hin))
/-- One operation alone may come up. -/
theorem hw_one {i : Nat} {oi : Oper} (hi : ops[i]? = some oi) (hin : i < n) (hr : Region.ready md ops listed = [i])
    (h : ∀ K : Act → World → Prop, (∀ a' w', S w' → HW P md ops S Q n g tail f (listed.setIfInBounds i true) a' w' → K a' w') → if Region.wanted oi (yielded ops a.tmps) = true then Oper.wp P oi a w K Q else K (a.put oi.dst undef) w) : HW P md ops S Q n g tail (f + 1) listed a w := fun inv => by
  refine ⟨by rw [hr]; simp, fun j hj => ?_⟩
  have hj' := hj
  rw [hr] at hj
  obtain rfl : j = i := by simpa using hj
  refine ⟨hin, ?_⟩
  have := h (fun a' w' => S w' ∧ HeadW P md ops S Q n g tail f (listed.setIfInBounds j true) a' w') (fun a' w' hS hh => ⟨hS, hh (inv.set hj' hin)⟩)
  unfold wpOp
  simp only [hi]
  split at this
  · rename_i hw
    simp only [hw, if_true]
    exact .inl this
  · rename_i hw
    simp only [hw]
    exact this
/-- Two operations may come up. -/
theorem hw_two {i j : Nat} {oi oj : Oper} (hi : ops[i]? = some oi) (hj : ops[j]? = some oj) (hin : i < n) (hjn : j < n) (hr : Region.ready md ops listed = [i, j])
    (h : ∀ K : Act → World → Prop, (∀ a' w', S w' → HW P md ops S Q n g tail f (listed.setIfInBounds i true) a' w' → K a' w') → if Region.wanted oi (yielded ops a.tmps) = true then Oper.wp P oi a w K Q else K (a.put oi.dst undef) w)
    (h' : ∀ K : Act → World → Prop, (∀ a' w', S w' → HW P md ops S Q n g tail f (listed.setIfInBounds j true) a' w' → K a' w') → if Region.wanted oj (yielded ops a.tmps) = true then Oper.wp P oj a w K Q else K (a.put oj.dst undef) w) : HW P md ops S Q n g tail (f + 1) listed a w := fun inv => by
  refine ⟨by rw [hr]; simp, fun k hk => ?_⟩
  have hk' := hk
  rw [hr] at hk
  have hk : k = i ∨ k = j := by simpa using hk
  rcases hk with rfl | rfl
  · refine ⟨hin, ?_⟩
    have := h (fun a' w' => S w' ∧ HeadW P md ops S Q n g tail f (listed.setIfInBounds k true) a' w') (fun a' w' hS hh => ⟨hS, hh (inv.set hk' hin)⟩)
    unfold wpOp
    simp only [hi]
    split at this
    · rename_i hw
      simp only [hw, if_true]
      exact .inl this
    · rename_i hw
      simp only [hw]
      exact this
  · refine ⟨hjn, ?_⟩
    have := h' (fun a' w' => S w' ∧ HeadW P md ops S Q n g tail f (listed.setIfInBounds k true) a' w') (fun a' w' hS hh => ⟨hS, hh (inv.set hk' hjn)⟩)
    unfold wpOp
    simp only [hj]
    split at this
    · rename_i hw
      simp only [hw, if_true]
      exact .inl this
    · rename_i hw
      simp only [hw]
      exact this
theorem hw_done (hB : Region.seqB md ops g n listed = true) (h : wpList P ops Q tail a w) : HW P md ops S Q n g tail 0 listed a w := fun _ => ⟨hB, h⟩
/-- The statement: n operations ahead of those that wait. -/
theorem wp_region_phase {id : Nat} {l : List Oper} (n : Nat) (S : World → Prop) (hm : P.follows .mixedOrders = true) (hsel : Region.noSelect l.toArray = true) (hs : Region.sinkB .any l.toArray n = true) (hc : Region.chainB .any l.toArray n = true) (hn : decide (n < l.toArray.size) = true)
    (h : PhaseOK .any l.toArray n → HW P .any l.toArray S Q n (l.drop n).length (l.drop n) n (Array.replicate l.toArray.size false) a w.drew) : (Code.region id l.toArray true).wp P Q a w := by
  have hn := of_decide_eq_true hn
  refine wp_region_any hm ?_
  have inv0 : HeadInv .any l.toArray n (Array.replicate l.toArray.size false) :=
    ⟨by simp, fun j oj _ hl => (by rw [getD_replicate_false] at hl; cases hl), fun t _ ht => getD_in (by simpa using ht) (getD_replicate_false _ _)⟩
  have H := headW_any (P := P) (S := S) (Q := Q) (md := .any) (ops := l.toArray) (n := n) (tail := l.drop n) rfl (fun j => by simp [List.getElem?_drop]) n _ a _ (h ⟨hsel, hs, hc, hn⟩ inv0)
  have e : n + (l.drop n).length = l.toArray.size := by
    have : n < l.length := by simpa using hn
    simp
    omega
  rw [e] at H
  exact H
end
end Go.Proofs.Ytaiepjcnncajcaa
end
section
/- The items that a law makes out of raw ones, and numbers out of wide ones, walked. -/
set_option linter.unusedVariables false
set_option linter.unusedSimpArgs false
set_option linter.unusedSectionVars false
set_option linter.unnecessarySimpa false
namespace Go.Proofs.Ytaiepjcnncajcaa
open Go.RowKit
/-- The items of values, at tick 0. -/
def vitems (vs : List Int) : List Itm := vs.map fun v => ⟨0, v⟩
theorem vitems_len (vs : List Int) : (vitems vs).length = vs.length := by unfold vitems; simp
theorem vitems_append (a b : List Int) : vitems (a ++ b) = vitems a ++ vitems b := by unfold vitems; simp
/-- What the making of items leaves. -/
def VRet (most : Nat) (w : World) (e : Ending) (w' : World) : Prop :=
  ∃ (v : Value) (vs : List Int), e = .returned v ∧ w'.ownsRow w.heap.size 51 2 v vs.length (icells (vitems vs)) ∧ vs.length ≤ most ∧ (∀ x ∈ vs, -4096 ≤ x ∧ x ≤ 4096) ∧ Below w.heap.size w w'
set_option maxHeartbeats 2000000 in
theorem pvalues14 (A : Option Addr) (m c : Nat) (l : List Itm) (most : Nat) (w : World) (hin : RIn A m c l w) (hmost : most ≤ 100000) :
    Calls Try.prog 20 #[.slice A m c, .int .i64 most] w (VRet most w) := by
  have HR := Lib.hid hin
  have hmB : m ≤ 9223372036854775807 := by have := hin.mc; have := hin.cB; unfold maxLen at *; omega
  obtain ⟨i1, hi1, iz0, iz1, iz2⟩ := info_parts info_itm
  clear hin
  go_enter Try.func20, Try.ntmps20
  go_wp2
  go_loopw [5, 6] (fun v i wr => ∃ vs : List Int, vs.length ≤ m ∧ vs.length ≤ most ∧ i = .int .i64 (vs.length : Nat) ∧ wr.ownsRow w.heap.size 51 2 v vs.length (icells (vitems vs)) ∧ RowKit.Hid (∀ x ∈ vs, -4096 ≤ x ∧ x ≤ 4096) ∧ Below w.heap.size w wr) (fun _ i _ => m - (intOf i).toNat)
  case atStart => exact ⟨[], by simp, by simp, rfl, World.ownsRow_nil _ _ _ _, Lib.hid (by simp), Below.refl _ _⟩
  case round =>
    obtain ⟨vs, hk1, hk2, rfl, own, HM, hb⟩ := hrel
    generalize hk : vs.length = k at hk1 hk2 own ⊢
    have HK := Lib.hid hk
    clear hk
    by_cases hlt : k < m
    · by_cases hlt2 : k < most
      · obtain ⟨ad, rfl, hadb, hi0⟩ := HR.out.reads.itm hlt
        obtain ⟨c0, c1⟩ := hi0.below hb (by rw [block_of_add]; exact hadb)
        have vB := HR.out.vB k
        have PV := Lib.hid (fun w => pval ((itmAt l k).v) vB w)
        have wB := mval_bd ((itmAt l k).v)
        generalize mval ((itmAt l k).v) = v at PV wB
        generalize (itmAt l k).v = rv at c1 PV
        have HM2 : RowKit.Hid (∀ x ∈ vs ++ [v], -4096 ≤ x ∧ x ≤ 4096) := Lib.hid (fun x hx => (List.mem_append.1 hx).elim (HM.out x) (fun h => by have e : x = v := (by simpa using h); rw [e]; exact wB))
        obtain ⟨wB0, wB1⟩ := wB
        have i2 : (k : Int) < (m : Int) := by omega
        have i3 : (k : Int) < (most : Int) := by omega
        have i4 : (0 : Int) ≤ (k : Int) := by omega
        have hbl := own.lt
        have OWN := Lib.hid own
        have zb := hb.size
        clear hi0 vB own c0
        go_wp2_with (first | (go_at_call 55; with_reducible refine (PV.out _).mono ?_; rintro e w9 ⟨rfl, rfl⟩) | (at_builtin; refine wpList_push rfl _ _ 39 rfl 51 i1 (.agg #[.int .i64 0, .int .i64 0]) 2 16 Try.underlying39 hi1 iz0 iz1 iz2 rfl (by decide) w.heap.size u5 k (icells (vitems vs)) rfl OWN.out #[.int .i64 0, .int .i64 v] rfl rfl (by simp [Value.oneCell']) (by unfold maxLen; omega) (by omega) zb ?_; intro g' c4 w8 own8 hg8 hat8 hgr8))
        have L8 : w8.ownsRow w.heap.size 51 2 (.slice (some ⟨g', 0, none⟩) (k + 1) c4) (vs ++ [v]).length (icells (vitems (vs ++ [v]))) := by
          rw [vitems_append, icells_append, List.length_append, HK.out]
          exact own8.row hg8
        have L9 : Below w.heap.size w w8 := below_grown (hb.alloc zb _) hgr8 (fun b e => (hbl b e).1) (by simp; omega)
        have hlen : (vs ++ [v]).length = k + 1 := by rw [List.length_append, HK.out]; rfl
        clear own8 hgr8 hat8
        go_roundw
        case rel => exact ⟨vs ++ [v], by omega, by omega, by rw [hlen]; go_num, L8, HM2, L9⟩
        case measure => simp [intOf]; omega
      · have i2 : (k : Int) < (m : Int) := by omega
        have i3 : ¬ (k : Int) < (most : Int) := by omega
        go_wp2
        go_ret
        exact ⟨_, vs, rfl, by rw [HK.out]; exact own, by rw [HK.out]; omega, HM.out, hb⟩
    · have i2 : ¬ (k : Int) < (m : Int) := by omega
      go_wp2
      go_ret
      exact ⟨_, vs, rfl, by rw [HK.out]; exact own, by rw [HK.out]; omega, HM.out, hb⟩
theorem rabsI (a : Int) (h0 : -9223372036854775808 < a) (h : a < 9223372036854775808) (w : World) : Calls Try.prog 89 #[.int .i64 a] w fun e w' => e = .returned (.int .u64 (a.natAbs : Nat)) ∧ w' = w := by
  by_cases t0 : a < 0
  · have w1 : IntKind.i64.wrap (a + 1) = a + 1 := IntWalk.i64_in _ (by omega)
    have w2 : IntKind.i64.wrap (-(a + 1)) = -(a + 1) := IntWalk.i64_in _ (by omega)
    have w3 : IntKind.u64.wrap (-(a + 1)) = -(a + 1) := IntWalk.u64_in _ (by omega)
    have w4 : IntKind.u64.wrap (-(a + 1) + 1) = (a.natAbs : Nat) := by rw [IntWalk.u64_in _ (by omega)]; omega
    clear h h0
    go_enter Try.func89, Try.ntmps89
    go_wp2
    go_ret
    exact ⟨rfl, rfl⟩
  · have wa : IntKind.u64.wrap a = (a.natAbs : Nat) := by rw [IntWalk.u64_in _ (by omega)]; omega
    clear h h0
    go_enter Try.func89, Try.ntmps89
    go_wp2
    go_ret
    exact ⟨rfl, rfl⟩
theorem hi_00 (n : Nat) (h : n < 1099511627776) : hi n = 0 := hi_small (by omega)
theorem lo_00 (n : Nat) (h : n < 1099511627776) : lo n = (n : Nat) := lo_small (by omega)
theorem mask_63 (n : Nat) (h : n < 1099511627776) : bits .and .u64 (lo n) 9223372036854775807 = (n : Nat) := by
  rw [lo_00 n h]
  have hn : n % 2 ^ IntKind.u64.bits = n := Nat.mod_eq_of_lt (Nat.lt_of_lt_of_le h (by decide))
  have e : bits .and .u64 (n : Int) ((9223372036854775807 : Nat) : Int) = ((n &&& 9223372036854775807 : Nat) : Int) := by
    have hb : 9223372036854775807 % 2 ^ IntKind.u64.bits = 9223372036854775807 := by decide
    simp only [bits, BitVec.ofInt_natCast, BitVec.toNat_and, BitVec.toNat_ofNat, hn, hb]
    exact IntWalk.u64_in _ ⟨Int.natCast_nonneg _, by have := Nat.and_le_left (n := n) (m := 9223372036854775807); omega⟩
  have e2 : n &&& 9223372036854775807 = n := by
    have := Nat.and_two_pow_sub_one_eq_mod n 63
    rw [show (2 : Nat) ^ 63 - 1 = 9223372036854775807 by decide] at this
    rw [this]
    omega
  rw [e2] at e
  exact e
set_option maxRecDepth 100000 in
set_option maxHeartbeats 4000000 in
theorem rnumP (p q : Nat) (hp : p < 1099511627776) (hq : q ≤ p) (w : World) : Calls Try.prog 93 #[W p, W q] w fun e w' => e = .returned (.tuple #[.int .i64 ((p : Int) - (q : Int)), .bool true]) ∧ Below w.heap.size w w' := by
  have PS := fun w => rsub_yes p q (by unfold big; omega) (by unfold big; omega) hq w
  generalize hd : p - q = d at PS
  have hd2 : (p : Int) - (q : Int) = (d : Nat) := by omega
  rw [hd2]
  have h0 := hi_00 d (by omega)
  have h1 := lo_00 d (by omega)
  have h2 := mask_63 d (by omega)
  have h3 : IntKind.i64.wrap (d : Nat) = (d : Nat) := IntWalk.i64_in _ (by omega)
  have h4 : (d : Int) < 9223372036854775808 := by omega
  rw [h1] at h2
  have PS2 := Lib.hid (show ∀ w, Calls Try.prog 111 #[W p, W q] w fun e w' => e = .returned (.tuple #[.agg #[.int .u64 0, .int .u64 (d : Nat)], .bool true]) ∧ Below w.heap.size w w' from fun w => by have := PS w; unfold W at this; rw [h0, h1] at this; exact this)
  clear PS hd hd2 hq hp h0 h1
  go_enter Try.func93, Try.ntmps93
  go_upto_region 1 with (fail)
  have X : Row ((w.alloc (.cells #[.int .u64 (hi p), .int .u64 (lo p)] 72)).alloc (.cells #[.int .u64 (hi q), .int .u64 (lo q)] 72)) w.heap.size 72 #[.int .u64 (hi p), .int .u64 (lo p)] := row_alloc (row_new rfl) _
  have Y : Row ((w.alloc (.cells #[.int .u64 (hi p), .int .u64 (lo p)] 72)).alloc (.cells #[.int .u64 (hi q), .int .u64 (lo q)] 72)) (w.heap.size + 1) 72 #[.int .u64 (hi q), .int .u64 (lo q)] := row_new (by simp)
  have o : Below w.heap.size w ((w.alloc (.cells #[.int .u64 (hi p), .int .u64 (lo p)] 72)).alloc (.cells #[.int .u64 (hi q), .int .u64 (lo q)] 72)) := by (repeat (first | exact Below.refl _ _ | refine Below.setCell ?_ (by first | (simp; done) | (simp; omega) | omega) _ | refine Below.alloc ?_ (by first | (simp; done) | (simp; omega) | omega) _ | refine Below.drew ?_ | refine Below.trans ?_ (Below.mono (by assumption) (by first | (simp; done) | (simp; omega) | omega))))
  generalize ((w.alloc (.cells #[.int .u64 (hi p), .int .u64 (lo p)] 72)).alloc (.cells #[.int .u64 (hi q), .int .u64 (lo q)] 72)) = w1 at X Y o ⊢
  obtain ⟨X0, X1, Xf0, Xf1⟩ := row_two X
  obtain ⟨Y0, Y1, Yf0, Yf1⟩ := row_two Y
  go_wp2_with fail
  refine (PS2.out _).mono ?_
  rintro e w2 ⟨rfl, hb2⟩
  replace o := o.trans (hb2.mono o.size)
  clear hb2 X Y X0 X1 Xf0 Xf1 Y0 Y1 Yf0 Yf1
  go_upto_region 3 with (fail)
  have D : Row (w2.alloc (.cells #[.int .u64 0, .int .u64 (d : Nat)] 72)) w2.heap.size 72 #[.int .u64 0, .int .u64 (d : Nat)] := row_new rfl
  replace o := o.alloc o.size (.cells #[.int .u64 0, .int .u64 (d : Nat)] 72)
  generalize w2.alloc (.cells #[.int .u64 0, .int .u64 (d : Nat)] 72) = wr at D o ⊢
  generalize w2.heap.size = db at D ⊢
  refine wp_region_phase 13 (fun w' => Row w' db 72 #[.int .u64 0, .int .u64 (d : Nat)]) (by kernel_rfl) (by kernel_rfl) (by kernel_rfl) (by kernel_rfl) (by kernel_rfl) (fun HOK => ?_)
  have HS := (show Row wr.drew db 72 #[.int .u64 0, .int .u64 (d : Nat)] from D)
  (refine hw_take HOK (i := 0) ?_ rfl (by decide) (by kernel_rfl) (by kernel_rfl) (by exact fun _ _ _ h => h) (Or.inl ⟨by rfl, fun w' hS => ?_⟩) HS ?_; rotate_left; (go_simp; try with_reducible rfl); simp only [Act.put, List.getElem_toArray, List.getElem_cons_zero, List.getElem_cons_succ, List.setIfInBounds_toArray, List.set_cons_zero, List.set_cons_succ])
  (refine hw_take HOK (i := 1) ?_ rfl (by decide) (by kernel_rfl) (by kernel_rfl) (by exact fun _ _ _ h => h) (Or.inl ⟨by rfl, fun w' hS => ?_⟩) HS ?_; rotate_left; (obtain ⟨D0, D1, Df0, Df1⟩ := row_two hS; go_simp; try with_reducible rfl); simp only [Act.put, List.getElem_toArray, List.getElem_cons_zero, List.getElem_cons_succ, List.setIfInBounds_toArray, List.set_cons_zero, List.set_cons_succ])
  (refine hw_take HOK (i := 2) ?_ rfl (by decide) (by kernel_rfl) (by kernel_rfl) (by exact fun _ _ _ h => h) (Or.inl ⟨by rfl, fun w' hS => ?_⟩) HS ?_; rotate_left; (go_simp; try with_reducible rfl); simp only [Act.put, List.getElem_toArray, List.getElem_cons_zero, List.getElem_cons_succ, List.setIfInBounds_toArray, List.set_cons_zero, List.set_cons_succ])
  (refine hw_take HOK (i := 3) ?_ rfl (by decide) (by kernel_rfl) (by kernel_rfl) (by exact fun _ _ _ h => h) (Or.inl ⟨by rfl, fun w' hS => ?_⟩) HS ?_; rotate_left; (go_simp; try with_reducible rfl); simp only [Act.put, List.getElem_toArray, List.getElem_cons_zero, List.getElem_cons_succ, List.setIfInBounds_toArray, List.set_cons_zero, List.set_cons_succ])
  (refine hw_take HOK (i := 4) ?_ rfl (by decide) (by kernel_rfl) (by kernel_rfl) (by exact fun _ _ _ h => h) (Or.inl ⟨by rfl, fun w' hS => ?_⟩) HS ?_; rotate_left; (go_simp; try with_reducible rfl); simp only [Act.put, List.getElem_toArray, List.getElem_cons_zero, List.getElem_cons_succ, List.setIfInBounds_toArray, List.set_cons_zero, List.set_cons_succ])
  (refine hw_take HOK (i := 5) ?_ rfl (by decide) (by kernel_rfl) (by kernel_rfl) (by exact fun _ _ _ h => h) (Or.inl ⟨by rfl, fun w' hS => ?_⟩) HS ?_; rotate_left; (obtain ⟨D0, D1, Df0, Df1⟩ := row_two hS; go_simp; try with_reducible rfl); simp only [Act.put, List.getElem_toArray, List.getElem_cons_zero, List.getElem_cons_succ, List.setIfInBounds_toArray, List.set_cons_zero, List.set_cons_succ])
  (refine hw_take HOK (i := 6) ?_ rfl (by decide) (by kernel_rfl) (by kernel_rfl) (by exact fun _ _ _ h => h) (Or.inl ⟨by rfl, fun w' hS => ?_⟩) HS ?_; rotate_left; (go_simp; try with_reducible rfl); simp only [Act.put, List.getElem_toArray, List.getElem_cons_zero, List.getElem_cons_succ, List.setIfInBounds_toArray, List.set_cons_zero, List.set_cons_succ])
  (refine hw_take HOK (i := 7) ?_ rfl (by decide) (by kernel_rfl) (by kernel_rfl) (by exact fun _ _ _ h => h) (Or.inl ⟨by rfl, fun w' hS => ?_⟩) HS ?_; rotate_left; (go_simp; try with_reducible rfl); simp only [Act.put, List.getElem_toArray, List.getElem_cons_zero, List.getElem_cons_succ, List.setIfInBounds_toArray, List.set_cons_zero, List.set_cons_succ])
  (refine hw_take HOK (i := 8) ?_ rfl (by decide) (by kernel_rfl) (by kernel_rfl) (by exact fun _ _ _ h => h) (Or.inl ⟨by rfl, fun w' hS => ?_⟩) HS ?_; rotate_left; (go_simp; try with_reducible rfl); simp only [Act.put, List.getElem_toArray, List.getElem_cons_zero, List.getElem_cons_succ, List.setIfInBounds_toArray, List.set_cons_zero, List.set_cons_succ])
  (refine hw_take HOK (i := 9) ?_ rfl (by decide) (by kernel_rfl) (by kernel_rfl) (by exact fun _ _ _ h => h) (Or.inl ⟨by rfl, fun w' hS => ?_⟩) HS ?_; rotate_left; (obtain ⟨D0, D1, Df0, Df1⟩ := row_two hS; go_simp; try with_reducible rfl); simp only [Act.put, List.getElem_toArray, List.getElem_cons_zero, List.getElem_cons_succ, List.setIfInBounds_toArray, List.set_cons_zero, List.set_cons_succ])
  (refine hw_take HOK (i := 10) ?_ rfl (by decide) (by kernel_rfl) (by kernel_rfl) (by exact fun _ _ _ h => h) (Or.inl ⟨by rfl, fun w' hS => ?_⟩) HS ?_; rotate_left; (go_simp; try with_reducible rfl); simp only [Act.put, List.getElem_toArray, List.getElem_cons_zero, List.getElem_cons_succ, List.setIfInBounds_toArray, List.set_cons_zero, List.set_cons_succ])
  (refine hw_take HOK (i := 11) ?_ rfl (by decide) (by kernel_rfl) (by kernel_rfl) (by exact fun _ _ _ h => h) (Or.inl ⟨by rfl, fun w' hS => ?_⟩) HS ?_; rotate_left; (go_simp; try with_reducible rfl); simp only [Act.put, List.getElem_toArray, List.getElem_cons_zero, List.getElem_cons_succ, List.setIfInBounds_toArray, List.set_cons_zero, List.set_cons_succ])
  (refine hw_take HOK (i := 12) ?_ rfl (by decide) (by kernel_rfl) (by kernel_rfl) (by exact fun _ _ _ h => h) (Or.inl ⟨by rfl, fun w' hS => ?_⟩) HS ?_; rotate_left; (go_simp; try with_reducible rfl); simp only [Act.put, List.getElem_toArray, List.getElem_cons_zero, List.getElem_cons_succ, List.setIfInBounds_toArray, List.set_cons_zero, List.set_cons_succ])
  refine hw_done (by kernel_rfl) ?_
  simp only [List.drop_succ_cons, List.drop_zero]
  clear HOK HS D
  go_wp2
  exact bodyPost_ret (v := .tuple #[.int .i64 (d : Nat), .bool true]) (by simp [results, Try.results93, go_sem]; try omega) rfl ⟨rfl, o.drew⟩
set_option maxRecDepth 100000 in
set_option maxHeartbeats 4000000 in
theorem rnumN (p q : Nat) (hp : q < 1099511627776) (hq : p < q) (w : World) : Calls Try.prog 93 #[W p, W q] w fun e w' => e = .returned (.tuple #[.int .i64 ((p : Int) - (q : Int)), .bool true]) ∧ Below w.heap.size w w' := by
  have PN := fun w => rsub_no p q (by omega) w
  have PS := fun w => rsub_yes q p (by unfold big; omega) (by unfold big; omega) (by omega) w
  generalize hd : q - p = d at PS
  have hd2 : (p : Int) - (q : Int) = -(d : Nat) := by omega
  rw [hd2]
  have h0 := hi_00 d (by omega)
  have h1 := lo_00 d (by omega)
  have h2 := mask_63 d (by omega)
  have h3 : IntKind.i64.wrap (d : Nat) = (d : Nat) := IntWalk.i64_in _ (by omega)
  have h5 : IntKind.i64.wrap (-(d : Nat)) = -(d : Nat) := IntWalk.i64_in _ (by omega)
  have h4 : (d : Int) < 9223372036854775808 := by omega
  have h6 : ((d : Int) == 9223372036854775808) = false := by simp; omega
  rw [h1] at h2
  have PS2 := Lib.hid (show ∀ w, Calls Try.prog 111 #[W q, W p] w fun e w' => e = .returned (.tuple #[.agg #[.int .u64 0, .int .u64 (d : Nat)], .bool true]) ∧ Below w.heap.size w w' from fun w => by have := PS w; unfold W at this; rw [h0, h1] at this; exact this)
  replace PN := Lib.hid PN
  clear PS hd hd2 hq hp h0 h1
  go_enter Try.func93, Try.ntmps93
  go_upto_region 1 with (fail)
  have X : Row ((w.alloc (.cells #[.int .u64 (hi p), .int .u64 (lo p)] 72)).alloc (.cells #[.int .u64 (hi q), .int .u64 (lo q)] 72)) w.heap.size 72 #[.int .u64 (hi p), .int .u64 (lo p)] := row_alloc (row_new rfl) _
  have Y : Row ((w.alloc (.cells #[.int .u64 (hi p), .int .u64 (lo p)] 72)).alloc (.cells #[.int .u64 (hi q), .int .u64 (lo q)] 72)) (w.heap.size + 1) 72 #[.int .u64 (hi q), .int .u64 (lo q)] := row_new (by simp)
  have o : Below w.heap.size w ((w.alloc (.cells #[.int .u64 (hi p), .int .u64 (lo p)] 72)).alloc (.cells #[.int .u64 (hi q), .int .u64 (lo q)] 72)) := by (repeat (first | exact Below.refl _ _ | refine Below.setCell ?_ (by first | (simp; done) | (simp; omega) | omega) _ | refine Below.alloc ?_ (by first | (simp; done) | (simp; omega) | omega) _ | refine Below.drew ?_ | refine Below.trans ?_ (Below.mono (by assumption) (by first | (simp; done) | (simp; omega) | omega))))
  generalize ((w.alloc (.cells #[.int .u64 (hi p), .int .u64 (lo p)] 72)).alloc (.cells #[.int .u64 (hi q), .int .u64 (lo q)] 72)) = w1 at X Y o ⊢
  obtain ⟨X0, X1, Xf0, Xf1⟩ := row_two X
  obtain ⟨Y0, Y1, Yf0, Yf1⟩ := row_two Y
  go_wp2_with fail
  refine (PN.out _).mono ?_
  rintro e w2 ⟨rfl, hb2⟩
  replace X := row_call X hb2
  replace Y := row_call Y hb2
  replace o := o.trans (hb2.mono o.size)
  clear hb2 PN X0 X1 Xf0 Xf1 Y0 Y1 Yf0 Yf1
  go_upto_region 4 with (fail)
  have z2 := o.size
  replace X := row_alloc X (.cells #[.int .u64 (hi 0), .int .u64 (lo 0)] 72)
  replace Y := row_alloc Y (.cells #[.int .u64 (hi 0), .int .u64 (lo 0)] 72)
  replace o := o.alloc o.size (.cells #[.int .u64 (hi 0), .int .u64 (lo 0)] 72)
  generalize w2.alloc (.cells #[.int .u64 (hi 0), .int .u64 (lo 0)] 72) = w3 at X Y o ⊢
  obtain ⟨X0, X1, Xf0, Xf1⟩ := row_two X
  obtain ⟨Y0, Y1, Yf0, Yf1⟩ := row_two Y
  go_wp2_with fail
  refine (PS2.out _).mono ?_
  rintro e w4 ⟨rfl, hb4⟩
  replace o := o.trans (hb4.mono o.size)
  clear hb4 PS2 X Y X0 X1 Xf0 Xf1 Y0 Y1 Yf0 Yf1 z2
  go_upto_region 5 with (fail)
  have D : Row (w4.alloc (.cells #[.int .u64 0, .int .u64 (d : Nat)] 72)) w4.heap.size 72 #[.int .u64 0, .int .u64 (d : Nat)] := row_new rfl
  replace o := o.alloc o.size (.cells #[.int .u64 0, .int .u64 (d : Nat)] 72)
  generalize w4.alloc (.cells #[.int .u64 0, .int .u64 (d : Nat)] 72) = wr at D o ⊢
  generalize w4.heap.size = db at D ⊢
  obtain ⟨D0, D1, Df0, Df1⟩ := row_two D
  go_upto_region 7 with (fail)
  clear D0 D1 Df0 Df1
  refine wp_region_phase 14 (fun w' => Row w' db 72 #[.int .u64 0, .int .u64 (d : Nat)]) (by kernel_rfl) (by kernel_rfl) (by kernel_rfl) (by kernel_rfl) (by kernel_rfl) (fun HOK => ?_)
  have HS := (show Row wr.drew db 72 #[.int .u64 0, .int .u64 (d : Nat)] from D)
  (refine hw_take HOK (i := 0) ?_ rfl (by decide) (by kernel_rfl) (by kernel_rfl) (by exact fun _ _ _ h => h) (Or.inl ⟨by rfl, fun w' hS => ?_⟩) HS ?_; rotate_left; (go_simp; try with_reducible rfl); simp only [Act.put, List.getElem_toArray, List.getElem_cons_zero, List.getElem_cons_succ, List.setIfInBounds_toArray, List.set_cons_zero, List.set_cons_succ])
  (refine hw_take HOK (i := 1) ?_ rfl (by decide) (by kernel_rfl) (by kernel_rfl) (by exact fun _ _ _ h => h) (Or.inl ⟨by rfl, fun w' hS => ?_⟩) HS ?_; rotate_left; (obtain ⟨D0, D1, Df0, Df1⟩ := row_two hS; go_simp; try with_reducible rfl); simp only [Act.put, List.getElem_toArray, List.getElem_cons_zero, List.getElem_cons_succ, List.setIfInBounds_toArray, List.set_cons_zero, List.set_cons_succ])
  (refine hw_take HOK (i := 2) ?_ rfl (by decide) (by kernel_rfl) (by kernel_rfl) (by exact fun _ _ _ h => h) (Or.inl ⟨by rfl, fun w' hS => ?_⟩) HS ?_; rotate_left; (go_simp; try with_reducible rfl); simp only [Act.put, List.getElem_toArray, List.getElem_cons_zero, List.getElem_cons_succ, List.setIfInBounds_toArray, List.set_cons_zero, List.set_cons_succ])
  (refine hw_take HOK (i := 3) ?_ rfl (by decide) (by kernel_rfl) (by kernel_rfl) (by exact fun _ _ _ h => h) (Or.inl ⟨by rfl, fun w' hS => ?_⟩) HS ?_; rotate_left; (go_simp; try with_reducible rfl); simp only [Act.put, List.getElem_toArray, List.getElem_cons_zero, List.getElem_cons_succ, List.setIfInBounds_toArray, List.set_cons_zero, List.set_cons_succ])
  (refine hw_take HOK (i := 4) ?_ rfl (by decide) (by kernel_rfl) (by kernel_rfl) (by exact fun _ _ _ h => h) (Or.inl ⟨by rfl, fun w' hS => ?_⟩) HS ?_; rotate_left; (go_simp; try with_reducible rfl); simp only [Act.put, List.getElem_toArray, List.getElem_cons_zero, List.getElem_cons_succ, List.setIfInBounds_toArray, List.set_cons_zero, List.set_cons_succ])
  (refine hw_take HOK (i := 5) ?_ rfl (by decide) (by kernel_rfl) (by kernel_rfl) (by exact fun _ _ _ h => h) (Or.inl ⟨by rfl, fun w' hS => ?_⟩) HS ?_; rotate_left; (go_simp; try with_reducible rfl); simp only [Act.put, List.getElem_toArray, List.getElem_cons_zero, List.getElem_cons_succ, List.setIfInBounds_toArray, List.set_cons_zero, List.set_cons_succ])
  (refine hw_take HOK (i := 6) ?_ rfl (by decide) (by kernel_rfl) (by kernel_rfl) (by exact fun _ _ _ h => h) (Or.inl ⟨by rfl, fun w' hS => ?_⟩) HS ?_; rotate_left; (obtain ⟨D0, D1, Df0, Df1⟩ := row_two hS; go_simp; try with_reducible rfl); simp only [Act.put, List.getElem_toArray, List.getElem_cons_zero, List.getElem_cons_succ, List.setIfInBounds_toArray, List.set_cons_zero, List.set_cons_succ])
  (refine hw_take HOK (i := 7) ?_ rfl (by decide) (by kernel_rfl) (by kernel_rfl) (by exact fun _ _ _ h => h) (Or.inl ⟨by rfl, fun w' hS => ?_⟩) HS ?_; rotate_left; (go_simp; try with_reducible rfl); simp only [Act.put, List.getElem_toArray, List.getElem_cons_zero, List.getElem_cons_succ, List.setIfInBounds_toArray, List.set_cons_zero, List.set_cons_succ])
  (refine hw_take HOK (i := 8) ?_ rfl (by decide) (by kernel_rfl) (by kernel_rfl) (by exact fun _ _ _ h => h) (Or.inl ⟨by rfl, fun w' hS => ?_⟩) HS ?_; rotate_left; (go_simp; try with_reducible rfl); simp only [Act.put, List.getElem_toArray, List.getElem_cons_zero, List.getElem_cons_succ, List.setIfInBounds_toArray, List.set_cons_zero, List.set_cons_succ])
  (refine hw_take HOK (i := 9) ?_ rfl (by decide) (by kernel_rfl) (by kernel_rfl) (by exact fun _ _ _ h => h) (Or.inl ⟨by rfl, fun w' hS => ?_⟩) HS ?_; rotate_left; (go_simp; try with_reducible rfl); simp only [Act.put, List.getElem_toArray, List.getElem_cons_zero, List.getElem_cons_succ, List.setIfInBounds_toArray, List.set_cons_zero, List.set_cons_succ])
  (refine hw_take HOK (i := 10) ?_ rfl (by decide) (by kernel_rfl) (by kernel_rfl) (by exact fun _ _ _ h => h) (Or.inl ⟨by rfl, fun w' hS => ?_⟩) HS ?_; rotate_left; (obtain ⟨D0, D1, Df0, Df1⟩ := row_two hS; go_simp; try with_reducible rfl); simp only [Act.put, List.getElem_toArray, List.getElem_cons_zero, List.getElem_cons_succ, List.setIfInBounds_toArray, List.set_cons_zero, List.set_cons_succ])
  (refine hw_take HOK (i := 11) ?_ rfl (by decide) (by kernel_rfl) (by kernel_rfl) (by exact fun _ _ _ h => h) (Or.inl ⟨by rfl, fun w' hS => ?_⟩) HS ?_; rotate_left; (go_simp; try with_reducible rfl); simp only [Act.put, List.getElem_toArray, List.getElem_cons_zero, List.getElem_cons_succ, List.setIfInBounds_toArray, List.set_cons_zero, List.set_cons_succ])
  (refine hw_take HOK (i := 12) ?_ rfl (by decide) (by kernel_rfl) (by kernel_rfl) (by exact fun _ _ _ h => h) (Or.inl ⟨by rfl, fun w' hS => ?_⟩) HS ?_; rotate_left; (go_simp; try with_reducible rfl); simp only [Act.put, List.getElem_toArray, List.getElem_cons_zero, List.getElem_cons_succ, List.setIfInBounds_toArray, List.set_cons_zero, List.set_cons_succ])
  (refine hw_take HOK (i := 13) ?_ rfl (by decide) (by kernel_rfl) (by kernel_rfl) (by exact fun _ _ _ h => h) (Or.inl ⟨by rfl, fun w' hS => ?_⟩) HS ?_; rotate_left; (go_simp; try with_reducible rfl); simp only [Act.put, List.getElem_toArray, List.getElem_cons_zero, List.getElem_cons_succ, List.setIfInBounds_toArray, List.set_cons_zero, List.set_cons_succ])
  refine hw_done (by kernel_rfl) ?_
  simp only [List.drop_succ_cons, List.drop_zero]
  clear HOK HS D
  go_wp2
  exact bodyPost_ret (v := .tuple #[.int .i64 (-(d : Nat)), .bool true]) (by simp [results, Try.results93, go_sem]; try omega) rfl ⟨rfl, o.drew⟩
end Go.Proofs.Ytaiepjcnncajcaa
end
section
/- Exact sums of wide numbers, walked. -/
set_option linter.unusedVariables false
set_option linter.unusedSimpArgs false
set_option linter.unusedSectionVars false
set_option linter.unnecessarySimpa false
namespace Go.Proofs.Ytaiepjcnncajcaa
open Go.RowKit
/-- The number at a place of a list. -/
def ymAt (ms : List Nat) (i : Nat) : Nat := ms.getD i 0
/-- The cells of a list of wide numbers. -/
def ycells (ms : List Nat) : List Value := ms.flatMap fun m => [.int .u64 (hi m), .int .u64 (lo m)]
theorem ycells_cons (m : Nat) (ms : List Nat) : ycells (m :: ms) = .int .u64 (hi m) :: .int .u64 (lo m) :: ycells ms := rfl
theorem ycells_append (a b : List Nat) : ycells (a ++ b) = ycells a ++ ycells b := by unfold ycells; rw [List.flatMap_append]
theorem ycells_len : ∀ ms : List Nat, (ycells ms).length = ms.length * 2
  | [] => rfl
  | m :: ms => by rw [ycells_cons]; simp only [List.length_cons, ycells_len ms]; omega
theorem ycells_at : ∀ (ms : List Nat) (i : Nat), i < ms.length → (ycells ms)[i * 2]? = some (.int .u64 (hi (ymAt ms i))) ∧ (ycells ms)[i * 2 + 1]? = some (.int .u64 (lo (ymAt ms i)))
  | [], i, h => absurd h (by simp)
  | m :: ms, 0, _ => ⟨rfl, rfl⟩
  | m :: ms, i + 1, h => by
    have ih := ycells_at ms i (by simpa using h)
    rw [ycells_cons, show (i + 1) * 2 = i * 2 + 1 + 1 by omega, show i * 2 + 1 + 1 + 1 = (i * 2 + 1) + 1 + 1 by omega]
    simp only [List.getElem?_cons_succ]
    exact ih
section
variable {w w' : World} {B m : Nat} {A : Option Addr} {ms : List Nat}
theorem Reads.ym_len (h : Reads w B 2 A m (ycells ms)) : ms.length = m := by have := h.1; rw [ycells_len] at this; omega
/-- The two cells of a wide number. -/
def YCells (w : World) (a : Addr) (m : Nat) : Prop := w.cell? a = some (.int .u64 (hi m)) ∧ w.cell? ⟨a.block, a.off + 1, none⟩ = some (.int .u64 (lo m))
theorem YCells.below {B : Nat} {a : Addr} {m : Nat} (h : YCells w a m) (hb : Below B w w') (hlt : a.block < B) : YCells w' a m :=
  ⟨(hb.cell hlt).trans h.1, (hb.cell (p := ⟨a.block, a.off + 1, none⟩) hlt).trans h.2⟩
theorem Reads.ym {i : Nat} (h : Reads w B 2 A m (ycells ms)) (hi : i < m) : ∃ ad, A = some ad ∧ ad.block < B ∧ YCells w (ad.add (i * 2)) (ymAt ms i) := by
  obtain ⟨ad, e, hb, hc⟩ := h.2 (by omega)
  have ht := ycells_at ms i (by rw [h.ym_len]; exact hi)
  refine ⟨ad, e, hb, hc _ _ ht.1, ?_⟩
  rw [← addr_lit _ 1 (by decide), add_of_add]
  exact hc _ _ ht.2
end
theorem Reads.boo {w : World} {B n : Nat} {A : Option Addr} {bs : List Bool} {k : Nat} (h : Reads w B 1 A n (bs.map Value.bool)) (hk : k < n) : ∃ ad, A = some ad ∧ ad.block < B ∧ w.cell? (ad.add k) = some (.bool (bs.getD k false)) := by
  obtain ⟨ad, u, e, hb, hu, hc⟩ := h.at_ hk
  have hl : k < bs.length := by have := h.1; simp at this; omega
  refine ⟨ad, e, hb, ?_⟩
  rw [hc, ← hu]
  simp [List.getD, hl]
theorem Reads.boo_len {w : World} {B n : Nat} {A : Option Addr} {bs : List Bool} (h : Reads w B 1 A n (bs.map Value.bool)) : bs.length = n := by have := h.1; simp at this; exact this
/-- The sum of the numbers with a mark. -/
def tot (b : Bool) : List Nat → List Bool → Nat
  | x :: xs, c :: cs => (if c = b then x else 0) + tot b xs cs
  | _, _ => 0
theorem tot_take (b : Bool) : ∀ (xs : List Nat) (bs : List Bool) (k : Nat), k < xs.length → k < bs.length → tot b (xs.take (k + 1)) (bs.take (k + 1)) = tot b (xs.take k) (bs.take k) + (if bs.getD k false = b then ymAt xs k else 0)
  | [], _, _, h, _ => absurd h (by simp)
  | _ :: _, [], _, _, h => absurd h (by simp)
  | x :: xs, c :: cs, 0, _, _ => by simp [tot, ymAt]
  | x :: xs, c :: cs, k + 1, h, h' => by
    have ih := tot_take b xs cs k (by simpa using h) (by simpa using h')
    have e1 : ymAt (x :: xs) (k + 1) = ymAt xs k := rfl
    have e2 : (c :: cs).getD (k + 1) false = cs.getD k false := rfl
    rw [e1, e2, List.take_succ_cons (i := k + 1), List.take_succ_cons (i := k + 1), List.take_succ_cons, List.take_succ_cons, tot, tot, ih]
    omega
theorem tot_le (b : Bool) {M : Nat} : ∀ (xs : List Nat) (bs : List Bool), (∀ x ∈ xs, x ≤ M) → tot b xs bs ≤ M * xs.length
  | [], _, _ => by simp [tot]
  | _ :: _, [], _ => by simp [tot]
  | x :: xs, c :: cs, h => by
    have ih := tot_le b xs cs (fun y hy => h y (by simp [hy]))
    have hx := h x (by simp)
    rw [tot, List.length_cons, Nat.mul_add]
    split <;> omega
theorem ymAt_mem {xs : List Nat} {k : Nat} (h : k < xs.length) : ymAt xs k ∈ xs := by
  unfold ymAt
  rw [List.getD_eq_getElem?_getD, List.getElem?_eq_getElem h]
  exact List.getElem_mem _
set_option maxHeartbeats 4000000 in
theorem rtotal (A : Option Addr) (m c : Nat) (xs : List Nat) (A' : Option Addr) (c' : Nat) (bs : List Bool) (w : World) (h : Reads w w.heap.size 2 A m (ycells xs)) (h' : Reads w w.heap.size 1 A' m (bs.map Value.bool)) (hm : m ≤ 1000) (hx : ∀ x ∈ xs, x ≤ 1073741824) :
    Calls Try.prog 92 #[.slice A m c, .slice A' m c'] w fun e w' => e = .returned (.tuple #[W (tot false xs bs), W (tot true xs bs), .bool true]) ∧ Below w.heap.size w w' := by
  have HR := Lib.hid h
  have HR' := Lib.hid h'
  have HL := Lib.hid h.ym_len
  have HL' := Lib.hid h'.boo_len
  have HX := Lib.hid hx
  clear h h' hx
  have R4 : Row ((((w.alloc (.cells #[.int .u64 0, .int .u64 0] 72)).alloc (.cells #[.int .u64 0, .int .u64 0] 72)).alloc (.cells #[.int .u64 0, .int .u64 0] 72)).alloc (.cells #[.int .u64 0, .int .u64 0] 72)) w.heap.size 72 #[.int .u64 0, .int .u64 0] := row_alloc (row_alloc (row_alloc (row_new rfl) _) _) _
  have R5 : Row ((((w.alloc (.cells #[.int .u64 0, .int .u64 0] 72)).alloc (.cells #[.int .u64 0, .int .u64 0] 72)).alloc (.cells #[.int .u64 0, .int .u64 0] 72)).alloc (.cells #[.int .u64 0, .int .u64 0] 72)) (w.heap.size + 1) 72 #[.int .u64 0, .int .u64 0] := row_alloc (row_alloc (row_new (by simp)) _) _
  have RP : Row ((((w.alloc (.cells #[.int .u64 0, .int .u64 0] 72)).alloc (.cells #[.int .u64 0, .int .u64 0] 72)).alloc (.cells #[.int .u64 0, .int .u64 0] 72)).alloc (.cells #[.int .u64 0, .int .u64 0] 72)) (w.heap.size + 2) 72 #[.int .u64 0, .int .u64 0] := row_alloc (row_new (by simp)) _
  have RQ : Row ((((w.alloc (.cells #[.int .u64 0, .int .u64 0] 72)).alloc (.cells #[.int .u64 0, .int .u64 0] 72)).alloc (.cells #[.int .u64 0, .int .u64 0] 72)).alloc (.cells #[.int .u64 0, .int .u64 0] 72)) (w.heap.size + 3) 72 #[.int .u64 0, .int .u64 0] := row_new (by simp)
  have o : Below w.heap.size w ((((w.alloc (.cells #[.int .u64 0, .int .u64 0] 72)).alloc (.cells #[.int .u64 0, .int .u64 0] 72)).alloc (.cells #[.int .u64 0, .int .u64 0] 72)).alloc (.cells #[.int .u64 0, .int .u64 0] 72)) := by (repeat (first | exact Below.refl _ _ | refine Below.setCell ?_ (by first | (simp; done) | (simp; omega) | omega) _ | refine Below.alloc ?_ (by first | (simp; done) | (simp; omega) | omega) _ | refine Below.drew ?_ | refine Below.trans ?_ (Below.mono (by assumption) (by first | (simp; done) | (simp; omega) | omega))))
  go_enter Try.func92, Try.ntmps92
  go_upto_region 3 with (fail)
  generalize ((((w.alloc (.cells #[.int .u64 0, .int .u64 0] 72)).alloc (.cells #[.int .u64 0, .int .u64 0] 72)).alloc (.cells #[.int .u64 0, .int .u64 0] 72)).alloc (.cells #[.int .u64 0, .int .u64 0] 72)) = w1 at R4 R5 RP RQ o ⊢
  go_wp2
  go_loopw [9, 15] (fun g i wr => ∃ k : Nat, k ≤ m ∧ i = .int .i64 (k : Nat) ∧ g = .bool true ∧ Row wr w.heap.size 72 #[.int .u64 0, .int .u64 0] ∧ Row wr (w.heap.size + 1) 72 #[.int .u64 0, .int .u64 0] ∧ Row wr (w.heap.size + 2) 72 #[.int .u64 (hi (tot false (xs.take k) (bs.take k))), .int .u64 (lo (tot false (xs.take k) (bs.take k)))] ∧ Row wr (w.heap.size + 3) 72 #[.int .u64 (hi (tot true (xs.take k) (bs.take k))), .int .u64 (lo (tot true (xs.take k) (bs.take k)))] ∧ Below w.heap.size w wr) (fun _ i _ => m - (intOf i).toNat)
  case atStart => exact ⟨0, by omega, rfl, rfl, R4, R5, by rw [show tot false (xs.take 0) (bs.take 0) = 0 by simp [tot]]; exact RP, by rw [show tot true (xs.take 0) (bs.take 0) = 0 by simp [tot]]; exact RQ, o⟩
  case round =>
    clear R4 R5 RP RQ o
    obtain ⟨k, hk, rfl, rfl, R4, R5, RP, RQ, o⟩ := hrel
    by_cases hlt : k < m
    · obtain ⟨ad, rfl, hadb, hi0⟩ := HR.out.ym hlt
      obtain ⟨ad', rfl, hadb', hb0⟩ := HR'.out.boo hlt
      obtain ⟨x0, x1⟩ := hi0.below o (by rw [block_of_add]; exact hadb)
      have HB0 := hb0
      have y0 := hb0
      have TP := tot_take false xs bs k (by rw [HL.out]; exact hlt) (by rw [HL'.out]; exact hlt)
      have TQ := tot_take true xs bs k (by rw [HL.out]; exact hlt) (by rw [HL'.out]; exact hlt)
      have bx := HX.out _ (ymAt_mem (show k < xs.length by rw [HL.out]; exact hlt))
      have bP := tot_le false (xs.take k) (bs.take k) (fun x hx => HX.out x (List.mem_of_mem_take hx))
      have bQ := tot_le true (xs.take k) (bs.take k) (fun x hx => HX.out x (List.mem_of_mem_take hx))
      rw [List.length_take, HL.out] at bP bQ
      have mm : min k m ≤ 1000 := by omega
      have bP2 := Nat.le_trans bP (Nat.mul_le_mul_left _ mm)
      have bQ2 := Nat.le_trans bQ (Nat.mul_le_mul_left _ mm)
      clear bP bQ hi0 hb0 mm
      generalize tot false (xs.take k) (bs.take k) = P at TP bP2 RP
      generalize tot true (xs.take k) (bs.take k) = Q at TQ bQ2 RQ
      generalize ymAt xs k = x at x0 x1 TP TQ bx
      generalize bs.getD k false = b at y0 TP TQ HB0
      replace HB0 := Lib.hid HB0
      have TPh := Lib.hid TP
      have TQh := Lib.hid TQ
      clear TP TQ
      have i1 : (k : Int) < (m : Int) := by omega
      have i2 : (0 : Int) ≤ (k : Int) := by omega
      clear y0
      go_upto_region 7 with (fail)
      have zR := row_lt RQ
      have XB : Row (wr.alloc (.cells #[.int .u64 (hi x), .int .u64 (lo x)] 72)) wr.heap.size 72 #[.int .u64 (hi x), .int .u64 (lo x)] := row_new rfl
      replace R4 := row_alloc R4 (.cells #[.int .u64 (hi x), .int .u64 (lo x)] 72)
      replace R5 := row_alloc R5 (.cells #[.int .u64 (hi x), .int .u64 (lo x)] 72)
      replace RP := row_alloc RP (.cells #[.int .u64 (hi x), .int .u64 (lo x)] 72)
      replace RQ := row_alloc RQ (.cells #[.int .u64 (hi x), .int .u64 (lo x)] 72)
      replace o := o.alloc o.size (.cells #[.int .u64 (hi x), .int .u64 (lo x)] 72)
      clear x0 x1
      generalize wr.alloc (.cells #[.int .u64 (hi x), .int .u64 (lo x)] 72) = w2 at XB R4 R5 RP RQ o ⊢
      generalize wr.heap.size = xb at XB zR ⊢
      have y0 := (o.cell (by rw [block_of_add]; exact hadb')).trans HB0.out
      obtain ⟨P0, P1, Pf0, Pf1⟩ := row_two RP
      obtain ⟨Q0, Q1, Qf0, Qf1⟩ := row_two RQ
      obtain ⟨X0, X1, Xf0, Xf1⟩ := row_two XB
      cases b
      · have PA := fun w => radd_fits P x (by unfold big; omega) (by unfold big; omega) (by unfold big; omega) w
        replace PA := Lib.hid PA
        go_wp2_with fail
        refine (PA.out _).mono ?_
        rintro e w3 ⟨rfl, hb3⟩
        replace R4 := row_call R4 hb3
        replace R5 := row_call R5 hb3
        replace RP := row_call RP hb3
        replace RQ := row_call RQ hb3
        replace XB := row_call XB hb3
        replace o := o.trans (hb3.mono o.size)
        clear hb3 y0 PA P0 P1 Pf0 Pf1 Q0 Q1 Qf0 Qf1 X0 X1 Xf0 Xf1
        obtain ⟨P0, P1, Pf0, Pf1⟩ := row_two RP
        obtain ⟨Q0, Q1, Qf0, Qf1⟩ := row_two RQ
        have EP : tot false (xs.take (k + 1)) (bs.take (k + 1)) = P + x := by have := TPh.out; simpa using this
        have EQ : tot true (xs.take (k + 1)) (bs.take (k + 1)) = Q := by have := TQh.out; simpa using this
        have T4 := row_two_other (u := .int .u64 (hi (P + x))) (v := .int .u64 (lo (P + x))) R4 (show w.heap.size ≠ (w.heap.size + 1 + 1) by omega)
        have T5 := row_two_other (u := .int .u64 (hi (P + x))) (v := .int .u64 (lo (P + x))) R5 (show w.heap.size + 1 ≠ (w.heap.size + 1 + 1) by omega)
        have TO := row_two_other (u := .int .u64 (hi (P + x))) (v := .int .u64 (lo (P + x))) RQ (show w.heap.size + 3 ≠ (w.heap.size + 1 + 1) by omega)
        have TS := row_two_set (u := .int .u64 (hi (P + x))) (v := .int .u64 (lo (P + x))) RP
        have o4 := (o.setCell (p := ⟨(w.heap.size + 1 + 1), 0, none⟩) (show w.heap.size ≤ (w.heap.size + 1 + 1) by omega) (.int .u64 (hi (P + x)))).setCell (p := ⟨(w.heap.size + 1 + 1), 1, none⟩) (show w.heap.size ≤ (w.heap.size + 1 + 1) by omega) (.int .u64 (lo (P + x)))
        go_wp2
        clear P0 P1 Pf0 Pf1 Q0 Q1 Qf0 Qf1 
        go_roundw
        case rel => exact ⟨k + 1, by omega, by go_num, rfl, T4, T5, (by rw [EP]; exact TS), (by rw [EQ]; exact TO), o4⟩
        case measure => simp [intOf]; omega
      · have PA := fun w => radd_fits Q x (by unfold big; omega) (by unfold big; omega) (by unfold big; omega) w
        replace PA := Lib.hid PA
        go_wp2_with fail
        refine (PA.out _).mono ?_
        rintro e w3 ⟨rfl, hb3⟩
        replace R4 := row_call R4 hb3
        replace R5 := row_call R5 hb3
        replace RP := row_call RP hb3
        replace RQ := row_call RQ hb3
        replace XB := row_call XB hb3
        replace o := o.trans (hb3.mono o.size)
        clear hb3 y0 PA P0 P1 Pf0 Pf1 Q0 Q1 Qf0 Qf1 X0 X1 Xf0 Xf1
        obtain ⟨P0, P1, Pf0, Pf1⟩ := row_two RP
        obtain ⟨Q0, Q1, Qf0, Qf1⟩ := row_two RQ
        have EP : tot false (xs.take (k + 1)) (bs.take (k + 1)) = P := by have := TPh.out; simpa using this
        have EQ : tot true (xs.take (k + 1)) (bs.take (k + 1)) = Q + x := by have := TQh.out; simpa using this
        have T4 := row_two_other (u := .int .u64 (hi (Q + x))) (v := .int .u64 (lo (Q + x))) R4 (show w.heap.size ≠ (w.heap.size + 1 + 1 + 1) by omega)
        have T5 := row_two_other (u := .int .u64 (hi (Q + x))) (v := .int .u64 (lo (Q + x))) R5 (show w.heap.size + 1 ≠ (w.heap.size + 1 + 1 + 1) by omega)
        have TO := row_two_other (u := .int .u64 (hi (Q + x))) (v := .int .u64 (lo (Q + x))) RP (show w.heap.size + 2 ≠ (w.heap.size + 1 + 1 + 1) by omega)
        have TS := row_two_set (u := .int .u64 (hi (Q + x))) (v := .int .u64 (lo (Q + x))) RQ
        have o4 := (o.setCell (p := ⟨(w.heap.size + 1 + 1 + 1), 0, none⟩) (show w.heap.size ≤ (w.heap.size + 1 + 1 + 1) by omega) (.int .u64 (hi (Q + x)))).setCell (p := ⟨(w.heap.size + 1 + 1 + 1), 1, none⟩) (show w.heap.size ≤ (w.heap.size + 1 + 1 + 1) by omega) (.int .u64 (lo (Q + x)))
        go_wp2
        clear P0 P1 Pf0 Pf1 Q0 Q1 Qf0 Qf1 
        go_roundw
        case rel => exact ⟨k + 1, by omega, by go_num, rfl, T4, T5, (by rw [EP]; exact TO), (by rw [EQ]; exact TS), o4⟩
        case measure => simp [intOf]; omega
    · have i1 : ¬ (k : Int) < (m : Int) := by omega
      obtain rfl : k = m := by omega
      rw [List.take_of_length_le (by rw [HL.out]; exact Nat.le_refl _), List.take_of_length_le (by rw [HL'.out]; exact Nat.le_refl _)] at RP RQ
      generalize hP : tot false xs bs = P at RP
      generalize hQ : tot true xs bs = Q at RQ
      replace hP := Lib.hid hP
      replace hQ := Lib.hid hQ
      obtain ⟨R0, R1, Rf0, Rf1⟩ := row_two R4
      go_upto_region 12 with (fail)
      refine wp_region_phase 5 (fun w' => Row w' (w.heap.size + 2) 72 #[.int .u64 (hi P), .int .u64 (lo P)] ∧ Row w' (w.heap.size + 3) 72 #[.int .u64 (hi Q), .int .u64 (lo Q)]) (by kernel_rfl) (by kernel_rfl) (by kernel_rfl) (by kernel_rfl) (by kernel_rfl) (fun HOK => ?_)
      have HS := (⟨row_drew RP, row_drew RQ⟩ : Row wr.drew (w.heap.size + 2) 72 #[.int .u64 (hi P), .int .u64 (lo P)] ∧ Row wr.drew (w.heap.size + 3) 72 #[.int .u64 (hi Q), .int .u64 (lo Q)])
      (refine hw_take HOK (i := 0) ?_ rfl (by decide) (by kernel_rfl) (by kernel_rfl) (by exact fun _ _ _ h => h) (Or.inl ⟨by rfl, fun w' hS => ?_⟩) HS ?_; rotate_left; (obtain ⟨P0, P1, Pf0, Pf1⟩ := row_two hS.1; obtain ⟨Q0, Q1, Qf0, Qf1⟩ := row_two hS.2; go_simp; try with_reducible rfl); simp only [Act.put, List.getElem_toArray, List.getElem_cons_zero, List.getElem_cons_succ, List.setIfInBounds_toArray, List.set_cons_zero, List.set_cons_succ])
      (refine hw_take HOK (i := 1) ?_ rfl (by decide) (by kernel_rfl) (by kernel_rfl) (by exact fun _ _ _ h => h) (Or.inl ⟨by rfl, fun w' hS => ?_⟩) HS ?_; rotate_left; (obtain ⟨P0, P1, Pf0, Pf1⟩ := row_two hS.1; obtain ⟨Q0, Q1, Qf0, Qf1⟩ := row_two hS.2; go_simp; try with_reducible rfl); simp only [Act.put, List.getElem_toArray, List.getElem_cons_zero, List.getElem_cons_succ, List.setIfInBounds_toArray, List.set_cons_zero, List.set_cons_succ])
      (refine hw_take HOK (i := 2) ?_ rfl (by decide) (by kernel_rfl) (by kernel_rfl) (by exact fun _ _ _ h => h) (Or.inl ⟨by rfl, fun w' hS => ?_⟩) HS ?_; rotate_left; (go_simp; try with_reducible rfl); simp only [Act.put, List.getElem_toArray, List.getElem_cons_zero, List.getElem_cons_succ, List.setIfInBounds_toArray, List.set_cons_zero, List.set_cons_succ])
      refine hw_one (i := 3) rfl (by decide) (by kernel_rfl) (fun K hK => ?_)
      go_simp
      replace R4 := row_two_set (u := .int .u64 (hi P)) (v := .int .u64 (lo P)) (row_drew R4)
      replace R5 := row_two_other (u := .int .u64 (hi P)) (v := .int .u64 (lo P)) (row_drew R5) (show w.heap.size + 1 ≠ w.heap.size by omega)
      replace RP := row_two_other (u := .int .u64 (hi P)) (v := .int .u64 (lo P)) (row_drew RP) (show w.heap.size + 2 ≠ w.heap.size by omega)
      replace RQ := row_two_other (u := .int .u64 (hi P)) (v := .int .u64 (lo P)) (row_drew RQ) (show w.heap.size + 3 ≠ w.heap.size by omega)
      replace o := (o.drew.setCell (p := ⟨w.heap.size, 0, none⟩) (show w.heap.size ≤ w.heap.size by omega) (.int .u64 (hi P))).setCell (p := ⟨w.heap.size, 1, none⟩) (show w.heap.size ≤ w.heap.size by omega) (.int .u64 (lo P))
      refine hK _ ((wr.drew.setCell ⟨w.heap.size, 0, none⟩ (.int .u64 (hi P))).setCell ⟨w.heap.size, 1, none⟩ (.int .u64 (lo P))) ⟨RP, RQ⟩ ?_
      clear hK K HS R0 R1 Rf0 Rf1
      try simp only [Act.put, List.setIfInBounds_toArray, List.set_cons_zero, List.set_cons_succ]
      generalize (wr.drew.setCell ⟨w.heap.size, 0, none⟩ (.int .u64 (hi P))).setCell ⟨w.heap.size, 1, none⟩ (.int .u64 (lo P)) = w5 at R4 R5 RP RQ o ⊢
      have HS : Row w5 (w.heap.size + 2) 72 #[.int .u64 (hi P), .int .u64 (lo P)] ∧ Row w5 (w.heap.size + 3) 72 #[.int .u64 (hi Q), .int .u64 (lo Q)] := ⟨RP, RQ⟩
      obtain ⟨S0, S1, Sf0, Sf1⟩ := row_two R5
      refine hw_one (i := 4) rfl (by decide) (by kernel_rfl) (fun K hK => ?_)
      go_simp
      replace R4 := row_two_other (u := .int .u64 (hi Q)) (v := .int .u64 (lo Q)) R4 (show w.heap.size ≠ w.heap.size + 1 by omega)
      replace R5 := row_two_set (u := .int .u64 (hi Q)) (v := .int .u64 (lo Q)) R5
      replace RP := row_two_other (u := .int .u64 (hi Q)) (v := .int .u64 (lo Q)) RP (show w.heap.size + 2 ≠ w.heap.size + 1 by omega)
      replace RQ := row_two_other (u := .int .u64 (hi Q)) (v := .int .u64 (lo Q)) RQ (show w.heap.size + 3 ≠ w.heap.size + 1 by omega)
      replace o := (o.setCell (p := ⟨w.heap.size + 1, 0, none⟩) (show w.heap.size ≤ w.heap.size + 1 by omega) (.int .u64 (hi Q))).setCell (p := ⟨w.heap.size + 1, 1, none⟩) (show w.heap.size ≤ w.heap.size + 1 by omega) (.int .u64 (lo Q))
      refine hK _ ((w5.setCell ⟨w.heap.size + 1, 0, none⟩ (.int .u64 (hi Q))).setCell ⟨w.heap.size + 1, 1, none⟩ (.int .u64 (lo Q))) ⟨RP, RQ⟩ ?_
      clear hK K HS S0 S1 Sf0 Sf1
      try simp only [Act.put, List.setIfInBounds_toArray, List.set_cons_zero, List.set_cons_succ]
      generalize (w5.setCell ⟨w.heap.size + 1, 0, none⟩ (.int .u64 (hi Q))).setCell ⟨w.heap.size + 1, 1, none⟩ (.int .u64 (lo Q)) = w6 at R4 R5 RP RQ o ⊢
      have HS : Row w6 (w.heap.size + 2) 72 #[.int .u64 (hi P), .int .u64 (lo P)] ∧ Row w6 (w.heap.size + 3) 72 #[.int .u64 (hi Q), .int .u64 (lo Q)] := ⟨RP, RQ⟩
      refine hw_done (by kernel_rfl) ?_
      try simp only [List.drop_succ_cons, List.drop_zero]
      clear HOK HS RP RQ
      obtain ⟨R0, R1, Rf0, Rf1⟩ := row_two R4
      obtain ⟨S0, S1, Sf0, Sf1⟩ := row_two R5
      go_wp2
      simp [bodyPost, results, Try.results92, go_sem, R0, R1, S0, S1]
      exact ⟨⟨⟨by rw [hP.out], by rw [hP.out]⟩, by rw [hQ.out], by rw [hQ.out]⟩, o⟩
end Go.Proofs.Ytaiepjcnncajcaa
end
section
/- The exact sum of items, walked. -/
set_option linter.unusedVariables false
set_option linter.unusedSimpArgs false
set_option linter.unusedSectionVars false
set_option linter.unnecessarySimpa false
namespace Go.Proofs.Ytaiepjcnncajcaa
open Go.RowKit
/-- The magnitudes and the signs of the values of items. -/
def mags (l : List Itm) : List Nat := l.map fun x => x.v.natAbs
def negs (l : List Itm) : List Bool := l.map fun x => decide (x.v < 0)
theorem tot_mags : ∀ l : List Itm, (tot false (mags l) (negs l) : Int) - (tot true (mags l) (negs l) : Int) = isum l
  | [] => rfl
  | x :: l => by
    have ih := tot_mags l
    unfold mags negs at ih ⊢
    rw [List.map_cons, List.map_cons, tot, tot, isum]
    by_cases h : x.v < 0
    · rw [if_neg (by simp; omega), if_pos (by simp; omega)]; omega
    · rw [if_pos (by simp; omega), if_neg (by simp; omega)]; omega
theorem mags_le {l : List Itm} (h : ∀ x ∈ l, -4096 ≤ x.v ∧ x.v ≤ 4096) : ∀ y ∈ mags l, y ≤ 1073741824 := by
  intro y hy
  unfold mags at hy
  rw [List.mem_map] at hy
  obtain ⟨x, hx, rfl⟩ := hy
  have := h x hx
  omega
theorem mags_len (l : List Itm) : (mags l).length = l.length := by unfold mags; simp
theorem mags_take {l : List Itm} {k : Nat} (h : k < l.length) : mags (l.take (k + 1)) = mags (l.take k) ++ [(itmAt l k).v.natAbs] := by
  rw [List.take_succ_eq_append_getElem h, itm_eq h]; unfold mags; simp
theorem negs_take {l : List Itm} {k : Nat} (h : k < l.length) : negs (l.take (k + 1)) = negs (l.take k) ++ [decide ((itmAt l k).v < 0)] := by
  rw [List.take_succ_eq_append_getElem h, itm_eq h]; unfold negs; simp
theorem info_wide2 : (Try.prog.info? 72).map (fun i => (i.zero, i.size, i.bytes)) = some (some (.agg #[.int .u64 0, .int .u64 0]), 2, 16) := by kernel_rfl
theorem info_bool : (Try.prog.info? 4).map (fun i => (i.zero, i.size, i.bytes)) = some (some (.bool false), 1, 1) := by kernel_rfl
set_option maxRecDepth 100000 in
set_option maxHeartbeats 8000000 in
theorem rsum8 (A : Option Addr) (m c : Nat) (l : List Itm) (w : World) (hin : Reads w w.heap.size 2 A m (icells l)) (hm : m ≤ 1000) (hv : ∀ x ∈ l, -4096 ≤ x.v ∧ x.v ≤ 4096) :
    Calls Try.prog 56 #[.slice A m c] w fun e w' => e = .returned (.tuple #[.int .i64 (isum l), .bool true]) ∧ Below w.heap.size w w' := by
  obtain ⟨iw, hiw, iw0, iw1, iw2⟩ := info_parts info_wide2
  obtain ⟨ifb, hib, ib0, ib1, ib2⟩ := info_parts info_bool
  have HR := Lib.hid hin
  have HL := Lib.hid hin.itm_len
  have HV := Lib.hid hv
  clear hin hv
  go_enter Try.func56, Try.ntmps56
  go_wp2
  go_loopw [4, 5, 15] (fun u v i wr => ∃ k : Nat, k ≤ m ∧ i = .int .i64 (k : Nat) ∧ wr.ownsRow w.heap.size 72 2 u k (ycells (mags (l.take k))) ∧ wr.ownsRow w.heap.size 4 1 v k ((negs (l.take k)).map Value.bool) ∧ (∀ g, u.ownBlock = some g → v.ownBlock ≠ some g) ∧ Below w.heap.size w wr) (fun _ _ i _ => m - (intOf i).toNat)
  case atStart => exact ⟨0, by omega, rfl, World.ownsRow_nil _ _ _ _, World.ownsRow_nil _ _ _ _, (fun g e => by cases e), Below.refl _ _⟩
  case round =>
    obtain ⟨k, hk, rfl, OW, OB, ne, o⟩ := hrel
    by_cases hlt : k < m
    · obtain ⟨ad, rfl, hadb, hi0⟩ := HR.out.itm hlt
      obtain ⟨c0, c1⟩ := hi0.below o (by rw [block_of_add]; exact hadb)
      have vB := HV.out (itmAt l k) (by rw [← itm_eq (by rw [HL.out]; exact hlt)]; exact List.getElem_mem _)
      have TM := mags_take (show k < l.length by rw [HL.out]; exact hlt)
      have TN := negs_take (show k < l.length by rw [HL.out]; exact hlt)
      clear hi0
      generalize (itmAt l k).v = v at c1 vB TM TN
      generalize (itmAt l k).t = tk at c0
      replace TM := Lib.hid TM
      replace TN := Lib.hid TN
      generalize hxs : ycells (mags (l.take k)) = xs at OW
      generalize hys : (negs (l.take k)).map Value.bool = ys at OB
      replace hxs := Lib.hid hxs
      replace hys := Lib.hid hys
      have PA := Lib.hid (fun w => rabsI v (by omega) (by omega) w)
      have PO := Lib.hid (fun w => rof v.natAbs (by omega) w)
      have i1 : (k : Int) < (m : Int) := by omega
      have i2 : (0 : Int) ≤ (k : Int) := by omega
      go_upto_region 6 with (fail)
      have zI := o.size
      have I : Row (wr.alloc (.cells #[.int .i64 tk, .int .i64 v] 51)) wr.heap.size 51 #[.int .i64 tk, .int .i64 v] := row_new rfl
      have lw := OW.lt
      have lb := OB.lt
      replace OW := OW.alloc (.cells #[.int .i64 tk, .int .i64 v] 51)
      replace OB := OB.alloc (.cells #[.int .i64 tk, .int .i64 v] 51)
      replace o := o.alloc o.size (.cells #[.int .i64 tk, .int .i64 v] 51)
      clear c0 c1
      generalize wr.alloc (.cells #[.int .i64 tk, .int .i64 v] 51) = w1 at I OW OB o ⊢
      generalize wr.heap.size = ib at I zI lw lb ⊢
      refine wp_region_phase 13 (fun w' => Row w' ib 51 #[.int .i64 tk, .int .i64 v] ∧ Below w.heap.size w w') (by kernel_rfl) (by kernel_rfl) (by kernel_rfl) (by kernel_rfl) (by kernel_rfl) (fun HOK => ?_)
      have HS := (⟨row_drew I, o.drew⟩ : Row w1.drew ib 51 #[.int .i64 tk, .int .i64 v] ∧ Below w.heap.size w w1.drew)
      (refine hw_take HOK (i := 0) ?_ rfl (by decide) (by kernel_rfl) (by kernel_rfl) (by exact fun _ _ _ h => h) (Or.inl ⟨by rfl, fun w' hS => ?_⟩) HS ?_; rotate_left; (go_simp; try with_reducible rfl); simp only [Act.put, List.getElem_toArray, List.getElem_cons_zero, List.getElem_cons_succ,  List.setIfInBounds_toArray, List.set_cons_zero, List.set_cons_succ])
      (refine hw_take HOK (i := 1) ?_ rfl (by decide) (by kernel_rfl) (by kernel_rfl) (by exact fun _ _ _ h => h) (Or.inl ⟨by rfl, fun w' hS => ?_⟩) HS ?_; rotate_left; (go_simp; try with_reducible rfl); simp only [Act.put, List.getElem_toArray, List.getElem_cons_zero, List.getElem_cons_succ,  List.setIfInBounds_toArray, List.set_cons_zero, List.set_cons_succ])
      (refine hw_take HOK (i := 2) ?_ rfl (by decide) (by kernel_rfl) (by kernel_rfl) (by exact fun _ _ _ h => h) (Or.inl ⟨by rfl, fun w' hS => ?_⟩) HS ?_; rotate_left; (obtain ⟨I0, I1, If0, If1⟩ := row_two hS.1; go_simp; try with_reducible rfl); simp only [Act.put, List.getElem_toArray, List.getElem_cons_zero, List.getElem_cons_succ,  List.setIfInBounds_toArray, List.set_cons_zero, List.set_cons_succ])
      (refine hw_take HOK (i := 7) ?_ rfl (by decide) (by kernel_rfl) (by kernel_rfl) (by exact fun _ _ _ h => h) (Or.inl ⟨by rfl, fun w' hS => ?_⟩) HS ?_; rotate_left; (go_simp; try with_reducible rfl); simp only [Act.put, List.getElem_toArray, List.getElem_cons_zero, List.getElem_cons_succ,  List.setIfInBounds_toArray, List.set_cons_zero, List.set_cons_succ])
      (refine hw_take HOK (i := 8) ?_ rfl (by decide) (by kernel_rfl) (by kernel_rfl) (by exact fun _ _ _ h => h) (Or.inl ⟨by rfl, fun w' hS => ?_⟩) HS ?_; rotate_left; (go_simp; try with_reducible rfl); simp only [Act.put, List.getElem_toArray, List.getElem_cons_zero, List.getElem_cons_succ,  List.setIfInBounds_toArray, List.set_cons_zero, List.set_cons_succ])
      (refine hw_take HOK (i := 9) ?_ rfl (by decide) (by kernel_rfl) (by kernel_rfl) (by exact fun _ _ _ h => h) (Or.inl ⟨by rfl, fun w' hS => ?_⟩) HS ?_; rotate_left; (obtain ⟨I0, I1, If0, If1⟩ := row_two hS.1; go_simp; try with_reducible rfl); simp only [Act.put, List.getElem_toArray, List.getElem_cons_zero, List.getElem_cons_succ,  List.setIfInBounds_toArray, List.set_cons_zero, List.set_cons_succ])
      (refine hw_take HOK (i := 10) ?_ rfl (by decide) (by kernel_rfl) (by kernel_rfl) (by exact fun _ _ _ h => h) (Or.inl ⟨by rfl, fun w' hS => ?_⟩) HS ?_; rotate_left; (go_simp; try with_reducible rfl); simp only [Act.put, List.getElem_toArray, List.getElem_cons_zero, List.getElem_cons_succ,  List.setIfInBounds_toArray, List.set_cons_zero, List.set_cons_succ])
      replace I : Row w1.drew ib 51 #[.int .i64 tk, .int .i64 v] := I
      replace OW : w1.drew.ownsRow w.heap.size 72 2 u4 k xs := OW
      replace OB : w1.drew.ownsRow w.heap.size 4 1 u5 k ys := OB
      replace o := o.drew
      clear HS
      generalize w1.drew = w2 at I OW OB o ⊢
      refine hw_two (i := 3) (j := 11) rfl rfl (by decide) (by decide) (by kernel_rfl) (fun K hK => ?_) (fun K hK => ?_)
      · skip
        go_simp
        refine (PA.out _).mono ?_
        rintro e wx ⟨rfl, hx⟩
        obtain rfl := hx.symm
        refine hK _ _ ⟨I, o⟩ ?_
        clear hK K
        try simp only [Act.put, List.getElem_toArray, List.getElem_cons_zero, List.getElem_cons_succ, List.setIfInBounds_toArray, List.set_cons_zero, List.set_cons_succ]
        refine hw_two (i := 4) (j := 11) rfl rfl (by decide) (by decide) (by kernel_rfl) (fun K hK => ?_) (fun K hK => ?_)
        · skip
          go_simp
          refine (PO.out _).mono ?_
          rintro e w3 ⟨rfl, hb⟩
          replace I := row_call I hb
          replace OW := orow_keep OW (fun g e => hb.block g (OW.lt g e).2)
          replace OB := orow_keep OB (fun g e => hb.block g (OB.lt g e).2)
          replace o := o.trans (hb.mono o.size)
          refine hK _ _ ⟨I, o⟩ ?_
          clear hb
          clear hK K
          try simp only [Act.put, List.getElem_toArray, List.getElem_cons_zero, List.getElem_cons_succ, List.setIfInBounds_toArray, List.set_cons_zero, List.set_cons_succ]
          refine hw_two (i := 5) (j := 11) rfl rfl (by decide) (by decide) (by kernel_rfl) (fun K hK => ?_) (fun K hK => ?_)
          · skip
            go_simp
            have RA : Reads (w3.alloc (.cells #[.int .u64 (hi v.natAbs), .int .u64 (lo v.natAbs)] 72)) (w3.alloc (.cells #[.int .u64 (hi v.natAbs), .int .u64 (lo v.natAbs)] 72)).heap.size 2 (some ⟨w3.heap.size, 0, none⟩) 1 #[.int .u64 (hi v.natAbs), .int .u64 (lo v.natAbs)].toList := (own_new (w := w3) (e := 72) (size := 2) (n := 1) (cs := #[.int .u64 (hi v.natAbs), .int .u64 (lo v.natAbs)]) rfl (by unfold maxLen; omega) (by first | (simp; done) | omega | decide)).reads
            have law : ∀ g, u4.ownBlock = some g → g < w3.heap.size := fun g e => (OW.lt g e).2
            have al := (Below.refl w3.heap.size w3).alloc (Nat.le_refl _) (.cells #[.int .u64 (hi v.natAbs), .int .u64 (lo v.natAbs)] 72)
            replace I := row_call I al
            replace OW := orow_keep OW (fun g e => al.block g (OW.lt g e).2)
            replace OB := orow_keep OB (fun g e => al.block g (OB.lt g e).2)
            replace o := o.trans (al.mono o.size)
            refine hK _ (w3.alloc (.cells #[.int .u64 (hi v.natAbs), .int .u64 (lo v.natAbs)] 72)) ⟨I, o⟩ ?_
            clear al
            generalize w3.alloc (.cells #[.int .u64 (hi v.natAbs), .int .u64 (lo v.natAbs)] 72) = w4 at I OW OB o RA ⊢
            generalize w3.heap.size = ga at RA law ⊢
            clear hK K
            try simp only [Act.put, List.getElem_toArray, List.getElem_cons_zero, List.getElem_cons_succ, List.setIfInBounds_toArray, List.set_cons_zero, List.set_cons_succ]
            refine hw_two (i := 6) (j := 11) rfl rfl (by decide) (by decide) (by kernel_rfl) (fun K hK => ?_) (fun K hK => ?_)
            · skip
              refine step_append_any w4 rfl _ _ 108 rfl w.heap.size 72 iw (.agg #[.int .u64 0, .int .u64 0]) 2 16 Try.underlying108 hiw iw0 iw1 iw2 rfl (by decide) u4 k xs rfl OW w4.heap.size (some ⟨ga, 0, none⟩) 1 1 #[.int .u64 (hi v.natAbs), .int .u64 (lo v.natAbs)].toList rfl RA (by simp [Value.oneCell']) (by unfold maxLen; omega) (by omega) o.size ?_
              intro v6 w5 own6 hg6 hat6
              replace I := row_grown I hg6 (fun e => by have := (lw _ e).2; omega)
              have ne6 : ∀ g, v6.ownBlock = some g → u5.ownBlock ≠ some g := fun g e e' => by
                rcases hat6 with h | h
                · exact ne g (h ▸ e) e'
                · have := (OB.lt g e').2; rw [h] at e; injection e; omega
              replace OB := orow_keep OB (fun g e => hg6.block g (OB.lt g e).2 (fun h => ne g h.symm e))
              replace o := below_grown o hg6 (fun b e => (OW.lt b e).1) o.size
              replace OW := own6
              refine hK _ _ ⟨I, o⟩ ?_
              clear own6 hg6 hat6 RA
              clear hK K
              try simp only [Act.put, List.getElem_toArray, List.getElem_cons_zero, List.getElem_cons_succ, List.setIfInBounds_toArray, List.set_cons_zero, List.set_cons_succ]
              refine hw_one (i := 11) rfl (by decide) (by kernel_rfl) (fun K hK => ?_)
              go_simp
              have RB : Reads (w5.alloc (.cells #[.bool (decide (v < 0))] 4)) (w5.alloc (.cells #[.bool (decide (v < 0))] 4)).heap.size 1 (some ⟨w5.heap.size, 0, none⟩) 1 #[.bool (decide (v < 0))].toList := (own_new (w := w5) (e := 4) (size := 1) (n := 1) (cs := #[.bool (decide (v < 0))]) rfl (by unfold maxLen; omega) (by first | (simp; done) | omega | decide)).reads
              have lbw : ∀ g, v6.ownBlock = some g → g < w5.heap.size := fun g e => (OW.lt g e).2
              have al := (Below.refl w5.heap.size w5).alloc (Nat.le_refl _) (.cells #[.bool (decide (v < 0))] 4)
              replace I := row_call I al
              replace OW := orow_keep OW (fun g e => al.block g (OW.lt g e).2)
              replace OB := orow_keep OB (fun g e => al.block g (OB.lt g e).2)
              replace o := o.trans (al.mono o.size)
              refine hK _ (w5.alloc (.cells #[.bool (decide (v < 0))] 4)) ⟨I, o⟩ ?_
              clear al
              generalize w5.alloc (.cells #[.bool (decide (v < 0))] 4) = w6 at I OW OB o RB ⊢
              generalize w5.heap.size = gb at RB lbw ⊢
              clear hK K
              try simp only [Act.put, List.getElem_toArray, List.getElem_cons_zero, List.getElem_cons_succ, List.setIfInBounds_toArray, List.set_cons_zero, List.set_cons_succ]
              refine hw_one (i := 12) rfl (by decide) (by kernel_rfl) (fun K hK => ?_)
              refine step_append_any w6 rfl _ _ 109 rfl w.heap.size 4 ifb (.bool false) 1 1 Try.underlying109 hib ib0 ib1 ib2 rfl (by decide) u5 k ys rfl OB w6.heap.size (some ⟨gb, 0, none⟩) 1 1 #[.bool (decide (v < 0))].toList rfl RB (by simp [Value.oneCell']) (by unfold maxLen; omega) (by omega) o.size ?_
              intro v12 w7 own12 hg12 hat12
              replace I := row_grown I hg12 (fun e => by have := (lb _ e).2; omega)
              have ne12 : ∀ g, v6.ownBlock = some g → v12.ownBlock ≠ some g := fun g e e' => by
                rcases hat12 with h | h
                · exact ne6 g e (h ▸ e')
                · have := (OW.lt g e).2; rw [h] at e'; injection e'; omega
              replace OW := orow_keep OW (fun g e => hg12.block g (OW.lt g e).2 (fun h => ne6 g e h.symm))
              replace o := below_grown o hg12 (fun b e => (OB.lt b e).1) o.size
              refine hK _ _ ⟨I, o⟩ ?_
              clear hK K
              try simp only [Act.put, List.getElem_toArray, List.getElem_cons_zero, List.getElem_cons_succ, List.setIfInBounds_toArray, List.set_cons_zero, List.set_cons_succ]
              refine hw_done (by kernel_rfl) ?_
              try simp only [List.drop_succ_cons, List.drop_zero]
              clear HOK
              go_wp2
              go_roundw
              case rel => exact ⟨k + 1, by omega, by go_num, by rw [TM.out, ycells_append, hxs.out]; exact OW, by rw [TN.out, List.map_append, hys.out]; exact own12, ne12, o⟩
              case measure => simp [intOf]; omega
            · skip
              go_simp
              have RB : Reads (w4.alloc (.cells #[.bool (decide (v < 0))] 4)) (w4.alloc (.cells #[.bool (decide (v < 0))] 4)).heap.size 1 (some ⟨w4.heap.size, 0, none⟩) 1 #[.bool (decide (v < 0))].toList := (own_new (w := w4) (e := 4) (size := 1) (n := 1) (cs := #[.bool (decide (v < 0))]) rfl (by unfold maxLen; omega) (by first | (simp; done) | omega | decide)).reads
              have lbw : ∀ g, u4.ownBlock = some g → g < w4.heap.size := fun g e => (OW.lt g e).2
              have al := (Below.refl w4.heap.size w4).alloc (Nat.le_refl _) (.cells #[.bool (decide (v < 0))] 4)
              replace I := row_call I al
              replace OW := orow_keep OW (fun g e => al.block g (OW.lt g e).2)
              replace OB := orow_keep OB (fun g e => al.block g (OB.lt g e).2)
              replace o := o.trans (al.mono o.size)
              replace RA := (RA.below al).more al.size
              refine hK _ (w4.alloc (.cells #[.bool (decide (v < 0))] 4)) ⟨I, o⟩ ?_
              clear al
              generalize w4.alloc (.cells #[.bool (decide (v < 0))] 4) = w5 at I OW OB o RA RB ⊢
              generalize w4.heap.size = gb at RB lbw ⊢
              clear hK K
              try simp only [Act.put, List.getElem_toArray, List.getElem_cons_zero, List.getElem_cons_succ, List.setIfInBounds_toArray, List.set_cons_zero, List.set_cons_succ]
              refine hw_one (i := 6) rfl (by decide) (by kernel_rfl) (fun K hK => ?_)
              refine step_append_any w5 rfl _ _ 108 rfl w.heap.size 72 iw (.agg #[.int .u64 0, .int .u64 0]) 2 16 Try.underlying108 hiw iw0 iw1 iw2 rfl (by decide) u4 k xs rfl OW w5.heap.size (some ⟨ga, 0, none⟩) 1 1 #[.int .u64 (hi v.natAbs), .int .u64 (lo v.natAbs)].toList rfl RA (by simp [Value.oneCell']) (by unfold maxLen; omega) (by omega) o.size ?_
              intro v6 w6 own6 hg6 hat6
              replace I := row_grown I hg6 (fun e => by have := (lw _ e).2; omega)
              have ne6 : ∀ g, v6.ownBlock = some g → u5.ownBlock ≠ some g := fun g e e' => by
                rcases hat6 with h | h
                · exact ne g (h ▸ e) e'
                · have := (OB.lt g e').2; rw [h] at e; injection e; omega
              replace OB := orow_keep OB (fun g e => hg6.block g (OB.lt g e).2 (fun h => ne g h.symm e))
              replace RB := (reads_keep RB (fun a e hB => hg6.block a.block hB (fun h => by cases e; have := lbw _ h.symm; simp at this))).more hg6.size
              replace o := below_grown o hg6 (fun b e => (OW.lt b e).1) o.size
              replace OW := own6
              refine hK _ _ ⟨I, o⟩ ?_
              clear own6 hg6 hat6 RA
              clear hK K
              try simp only [Act.put, List.getElem_toArray, List.getElem_cons_zero, List.getElem_cons_succ, List.setIfInBounds_toArray, List.set_cons_zero, List.set_cons_succ]
              refine hw_one (i := 12) rfl (by decide) (by kernel_rfl) (fun K hK => ?_)
              refine step_append_any w6 rfl _ _ 109 rfl w.heap.size 4 ifb (.bool false) 1 1 Try.underlying109 hib ib0 ib1 ib2 rfl (by decide) u5 k ys rfl OB w6.heap.size (some ⟨gb, 0, none⟩) 1 1 #[.bool (decide (v < 0))].toList rfl RB (by simp [Value.oneCell']) (by unfold maxLen; omega) (by omega) o.size ?_
              intro v12 w7 own12 hg12 hat12
              replace I := row_grown I hg12 (fun e => by have := (lb _ e).2; omega)
              have ne12 : ∀ g, v6.ownBlock = some g → v12.ownBlock ≠ some g := fun g e e' => by
                rcases hat12 with h | h
                · exact ne6 g e (h ▸ e')
                · have := (OW.lt g e).2; rw [h] at e'; injection e'; omega
              replace OW := orow_keep OW (fun g e => hg12.block g (OW.lt g e).2 (fun h => ne6 g e h.symm))
              replace o := below_grown o hg12 (fun b e => (OB.lt b e).1) o.size
              refine hK _ _ ⟨I, o⟩ ?_
              clear hK K
              try simp only [Act.put, List.getElem_toArray, List.getElem_cons_zero, List.getElem_cons_succ, List.setIfInBounds_toArray, List.set_cons_zero, List.set_cons_succ]
              refine hw_done (by kernel_rfl) ?_
              try simp only [List.drop_succ_cons, List.drop_zero]
              clear HOK
              go_wp2
              go_roundw
              case rel => exact ⟨k + 1, by omega, by go_num, by rw [TM.out, ycells_append, hxs.out]; exact OW, by rw [TN.out, List.map_append, hys.out]; exact own12, ne12, o⟩
              case measure => simp [intOf]; omega
          · skip
            go_simp
            have RB : Reads (w3.alloc (.cells #[.bool (decide (v < 0))] 4)) (w3.alloc (.cells #[.bool (decide (v < 0))] 4)).heap.size 1 (some ⟨w3.heap.size, 0, none⟩) 1 #[.bool (decide (v < 0))].toList := (own_new (w := w3) (e := 4) (size := 1) (n := 1) (cs := #[.bool (decide (v < 0))]) rfl (by unfold maxLen; omega) (by first | (simp; done) | omega | decide)).reads
            have lbw : ∀ g, u4.ownBlock = some g → g < w3.heap.size := fun g e => (OW.lt g e).2
            have al := (Below.refl w3.heap.size w3).alloc (Nat.le_refl _) (.cells #[.bool (decide (v < 0))] 4)
            replace I := row_call I al
            replace OW := orow_keep OW (fun g e => al.block g (OW.lt g e).2)
            replace OB := orow_keep OB (fun g e => al.block g (OB.lt g e).2)
            replace o := o.trans (al.mono o.size)
            refine hK _ (w3.alloc (.cells #[.bool (decide (v < 0))] 4)) ⟨I, o⟩ ?_
            clear al
            generalize w3.alloc (.cells #[.bool (decide (v < 0))] 4) = w4 at I OW OB o RB ⊢
            generalize w3.heap.size = gb at RB lbw ⊢
            clear hK K
            try simp only [Act.put, List.getElem_toArray, List.getElem_cons_zero, List.getElem_cons_succ, List.setIfInBounds_toArray, List.set_cons_zero, List.set_cons_succ]
            refine hw_one (i := 5) rfl (by decide) (by kernel_rfl) (fun K hK => ?_)
            go_simp
            have RA : Reads (w4.alloc (.cells #[.int .u64 (hi v.natAbs), .int .u64 (lo v.natAbs)] 72)) (w4.alloc (.cells #[.int .u64 (hi v.natAbs), .int .u64 (lo v.natAbs)] 72)).heap.size 2 (some ⟨w4.heap.size, 0, none⟩) 1 #[.int .u64 (hi v.natAbs), .int .u64 (lo v.natAbs)].toList := (own_new (w := w4) (e := 72) (size := 2) (n := 1) (cs := #[.int .u64 (hi v.natAbs), .int .u64 (lo v.natAbs)]) rfl (by unfold maxLen; omega) (by first | (simp; done) | omega | decide)).reads
            have law : ∀ g, u4.ownBlock = some g → g < w4.heap.size := fun g e => (OW.lt g e).2
            have al := (Below.refl w4.heap.size w4).alloc (Nat.le_refl _) (.cells #[.int .u64 (hi v.natAbs), .int .u64 (lo v.natAbs)] 72)
            replace I := row_call I al
            replace OW := orow_keep OW (fun g e => al.block g (OW.lt g e).2)
            replace OB := orow_keep OB (fun g e => al.block g (OB.lt g e).2)
            replace o := o.trans (al.mono o.size)
            replace RB := (RB.below al).more al.size
            refine hK _ (w4.alloc (.cells #[.int .u64 (hi v.natAbs), .int .u64 (lo v.natAbs)] 72)) ⟨I, o⟩ ?_
            clear al
            generalize w4.alloc (.cells #[.int .u64 (hi v.natAbs), .int .u64 (lo v.natAbs)] 72) = w5 at I OW OB o RA RB ⊢
            generalize w4.heap.size = ga at RA law ⊢
            clear hK K
            try simp only [Act.put, List.getElem_toArray, List.getElem_cons_zero, List.getElem_cons_succ, List.setIfInBounds_toArray, List.set_cons_zero, List.set_cons_succ]
            refine hw_one (i := 6) rfl (by decide) (by kernel_rfl) (fun K hK => ?_)
            refine step_append_any w5 rfl _ _ 108 rfl w.heap.size 72 iw (.agg #[.int .u64 0, .int .u64 0]) 2 16 Try.underlying108 hiw iw0 iw1 iw2 rfl (by decide) u4 k xs rfl OW w5.heap.size (some ⟨ga, 0, none⟩) 1 1 #[.int .u64 (hi v.natAbs), .int .u64 (lo v.natAbs)].toList rfl RA (by simp [Value.oneCell']) (by unfold maxLen; omega) (by omega) o.size ?_
            intro v6 w6 own6 hg6 hat6
            replace I := row_grown I hg6 (fun e => by have := (lw _ e).2; omega)
            have ne6 : ∀ g, v6.ownBlock = some g → u5.ownBlock ≠ some g := fun g e e' => by
              rcases hat6 with h | h
              · exact ne g (h ▸ e) e'
              · have := (OB.lt g e').2; rw [h] at e; injection e; omega
            replace OB := orow_keep OB (fun g e => hg6.block g (OB.lt g e).2 (fun h => ne g h.symm e))
            replace RB := (reads_keep RB (fun a e hB => hg6.block a.block hB (fun h => by cases e; have := lbw _ h.symm; simp at this))).more hg6.size
            replace o := below_grown o hg6 (fun b e => (OW.lt b e).1) o.size
            replace OW := own6
            refine hK _ _ ⟨I, o⟩ ?_
            clear own6 hg6 hat6 RA
            clear hK K
            try simp only [Act.put, List.getElem_toArray, List.getElem_cons_zero, List.getElem_cons_succ, List.setIfInBounds_toArray, List.set_cons_zero, List.set_cons_succ]
            refine hw_one (i := 12) rfl (by decide) (by kernel_rfl) (fun K hK => ?_)
            refine step_append_any w6 rfl _ _ 109 rfl w.heap.size 4 ifb (.bool false) 1 1 Try.underlying109 hib ib0 ib1 ib2 rfl (by decide) u5 k ys rfl OB w6.heap.size (some ⟨gb, 0, none⟩) 1 1 #[.bool (decide (v < 0))].toList rfl RB (by simp [Value.oneCell']) (by unfold maxLen; omega) (by omega) o.size ?_
            intro v12 w7 own12 hg12 hat12
            replace I := row_grown I hg12 (fun e => by have := (lb _ e).2; omega)
            have ne12 : ∀ g, v6.ownBlock = some g → v12.ownBlock ≠ some g := fun g e e' => by
              rcases hat12 with h | h
              · exact ne6 g e (h ▸ e')
              · have := (OW.lt g e).2; rw [h] at e'; injection e'; omega
            replace OW := orow_keep OW (fun g e => hg12.block g (OW.lt g e).2 (fun h => ne6 g e h.symm))
            replace o := below_grown o hg12 (fun b e => (OB.lt b e).1) o.size
            refine hK _ _ ⟨I, o⟩ ?_
            clear hK K
            try simp only [Act.put, List.getElem_toArray, List.getElem_cons_zero, List.getElem_cons_succ, List.setIfInBounds_toArray, List.set_cons_zero, List.set_cons_succ]
            refine hw_done (by kernel_rfl) ?_
            try simp only [List.drop_succ_cons, List.drop_zero]
            clear HOK
            go_wp2
            go_roundw
            case rel => exact ⟨k + 1, by omega, by go_num, by rw [TM.out, ycells_append, hxs.out]; exact OW, by rw [TN.out, List.map_append, hys.out]; exact own12, ne12, o⟩
            case measure => simp [intOf]; omega
        · skip
          go_simp
          have RB : Reads (w2.alloc (.cells #[.bool (decide (v < 0))] 4)) (w2.alloc (.cells #[.bool (decide (v < 0))] 4)).heap.size 1 (some ⟨w2.heap.size, 0, none⟩) 1 #[.bool (decide (v < 0))].toList := (own_new (w := w2) (e := 4) (size := 1) (n := 1) (cs := #[.bool (decide (v < 0))]) rfl (by unfold maxLen; omega) (by first | (simp; done) | omega | decide)).reads
          have lbw : ∀ g, u4.ownBlock = some g → g < w2.heap.size := fun g e => (OW.lt g e).2
          have al := (Below.refl w2.heap.size w2).alloc (Nat.le_refl _) (.cells #[.bool (decide (v < 0))] 4)
          replace I := row_call I al
          replace OW := orow_keep OW (fun g e => al.block g (OW.lt g e).2)
          replace OB := orow_keep OB (fun g e => al.block g (OB.lt g e).2)
          replace o := o.trans (al.mono o.size)
          refine hK _ (w2.alloc (.cells #[.bool (decide (v < 0))] 4)) ⟨I, o⟩ ?_
          clear al
          generalize w2.alloc (.cells #[.bool (decide (v < 0))] 4) = w3 at I OW OB o RB ⊢
          generalize w2.heap.size = gb at RB lbw ⊢
          clear hK K
          try simp only [Act.put, List.getElem_toArray, List.getElem_cons_zero, List.getElem_cons_succ, List.setIfInBounds_toArray, List.set_cons_zero, List.set_cons_succ]
          refine hw_one (i := 4) rfl (by decide) (by kernel_rfl) (fun K hK => ?_)
          go_simp
          refine (PO.out _).mono ?_
          rintro e w4 ⟨rfl, hb⟩
          replace I := row_call I hb
          replace OW := orow_keep OW (fun g e => hb.block g (OW.lt g e).2)
          replace OB := orow_keep OB (fun g e => hb.block g (OB.lt g e).2)
          replace o := o.trans (hb.mono o.size)
          replace RB := (RB.below hb).more hb.size
          refine hK _ _ ⟨I, o⟩ ?_
          clear hb
          clear hK K
          try simp only [Act.put, List.getElem_toArray, List.getElem_cons_zero, List.getElem_cons_succ, List.setIfInBounds_toArray, List.set_cons_zero, List.set_cons_succ]
          refine hw_one (i := 5) rfl (by decide) (by kernel_rfl) (fun K hK => ?_)
          go_simp
          have RA : Reads (w4.alloc (.cells #[.int .u64 (hi v.natAbs), .int .u64 (lo v.natAbs)] 72)) (w4.alloc (.cells #[.int .u64 (hi v.natAbs), .int .u64 (lo v.natAbs)] 72)).heap.size 2 (some ⟨w4.heap.size, 0, none⟩) 1 #[.int .u64 (hi v.natAbs), .int .u64 (lo v.natAbs)].toList := (own_new (w := w4) (e := 72) (size := 2) (n := 1) (cs := #[.int .u64 (hi v.natAbs), .int .u64 (lo v.natAbs)]) rfl (by unfold maxLen; omega) (by first | (simp; done) | omega | decide)).reads
          have law : ∀ g, u4.ownBlock = some g → g < w4.heap.size := fun g e => (OW.lt g e).2
          have al := (Below.refl w4.heap.size w4).alloc (Nat.le_refl _) (.cells #[.int .u64 (hi v.natAbs), .int .u64 (lo v.natAbs)] 72)
          replace I := row_call I al
          replace OW := orow_keep OW (fun g e => al.block g (OW.lt g e).2)
          replace OB := orow_keep OB (fun g e => al.block g (OB.lt g e).2)
          replace o := o.trans (al.mono o.size)
          replace RB := (RB.below al).more al.size
          refine hK _ (w4.alloc (.cells #[.int .u64 (hi v.natAbs), .int .u64 (lo v.natAbs)] 72)) ⟨I, o⟩ ?_
          clear al
          generalize w4.alloc (.cells #[.int .u64 (hi v.natAbs), .int .u64 (lo v.natAbs)] 72) = w5 at I OW OB o RA RB ⊢
          generalize w4.heap.size = ga at RA law ⊢
          clear hK K
          try simp only [Act.put, List.getElem_toArray, List.getElem_cons_zero, List.getElem_cons_succ, List.setIfInBounds_toArray, List.set_cons_zero, List.set_cons_succ]
          refine hw_one (i := 6) rfl (by decide) (by kernel_rfl) (fun K hK => ?_)
          refine step_append_any w5 rfl _ _ 108 rfl w.heap.size 72 iw (.agg #[.int .u64 0, .int .u64 0]) 2 16 Try.underlying108 hiw iw0 iw1 iw2 rfl (by decide) u4 k xs rfl OW w5.heap.size (some ⟨ga, 0, none⟩) 1 1 #[.int .u64 (hi v.natAbs), .int .u64 (lo v.natAbs)].toList rfl RA (by simp [Value.oneCell']) (by unfold maxLen; omega) (by omega) o.size ?_
          intro v6 w6 own6 hg6 hat6
          replace I := row_grown I hg6 (fun e => by have := (lw _ e).2; omega)
          have ne6 : ∀ g, v6.ownBlock = some g → u5.ownBlock ≠ some g := fun g e e' => by
            rcases hat6 with h | h
            · exact ne g (h ▸ e) e'
            · have := (OB.lt g e').2; rw [h] at e; injection e; omega
          replace OB := orow_keep OB (fun g e => hg6.block g (OB.lt g e).2 (fun h => ne g h.symm e))
          replace RB := (reads_keep RB (fun a e hB => hg6.block a.block hB (fun h => by cases e; have := lbw _ h.symm; simp at this))).more hg6.size
          replace o := below_grown o hg6 (fun b e => (OW.lt b e).1) o.size
          replace OW := own6
          refine hK _ _ ⟨I, o⟩ ?_
          clear own6 hg6 hat6 RA
          clear hK K
          try simp only [Act.put, List.getElem_toArray, List.getElem_cons_zero, List.getElem_cons_succ, List.setIfInBounds_toArray, List.set_cons_zero, List.set_cons_succ]
          refine hw_one (i := 12) rfl (by decide) (by kernel_rfl) (fun K hK => ?_)
          refine step_append_any w6 rfl _ _ 109 rfl w.heap.size 4 ifb (.bool false) 1 1 Try.underlying109 hib ib0 ib1 ib2 rfl (by decide) u5 k ys rfl OB w6.heap.size (some ⟨gb, 0, none⟩) 1 1 #[.bool (decide (v < 0))].toList rfl RB (by simp [Value.oneCell']) (by unfold maxLen; omega) (by omega) o.size ?_
          intro v12 w7 own12 hg12 hat12
          replace I := row_grown I hg12 (fun e => by have := (lb _ e).2; omega)
          have ne12 : ∀ g, v6.ownBlock = some g → v12.ownBlock ≠ some g := fun g e e' => by
            rcases hat12 with h | h
            · exact ne6 g e (h ▸ e')
            · have := (OW.lt g e).2; rw [h] at e'; injection e'; omega
          replace OW := orow_keep OW (fun g e => hg12.block g (OW.lt g e).2 (fun h => ne6 g e h.symm))
          replace o := below_grown o hg12 (fun b e => (OB.lt b e).1) o.size
          refine hK _ _ ⟨I, o⟩ ?_
          clear hK K
          try simp only [Act.put, List.getElem_toArray, List.getElem_cons_zero, List.getElem_cons_succ, List.setIfInBounds_toArray, List.set_cons_zero, List.set_cons_succ]
          refine hw_done (by kernel_rfl) ?_
          try simp only [List.drop_succ_cons, List.drop_zero]
          clear HOK
          go_wp2
          go_roundw
          case rel => exact ⟨k + 1, by omega, by go_num, by rw [TM.out, ycells_append, hxs.out]; exact OW, by rw [TN.out, List.map_append, hys.out]; exact own12, ne12, o⟩
          case measure => simp [intOf]; omega
      · skip
        go_simp
        have RB : Reads (w2.alloc (.cells #[.bool (decide (v < 0))] 4)) (w2.alloc (.cells #[.bool (decide (v < 0))] 4)).heap.size 1 (some ⟨w2.heap.size, 0, none⟩) 1 #[.bool (decide (v < 0))].toList := (own_new (w := w2) (e := 4) (size := 1) (n := 1) (cs := #[.bool (decide (v < 0))]) rfl (by unfold maxLen; omega) (by first | (simp; done) | omega | decide)).reads
        have lbw : ∀ g, u4.ownBlock = some g → g < w2.heap.size := fun g e => (OW.lt g e).2
        have al := (Below.refl w2.heap.size w2).alloc (Nat.le_refl _) (.cells #[.bool (decide (v < 0))] 4)
        replace I := row_call I al
        replace OW := orow_keep OW (fun g e => al.block g (OW.lt g e).2)
        replace OB := orow_keep OB (fun g e => al.block g (OB.lt g e).2)
        replace o := o.trans (al.mono o.size)
        refine hK _ (w2.alloc (.cells #[.bool (decide (v < 0))] 4)) ⟨I, o⟩ ?_
        clear al
        generalize w2.alloc (.cells #[.bool (decide (v < 0))] 4) = w3 at I OW OB o RB ⊢
        generalize w2.heap.size = gb at RB lbw ⊢
        clear hK K
        try simp only [Act.put, List.getElem_toArray, List.getElem_cons_zero, List.getElem_cons_succ, List.setIfInBounds_toArray, List.set_cons_zero, List.set_cons_succ]
        refine hw_one (i := 3) rfl (by decide) (by kernel_rfl) (fun K hK => ?_)
        go_simp
        refine (PA.out _).mono ?_
        rintro e wx ⟨rfl, hx⟩
        obtain rfl := hx.symm
        refine hK _ _ ⟨I, o⟩ ?_
        clear hK K
        try simp only [Act.put, List.getElem_toArray, List.getElem_cons_zero, List.getElem_cons_succ, List.setIfInBounds_toArray, List.set_cons_zero, List.set_cons_succ]
        refine hw_one (i := 4) rfl (by decide) (by kernel_rfl) (fun K hK => ?_)
        go_simp
        refine (PO.out _).mono ?_
        rintro e w4 ⟨rfl, hb⟩
        replace I := row_call I hb
        replace OW := orow_keep OW (fun g e => hb.block g (OW.lt g e).2)
        replace OB := orow_keep OB (fun g e => hb.block g (OB.lt g e).2)
        replace o := o.trans (hb.mono o.size)
        replace RB := (RB.below hb).more hb.size
        refine hK _ _ ⟨I, o⟩ ?_
        clear hb
        clear hK K
        try simp only [Act.put, List.getElem_toArray, List.getElem_cons_zero, List.getElem_cons_succ, List.setIfInBounds_toArray, List.set_cons_zero, List.set_cons_succ]
        refine hw_one (i := 5) rfl (by decide) (by kernel_rfl) (fun K hK => ?_)
        go_simp
        have RA : Reads (w4.alloc (.cells #[.int .u64 (hi v.natAbs), .int .u64 (lo v.natAbs)] 72)) (w4.alloc (.cells #[.int .u64 (hi v.natAbs), .int .u64 (lo v.natAbs)] 72)).heap.size 2 (some ⟨w4.heap.size, 0, none⟩) 1 #[.int .u64 (hi v.natAbs), .int .u64 (lo v.natAbs)].toList := (own_new (w := w4) (e := 72) (size := 2) (n := 1) (cs := #[.int .u64 (hi v.natAbs), .int .u64 (lo v.natAbs)]) rfl (by unfold maxLen; omega) (by first | (simp; done) | omega | decide)).reads
        have law : ∀ g, u4.ownBlock = some g → g < w4.heap.size := fun g e => (OW.lt g e).2
        have al := (Below.refl w4.heap.size w4).alloc (Nat.le_refl _) (.cells #[.int .u64 (hi v.natAbs), .int .u64 (lo v.natAbs)] 72)
        replace I := row_call I al
        replace OW := orow_keep OW (fun g e => al.block g (OW.lt g e).2)
        replace OB := orow_keep OB (fun g e => al.block g (OB.lt g e).2)
        replace o := o.trans (al.mono o.size)
        replace RB := (RB.below al).more al.size
        refine hK _ (w4.alloc (.cells #[.int .u64 (hi v.natAbs), .int .u64 (lo v.natAbs)] 72)) ⟨I, o⟩ ?_
        clear al
        generalize w4.alloc (.cells #[.int .u64 (hi v.natAbs), .int .u64 (lo v.natAbs)] 72) = w5 at I OW OB o RA RB ⊢
        generalize w4.heap.size = ga at RA law ⊢
        clear hK K
        try simp only [Act.put, List.getElem_toArray, List.getElem_cons_zero, List.getElem_cons_succ, List.setIfInBounds_toArray, List.set_cons_zero, List.set_cons_succ]
        refine hw_one (i := 6) rfl (by decide) (by kernel_rfl) (fun K hK => ?_)
        refine step_append_any w5 rfl _ _ 108 rfl w.heap.size 72 iw (.agg #[.int .u64 0, .int .u64 0]) 2 16 Try.underlying108 hiw iw0 iw1 iw2 rfl (by decide) u4 k xs rfl OW w5.heap.size (some ⟨ga, 0, none⟩) 1 1 #[.int .u64 (hi v.natAbs), .int .u64 (lo v.natAbs)].toList rfl RA (by simp [Value.oneCell']) (by unfold maxLen; omega) (by omega) o.size ?_
        intro v6 w6 own6 hg6 hat6
        replace I := row_grown I hg6 (fun e => by have := (lw _ e).2; omega)
        have ne6 : ∀ g, v6.ownBlock = some g → u5.ownBlock ≠ some g := fun g e e' => by
          rcases hat6 with h | h
          · exact ne g (h ▸ e) e'
          · have := (OB.lt g e').2; rw [h] at e; injection e; omega
        replace OB := orow_keep OB (fun g e => hg6.block g (OB.lt g e).2 (fun h => ne g h.symm e))
        replace RB := (reads_keep RB (fun a e hB => hg6.block a.block hB (fun h => by cases e; have := lbw _ h.symm; simp at this))).more hg6.size
        replace o := below_grown o hg6 (fun b e => (OW.lt b e).1) o.size
        replace OW := own6
        refine hK _ _ ⟨I, o⟩ ?_
        clear own6 hg6 hat6 RA
        clear hK K
        try simp only [Act.put, List.getElem_toArray, List.getElem_cons_zero, List.getElem_cons_succ, List.setIfInBounds_toArray, List.set_cons_zero, List.set_cons_succ]
        refine hw_one (i := 12) rfl (by decide) (by kernel_rfl) (fun K hK => ?_)
        refine step_append_any w6 rfl _ _ 109 rfl w.heap.size 4 ifb (.bool false) 1 1 Try.underlying109 hib ib0 ib1 ib2 rfl (by decide) u5 k ys rfl OB w6.heap.size (some ⟨gb, 0, none⟩) 1 1 #[.bool (decide (v < 0))].toList rfl RB (by simp [Value.oneCell']) (by unfold maxLen; omega) (by omega) o.size ?_
        intro v12 w7 own12 hg12 hat12
        replace I := row_grown I hg12 (fun e => by have := (lb _ e).2; omega)
        have ne12 : ∀ g, v6.ownBlock = some g → v12.ownBlock ≠ some g := fun g e e' => by
          rcases hat12 with h | h
          · exact ne6 g e (h ▸ e')
          · have := (OW.lt g e).2; rw [h] at e'; injection e'; omega
        replace OW := orow_keep OW (fun g e => hg12.block g (OW.lt g e).2 (fun h => ne6 g e h.symm))
        replace o := below_grown o hg12 (fun b e => (OB.lt b e).1) o.size
        refine hK _ _ ⟨I, o⟩ ?_
        clear hK K
        try simp only [Act.put, List.getElem_toArray, List.getElem_cons_zero, List.getElem_cons_succ, List.setIfInBounds_toArray, List.set_cons_zero, List.set_cons_succ]
        refine hw_done (by kernel_rfl) ?_
        try simp only [List.drop_succ_cons, List.drop_zero]
        clear HOK
        go_wp2
        go_roundw
        case rel => exact ⟨k + 1, by omega, by go_num, by rw [TM.out, ycells_append, hxs.out]; exact OW, by rw [TN.out, List.map_append, hys.out]; exact own12, ne12, o⟩
        case measure => simp [intOf]; omega
    · have i1 : ¬ (k : Int) < (m : Int) := by omega
      obtain rfl : k = m := by omega
      rw [List.take_of_length_le (by rw [HL.out]; exact Nat.le_refl _)] at OW OB
      obtain ⟨A1, c1, rfl, R1, _, _, _⟩ := orow_forms OW
      obtain ⟨A2, c2, rfl, R2, _, _, _⟩ := orow_forms OB
      have ml := mags_le HV.out
      have PT := rtotal A1 k c1 (mags l) A2 c2 (negs l) wr R1 R2 hm ml
      have E := tot_mags l
      have bP := tot_le false (mags l) (negs l) ml
      have bQ := tot_le true (mags l) (negs l) ml
      rw [mags_len, HL.out] at bP bQ
      have bP2 := Nat.le_trans bP (Nat.mul_le_mul_left _ hm)
      have bQ2 := Nat.le_trans bQ (Nat.mul_le_mul_left _ hm)
      generalize tot false (mags l) (negs l) = P at PT E bP2
      generalize tot true (mags l) (negs l) = Q at PT E bQ2
      have PN : ∀ w, Calls Try.prog 93 #[W P, W Q] w fun e w' => e = .returned (.tuple #[.int .i64 (isum l), .bool true]) ∧ Below w.heap.size w w' := fun w => by
        rw [← E]
        by_cases h : Q ≤ P
        · exact rnumP P Q (by omega) h w
        · exact rnumN P Q (by omega) (by omega) w
      replace PN := Lib.hid PN
      replace PT := Lib.hid PT
      clear E bP bQ bP2 bQ2 ml R1 R2 OW OB ne
      go_wp2_with fail
      refine PT.out.mono ?_
      rintro e w2 ⟨rfl, hb2⟩
      replace o := o.trans (hb2.mono o.size)
      clear hb2 PT
      go_upto_region 9 with (fail)
      have X : Row ((w2.alloc (.cells #[.int .u64 (hi P), .int .u64 (lo P)] 72)).alloc (.cells #[.int .u64 (hi Q), .int .u64 (lo Q)] 72)) w2.heap.size 72 #[.int .u64 (hi P), .int .u64 (lo P)] := row_alloc (row_new rfl) _
      have Y : Row ((w2.alloc (.cells #[.int .u64 (hi P), .int .u64 (lo P)] 72)).alloc (.cells #[.int .u64 (hi Q), .int .u64 (lo Q)] 72)) (w2.heap.size + 1) 72 #[.int .u64 (hi Q), .int .u64 (lo Q)] := row_new (by simp)
      have z2 := o.size
      replace o := (o.alloc o.size (.cells #[.int .u64 (hi P), .int .u64 (lo P)] 72)).alloc (by simp; omega) (.cells #[.int .u64 (hi Q), .int .u64 (lo Q)] 72)
      generalize (w2.alloc (.cells #[.int .u64 (hi P), .int .u64 (lo P)] 72)).alloc (.cells #[.int .u64 (hi Q), .int .u64 (lo Q)] 72) = w3 at X Y o ⊢
      obtain ⟨X0, X1, Xf0, Xf1⟩ := row_two X
      obtain ⟨Y0, Y1, Yf0, Yf1⟩ := row_two Y
      go_wp2_with fail
      refine (PN.out _).mono ?_
      rintro e w4 ⟨rfl, hb4⟩
      replace o := o.trans (hb4.mono o.size)
      clear hb4 PN X Y X0 X1 Xf0 Xf1 Y0 Y1 Yf0 Yf1
      go_wp2
      exact bodyPost_ret (v := .tuple #[.int .i64 (isum l), .bool true]) (by simp [results, Try.results56, go_sem]) rfl ⟨rfl, o⟩
end Go.Proofs.Ytaiepjcnncajcaa
end
section
/- The exact sum of the squares of items, walked. -/
set_option linter.unusedVariables false
set_option linter.unusedSimpArgs false
set_option linter.unusedSectionVars false
set_option linter.unnecessarySimpa false
namespace Go.Proofs.Ytaiepjcnncajcaa
open Go.RowKit
/-- The squares of the values of items. -/
def sqrs (l : List Itm) : List Nat := l.map fun x => x.v.natAbs * x.v.natAbs
theorem sqrs_len (l : List Itm) : (sqrs l).length = l.length := by unfold sqrs; simp
theorem sqrs_take {l : List Itm} {k : Nat} (h : k < l.length) : sqrs (l.take (k + 1)) = sqrs (l.take k) ++ [(itmAt l k).v.natAbs * (itmAt l k).v.natAbs] := by
  rw [List.take_succ_eq_append_getElem h, itm_eq h]; unfold sqrs; simp
theorem tot_sqrs : ∀ l : List Itm, (tot false (sqrs l) (List.replicate l.length false) : Int) = isq l ∧ tot true (sqrs l) (List.replicate l.length false) = 0
  | [] => ⟨rfl, rfl⟩
  | x :: l => by
    have ih := tot_sqrs l
    have e : ((x.v.natAbs * x.v.natAbs : Nat) : Int) = x.v * x.v := by rw [Int.natCast_mul]; exact Int.natAbs_mul_self' x.v
    unfold sqrs at ih ⊢
    rw [List.map_cons, List.length_cons, List.replicate_succ, tot, tot, isq, if_pos rfl, if_neg (by decide)]
    omega
theorem sq_le {a : Int} (h : -4096 ≤ a ∧ a ≤ 4096) : a.natAbs * a.natAbs ≤ 16777216 := Nat.mul_le_mul (show a.natAbs ≤ 4096 by omega) (show a.natAbs ≤ 4096 by omega)
theorem sqrs_le {l : List Itm} (h : ∀ x ∈ l, -4096 ≤ x.v ∧ x.v ≤ 4096) : ∀ y ∈ sqrs l, y ≤ 1073741824 := by
  intro y hy
  unfold sqrs at hy
  rw [List.mem_map] at hy
  obtain ⟨x, hx, rfl⟩ := hy
  have := sq_le (h x hx)
  omega
set_option maxRecDepth 100000 in
set_option maxHeartbeats 8000000 in
theorem rsquares (A : Option Addr) (m c : Nat) (l : List Itm) (w : World) (hin : Reads w w.heap.size 2 A m (icells l)) (hm : m ≤ 1000) (hv : ∀ x ∈ l, -4096 ≤ x.v ∧ x.v ≤ 4096) :
    Calls Try.prog 94 #[.slice A m c] w fun e w' => e = .returned (.tuple #[W (tot false (sqrs l) (List.replicate l.length false)), .bool true]) ∧ Below w.heap.size w w' := by
  obtain ⟨iw, hiw, iw0, iw1, iw2⟩ := info_parts info_wide2
  obtain ⟨ifb, hib, ib0, ib1, ib2⟩ := info_parts info_bool
  have HR := Lib.hid hin
  have HL := Lib.hid hin.itm_len
  have HV := Lib.hid hv
  clear hin hv
  go_enter Try.func94, Try.ntmps94
  go_upto_region 2 with (fail)
  have Z : Row (w.alloc (.cells #[.int .u64 0, .int .u64 0] 72)) w.heap.size 72 #[.int .u64 0, .int .u64 0] := row_new rfl
  have o : Below w.heap.size w (w.alloc (.cells #[.int .u64 0, .int .u64 0] 72)) := (Below.refl _ _).alloc (Nat.le_refl _) _
  generalize w.alloc (.cells #[.int .u64 0, .int .u64 0] 72) = w0 at Z o ⊢
  go_wp2
  go_loopw [4, 12] (fun u i wr => ∃ k : Nat, k ≤ m ∧ i = .int .i64 (k : Nat) ∧ wr.ownsRow (w.heap.size + 1) 72 2 u k (ycells (sqrs (l.take k))) ∧ Row wr w.heap.size 72 #[.int .u64 0, .int .u64 0] ∧ Below w.heap.size w wr) (fun _ i _ => m - (intOf i).toNat)
  case atStart => exact ⟨0, by omega, rfl, World.ownsRow_nil _ _ _ _, Z, o⟩
  case round =>
    clear Z o
    obtain ⟨k, hk, rfl, OW, Z, o⟩ := hrel
    by_cases hlt : k < m
    · obtain ⟨ad, rfl, hadb, hi0⟩ := HR.out.itm hlt
      obtain ⟨c0, c1⟩ := hi0.below o (by rw [block_of_add]; exact hadb)
      have vB := HV.out (itmAt l k) (by rw [← itm_eq (by rw [HL.out]; exact hlt)]; exact List.getElem_mem _)
      have TM := sqrs_take (show k < l.length by rw [HL.out]; exact hlt)
      have sB := sq_le vB
      clear hi0
      generalize (itmAt l k).v = v at c1 vB TM sB
      generalize (itmAt l k).t = tk at c0
      generalize hsq : v.natAbs * v.natAbs = sq at TM sB
      replace TM := Lib.hid TM
      generalize hxs : ycells (sqrs (l.take k)) = xs at OW
      replace hxs := Lib.hid hxs
      have PA := Lib.hid (fun w => rabsI v (by omega) (by omega) w)
      have PP : RowKit.Hid (∀ w, Calls Try.prog 54 #[.int .u64 (v.natAbs : Nat), .int .u64 (v.natAbs : Nat)] w fun e w' => e = .returned (W sq) ∧ Below w.heap.size w w') := Lib.hid (fun w => by
        have := rproduct (v.natAbs : Nat) (v.natAbs : Nat) (by unfold Word; omega) (by unfold Word; omega) w
        rw [Int.toNat_natCast, hsq] at this
        exact this)
      clear hsq
      have i1 : (k : Int) < (m : Int) := by omega
      have i2 : (0 : Int) ≤ (k : Int) := by omega
      go_upto_region 5 with (fail)
      have zI := row_lt Z
      have I : Row (wr.alloc (.cells #[.int .i64 tk, .int .i64 v] 51)) wr.heap.size 51 #[.int .i64 tk, .int .i64 v] := row_new rfl
      have lw := OW.lt
      replace OW := OW.alloc (.cells #[.int .i64 tk, .int .i64 v] 51)
      replace Z := row_alloc Z (.cells #[.int .i64 tk, .int .i64 v] 51)
      replace o := o.alloc o.size (.cells #[.int .i64 tk, .int .i64 v] 51)
      clear c0 c1
      generalize wr.alloc (.cells #[.int .i64 tk, .int .i64 v] 51) = w1 at I OW Z o ⊢
      generalize wr.heap.size = ib at I zI lw ⊢
      refine wp_region_phase 10 (fun w' => Row w' ib 51 #[.int .i64 tk, .int .i64 v] ∧ Below w.heap.size w w') (by kernel_rfl) (by kernel_rfl) (by kernel_rfl) (by kernel_rfl) (by kernel_rfl) (fun HOK => ?_)
      have HS := (⟨row_drew I, o.drew⟩ : Row w1.drew ib 51 #[.int .i64 tk, .int .i64 v] ∧ Below w.heap.size w w1.drew)
      (refine hw_take HOK (i := 0) ?_ rfl (by decide) (by kernel_rfl) (by kernel_rfl) (by exact fun _ _ _ h => h) (Or.inl ⟨by rfl, fun w' hS => ?_⟩) HS ?_; rotate_left; (go_simp; try with_reducible rfl); simp only [Act.put, List.getElem_toArray, List.getElem_cons_zero, List.getElem_cons_succ,  List.setIfInBounds_toArray, List.set_cons_zero, List.set_cons_succ])
      (refine hw_take HOK (i := 1) ?_ rfl (by decide) (by kernel_rfl) (by kernel_rfl) (by exact fun _ _ _ h => h) (Or.inl ⟨by rfl, fun w' hS => ?_⟩) HS ?_; rotate_left; (go_simp; try with_reducible rfl); simp only [Act.put, List.getElem_toArray, List.getElem_cons_zero, List.getElem_cons_succ,  List.setIfInBounds_toArray, List.set_cons_zero, List.set_cons_succ])
      (refine hw_take HOK (i := 2) ?_ rfl (by decide) (by kernel_rfl) (by kernel_rfl) (by exact fun _ _ _ h => h) (Or.inl ⟨by rfl, fun w' hS => ?_⟩) HS ?_; rotate_left; (obtain ⟨I0, I1, If0, If1⟩ := row_two hS.1; go_simp; try with_reducible rfl); simp only [Act.put, List.getElem_toArray, List.getElem_cons_zero, List.getElem_cons_succ,  List.setIfInBounds_toArray, List.set_cons_zero, List.set_cons_succ])
      (refine hw_take HOK (i := 4) ?_ rfl (by decide) (by kernel_rfl) (by kernel_rfl) (by exact fun _ _ _ h => h) (Or.inl ⟨by rfl, fun w' hS => ?_⟩) HS ?_; rotate_left; (go_simp; try with_reducible rfl); simp only [Act.put, List.getElem_toArray, List.getElem_cons_zero, List.getElem_cons_succ,  List.setIfInBounds_toArray, List.set_cons_zero, List.set_cons_succ])
      (refine hw_take HOK (i := 5) ?_ rfl (by decide) (by kernel_rfl) (by kernel_rfl) (by exact fun _ _ _ h => h) (Or.inl ⟨by rfl, fun w' hS => ?_⟩) HS ?_; rotate_left; (obtain ⟨I0, I1, If0, If1⟩ := row_two hS.1; go_simp; try with_reducible rfl); simp only [Act.put, List.getElem_toArray, List.getElem_cons_zero, List.getElem_cons_succ,  List.setIfInBounds_toArray, List.set_cons_zero, List.set_cons_succ])
      replace I : Row w1.drew ib 51 #[.int .i64 tk, .int .i64 v] := I
      replace OW : w1.drew.ownsRow (w.heap.size + 1) 72 2 u4 k xs := OW
      replace Z : Row w1.drew w.heap.size 72 #[.int .u64 0, .int .u64 0] := Z
      replace o := o.drew
      clear HS
      generalize w1.drew = w2 at I OW Z o ⊢
      refine hw_one (i := 3) rfl (by decide) (by kernel_rfl) (fun K hK => ?_)
      go_simp
      refine (PA.out _).mono ?_
      rintro e wx ⟨rfl, hx⟩
      obtain rfl := hx.symm
      refine hK _ _ ⟨I, o⟩ ?_
      clear hK K
      try simp only [Act.put, List.getElem_toArray, List.getElem_cons_zero, List.getElem_cons_succ, List.setIfInBounds_toArray, List.set_cons_zero, List.set_cons_succ]
      refine hw_one (i := 6) rfl (by decide) (by kernel_rfl) (fun K hK => ?_)
      go_simp
      refine (PA.out _).mono ?_
      rintro e wx ⟨rfl, hx⟩
      obtain rfl := hx.symm
      refine hK _ _ ⟨I, o⟩ ?_
      clear hK K
      try simp only [Act.put, List.getElem_toArray, List.getElem_cons_zero, List.getElem_cons_succ, List.setIfInBounds_toArray, List.set_cons_zero, List.set_cons_succ]
      refine hw_one (i := 7) rfl (by decide) (by kernel_rfl) (fun K hK => ?_)
      go_simp
      refine (PP.out _).mono ?_
      rintro e w3 ⟨rfl, hb⟩
      replace I := row_call I hb
      replace Z := row_call Z hb
      replace OW := orow_keep OW (fun g e => hb.block g (OW.lt g e).2)
      replace o := o.trans (hb.mono o.size)
      refine hK _ _ ⟨I, o⟩ ?_
      clear hK K hb
      try simp only [Act.put, List.getElem_toArray, List.getElem_cons_zero, List.getElem_cons_succ, List.setIfInBounds_toArray, List.set_cons_zero, List.set_cons_succ]
      refine hw_one (i := 8) rfl (by decide) (by kernel_rfl) (fun K hK => ?_)
      go_simp
      have RA : Reads (w3.alloc (.cells #[.int .u64 (hi sq), .int .u64 (lo sq)] 72)) (w3.alloc (.cells #[.int .u64 (hi sq), .int .u64 (lo sq)] 72)).heap.size 2 (some ⟨w3.heap.size, 0, none⟩) 1 #[.int .u64 (hi sq), .int .u64 (lo sq)].toList := (own_new (w := w3) (e := 72) (size := 2) (n := 1) (cs := #[.int .u64 (hi sq), .int .u64 (lo sq)]) rfl (by unfold maxLen; omega) (by first | (simp; done) | omega | decide)).reads
      replace I := row_alloc I (.cells #[.int .u64 (hi sq), .int .u64 (lo sq)] 72)
      replace Z := row_alloc Z (.cells #[.int .u64 (hi sq), .int .u64 (lo sq)] 72)
      replace OW := OW.alloc (.cells #[.int .u64 (hi sq), .int .u64 (lo sq)] 72)
      replace o := o.alloc o.size (.cells #[.int .u64 (hi sq), .int .u64 (lo sq)] 72)
      refine hK _ (w3.alloc (.cells #[.int .u64 (hi sq), .int .u64 (lo sq)] 72)) ⟨I, o⟩ ?_
      generalize w3.alloc (.cells #[.int .u64 (hi sq), .int .u64 (lo sq)] 72) = w4 at I OW Z o RA ⊢
      generalize w3.heap.size = ga at RA ⊢
      clear hK K
      try simp only [Act.put, List.getElem_toArray, List.getElem_cons_zero, List.getElem_cons_succ, List.setIfInBounds_toArray, List.set_cons_zero, List.set_cons_succ]
      refine hw_one (i := 9) rfl (by decide) (by kernel_rfl) (fun K hK => ?_)
      refine step_append_any w4 rfl _ _ 108 rfl (w.heap.size + 1) 72 iw (.agg #[.int .u64 0, .int .u64 0]) 2 16 Try.underlying108 hiw iw0 iw1 iw2 rfl (by decide) u4 k xs rfl OW w4.heap.size (some ⟨ga, 0, none⟩) 1 1 #[.int .u64 (hi sq), .int .u64 (lo sq)].toList rfl RA (by simp [Value.oneCell']) (by unfold maxLen; omega) (by omega) (by have := row_lt Z; omega) ?_
      intro v6 w5 own6 hg6 hat6
      replace I := row_grown I hg6 (fun e => by have := (lw _ e).2; omega)
      replace Z := row_grown Z hg6 (fun e => by have := (OW.lt _ e).1; omega)
      replace o := below_grown o hg6 (fun b e => by have := (OW.lt b e).1; omega) o.size
      refine hK _ _ ⟨I, o⟩ ?_
      clear hK K
      try simp only [Act.put, List.getElem_toArray, List.getElem_cons_zero, List.getElem_cons_succ, List.setIfInBounds_toArray, List.set_cons_zero, List.set_cons_succ]
      refine hw_done (by kernel_rfl) ?_
      try simp only [List.drop_succ_cons, List.drop_zero]
      clear HOK
      go_wp2
      go_roundw
      case rel => exact ⟨k + 1, by omega, by go_num, by rw [TM.out, ycells_append, hxs.out]; exact own6, Z, o⟩
      case measure => simp [intOf]; omega
    · have i1 : ¬ (k : Int) < (m : Int) := by omega
      obtain rfl : k = m := by omega
      rw [List.take_of_length_le (by rw [HL.out]; exact Nat.le_refl _)] at OW
      obtain ⟨A1, c1, rfl, R1, _, _, _⟩ := orow_forms OW
      obtain ⟨w2, hmk, own2, hb2⟩ := make_vec wr Try.underlying109 hib ib0 ib1 ib2 rfl .i64 .i64 k (by omega) (by unfold maxLen; omega)
      have R2 := own2.reads
      rw [show List.replicate k (Value.bool false) = (List.replicate l.length false).map Value.bool by rw [List.map_replicate, HL.out]] at R2
      have PT := Lib.hid (rtotal A1 k c1 (sqrs l) _ k (List.replicate l.length false) w2 ((R1.below hb2).more hb2.size) R2 hm (sqrs_le HV.out))
      replace Z := row_call Z hb2
      replace o := o.trans (hb2.mono o.size)
      clear hb2 R2 R1 own2
      go_wp2_with fail
      refine PT.out.mono ?_
      rintro e w3 ⟨rfl, hb3⟩
      replace Z := row_call Z hb3
      replace o := o.trans (hb3.mono o.size)
      clear hb3 PT
      generalize hP : tot false (sqrs l) (List.replicate l.length false) = P
      generalize tot true (sqrs l) (List.replicate l.length false) = Q
      replace hP := Lib.hid hP
      go_upto_region 8 with (fail)
      have z3 := o.size
      have X : Row ((w3.alloc (.cells #[.int .u64 (hi P), .int .u64 (lo P)] 72)).alloc (.cells #[.int .u64 (hi Q), .int .u64 (lo Q)] 72)) w3.heap.size 72 #[.int .u64 (hi P), .int .u64 (lo P)] := row_alloc (row_new rfl) _
      replace Z := row_alloc (row_alloc Z (.cells #[.int .u64 (hi P), .int .u64 (lo P)] 72)) (.cells #[.int .u64 (hi Q), .int .u64 (lo Q)] 72)
      replace o := (o.alloc o.size (.cells #[.int .u64 (hi P), .int .u64 (lo P)] 72)).alloc (by simp; omega) (.cells #[.int .u64 (hi Q), .int .u64 (lo Q)] 72)
      generalize (w3.alloc (.cells #[.int .u64 (hi P), .int .u64 (lo P)] 72)).alloc (.cells #[.int .u64 (hi Q), .int .u64 (lo Q)] 72) = w4 at X Z o ⊢
      obtain ⟨X0, X1, Xf0, Xf1⟩ := row_two X
      obtain ⟨Z0, Z1, Zf0, Zf1⟩ := row_two Z
      have T := row_two_set (u := .int .u64 (hi P)) (v := .int .u64 (lo P)) Z
      have o4 := (o.setCell (p := ⟨w.heap.size, 0, none⟩) (Nat.le_refl _) (.int .u64 (hi P))).setCell (p := ⟨w.heap.size, 1, none⟩) (Nat.le_refl _) (.int .u64 (lo P))
      obtain ⟨T0, T1, _, _⟩ := row_two T
      go_wp2
      simp [bodyPost, results, Try.results94, go_sem, T0, T1]
      exact ⟨⟨by rw [hP.out], by rw [hP.out]⟩, o4⟩
theorem rsq8 (A : Option Addr) (m c : Nat) (l : List Itm) (w : World) (hin : Reads w w.heap.size 2 A m (icells l)) (hm : m ≤ 1000) (hv : ∀ x ∈ l, -4096 ≤ x.v ∧ x.v ≤ 4096) :
    Calls Try.prog 57 #[.slice A m c] w fun e w' => e = .returned (.tuple #[.int .i64 (isq l), .bool true]) ∧ Below w.heap.size w w' := by
  have PT := rsquares A m c l w hin hm hv
  have E := (tot_sqrs l).1
  have b := tot_le false (sqrs l) (List.replicate l.length false) (sqrs_le hv)
  have b2 := Nat.le_trans b (Nat.mul_le_mul_left 1073741824 (show (sqrs l).length ≤ 1000 by rw [sqrs_len, hin.itm_len]; exact hm))
  generalize tot false (sqrs l) (List.replicate l.length false) = P at PT E b2
  have PN : ∀ w, Calls Try.prog 93 #[W P, .agg #[.int .u64 0, .int .u64 0]] w fun e w' => e = .returned (.tuple #[.int .i64 (isq l), .bool true]) ∧ Below w.heap.size w w' := fun w => by
    have := rnumP P 0 (by omega) (Nat.zero_le _) w
    rw [← E]
    rw [show (P : Int) - ((0 : Nat) : Int) = (P : Int) by omega] at this
    exact this
  replace PN := Lib.hid PN
  replace PT := Lib.hid PT
  clear E b b2 hin hm hv
  go_enter Try.func57, Try.ntmps57
  go_wp2_with fail
  refine PT.out.mono ?_
  rintro e w2 ⟨rfl, o⟩
  clear PT
  go_upto_region 2 with (fail)
  have X : Row (w2.alloc (.cells #[.int .u64 (hi P), .int .u64 (lo P)] 72)) w2.heap.size 72 #[.int .u64 (hi P), .int .u64 (lo P)] := row_new rfl
  replace o := o.alloc o.size (.cells #[.int .u64 (hi P), .int .u64 (lo P)] 72)
  generalize w2.alloc (.cells #[.int .u64 (hi P), .int .u64 (lo P)] 72) = w3 at X o ⊢
  obtain ⟨X0, X1, Xf0, Xf1⟩ := row_two X
  go_wp2_with fail
  refine (PN.out _).mono ?_
  rintro e w4 ⟨rfl, hb4⟩
  replace o := o.trans (hb4.mono o.size)
  clear hb4 PN X X0 X1 Xf0 Xf1
  go_wp2
  exact bodyPost_ret (v := .tuple #[.int .i64 (isq l), .bool true]) (by simp [results, Try.results57, go_sem]) rfl ⟨rfl, o⟩
end Go.Proofs.Ytaiepjcnncajcaa
end
section
/- The mark that a law makes of items, walked. -/
set_option linter.unusedVariables false
set_option linter.unusedSimpArgs false
set_option linter.unusedSectionVars false
set_option linter.unnecessarySimpa false
namespace Go.Proofs.Ytaiepjcnncajcaa
open Go.RowKit
set_option maxRecDepth 100000 in
set_option maxHeartbeats 4000000 in
theorem rmark14 (A : Option Addr) (m c : Nat) (l : List Itm) (w : World) (hin : Reads w w.heap.size 2 A m (icells l)) (hm : m ≤ 1000) (hm0 : 0 < m) (hv : ∀ x ∈ l, -4096 ≤ x.v ∧ x.v ≤ 4096) :
    Calls Try.prog 21 #[.slice A m c] w fun e w' => ∃ a b : Int, e = .returned (.agg #[.int .i64 1, .int .i64 0, .int .i64 (m : Nat), .int .i64 (isum l), .int .i64 (isq l), .int .i64 a, .int .i64 b]) ∧ Below w.heap.size w w' := by
  have P1 := Lib.hid (fun w' (hb : Below w.heap.size w w') => rsum8 A m c l w' ((hin.below hb).more hb.size) hm hv)
  have P2 := Lib.hid (fun w' (hb : Below w.heap.size w w') => rsq8 A m c l w' ((hin.below hb).more hb.size) hm hv)
  have P3 := Lib.hid (fun w' (hb : Below w.heap.size w w') => rmin A m c l w' ((hin.below hb).more hb.size) (by omega) hm0)
  have P4 := Lib.hid (fun w' (hb : Below w.heap.size w w') => rmax A m c l w' ((hin.below hb).more hb.size) (by omega) hm0)
  clear hin hv
  go_enter Try.func21, Try.ntmps21
  go_upto_region 2 with (fail)
  have Z : Row ((w.alloc (.cells #[.int .i64 0, .int .i64 0, .int .i64 0, .int .i64 0, .int .i64 0, .int .i64 0, .int .i64 0] 33)).alloc (.cells #[.int .i64 1, .int .i64 0, .int .i64 (m : Nat), .int .i64 0, .int .i64 0, .int .i64 0, .int .i64 0] 33)) w.heap.size 33 #[.int .i64 0, .int .i64 0, .int .i64 0, .int .i64 0, .int .i64 0, .int .i64 0, .int .i64 0] := row_alloc (row_new rfl) _
  have M : Row ((w.alloc (.cells #[.int .i64 0, .int .i64 0, .int .i64 0, .int .i64 0, .int .i64 0, .int .i64 0, .int .i64 0] 33)).alloc (.cells #[.int .i64 1, .int .i64 0, .int .i64 (m : Nat), .int .i64 0, .int .i64 0, .int .i64 0, .int .i64 0] 33)) (w.heap.size + 1) 33 #[.int .i64 1, .int .i64 0, .int .i64 (m : Nat), .int .i64 0, .int .i64 0, .int .i64 0, .int .i64 0] := row_new (by simp)
  have o : Below w.heap.size w ((w.alloc (.cells #[.int .i64 0, .int .i64 0, .int .i64 0, .int .i64 0, .int .i64 0, .int .i64 0, .int .i64 0] 33)).alloc (.cells #[.int .i64 1, .int .i64 0, .int .i64 (m : Nat), .int .i64 0, .int .i64 0, .int .i64 0, .int .i64 0] 33)) := by (repeat (first | exact Below.refl _ _ | refine Below.setCell ?_ (by first | (simp; done) | (simp; omega) | omega) _ | refine Below.alloc ?_ (by first | (simp; done) | (simp; omega) | omega) _ | refine Below.drew ?_ | refine Below.trans ?_ (Below.mono (by assumption) (by first | (simp; done) | (simp; omega) | omega))))
  generalize ((w.alloc (.cells #[.int .i64 0, .int .i64 0, .int .i64 0, .int .i64 0, .int .i64 0, .int .i64 0, .int .i64 0] 33)).alloc (.cells #[.int .i64 1, .int .i64 0, .int .i64 (m : Nat), .int .i64 0, .int .i64 0, .int .i64 0, .int .i64 0] 33)) = w0 at Z M o ⊢
  go_wp2_with fail
  refine (P1.out _ o).mono ?_
  rintro e w1 ⟨rfl, hb⟩
  replace M := row_call M hb
  replace Z := row_call Z hb
  replace o := o.trans (hb.mono o.size)
  clear hb
  obtain ⟨M0, M1, M2, M3, M4, M5, M6, Mf0, Mf1, Mf2, Mf3, Mf4, Mf5, Mf6⟩ := row_seven M
  go_upto_region 3 with (fail)
  replace Z := row_other (p := ⟨w.heap.size + 1, 3, none⟩) Z (by show w.heap.size ≠ w.heap.size + 1; omega) (.int .i64 (isum l))
  replace M : Row (w1.setCell ⟨w.heap.size + 1, 3, none⟩ (.int .i64 (isum l))) (w.heap.size + 1) 33 #[.int .i64 1, .int .i64 0, .int .i64 (m : Nat), .int .i64 (isum l), .int .i64 0, .int .i64 0, .int .i64 0] := row_set M 3 _
  replace o := o.setCell (p := ⟨w.heap.size + 1, 3, none⟩) (show w.heap.size ≤ w.heap.size + 1 by omega) (.int .i64 (isum l))
  clear M0 Mf0 M1 Mf1 M2 Mf2 M3 Mf3 M4 Mf4 M5 Mf5 M6 Mf6
  generalize w1.setCell ⟨w.heap.size + 1, 3, none⟩ (.int .i64 (isum l)) = w0 at Z M o ⊢
  go_wp2_with fail
  refine (P2.out _ o).mono ?_
  rintro e w1 ⟨rfl, hb⟩
  replace M := row_call M hb
  replace Z := row_call Z hb
  replace o := o.trans (hb.mono o.size)
  clear hb
  obtain ⟨M0, M1, M2, M3, M4, M5, M6, Mf0, Mf1, Mf2, Mf3, Mf4, Mf5, Mf6⟩ := row_seven M
  go_upto_region 4 with (fail)
  replace Z := row_other (p := ⟨w.heap.size + 1, 4, none⟩) Z (by show w.heap.size ≠ w.heap.size + 1; omega) (.int .i64 (isq l))
  replace M : Row (w1.setCell ⟨w.heap.size + 1, 4, none⟩ (.int .i64 (isq l))) (w.heap.size + 1) 33 #[.int .i64 1, .int .i64 0, .int .i64 (m : Nat), .int .i64 (isum l), .int .i64 (isq l), .int .i64 0, .int .i64 0] := row_set M 4 _
  replace o := o.setCell (p := ⟨w.heap.size + 1, 4, none⟩) (show w.heap.size ≤ w.heap.size + 1 by omega) (.int .i64 (isq l))
  clear M0 Mf0 M1 Mf1 M2 Mf2 M3 Mf3 M4 Mf4 M5 Mf5 M6 Mf6
  generalize w1.setCell ⟨w.heap.size + 1, 4, none⟩ (.int .i64 (isq l)) = w0 at Z M o ⊢
  go_wp2_with fail
  refine (P3.out _ o).mono ?_
  rintro e w1 ⟨a, rfl, _, hb⟩
  replace M := row_call M hb
  replace Z := row_call Z hb
  replace o := o.trans (hb.mono o.size)
  clear hb
  obtain ⟨M0, M1, M2, M3, M4, M5, M6, Mf0, Mf1, Mf2, Mf3, Mf4, Mf5, Mf6⟩ := row_seven M
  go_upto_region 5 with (fail)
  replace Z := row_other (p := ⟨w.heap.size + 1, 5, none⟩) Z (by show w.heap.size ≠ w.heap.size + 1; omega) (.int .i64 a)
  replace M : Row (w1.setCell ⟨w.heap.size + 1, 5, none⟩ (.int .i64 a)) (w.heap.size + 1) 33 #[.int .i64 1, .int .i64 0, .int .i64 (m : Nat), .int .i64 (isum l), .int .i64 (isq l), .int .i64 a, .int .i64 0] := row_set M 5 _
  replace o := o.setCell (p := ⟨w.heap.size + 1, 5, none⟩) (show w.heap.size ≤ w.heap.size + 1 by omega) (.int .i64 a)
  clear M0 Mf0 M1 Mf1 M2 Mf2 M3 Mf3 M4 Mf4 M5 Mf5 M6 Mf6
  generalize w1.setCell ⟨w.heap.size + 1, 5, none⟩ (.int .i64 a) = w0 at Z M o ⊢
  go_wp2_with fail
  refine (P4.out _ o).mono ?_
  rintro e w1 ⟨b, rfl, _, hb⟩
  replace M := row_call M hb
  replace Z := row_call Z hb
  replace o := o.trans (hb.mono o.size)
  clear hb
  obtain ⟨M0, M1, M2, M3, M4, M5, M6, Mf0, Mf1, Mf2, Mf3, Mf4, Mf5, Mf6⟩ := row_seven M
  go_upto_region 6 with (fail)
  replace Z := row_other (p := ⟨w.heap.size + 1, 6, none⟩) Z (by show w.heap.size ≠ w.heap.size + 1; omega) (.int .i64 b)
  replace M : Row (w1.setCell ⟨w.heap.size + 1, 6, none⟩ (.int .i64 b)) (w.heap.size + 1) 33 #[.int .i64 1, .int .i64 0, .int .i64 (m : Nat), .int .i64 (isum l), .int .i64 (isq l), .int .i64 a, .int .i64 b] := row_set M 6 _
  replace o := o.setCell (p := ⟨w.heap.size + 1, 6, none⟩) (show w.heap.size ≤ w.heap.size + 1 by omega) (.int .i64 b)
  clear M0 Mf0 M1 Mf1 M2 Mf2 M3 Mf3 M4 Mf4 M5 Mf5 M6 Mf6
  generalize w1.setCell ⟨w.heap.size + 1, 6, none⟩ (.int .i64 b) = w0 at Z M o ⊢
  obtain ⟨M0, M1, M2, M3, M4, M5, M6, Mf0, Mf1, Mf2, Mf3, Mf4, Mf5, Mf6⟩ := row_seven M
  obtain ⟨Z0, Z1, Z2, Z3, Z4, Z5, Z6, Zf0, Zf1, Zf2, Zf3, Zf4, Zf5, Zf6⟩ := row_seven Z
  go_wp2
  have hbge : w.heap.size ≤ w.heap.size := by exact Nat.le_refl _
  have R9 : Row (((((((w0.setCell ⟨w.heap.size, 0, none⟩ (.int .i64 1)).setCell ⟨w.heap.size, 1, none⟩ (.int .i64 0)).setCell ⟨w.heap.size, 2, none⟩ (.int .i64 (m : Nat))).setCell ⟨w.heap.size, 3, none⟩ (.int .i64 (isum l))).setCell ⟨w.heap.size, 4, none⟩ (.int .i64 (isq l))).setCell ⟨w.heap.size, 5, none⟩ (.int .i64 a)).setCell ⟨w.heap.size, 6, none⟩ (.int .i64 b)) (w.heap.size) 33 #[.int .i64 1, .int .i64 0, .int .i64 (m : Nat), .int .i64 (isum l), .int .i64 (isq l), .int .i64 a, .int .i64 b] := (row_set (row_set (row_set (row_set (row_set (row_set (row_set Z 0 (.int .i64 1)) 1 (.int .i64 0)) 2 (.int .i64 (m : Nat))) 3 (.int .i64 (isum l))) 4 (.int .i64 (isq l))) 5 (.int .i64 a)) 6 (.int .i64 b))
  have o9 : Below w.heap.size w (((((((w0.setCell ⟨w.heap.size, 0, none⟩ (.int .i64 1)).setCell ⟨w.heap.size, 1, none⟩ (.int .i64 0)).setCell ⟨w.heap.size, 2, none⟩ (.int .i64 (m : Nat))).setCell ⟨w.heap.size, 3, none⟩ (.int .i64 (isum l))).setCell ⟨w.heap.size, 4, none⟩ (.int .i64 (isq l))).setCell ⟨w.heap.size, 5, none⟩ (.int .i64 a)).setCell ⟨w.heap.size, 6, none⟩ (.int .i64 b)) := (Below.setCell (p := ⟨w.heap.size, 6, none⟩) (Below.setCell (p := ⟨w.heap.size, 5, none⟩) (Below.setCell (p := ⟨w.heap.size, 4, none⟩) (Below.setCell (p := ⟨w.heap.size, 3, none⟩) (Below.setCell (p := ⟨w.heap.size, 2, none⟩) (Below.setCell (p := ⟨w.heap.size, 1, none⟩) (Below.setCell (p := ⟨w.heap.size, 0, none⟩) o hbge (.int .i64 1)) hbge (.int .i64 0)) hbge (.int .i64 (m : Nat))) hbge (.int .i64 (isum l))) hbge (.int .i64 (isq l))) hbge (.int .i64 a)) hbge (.int .i64 b))
  generalize (((((((w0.setCell ⟨w.heap.size, 0, none⟩ (.int .i64 1)).setCell ⟨w.heap.size, 1, none⟩ (.int .i64 0)).setCell ⟨w.heap.size, 2, none⟩ (.int .i64 (m : Nat))).setCell ⟨w.heap.size, 3, none⟩ (.int .i64 (isum l))).setCell ⟨w.heap.size, 4, none⟩ (.int .i64 (isq l))).setCell ⟨w.heap.size, 5, none⟩ (.int .i64 a)).setCell ⟨w.heap.size, 6, none⟩ (.int .i64 b)) = w9 at R9 o9 ⊢
  obtain ⟨N0, N1, N2, N3, N4, N5, N6, Nf0, Nf1, Nf2, Nf3, Nf4, Nf5, Nf6⟩ := row_seven R9
  exact bodyPost_ret (v := .agg #[.int .i64 1, .int .i64 0, .int .i64 (m : Nat), .int .i64 (isum l), .int .i64 (isq l), .int .i64 a, .int .i64 b]) (by simp [results, Try.results21, go_sem, List.getElem?_toArray, N0, N1, N2, N3, N4, N5, N6]) rfl (⟨a, b, rfl, o9⟩)
end Go.Proofs.Ytaiepjcnncajcaa
end
