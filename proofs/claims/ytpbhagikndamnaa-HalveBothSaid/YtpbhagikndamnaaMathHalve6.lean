/- The counter of items: plain. -/
import Derived.Test.YtpbhagikndamnaaMathHalve5
import Derived.Test.YtpbhagikndamnaaMadeI
namespace Go.Proofs.Ytpbhagikndamnaa
/-- The sum of the values of one age. -/
def ccsum (l : List Itm) (now : Int) (e : Nat) : Int := (l.map fun x => if now - x.t = (e : Int) then x.v else 0).sum
/-- The sums of a counter of items. -/
def cst (a : Nat) (l : List Itm) (now : Int) : List Int := (List.range a).map (ccsum l now)
theorem cst_len (a : Nat) (l : List Itm) (now : Int) : (cst a l now).length = a := by unfold cst; simp
theorem cst_at {a e : Nat} {l : List Itm} {now : Int} (h : e < a) : (cst a l now).getD e 0 = ccsum l now e := by
  unfold cst
  rw [List.getD_eq_getElem?_getD, List.getElem?_map, List.getElem?_range h]
  rfl
theorem ccsum_cons (x : Itm) (l : List Itm) (now : Int) (e : Nat) : ccsum (x :: l) now e = (if now - x.t = (e : Int) then x.v else 0) + ccsum l now e := by unfold ccsum; simp
theorem ccsum_snoc (x : Itm) (l : List Itm) (now : Int) (e : Nat) : ccsum (l ++ [x]) now e = ccsum l now e + (if now - x.t = (e : Int) then x.v else 0) := by unfold ccsum; simp
theorem ccsum_bound {B : Int} (hB : 0 ≤ B) : ∀ (l : List Itm) (now : Int) (e : Nat), (∀ x ∈ l, 0 ≤ x.v ∧ x.v ≤ B) → 0 ≤ ccsum l now e ∧ ccsum l now e ≤ B * l.length
  | [], _, _, _ => by simp [ccsum]
  | x :: l, now, e, h => by
    have ih := ccsum_bound hB l now e (fun y hy => h y (by simp [hy]))
    have hx := h x (by simp)
    rw [ccsum_cons, List.length_cons, Int.natCast_succ, Int.mul_add, Int.mul_one]
    split <;> omega
theorem ccsum_zero : ∀ (l : List Itm) (now : Int) (e : Nat), (∀ x ∈ l, now - x.t ≠ (e : Int)) → ccsum l now e = 0
  | [], _, _, _ => rfl
  | x :: l, now, e, h => by
    rw [ccsum_cons, if_neg (h x (by simp)), ccsum_zero l now e (fun y hy => h y (by simp [hy]))]
    rfl
theorem ccsum_later : ∀ (l : List Itm) (now : Int) (d e : Nat), d ≤ e → ccsum l (now + d) e = ccsum l now (e - d)
  | [], _, _, _, _ => rfl
  | x :: l, now, d, e, h => by
    rw [ccsum_cons, ccsum_cons, ccsum_later l now d e h]
    congr 1
    have : (now + (d : Int) - x.t = (e : Int)) = (now - x.t = ((e - d : Nat) : Int)) := by
      apply propext
      omega
    simp only [this]
theorem cst_shift {a d : Nat} {l : List Itm} {now : Int} (h : ∀ x ∈ l, x.t ≤ now) : hshift (cst a l now) d = cst a l (now + d) := by
  apply List.ext_getElem?
  intro i
  by_cases hi : i < a
  · have h1 := hshift_at (zs := cst a l now) (b := d) (k := i) (by rw [cst_len]; exact hi)
    have h2 := cst_at (l := l) (now := now + d) hi
    rw [List.getD_eq_getElem?_getD] at h1 h2
    have l1 : i < (hshift (cst a l now) d).length := by rw [hshift_len, cst_len]; exact hi
    have l2 : i < (cst a l (now + d)).length := by rw [cst_len]; exact hi
    rw [List.getElem?_eq_getElem l1] at h1 ⊢
    rw [List.getElem?_eq_getElem l2] at h2 ⊢
    simp only [Option.getD_some] at h1 h2
    rw [h1, h2]
    congr 1
    by_cases c : i < d
    · rw [if_pos c, ccsum_zero]
      intro x hx e
      have := h x hx
      omega
    · rw [if_neg c, cst_at (by omega), ccsum_later l now d i (by omega)]
  · rw [List.getElem?_eq_none (by rw [hshift_len, cst_len]; omega), List.getElem?_eq_none (by rw [cst_len]; omega)]
theorem cst_add {a : Nat} {l : List Itm} {now v : Int} (ha : 1 ≤ a) : (cst a l now).set 0 ((cst a l now).getD 0 0 + v) = cst a (l ++ [⟨now, v⟩]) now := by
  apply List.ext_getElem?
  intro i
  rw [List.getElem?_set, cst_len, cst_at (by omega)]
  unfold cst
  by_cases hi : i < a
  · rw [List.getElem?_map, List.getElem?_map, List.getElem?_range hi]
    simp only [Option.map_some]
    rw [ccsum_snoc]
    by_cases c : 0 = i
    · subst c
      rw [if_pos rfl, if_pos (by omega)]
      simp
    · rw [if_neg c]
      have : ¬ now - now = (i : Int) := by omega
      simp only [this, if_false, Int.add_zero]
  · rw [if_neg (by omega), List.getElem?_eq_none (by simp; omega), List.getElem?_eq_none (by simp; omega)]
theorem cst_nil (a : Nat) (now : Int) : cst a [] now = List.replicate a 0 := by
  apply List.ext_getElem?
  intro i
  unfold cst ccsum
  by_cases hi : i < a
  · simp [hi]
  · rw [List.getElem?_eq_none (by simp; omega), List.getElem?_eq_none (by simp; omega)]
theorem cst_valid {a : Nat} {l : List Itm} {now : Int} (ha : 1 ≤ a) (ha2 : a ≤ 64) (h0 : 0 ≤ now) (h1 : now ≤ 16777216) (hl : l.length ≤ 100000) (hv : ∀ x ∈ l, 0 ≤ x.v ∧ x.v ≤ 4096) (ht : ∀ x ∈ l, 0 ≤ x.t) : hvalE now (cst a l now) = 0 := by
  refine hvalE_all (by rw [cst_len]; omega) (by rw [cst_len]; omega) h0 h1 (fun e he => ?_)
  rw [cst_len] at he
  rw [cst_at he]
  have hb := ccsum_bound (by decide) l now e hv
  refine sumOK_mk ⟨hb.1, by omega, ?_⟩
  by_cases c : (e : Int) ≤ now
  · exact .inr c
  · left
    refine ccsum_zero l now e (fun x hx e1 => ?_)
    have := ht x hx
    omega
theorem cst_top {a : Nat} {l : List Itm} {now : Int} (ha : 1 ≤ a) (hl : l.length ≤ 100000) (hv : ∀ x ∈ l, 0 ≤ x.v ∧ x.v ≤ 4096) : (cst a l now).getD 0 0 ≤ 409600000 := by
  rw [cst_at (by omega)]
  have hb := ccsum_bound (by decide) l now 0 hv
  omega
/-- The decayed sum of items. -/
def cterm (a : Nat) (now : Int) (x : Itm) : Nat := if now - x.t < (a : Int) then x.v.toNat * 2 ^ (a - 1 - (now - x.t).toNat) else 0
def cwide (a : Nat) (l : List Itm) (now : Int) : Nat := (l.map (cterm a now)).sum
theorem cwide_snoc (a : Nat) (l : List Itm) (now : Int) (x : Itm) : cwide a (l ++ [x]) now = cwide a l now + cterm a now x := by unfold cwide; simp
theorem hwide_cons {a : Nat} {l : List Itm} {now : Int} {x : Itm} (hx : 0 ≤ x.v) (ht : x.t ≤ now) (hv : ∀ y ∈ l, 0 ≤ y.v ∧ y.v ≤ 4096) : ∀ k, k ≤ a →
    hwide (cst a (x :: l) now) a k = (if now - x.t < (k : Int) then x.v.toNat * 2 ^ (a - 1 - (now - x.t).toNat) else 0) + hwide (cst a l now) a k
  | 0, _ => by
    unfold hwide
    rw [if_neg (by omega)]
  | k + 1, hk => by
    unfold hwide
    rw [hwide_cons hx ht hv k (by omega), cst_at (by omega), cst_at (by omega), ccsum_cons]
    have hb := ccsum_bound (by decide) l now k hv
    by_cases c : now - x.t = (k : Int)
    · rw [if_pos c, if_neg (by omega), if_pos (by omega), Int.toNat_add hx hb.1, Nat.add_mul, show (now - x.t).toNat = k by omega]
      omega
    · rw [if_neg c, Int.zero_add]
      by_cases c2 : now - x.t < (k : Int)
      · rw [if_pos c2, if_pos (by omega)]
        omega
      · rw [if_neg c2, if_neg (by omega)]
        omega
theorem hwide_cst {a : Nat} {now : Int} : ∀ l : List Itm, (∀ y ∈ l, 0 ≤ y.v ∧ y.v ≤ 4096) → (∀ y ∈ l, y.t ≤ now) → hwide (cst a l now) a a = cwide a l now
  | [], _, _ => by
    have : ∀ k, k ≤ a → hwide (cst a [] now) a k = 0 := by
      intro k
      induction k with
      | zero => intro _; rfl
      | succ k ih =>
        intro hk
        unfold hwide
        rw [ih (by omega), cst_at (by omega)]
        simp [ccsum]
    rw [this a (Nat.le_refl _)]
    rfl
  | x :: l, hv, ht => by
    rw [hwide_cons (hv x (by simp)).1 (ht x (by simp)) (fun y hy => hv y (by simp [hy])) a (Nat.le_refl _), hwide_cst l (fun y hy => hv y (by simp [hy])) (fun y hy => ht y (by simp [hy]))]
    unfold cwide
    rw [List.map_cons, List.sum_cons]
    rfl
theorem cwide_big {a : Nat} {l : List Itm} {now : Int} (ha : a ≤ 64) (hl : l.length ≤ 100000) (hv : ∀ x ∈ l, 0 ≤ x.v ∧ x.v ≤ 4096) (ht : ∀ x ∈ l, x.t ≤ now) : cwide a l now < 20282409603651670423947251286016 := by
  rw [← hwide_cst l hv ht]
  refine hwide_big (fun e he => ?_) ha a (Nat.le_refl _)
  rw [cst_at he]
  have hb := ccsum_bound (by decide) l now e hv
  omega
theorem cterm_no {a : Nat} {now : Int} {x : Itm} (h : (a : Int) ≤ now - x.t) : cterm a now x = 0 := by unfold cterm; rw [if_neg (by omega)]
theorem cterm_yes {a : Nat} {now : Int} {x : Itm} (h : now - x.t < (a : Int)) : cterm a now x = x.v.toNat * 2 ^ (a - 1 - (now - x.t).toNat) := by unfold cterm; rw [if_pos h]
theorem cwide_step {a : Nat} {l : List Itm} {now : Int} {k : Nat} (hk : k < l.length) : cwide a (l.take (k + 1)) now = cwide a (l.take k) now + cterm a now (itmAt l k) := by
  rw [List.take_succ_eq_append_getElem hk, cwide_snoc, itm_eq hk]
/-- The tick of the counter behind so many items. -/
def nowAt (l : List Itm) (k : Nat) : Int := if k = 0 then 0 else (itmAt l (k - 1)).t
theorem itm_mem {l : List Itm} {x : Itm} (h : x ∈ l) : ∃ i, i < l.length ∧ itmAt l i = x := by
  obtain ⟨i, hi, rfl⟩ := List.getElem_of_mem h
  exact ⟨i, hi, (itm_eq hi).symm⟩
section
variable {st hi last : Int} {l : List Itm}
theorem made_now (h : Made st 0 hi last l) {k : Nat} (hk : k < l.length) : 0 ≤ nowAt l k ∧ nowAt l k ≤ (itmAt l k).t ∧ (itmAt l k).t ≤ last := by
  have a := h.1 k hk
  unfold nowAt
  split
  · exact ⟨Int.le_refl _, a.1, a.2.1⟩
  · exact ⟨(h.1 (k - 1) (by omega)).1, a.2.2.1 (k - 1) (by omega), a.2.1⟩
theorem made_now_le (h : Made st 0 hi last l) {k : Nat} (hk : k ≤ l.length) : 0 ≤ nowAt l k ∧ nowAt l k ≤ last := by
  unfold nowAt
  split
  · exact ⟨Int.le_refl _, h.2.1⟩
  · have := h.1 (k - 1) (by omega)
    exact ⟨this.1, this.2.1⟩
theorem made_take (h : Made st 0 hi last l) {k : Nat} (hk : k ≤ l.length) : (∀ x ∈ l.take k, 0 ≤ x.v ∧ x.v ≤ hi) ∧ (∀ x ∈ l.take k, 0 ≤ x.t ∧ x.t ≤ nowAt l k) := by
  have key : ∀ x ∈ l.take k, ∃ i, i < k ∧ itmAt l i = x := by
    intro x hx
    obtain ⟨i, hi, e⟩ := List.getElem_of_mem hx
    rw [List.length_take] at hi
    rw [List.getElem_take, itm_eq (by omega)] at e
    exact ⟨i, by omega, e⟩
  constructor
  · intro x hx
    obtain ⟨i, hi, rfl⟩ := key x hx
    exact (h.1 i (by omega)).2.2.2
  · intro x hx
    obtain ⟨i, hi, rfl⟩ := key x hx
    refine ⟨(h.1 i (by omega)).1, ?_⟩
    unfold nowAt
    rw [if_neg (by omega)]
    exact (h.1 (k - 1) (by omega)).2.2.1 i (by omega)
/-- A round: the clock is moved to the item's tick, the item is added. -/
theorem made_round (h : Made st 0 hi last l) {k a : Nat} (hk : k < l.length) (ha : 1 ≤ a) :
    nowAt l (k + 1) = (itmAt l k).t ∧ cst a (l.take (k + 1)) (itmAt l k).t = (cst a (l.take k) (itmAt l k).t).set 0 ((cst a (l.take k) (itmAt l k).t).getD 0 0 + (itmAt l k).v) := by
  refine ⟨by unfold nowAt; simp, ?_⟩
  rw [cst_add ha, List.take_succ_eq_append_getElem hk, itm_eq hk]
end
end Go.Proofs.Ytpbhagikndamnaa
