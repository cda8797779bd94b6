/- The counter of items with polynomial decay: plain. -/
import Derived.Test.YtejoomlaanmbkaaMathPoly
import Derived.Test.YtejoomlaanmbkaaMadeI
namespace Go.Proofs.Ytejoomlaanmbkaa
/-- A moment of items. -/
def pmom (land : Int) (l : List Itm) (j : Nat) : Nat := (l.map fun x => powT (ageN land x.t) x.v.toNat j).sum
theorem pmom_nil (land : Int) (j : Nat) : pmom land [] j = 0 := rfl
theorem pmom_cons (land : Int) (x : Itm) (l : List Itm) (j : Nat) : pmom land (x :: l) j = powT (ageN land x.t) x.v.toNat j + pmom land l j := by unfold pmom; simp
theorem pmom_append (land : Int) (a b : List Itm) (j : Nat) : pmom land (a ++ b) j = pmom land a j + pmom land b j := by unfold pmom; simp
theorem pmom_snoc (land : Int) (x : Itm) (l : List Itm) (j : Nat) : pmom land (l ++ [x]) j = pmom land l j + powT (ageN land x.t) x.v.toNat j := by rw [pmom_append, pmom_cons, pmom_nil, Nat.add_zero]
/-- Items from a landmark on to a tick, with values up to 4096. -/
def Fit (land now : Int) (l : List Itm) : Prop := ∀ x ∈ l, land ≤ x.t ∧ x.t ≤ now ∧ 0 ≤ x.v ∧ x.v ≤ 4096
theorem Fit.cons {land now : Int} {x : Itm} {l : List Itm} (h : Fit land now (x :: l)) : (land ≤ x.t ∧ x.t ≤ now ∧ 0 ≤ x.v ∧ x.v ≤ 4096) ∧ Fit land now l := ⟨h x (by simp), fun y hy => h y (by simp [hy])⟩
theorem Fit.later {land now now' : Int} {l : List Itm} (h : Fit land now l) (hn : now ≤ now') : Fit land now' l := fun x hx => by have := h x hx; omega
theorem Fit.lower {land land' now : Int} {l : List Itm} (h : Fit land now l) (hn : land' ≤ land) : Fit land' now l := fun x hx => by have := h x hx; omega
theorem Fit.append {land now : Int} {a b : List Itm} (h : Fit land now a) (h' : Fit land now b) : Fit land now (a ++ b) := fun x hx => by
  rcases List.mem_append.1 hx with hx | hx
  · exact h x hx
  · exact h' x hx
theorem pmom_bound {land now : Int} (h0 : 0 ≤ land) (h2 : now ≤ 16777216) {j : Nat} (hj : j ≤ 4) : ∀ l : List Itm, Fit land now l → pmom land l j ≤ l.length * (79228181403575882009617301505 * 100 * 4096)
  | [], _ => by simp [pmom]
  | x :: l, h => by
    obtain ⟨a, b⟩ := h.cons
    have ih := pmom_bound h0 h2 hj l b
    have h1 := (ageN_bound h0 (show land ≤ x.t by omega) (by omega)).2
    have h3 := Nat.mul_le_mul (powN_small h1 hj) (show x.v.toNat ≤ 4096 by omega)
    rw [pmom_cons, List.length_cons, Nat.add_mul, Nat.one_mul]
    unfold powT
    omega
theorem pmom_fits {land now : Int} (h0 : 0 ≤ land) (h2 : now ≤ 16777216) {j : Nat} (hj : j ≤ 4) {l : List Itm} (h : Fit land now l) (hl : l.length ≤ 1000) : pmom land l j < big := by
  have := pmom_bound h0 h2 hj l h
  have h3 := Nat.mul_le_mul_right (79228181403575882009617301505 * 100 * 4096) hl
  refine Nat.lt_of_le_of_lt this (Nat.lt_of_le_of_lt h3 ?_)
  decide
theorem pmom_up {land now : Int} (h0 : 0 ≤ land) (h2 : now ≤ 16777216) (j : Nat) : ∀ l : List Itm, Fit land now l → pmom land l j ≤ pmom land l (j + 1)
  | [], _ => Nat.le_refl _
  | x :: l, h => by
    obtain ⟨a, b⟩ := h.cons
    have ih := pmom_up h0 h2 j l b
    have h1 := (ageN_bound h0 (show land ≤ x.t by omega) (by omega)).1
    have h3 := Nat.mul_le_mul_right x.v.toNat (powN_mono h1 (show j ≤ j + 1 by omega))
    rw [pmom_cons, pmom_cons]
    unfold powT
    omega
theorem pmom_by {land now : Int} (h0 : 0 ≤ land) (h2 : now ≤ 16777216) (j : Nat) : ∀ l : List Itm, Fit land now l → pmom land l (j + 1) ≤ pmom land l j * ageN land now
  | [], _ => by simp [pmom]
  | x :: l, h => by
    obtain ⟨a, b⟩ := h.cons
    have ih := pmom_by h0 h2 j l b
    have h1 : ageN land x.t ≤ ageN land now := by unfold ageN; omega
    have h3 : powN (ageN land x.t) (j + 1) * x.v.toNat ≤ powN (ageN land x.t) j * x.v.toNat * ageN land now := by
      rw [powN_succ, Nat.mul_right_comm]
      exact Nat.mul_le_mul_left _ h1
    rw [pmom_cons, pmom_cons, Nat.add_mul]
    unfold powT
    omega
/-- The moments of items. -/
def psts (p : Nat) (land : Int) (l : List Itm) : List Nat := upto (pmom land l) (p + 1)
theorem psts_len (p : Nat) (land : Int) (l : List Itm) : (psts p land l).length = p + 1 := upto_len _ _
theorem psts_at {p : Nat} {land : Int} {l : List Itm} {j : Nat} (h : j ≤ p) : momAt (psts p land l) j = pmom land l j := upto_at (by omega)
theorem psts_valid {p : Nat} {land now : Int} {l : List Itm} (hp : p ≤ 4) (h0 : 0 ≤ land) (h1 : land ≤ now) (h2 : now ≤ 16777216) (h : Fit land now l) : pvalE (p : Int) land now (psts p land l) = 0 := by
  refine pvalE_yes ⟨by omega, by omega, by omega, h2, h0, h1, by rw [psts_len]; omega, fun i hi => ?_⟩
  rw [psts_len] at hi
  refine linkOK_yes ?_
  by_cases c : i = 0
  · exact .inl c
  · right
    obtain ⟨k, rfl⟩ : ∃ k, i = k + 1 := ⟨i - 1, by omega⟩
    rw [show k + 1 - 1 = k from rfl, psts_at (by omega), psts_at (by omega)]
    exact ⟨pmom_up h0 h2 k l h, pmom_by h0 h2 k l h⟩
theorem pnew_psts {p : Nat} {land : Int} (hp : p ≤ 4) (h0 : 0 ≤ land) (h2 : land ≤ 16777216) : qnew (p : Int) land = ⟨p, land, land, psts p land [], 0⟩ := by
  rw [qnew_yes (by omega) (by omega) h0 h2]
  congr 1
  unfold psts upto
  apply List.ext_getElem?
  intro i
  rw [List.getElem?_replicate, List.getElem?_map]
  by_cases h : i < p + 1
  · rw [List.getElem?_range h, if_pos (by omega)]
    rfl
  · rw [List.getElem?_eq_none (by simp; omega), if_neg (by omega)]
    rfl
theorem padd_psts {p : Nat} {land now : Int} {l : List Itm} {v : Int} (hp : p ≤ 4) (h0 : 0 ≤ land) (h1 : land ≤ now) (h2 : now ≤ 16777216) (h : Fit land now l) (hl : l.length ≤ 900) (v0 : 0 ≤ v) (v1 : v ≤ 4096) :
    qadd (p : Int) land now (psts p land l) v = ⟨p, land, now, psts p land (l ++ [⟨now, v⟩]), 0⟩ ∧ Fit land now (l ++ [⟨now, v⟩]) := by
  have hf : Fit land now (l ++ [⟨now, v⟩]) := h.append (fun x hx => by
    obtain rfl : x = ⟨now, v⟩ := by simpa using hx
    exact ⟨h1, Int.le_refl _, v0, v1⟩)
  have e : ∀ j, j < p + 1 → padT (ageN land now) v.toNat (psts p land l) j = pmom land (l ++ [⟨now, v⟩]) j := fun j hj => by
    unfold padT
    rw [psts_at (by omega), pmom_snoc]
  refine ⟨?_, hf⟩
  rw [qadd_ok (psts_valid hp h0 h1 h2 h) v0 v1 (by rw [psts_len]; exact fitB_yes fun j hj => by rw [e j hj]; exact pmom_fits h0 h2 (by omega) hf (by simp; omega)), psts_len]
  rw [upto_congr e]
  rfl
/-! The binomial theorem, up to the fourth power. -/
theorem binom (a d : Nat) : ∀ j, j < 5 → powN (a + d) j = (powN d j * cN j 0) * powN a 0 + (if 1 ≤ j then (powN d (j - 1) * cN j 1) * powN a 1 else 0) + (if 2 ≤ j then (powN d (j - 2) * cN j 2) * powN a 2 else 0) +
    (if 3 ≤ j then (powN d (j - 3) * cN j 3) * powN a 3 else 0) + (if 4 ≤ j then (powN d (j - 4) * cN j 4) * powN a 4 else 0) := by
  intro j hj
  have : j = 0 ∨ j = 1 ∨ j = 2 ∨ j = 3 ∨ j = 4 := by omega
  rcases this with rfl | rfl | rfl | rfl | rfl <;> simp [powN, cN] <;> grind
theorem rebT_add (d : Nat) (xs ys zs : List Nat) (j : Nat) : ∀ i, (∀ e, e < i → momAt zs e = momAt xs e + momAt ys e) → rebT d zs j i = rebT d xs j i + rebT d ys j i
  | 0, _ => rfl
  | i + 1, h => by
    show rebT d zs j i + rebS d zs j i = (rebT d xs j i + rebS d xs j i) + (rebT d ys j i + rebS d ys j i)
    rw [rebT_add d xs ys zs j i (fun e he => h e (by omega))]
    unfold rebS
    rw [h i (by omega), Nat.mul_add]
    omega
theorem rebT_zero (d : Nat) (xs : List Nat) (j : Nat) : ∀ i, (∀ e, e < i → momAt xs e = 0) → rebT d xs j i = 0
  | 0, _ => rfl
  | i + 1, h => by
    show rebT d xs j i + rebS d xs j i = 0
    rw [rebT_zero d xs j i (fun e he => h e (by omega))]
    unfold rebS
    rw [h i (by omega)]
    rfl
theorem rebM_one {d p j v a : Nat} (hj : j ≤ p) (hp : p ≤ 4) : rebM d (upto (powT a v) (p + 1)) j = powN (a + d) j * v := by
  have m : ∀ e, e ≤ p → momAt (upto (powT a v) (p + 1)) e = powN a e * v := fun e he => upto_at (by omega)
  have b := binom a d j (by omega)
  have : j = 0 ∨ j = 1 ∨ j = 2 ∨ j = 3 ∨ j = 4 := by omega
  rcases this with rfl | rfl | rfl | rfl | rfl
  · simp only [rebM, rebT, rebS]
    rw [m 0 (by omega), b]
    simp
    grind
  · simp only [rebM, rebT, rebS]
    rw [m 0 (by omega), m 1 (by omega), b]
    simp
    grind
  · simp only [rebM, rebT, rebS]
    rw [m 0 (by omega), m 1 (by omega), m 2 (by omega), b]
    simp
    grind
  · simp only [rebM, rebT, rebS]
    rw [m 0 (by omega), m 1 (by omega), m 2 (by omega), m 3 (by omega), b]
    simp
    grind
  · simp only [rebM, rebT, rebS]
    rw [m 0 (by omega), m 1 (by omega), m 2 (by omega), m 3 (by omega), m 4 (by omega), b]
    simp
    grind
theorem rebM_psts {p j : Nat} {a land now : Int} (hj : j ≤ p) (hp : p ≤ 4) (hl : land ≤ a) : ∀ l : List Itm, Fit a now l → rebM (a - land).toNat (psts p a l) j = pmom land l j
  | [], _ => rebT_zero _ _ _ _ (fun e he => by rw [psts_at (by omega), pmom_nil])
  | x :: l, h => by
    obtain ⟨hx, hr⟩ := h.cons
    have ih := rebM_psts hj hp hl l hr
    have e1 : rebM (a - land).toNat (psts p a (x :: l)) j = rebM (a - land).toNat (upto (powT (ageN a x.t) x.v.toNat) (p + 1)) j + rebM (a - land).toNat (psts p a l) j :=
      rebT_add _ _ _ _ _ _ (fun e he => by rw [psts_at (by omega), psts_at (by omega), upto_at (by omega), pmom_cons])
    rw [e1, ih, rebM_one hj hp, pmom_cons]
    have : ageN a x.t + (a - land).toNat = ageN land x.t := by unfold ageN; omega
    rw [this]
    rfl
theorem preb_psts {p : Nat} {a land now : Int} {l : List Itm} (hp : p ≤ 4) (h0 : 0 ≤ land) (hl : land ≤ a) (h1 : a ≤ now) (h2 : now ≤ 16777216) (h : Fit a now l) (hlen : l.length ≤ 1000) :
    fitB (rebM (a - land).toNat (psts p a l)) (p + 1) = true ∧ upto (rebM (a - land).toNat (psts p a l)) (p + 1) = psts p land l := by
  have e : ∀ j, j < p + 1 → rebM (a - land).toNat (psts p a l) j = pmom land l j := fun j hj => rebM_psts (by omega) hp hl l h
  exact ⟨fitB_yes fun j hj => by rw [e j hj]; exact pmom_fits h0 h2 (by omega) (h.lower hl) hlen, upto_congr e⟩
theorem pmer_psts {p : Nat} {a b now : Int} {l l' : List Itm} (hp : p ≤ 4) (ha : 0 ≤ a) (hb : 0 ≤ b) (h1 : a ≤ now) (h1' : b ≤ now) (h2 : now ≤ 16777216) (h : Fit a now l) (h' : Fit b now l') (hlen : l.length ≤ 400) (hlen' : l'.length ≤ 400) :
    qmer (p : Int) a now (psts p a l) (p : Int) b now (psts p b l') = ⟨p, min a b, now, psts p (min a b) (l ++ l'), 0⟩ := by
  obtain ⟨f1, e1⟩ := preb_psts (land := min a b) hp (by omega) (by omega) h1 h2 h (by omega)
  obtain ⟨f2, e2⟩ := preb_psts (land := min a b) hp (by omega) (by omega) h1' h2 h' (by omega)
  have hm : Fit (min a b) now (l ++ l') := (h.lower (by omega)).append (h'.lower (by omega))
  have e : ∀ j, j < p + 1 → sumT (psts p (min a b) l) (psts p (min a b) l') j = pmom (min a b) (l ++ l') j := fun j hj => by
    unfold sumT
    rw [psts_at (by omega), psts_at (by omega), pmom_append]
  have f3 : fitB (sumT (psts p (min a b) l) (psts p (min a b) l')) (p + 1) = true := fitB_yes fun j hj => by rw [e j hj]; exact pmom_fits (by omega) h2 (by omega) hm (by simp; omega)
  rw [qmer_ok (psts_valid hp ha h1 h2 h) (psts_valid hp hb h1' h2 h') (by rw [psts_len]; exact f1) (by rw [psts_len]; exact f2) (by rw [psts_len, psts_len, e1, e2]; exact f3), psts_len, psts_len, e1, e2]
  congr 1
  exact upto_congr e
end Go.Proofs.Ytejoomlaanmbkaa
