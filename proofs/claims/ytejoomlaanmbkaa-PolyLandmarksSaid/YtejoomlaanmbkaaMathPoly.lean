/- Counters with polynomial decay: which states are valid, what the operations answer; plain. -/
import Derived.Test.YtejoomlaanmbkaaMathPow
namespace Go.Proofs.Ytejoomlaanmbkaa
/-- A counter and an error. -/
structure POut where
  p : Int
  land : Int
  now : Int
  ms : List Nat
  f : Int
def qzero (f : Int) : POut := ⟨0, 0, 0, [], f⟩
/-- The base of the weights. -/
def ageN (land now : Int) : Nat := (now - land + 1).toNat
def momAt (ms : List Nat) (i : Nat) : Nat := ms.getD i 0
def linkOK (a : Nat) (ms : List Nat) (i : Nat) : Bool := decide (i = 0 ∨ momAt ms (i - 1) ≤ momAt ms i ∧ momAt ms i ≤ momAt ms (i - 1) * a)
def pOK (p land now : Int) (ms : List Nat) : Bool :=
  decide (0 ≤ p ∧ p ≤ 4 ∧ 0 ≤ now ∧ now ≤ 16777216 ∧ 0 ≤ land ∧ land ≤ now ∧ (ms.length : Int) = p + 1 ∧ ∀ i, i < ms.length → linkOK (ageN land now) ms i = true)
def pvalE (p land now : Int) (ms : List Nat) : Int := if pOK p land now ms = true then 0 else 2
section
variable {p land now : Int} {ms : List Nat} {i : Nat}
theorem pvalE_two : pvalE p land now ms = 0 ∨ pvalE p land now ms = 2 := by
  unfold pvalE
  split
  · exact .inl rfl
  · exact .inr rfl
theorem pvalE_no (h : ¬ (0 ≤ p ∧ p ≤ 4 ∧ 0 ≤ now ∧ now ≤ 16777216 ∧ 0 ≤ land ∧ land ≤ now ∧ (ms.length : Int) = p + 1 ∧ ∀ i, i < ms.length → linkOK (ageN land now) ms i = true)) : pvalE p land now ms = 2 := by
  unfold pvalE pOK
  rw [if_neg]
  rw [decide_eq_true_eq]
  exact h
theorem pvalE_yes (h : 0 ≤ p ∧ p ≤ 4 ∧ 0 ≤ now ∧ now ≤ 16777216 ∧ 0 ≤ land ∧ land ≤ now ∧ (ms.length : Int) = p + 1 ∧ ∀ i, i < ms.length → linkOK (ageN land now) ms i = true) : pvalE p land now ms = 0 := by
  unfold pvalE pOK
  rw [if_pos]
  rw [decide_eq_true_eq]
  exact h
theorem of_pvalE (h : pvalE p land now ms = 0) : 0 ≤ p ∧ p ≤ 4 ∧ 0 ≤ now ∧ now ≤ 16777216 ∧ 0 ≤ land ∧ land ≤ now ∧ (ms.length : Int) = p + 1 ∧ ∀ i, i < ms.length → linkOK (ageN land now) ms i = true := by
  unfold pvalE at h
  split at h
  · rename_i hs
    unfold pOK at hs
    rw [decide_eq_true_eq] at hs
    exact hs
  · cases h
theorem linkOK_no {a : Nat} (h0 : i ≠ 0) (h : ¬ (momAt ms (i - 1) ≤ momAt ms i ∧ momAt ms i ≤ momAt ms (i - 1) * a)) : linkOK a ms i = false := by
  unfold linkOK
  rw [decide_eq_false_iff_not]
  intro k
  rcases k with k | k
  · exact h0 k
  · exact h k
theorem linkOK_yes {a : Nat} (h : i = 0 ∨ momAt ms (i - 1) ≤ momAt ms i ∧ momAt ms i ≤ momAt ms (i - 1) * a) : linkOK a ms i = true := by
  unfold linkOK
  rw [decide_eq_true_eq]
  exact h
theorem pvalE_bad (hi : i < ms.length) (h : linkOK (ageN land now) ms i = false) : pvalE p land now ms = 2 := pvalE_no (by
  intro a
  have := a.2.2.2.2.2.2.2 i hi
  rw [h] at this
  cases this)
theorem ageN_bound (h0 : 0 ≤ land) (h1 : land ≤ now) (h2 : now ≤ 16777216) : 1 ≤ ageN land now ∧ ageN land now ≤ 16777217 := by
  unfold ageN
  omega
theorem ageN_int (h1 : land ≤ now) : ((ageN land now : Nat) : Int) = now - land + 1 := by
  unfold ageN
  omega
end
/-- The first so many values of a function. -/
def upto (f : Nat → Nat) (k : Nat) : List Nat := (List.range k).map f
theorem upto_zero (f : Nat → Nat) : upto f 0 = [] := rfl
theorem upto_succ (f : Nat → Nat) (k : Nat) : upto f (k + 1) = upto f k ++ [f k] := by
  unfold upto
  rw [List.range_succ, List.map_append]
  rfl
theorem upto_len (f : Nat → Nat) (k : Nat) : (upto f k).length = k := by unfold upto; simp
theorem upto_at {f : Nat → Nat} {k j : Nat} (h : j < k) : momAt (upto f k) j = f j := by
  unfold momAt upto
  rw [List.getD_eq_getElem?_getD, List.getElem?_map, List.getElem?_range h]
  rfl
theorem upto_self (ms : List Nat) : upto (momAt ms) ms.length = ms := by
  apply List.ext_getElem?
  intro i
  unfold upto momAt
  rw [List.getElem?_map]
  by_cases h : i < ms.length
  · rw [List.getElem?_range h, List.getElem?_eq_getElem h]
    simp [h]
  · rw [List.getElem?_eq_none (by simp; omega), List.getElem?_eq_none (by omega)]
    rfl
theorem mom_out {ms : List Nat} {i : Nat} (h : ms.length ≤ i) : momAt ms i = 0 := by
  unfold momAt
  rw [List.getD_eq_getElem?_getD, List.getElem?_eq_none h]
  rfl
theorem upto_congr {f g : Nat → Nat} {k : Nat} (h : ∀ j, j < k → f j = g j) : upto f k = upto g k := by
  unfold upto
  apply List.map_congr_left
  intro j hj
  exact h j (List.mem_range.1 hj)
/-- All of the first so many values fit. -/
def fitB (f : Nat → Nat) (k : Nat) : Bool := decide (∀ j, j < k → f j < big)
theorem fitB_yes {f : Nat → Nat} {k : Nat} (h : ∀ j, j < k → f j < big) : fitB f k = true := by
  unfold fitB
  rw [decide_eq_true_eq]
  exact h
theorem fitB_no {f : Nat → Nat} {k j : Nat} (hj : j < k) (h : ¬ f j < big) : fitB f k = false := by
  unfold fitB
  rw [decide_eq_false_iff_not]
  intro a
  exact h (a j hj)
theorem of_fitB {f : Nat → Nat} {k j : Nat} (h : fitB f k = true) (hj : j < k) : f j < big := by
  unfold fitB at h
  rw [decide_eq_true_eq] at h
  exact h j hj
theorem fitB_two (f : Nat → Nat) (k : Nat) : fitB f k = true ∨ fitB f k = false := by cases fitB f k <;> simp
theorem upto_big {f : Nat → Nat} {k : Nat} (h : ∀ j, j < k → f j < big) (i : Nat) : momAt (upto f k) i < big := by
  by_cases hi : i < k
  · rw [upto_at hi]
    exact h i hi
  · rw [mom_out (by rw [upto_len]; omega)]
    decide
/-- The empty counter. -/
def qnew (p now : Int) : POut := if 0 ≤ p ∧ p ≤ 4 ∧ 0 ≤ now ∧ now ≤ 16777216 then ⟨p, now, now, List.replicate (p + 1).toNat 0, 0⟩ else qzero 1
/-- A step of the clock. -/
def qadv (p land now : Int) (ms : List Nat) (to : Int) : POut :=
  if pvalE p land now ms ≠ 0 then qzero 2 else if to < now ∨ 16777216 < to then qzero 3 else ⟨p, land, to, ms, 0⟩
/-- The weight of a value. -/
def powT (a v j : Nat) : Nat := powN a j * v
def padT (a v : Nat) (ms : List Nat) (j : Nat) : Nat := momAt ms j + powT a v j
/-- A value more. -/
def qadd (p land now : Int) (ms : List Nat) (v : Int) : POut :=
  if pvalE p land now ms ≠ 0 then qzero 2 else if v < 0 ∨ 4096 < v then qzero 4 else
    if fitB (padT (ageN land now) v.toNat ms) ms.length = true then ⟨p, land, now, upto (padT (ageN land now) v.toNat ms) ms.length, 0⟩ else qzero 6
/-- The answer. -/
structure FOut where
  num : Nat
  den : Nat
  f : Int
def qask (p land now : Int) (ms : List Nat) : FOut :=
  if pvalE p land now ms ≠ 0 then ⟨0, 0, 2⟩ else ⟨momAt ms p.toNat, powN (ageN land now) p.toNat, 0⟩
/-- Binomial coefficients. -/
def cN : Nat → Nat → Nat
  | _, 0 => 1
  | 0, _ + 1 => 0
  | n + 1, k + 1 => cN n k + cN n (k + 1)
/-- A term of a moment for an earlier landmark. -/
def rebS (d : Nat) (ms : List Nat) (j i : Nat) : Nat := (powN d (j - i) * cN j i) * momAt ms i
def rebT (d : Nat) (ms : List Nat) (j : Nat) : Nat → Nat
  | 0 => 0
  | i + 1 => rebT d ms j i + rebS d ms j i
/-- A moment for an earlier landmark. -/
def rebM (d : Nat) (ms : List Nat) (j : Nat) : Nat := rebT d ms j (j + 1)
/-- The counter with an earlier landmark. -/
def qreb (p land now : Int) (ms : List Nat) (to : Int) : POut :=
  if pvalE p land now ms ≠ 0 then qzero 2 else if to < 0 ∨ land < to then qzero 1 else
    if fitB (rebM (land - to).toNat ms) ms.length = true then ⟨p, to, now, upto (rebM (land - to).toNat ms) ms.length, 0⟩ else qzero 6
def sumT (xs ys : List Nat) (j : Nat) : Nat := momAt xs j + momAt ys j
/-- The counter of the items of two. -/
def qmer (p land now : Int) (ms : List Nat) (p' land' now' : Int) (ms' : List Nat) : POut :=
  if pvalE p land now ms ≠ 0 then qzero 2 else if pvalE p' land' now' ms' ≠ 0 then qzero 2 else if p ≠ p' ∨ now ≠ now' then qzero 1 else
    if fitB (rebM (land - min land land').toNat ms) ms.length = true ∧ fitB (rebM (land' - min land land').toNat ms') ms'.length = true ∧
      fitB (sumT (upto (rebM (land - min land land').toNat ms) ms.length) (upto (rebM (land' - min land land').toNat ms') ms'.length)) ms.length = true
    then ⟨p, min land land', now, upto (sumT (upto (rebM (land - min land land').toNat ms) ms.length) (upto (rebM (land' - min land land').toNat ms') ms'.length)) ms.length, 0⟩
    else qzero 6
section
variable {p land now to v : Int} {ms : List Nat}
theorem qnew_no (h : ¬ (0 ≤ p ∧ p ≤ 4 ∧ 0 ≤ now ∧ now ≤ 16777216)) : qnew p now = qzero 1 := by unfold qnew; rw [if_neg h]
theorem qnew_yes (h0 : 0 ≤ p) (h1 : p ≤ 4) (h2 : 0 ≤ now) (h3 : now ≤ 16777216) : qnew p now = ⟨p, now, now, List.replicate (p + 1).toNat 0, 0⟩ := by unfold qnew; rw [if_pos ⟨h0, h1, h2, h3⟩]
theorem qadv_bad (hv : pvalE p land now ms = 2) : qadv p land now ms to = qzero 2 := by unfold qadv; rw [if_pos (by rw [hv]; decide)]
theorem qadv_low (hv : pvalE p land now ms = 0) (h : to < now) : qadv p land now ms to = qzero 3 := by unfold qadv; rw [if_neg (by rw [hv]; decide), if_pos (.inl h)]
theorem qadv_high (hv : pvalE p land now ms = 0) (h : 16777216 < to) : qadv p land now ms to = qzero 3 := by unfold qadv; rw [if_neg (by rw [hv]; decide), if_pos (.inr h)]
theorem qadv_ok (hv : pvalE p land now ms = 0) (h0 : now ≤ to) (h1 : to ≤ 16777216) : qadv p land now ms to = ⟨p, land, to, ms, 0⟩ := by unfold qadv; rw [if_neg (by rw [hv]; decide), if_neg (by omega)]
theorem qadd_bad (hv : pvalE p land now ms = 2) : qadd p land now ms v = qzero 2 := by unfold qadd; rw [if_pos (by rw [hv]; decide)]
theorem qadd_low (hv : pvalE p land now ms = 0) (h : v < 0) : qadd p land now ms v = qzero 4 := by unfold qadd; rw [if_neg (by rw [hv]; decide), if_pos (.inl h)]
theorem qadd_high (hv : pvalE p land now ms = 0) (h : 4096 < v) : qadd p land now ms v = qzero 4 := by unfold qadd; rw [if_neg (by rw [hv]; decide), if_pos (.inr h)]
theorem qadd_over (hv : pvalE p land now ms = 0) (h0 : 0 ≤ v) (h1 : v ≤ 4096) (h : fitB (padT (ageN land now) v.toNat ms) ms.length = false) : qadd p land now ms v = qzero 6 := by
  unfold qadd; rw [if_neg (by rw [hv]; decide), if_neg (by omega), if_neg (by rw [h]; decide)]
theorem qadd_ok (hv : pvalE p land now ms = 0) (h0 : 0 ≤ v) (h1 : v ≤ 4096) (h : fitB (padT (ageN land now) v.toNat ms) ms.length = true) : qadd p land now ms v = ⟨p, land, now, upto (padT (ageN land now) v.toNat ms) ms.length, 0⟩ := by
  unfold qadd; rw [if_neg (by rw [hv]; decide), if_neg (by omega), if_pos h]
theorem qask_bad (hv : pvalE p land now ms = 2) : qask p land now ms = ⟨0, 0, 2⟩ := by unfold qask; rw [if_pos (by rw [hv]; decide)]
theorem qask_ok (hv : pvalE p land now ms = 0) : qask p land now ms = ⟨momAt ms p.toNat, powN (ageN land now) p.toNat, 0⟩ := by unfold qask; rw [if_neg (by rw [hv]; decide)]
theorem qreb_bad (hv : pvalE p land now ms = 2) : qreb p land now ms to = qzero 2 := by unfold qreb; rw [if_pos (by rw [hv]; decide)]
theorem qreb_low (hv : pvalE p land now ms = 0) (h : to < 0) : qreb p land now ms to = qzero 1 := by unfold qreb; rw [if_neg (by rw [hv]; decide), if_pos (.inl h)]
theorem qreb_high (hv : pvalE p land now ms = 0) (h : land < to) : qreb p land now ms to = qzero 1 := by unfold qreb; rw [if_neg (by rw [hv]; decide), if_pos (.inr h)]
theorem qreb_over (hv : pvalE p land now ms = 0) (h0 : 0 ≤ to) (h1 : to ≤ land) (h : fitB (rebM (land - to).toNat ms) ms.length = false) : qreb p land now ms to = qzero 6 := by
  unfold qreb; rw [if_neg (by rw [hv]; decide), if_neg (by omega), if_neg (by rw [h]; decide)]
theorem qreb_ok (hv : pvalE p land now ms = 0) (h0 : 0 ≤ to) (h1 : to ≤ land) (h : fitB (rebM (land - to).toNat ms) ms.length = true) : qreb p land now ms to = ⟨p, to, now, upto (rebM (land - to).toNat ms) ms.length, 0⟩ := by
  unfold qreb; rw [if_neg (by rw [hv]; decide), if_neg (by omega), if_pos h]
variable {p' land' now' : Int} {ms' : List Nat}
theorem qmer_bad1 (hv : pvalE p land now ms = 2) : qmer p land now ms p' land' now' ms' = qzero 2 := by unfold qmer; rw [if_pos (by rw [hv]; decide)]
theorem qmer_bad2 (hv : pvalE p land now ms = 0) (hv' : pvalE p' land' now' ms' = 2) : qmer p land now ms p' land' now' ms' = qzero 2 := by unfold qmer; rw [if_neg (by rw [hv]; decide), if_pos (by rw [hv']; decide)]
theorem qmer_arg (hv : pvalE p land now ms = 0) (hv' : pvalE p' land' now' ms' = 0) (h : p ≠ p' ∨ now ≠ now') : qmer p land now ms p' land' now' ms' = qzero 1 := by unfold qmer; rw [if_neg (by rw [hv]; decide), if_neg (by rw [hv']; decide), if_pos h]
theorem qmer_over (hv : pvalE p land now ms = 0) (hv' : pvalE p land' now ms' = 0) (h : fitB (rebM (land - min land land').toNat ms) ms.length = false ∨ fitB (rebM (land' - min land land').toNat ms') ms'.length = false ∨
      fitB (sumT (upto (rebM (land - min land land').toNat ms) ms.length) (upto (rebM (land' - min land land').toNat ms') ms'.length)) ms.length = false) : qmer p land now ms p land' now ms' = qzero 6 := by
  unfold qmer; rw [if_neg (by rw [hv]; decide), if_neg (by rw [hv']; decide), if_neg (by simp), if_neg]
  rintro ⟨a, b, c⟩
  rcases h with h | h | h
  · rw [h] at a; cases a
  · rw [h] at b; cases b
  · rw [h] at c; cases c
theorem qmer_ok (hv : pvalE p land now ms = 0) (hv' : pvalE p land' now ms' = 0) (h1 : fitB (rebM (land - min land land').toNat ms) ms.length = true) (h2 : fitB (rebM (land' - min land land').toNat ms') ms'.length = true)
    (h3 : fitB (sumT (upto (rebM (land - min land land').toNat ms) ms.length) (upto (rebM (land' - min land land').toNat ms') ms'.length)) ms.length = true) :
    qmer p land now ms p land' now ms' = ⟨p, min land land', now, upto (sumT (upto (rebM (land - min land land').toNat ms) ms.length) (upto (rebM (land' - min land land').toNat ms') ms'.length)) ms.length, 0⟩ := by
  unfold qmer; rw [if_neg (by rw [hv]; decide), if_neg (by rw [hv']; decide), if_neg (by simp), if_pos ⟨h1, h2, h3⟩]
end
theorem rebT_mono (d : Nat) (ms : List Nat) (j i : Nat) : ∀ k, i ≤ k → rebT d ms j i ≤ rebT d ms j k
  | 0, h => by
    obtain rfl : i = 0 := (by omega)
    exact Nat.le_refl _
  | k + 1, h => by
    by_cases e : i = k + 1
    · subst e; exact Nat.le_refl _
    · exact Nat.le_trans (rebT_mono d ms j i k (by omega)) (Nat.le_add_right _ _)
theorem rebS_over {d : Nat} {ms : List Nat} {j i : Nat} (hi : i ≤ j) (h : ¬ rebS d ms j i < big) : ¬ rebM d ms j < big := fun a => h (Nat.lt_of_le_of_lt (Nat.le_trans (Nat.le_add_left _ _) (rebT_mono d ms j (i + 1) (j + 1) (by omega))) a)
theorem rebT_over {d : Nat} {ms : List Nat} {j i : Nat} (hi : i ≤ j) (h : ¬ rebT d ms j i + rebS d ms j i < big) : ¬ rebM d ms j < big := fun a => h (Nat.lt_of_le_of_lt (rebT_mono d ms j (i + 1) (j + 1) (by omega)) a)
theorem cN_pos : ∀ n : Nat, n < 5 → ∀ k, k < n + 1 → 1 ≤ cN n k ∧ cN n k ≤ 6 := by decide
theorem cN_next : ∀ n : Nat, n < 5 → ∀ k, k < n + 1 → cN n k * (n - k) / (k + 1) = cN n (k + 1) := by decide
theorem cN_self : ∀ n : Nat, cN n n = 1 ∧ cN n (n + 1) = 0 := by
  have h0 : ∀ n k : Nat, n < k → cN n k = 0 := by
    intro n
    induction n with
    | zero => intro k hk; cases k with
      | zero => omega
      | succ k => rfl
    | succ n ih => intro k hk; cases k with
      | zero => omega
      | succ k => show cN n k + cN n (k + 1) = 0; rw [ih k (by omega), ih (k + 1) (by omega)]
  intro n
  refine ⟨?_, h0 _ _ (by omega)⟩
  induction n with
  | zero => rfl
  | succ n ih => show cN n n + cN n (n + 1) = 1; rw [ih, h0 _ _ (by omega)]
theorem powN_le {a b : Nat} (h : a ≤ b) (j : Nat) : powN a j ≤ powN b j := Nat.pow_le_pow_left h j
theorem powN_mono {a : Nat} (ha : 1 ≤ a) {j k : Nat} (h : j ≤ k) : powN a j ≤ powN a k := Nat.pow_le_pow_right ha h
theorem powN_pos {a : Nat} (ha : 1 ≤ a) (j : Nat) : 1 ≤ powN a j := Nat.pow_pos ha
theorem powN_small {a j : Nat} (ha : a ≤ 16777217) (hj : j ≤ 4) : powN a j ≤ 79228181403575882009617301505 * 100 := by
  refine Nat.le_trans (powN_le ha j) (Nat.le_trans (powN_mono (by decide) hj) ?_)
  decide
theorem powN_fits {a j : Nat} (ha : a ≤ 16777217) (hj : j ≤ 4) : powN a j < big := Nat.lt_of_le_of_lt (powN_small ha hj) (by decide)
theorem powT_fits {a v j : Nat} (ha : a ≤ 16777217) (hj : j ≤ 4) (hv : v ≤ 4096) : powN a j * v < big := Nat.lt_of_le_of_lt (Nat.mul_le_mul (powN_small ha hj) hv) (by decide)
theorem powC_fits {a c j : Nat} (ha : a ≤ 16777217) (hj : j ≤ 4) (hv : c ≤ 6) : powN a j * c < big := Nat.lt_of_le_of_lt (Nat.mul_le_mul (powN_small ha hj) hv) (by decide)
end Go.Proofs.Ytejoomlaanmbkaa
