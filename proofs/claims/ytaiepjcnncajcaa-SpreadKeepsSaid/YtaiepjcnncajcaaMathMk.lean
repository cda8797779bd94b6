/- Marks of smooth histograms: which lists of marks are valid, a value more, marks that fall away; plain. -/
import Derived.Test.YtaiepjcnncajcaaMathSpr
set_option linter.unusedVariables false
set_option linter.unusedSimpArgs false
set_option linter.unusedSectionVars false
set_option linter.unnecessarySimpa false
namespace Go.Proofs.Ytaiepjcnncajcaa
/-- A mark. -/
structure Mk where
  seq : Int
  t : Int
  n : Int
  s : Int
  q : Int
  lo : Int
  hi : Int
def Mk.zero : Mk := ⟨0, 0, 0, 0, 0, 0, 0⟩
def mkAt (l : List Mk) (i : Nat) : Mk := l.getD i Mk.zero
theorem mkAt_zero (m : Mk) (l : List Mk) : mkAt (m :: l) 0 = m := rfl
theorem mkAt_succ (m : Mk) (l : List Mk) (i : Nat) : mkAt (m :: l) (i + 1) = mkAt l i := rfl
theorem mkAt_mem {l : List Mk} {i : Nat} (h : i < l.length) : mkAt l i ∈ l := by
  unfold mkAt
  rw [List.getD_eq_getElem?_getD, List.getElem?_eq_getElem h]
  exact List.getElem_mem h
theorem drop_mk {l : List Mk} {i : Nat} (h : i < l.length) : l.drop i = mkAt l i :: l.drop (i + 1) := by
  rw [List.drop_eq_getElem_cons h]
  unfold mkAt
  rw [List.getD_eq_getElem?_getD, List.getElem?_eq_getElem h]
  rfl
theorem mkAt_append_left {a b : List Mk} {i : Nat} (h : i < a.length) : mkAt (a ++ b) i = mkAt a i := by
  unfold mkAt
  rw [List.getD_eq_getElem?_getD, List.getD_eq_getElem?_getD, List.getElem?_append_left h]
theorem mkAt_append_right {a b : List Mk} {i : Nat} (h : a.length ≤ i) : mkAt (a ++ b) i = mkAt b (i - a.length) := by
  unfold mkAt
  rw [List.getD_eq_getElem?_getD, List.getD_eq_getElem?_getD, List.getElem?_append_right h]
theorem mkAt_drop (l : List Mk) (k i : Nat) : mkAt (l.drop k) i = mkAt l (k + i) := by
  unfold mkAt
  rw [List.getD_eq_getElem?_getD, List.getD_eq_getElem?_getD, List.getElem?_drop]
theorem mkAt_map {f : Mk → Mk} {l : List Mk} {i : Nat} (h : i < l.length) : mkAt (l.map f) i = f (mkAt l i) := by
  unfold mkAt
  rw [List.getD_eq_getElem?_getD, List.getD_eq_getElem?_getD, List.getElem?_map, List.getElem?_eq_getElem h]
  rfl
/-- The parts: n items with values from lo to hi may have the sum s and the sum of squares q. -/
def partP (n lo hi s q : Int) : Prop := n * lo ≤ s ∧ s ≤ n * hi ∧ 0 ≤ q ∧ q ≤ n * 4096 * 4096 ∧ s * s ≤ n * q
instance (n lo hi s q : Int) : Decidable (partP n lo hi s q) := by unfold partP; infer_instance
/-- The conditions on one mark. -/
def oneP (seq cap now w least : Int) (m : Mk) : Prop :=
  1 ≤ m.seq ∧ m.seq ≤ seq ∧ m.n = seq - m.seq + 1 ∧ m.n ≤ cap ∧ 0 ≤ m.t ∧ m.t ≤ now ∧ least ≤ m.lo ∧ m.hi ≤ 4096 ∧ m.lo ≤ m.hi ∧ partP m.n m.lo m.hi m.s m.q
instance (seq cap now w least : Int) (m : Mk) : Decidable (oneP seq cap now w least m) := by unfold oneP; infer_instance
/-- The conditions on a mark and the one behind it. -/
def twoP (o m : Mk) : Prop := o.seq < m.seq ∧ o.t ≤ m.t ∧ o.lo ≤ m.lo ∧ m.hi ≤ o.hi ∧ partP (o.n - m.n) o.lo o.hi (o.s - m.s) (o.q - m.q)
instance (o m : Mk) : Decidable (twoP o m) := by unfold twoP; infer_instance
def lastP (seq : Int) (m : Mk) : Prop := m.seq = seq ∧ m.lo = m.s ∧ m.hi = m.s ∧ m.q = m.s * m.s
instance (seq : Int) (m : Mk) : Decidable (lastP seq m) := by unfold lastP; infer_instance
/-- The conditions on the mark at a place. -/
def atP (l : List Mk) (seq cap now w least : Int) (i : Nat) : Prop :=
  oneP seq cap now w least (mkAt l i) ∧ ((0 < i ∨ l.length = 1) → now - w < (mkAt l i).t) ∧ (0 < i → twoP (mkAt l (i - 1)) (mkAt l i))
instance (l : List Mk) (seq cap now w least : Int) (i : Nat) : Decidable (atP l seq cap now w least i) := by unfold atP; infer_instance
/-- A valid list of marks. -/
def mvalid (l : List Mk) (seq cap now w least : Int) : Prop :=
  0 ≤ seq ∧ seq ≤ 1099511627776 ∧ (∀ i, i < l.length → atP l seq cap now w least i) ∧ (l.length ≠ 0 → lastP seq (mkAt l (l.length - 1)))
instance (l : List Mk) (seq cap now w least : Int) : Decidable (mvalid l seq cap now w least) := by unfold mvalid; infer_instance
/-- A value more in a mark. -/
def inc (v : Int) (m : Mk) : Mk := ⟨m.seq, m.t, m.n + 1, m.s + v, m.q + v * v, min m.lo v, max m.hi v⟩
def newMk (seq t v : Int) : Mk := ⟨seq, t, 1, v, v * v, v, v⟩
/-- A value more in all marks, and its own mark. -/
def incl (l : List Mk) (seq t v : Int) : List Mk := l.map (inc v) ++ [newMk seq t v]
theorem incl_len (l : List Mk) (seq t v : Int) : (incl l seq t v).length = l.length + 1 := by unfold incl; simp
/-- The place of the last one that fulfils a condition; 0 if none does. -/
def lastN (f : Mk → Bool) : List Mk → Nat
  | [] => 0
  | x :: xs => if xs.any f then lastN f xs + 1 else 0
theorem lastN_le (f : Mk → Bool) : ∀ l, l ≠ [] → lastN f l < l.length
  | [], h => absurd rfl h
  | x :: xs, _ => by
    unfold lastN
    split
    · rename_i h
      have : xs ≠ [] := by rintro rfl; simp at h
      have := lastN_le f xs this
      simp; omega
    · simp
theorem lastN_none {f : Mk → Bool} {l : List Mk} (h : ∀ i, i < l.length → f (mkAt l i) = false) : lastN f l = 0 := by
  cases l with
  | nil => rfl
  | cons x xs =>
    unfold lastN
    rw [if_neg]
    intro ha
    rw [List.any_eq_true] at ha
    obtain ⟨m, hm, hf⟩ := ha
    obtain ⟨i, hi, e⟩ := List.getElem_of_mem hm
    have := h (i + 1) (by simpa using hi)
    rw [mkAt_succ] at this
    unfold mkAt at this
    rw [List.getD_eq_getElem?_getD, List.getElem?_eq_getElem hi] at this
    simp only [Option.getD_some, e] at this
    rw [hf] at this
    cases this
theorem lastN_is {f : Mk → Bool} : ∀ {l : List Mk} {p : Nat}, p < l.length → f (mkAt l p) = true → (∀ i, p < i → i < l.length → f (mkAt l i) = false) → lastN f l = p
  | [], p, h, _, _ => absurd h (by simp)
  | x :: xs, 0, _, _, h => by
    refine lastN_none' ?_
    intro i hi
    have := h (i + 1) (by omega) (by simpa using hi)
    rwa [mkAt_succ] at this
  | x :: xs, p + 1, hp, hf, h => by
    have hp' : p < xs.length := by simpa using hp
    rw [mkAt_succ] at hf
    have ih := lastN_is hp' hf (fun i h1 h2 => by have := h (i + 1) (by omega) (by simpa using h2); rwa [mkAt_succ] at this)
    unfold lastN
    rw [if_pos, ih]
    rw [List.any_eq_true]
    exact ⟨_, mkAt_mem hp', hf⟩
where
  lastN_none' {f : Mk → Bool} {x : Mk} {xs : List Mk} (h : ∀ i, i < xs.length → f (mkAt xs i) = false) : lastN f (x :: xs) = 0 := by
    unfold lastN
    rw [if_neg]
    intro ha
    rw [List.any_eq_true] at ha
    obtain ⟨m, hm, hf⟩ := ha
    obtain ⟨i, hi, e⟩ := List.getElem_of_mem hm
    have := h i hi
    unfold mkAt at this
    rw [List.getD_eq_getElem?_getD, List.getElem?_eq_getElem hi] at this
    simp only [Option.getD_some, e] at this
    rw [hf] at this
    cases this
/-- Either none fulfils the condition, or the place is that of the last one that does. -/
theorem lastN_spec (f : Mk → Bool) : ∀ (l : List Mk), (∀ i, i < l.length → f (mkAt l i) = false) ∨ (lastN f l < l.length ∧ f (mkAt l (lastN f l)) = true ∧ ∀ i, lastN f l < i → i < l.length → f (mkAt l i) = false)
  | [] => .inl (fun i h => absurd h (by simp))
  | x :: xs => by
    rcases lastN_spec f xs with h | ⟨h1, h2, h3⟩
    · cases hx : f x with
      | false =>
        refine .inl (fun i hi => ?_)
        cases i with
        | zero => exact hx
        | succ i => exact h i (by simpa using hi)
      | true =>
        have e : lastN f (x :: xs) = 0 := lastN_is (p := 0) (by simp) hx (fun i h1 h2 => by
          cases i with
          | zero => omega
          | succ i => exact h i (by simpa using h2))
        rw [e]
        exact .inr ⟨by simp, hx, fun i h1 h2 => by
          cases i with
          | zero => omega
          | succ i => exact h i (by simpa using h2)⟩
    · have e : lastN f (x :: xs) = lastN f xs + 1 := lastN_is (by simpa using h1) h2 (fun i h4 h5 => by
        cases i with
        | zero => omega
        | succ i => exact h3 i (by omega) (by simpa using h5))
      rw [e]
      exact .inr ⟨by simpa using h1, h2, fun i h4 h5 => by
        cases i with
        | zero => omega
        | succ i => exact h3 i (by omega) (by simpa using h5)⟩
/-- The marks between each mark and the last one behind it that is close to it fall away. -/
def prune (near : Mk → Mk → Bool) : List Mk → List Mk
  | [] => []
  | a :: r => a :: prune near (r.drop (lastN (near a) r))
termination_by l => l.length
decreasing_by simp; omega
theorem prune_nil (near : Mk → Mk → Bool) : prune near [] = [] := by rw [prune]
theorem prune_cons (near : Mk → Mk → Bool) (a : Mk) (r : List Mk) : prune near (a :: r) = a :: prune near (r.drop (lastN (near a) r)) := by rw [prune]
theorem prune_len (near : Mk → Mk → Bool) : ∀ (k : Nat) (l : List Mk), l.length ≤ k → (prune near l).length ≤ l.length
  | 0, l, h => by
    have : l = [] := by cases l <;> simp_all
    subst this
    simp [prune_nil]
  | k + 1, [], _ => by simp [prune_nil]
  | k + 1, a :: r, h => by
    rw [prune_cons]
    have := prune_len near k (r.drop (lastN (near a) r)) (by simp at h ⊢; omega)
    simp at this ⊢
    omega
/-- Marks fall away that a later tick makes superfluous. -/
def dropM (now w : Int) : List Mk → List Mk
  | [] => []
  | [a] => if now - w < a.t then [a] else []
  | a :: b :: r => if now - w < b.t then a :: b :: r else dropM now w (b :: r)
theorem dropM_nil (now w : Int) : dropM now w [] = [] := by rw [dropM]
theorem dropM_one (now w : Int) (a : Mk) : dropM now w [a] = if now - w < a.t then [a] else [] := by rw [dropM]
theorem dropM_two (now w : Int) (a b : Mk) (r : List Mk) : dropM now w (a :: b :: r) = if now - w < b.t then a :: b :: r else dropM now w (b :: r) := by rw [dropM]
theorem dropM_suffix (now w : Int) : ∀ l, ∃ k, k ≤ l.length ∧ dropM now w l = l.drop k
  | [] => ⟨0, by simp, by rw [dropM_nil]; rfl⟩
  | [a] => by
    rw [dropM_one]
    split
    · exact ⟨0, by simp, rfl⟩
    · exact ⟨1, by simp, rfl⟩
  | a :: b :: r => by
    rw [dropM_two]
    split
    · exact ⟨0, by simp, rfl⟩
    · obtain ⟨k, hk, e⟩ := dropM_suffix now w (b :: r)
      exact ⟨k + 1, by simpa using hk, by rw [e]; rfl⟩
end Go.Proofs.Ytaiepjcnncajcaa
