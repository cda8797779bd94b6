/- Plain facts on decimal digits and on turning a list round: no program is in sight. -/
import Derived.Test.YtoemccfpinonhaaDoorMath
import Derived.Laws.BytesArg
namespace Go.Proofs.YtoemccfpinonhaaDoor
open Go.RowKit

/-- The decimal digits of n as bytes, the last first; the first argument bounds their number. -/
def lrev : Nat → Nat → List Int
  | 0, _ => []
  | f + 1, n => if n = 0 then [] else ((48 + n % 10 : Nat) : Int) :: lrev f (n / 10)
theorem lrev_zero (f : Nat) : lrev f 0 = [] := by cases f <;> simp [lrev]
theorem lrev_step {f n : Nat} (h : n ≠ 0) : lrev (f + 1) n = ((48 + n % 10 : Nat) : Int) :: lrev f (n / 10) := by simp [lrev, h]
theorem lrev_len : ∀ f n, (lrev f n).length ≤ f
  | 0, _ => by simp [lrev]
  | f + 1, n => by
    unfold lrev
    split
    · simp
    · have := lrev_len f (n / 10)
      simp only [List.length_cons]
      omega
/-- The decimal numeral as bytes. -/
def decN (a : Nat) : List Int := if a = 0 then [48] else (lrev 39 a).reverse
/-- The decimal numeral. -/
def decStr (a : Nat) : ByteArray := strOfNums (decN a)
theorem decStr_pos {a : Nat} (h : a ≠ 0) : decStr a = strOfNums (lrev 39 a).reverse := by unfold decStr decN; rw [if_neg h]
theorem decStr_zero : decStr 0 = { data := #[48] } := by decide

/-- The list turned round as far as its first k and its last k elements. -/
def rv (k : Nat) (xs : List Int) : List Int := (List.range xs.length).map fun t => if t < k ∨ xs.length ≤ t + k then xs.getD (xs.length - 1 - t) 0 else xs.getD t 0
theorem rv_len (k : Nat) (xs : List Int) : (rv k xs).length = xs.length := by simp [rv]
theorem rv_get (k : Nat) (xs : List Int) (t : Nat) (h : t < xs.length) : (rv k xs).getD t 0 = if t < k ∨ xs.length ≤ t + k then xs.getD (xs.length - 1 - t) 0 else xs.getD t 0 := by
  simp [rv, List.getD, h]
theorem ext_getD {xs ys : List Int} (hl : xs.length = ys.length) (h : ∀ t, t < xs.length → xs.getD t 0 = ys.getD t 0) : xs = ys := by
  refine List.ext_getElem hl fun t h1 h2 => ?_
  have := h t h1
  simpa [List.getD, h1, h2] using this
theorem rv_0 (xs : List Int) : rv 0 xs = xs := ext_getD (rv_len 0 xs) fun t ht => by
  rw [rv_len] at ht
  rw [rv_get 0 xs t ht, if_neg (by omega)]
theorem rv_end {k : Nat} {xs : List Int} (h : xs.length ≤ 2 * k + 1) : rv k xs = xs.reverse := ext_getD (by rw [rv_len]; simp) fun t ht => by
  rw [rv_len] at ht
  rw [rv_get k xs t ht]
  have hr : xs.reverse.getD t 0 = xs.getD (xs.length - 1 - t) 0 := by
      have h2 : xs.length - 1 - t < xs.length := by omega
      simp [List.getD, ht, h2]
  rw [hr]
  split
  · rfl
  · congr 1; omega
theorem rv_step {k : Nat} {xs : List Int} (h : 2 * k + 1 < xs.length) :
    ((rv k xs).set k ((rv k xs).getD (xs.length - 1 - k) 0)).set (xs.length - 1 - k) ((rv k xs).getD k 0) = rv (k + 1) xs := by
  refine ext_getD (by simp [rv_len]) fun t ht => ?_
  simp only [List.length_set, rv_len] at ht
  have hs : ∀ (ys : List Int) (i : Nat) (v : Int), t < ys.length → (ys.set i v).getD t 0 = if i = t then v else ys.getD t 0 := fun ys i v hy => by
    simp only [List.getD, List.getElem?_set]
    by_cases h' : i = t
    · subst h'; simp [hy]
    · simp [h']
  rw [hs _ _ _ (by simp [rv_len]; omega), hs _ _ _ (by simp [rv_len]; omega), rv_get (k + 1) xs t ht, rv_get k xs t ht, rv_get k xs k (by omega), rv_get k xs _ (by omega)]
  by_cases e1 : xs.length - 1 - k = t
  · rw [if_pos e1, if_neg (by omega), if_pos (by omega)]
    congr 1; omega
  · rw [if_neg e1]
    by_cases e2 : k = t
    · rw [if_pos e2, if_neg (by omega), if_pos (by omega)]
      congr 1; omega
    · rw [if_neg e2]
      by_cases e3 : t < k ∨ xs.length ≤ t + k
      · rw [if_pos e3, if_pos (by omega)]
      · rw [if_neg e3, if_neg (by omega)]
theorem rv_map_set (k : Nat) (xs : List Int) (i : Nat) (v : Int) : ((rv k xs).map (Value.int .u8)).set i (.int .u8 v) = ((rv k xs).set i v).map (Value.int .u8) := by rw [List.map_set]
theorem lrev_lt : ∀ f n (t : Nat), t < (lrev f n).length → 0 ≤ (lrev f n).getD t 0 ∧ (lrev f n).getD t 0 ≤ 57
  | 0, _, t, h => by simp [lrev] at h
  | f + 1, n, t, h => by
    unfold lrev at h ⊢
    split at h
    · simp at h
    · rename_i hn
      rw [if_neg hn]
      cases t with
      | zero => simp [List.getD]; omega
      | succ t =>
        have := lrev_lt f (n / 10) t (by simpa using h)
        simpa [List.getD] using this
end Go.Proofs.YtoemccfpinonhaaDoor
