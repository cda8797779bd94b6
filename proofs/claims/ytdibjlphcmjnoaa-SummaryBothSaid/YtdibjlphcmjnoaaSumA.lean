/- Summaries of a stream: words; small functions. -/
import Derived.Test.YtdibjlphcmjnoaaProg
import Derived.WalkSpells
import Derived.Test.YtdibjlphcmjnoaaVec
import Derived.Test.YtdibjlphcmjnoaaFree
import Derived.Test.YtdibjlphcmjnoaaMathSum
import Derived.Lib.Hide
import Derived.Deep.Cut
import Derived.IntWalk
set_option linter.unusedVariables false
set_option linter.unusedSimpArgs false
set_option linter.unusedSectionVars false
set_option linter.unnecessarySimpa false
namespace Go.Proofs.Ytdibjlphcmjnoaa
open Go.RowKit
/-- The cells of a list of tuples. -/
def tcells (ts : List Tup) : List Value := ts.flatMap fun t => [.int .i64 t.v, .int .i64 t.g, .int .i64 t.d]
theorem tcells_nil : tcells [] = [] := rfl
theorem tcells_cons (t : Tup) (ts : List Tup) : tcells (t :: ts) = .int .i64 t.v :: .int .i64 t.g :: .int .i64 t.d :: tcells ts := rfl
theorem tcells_append (a b : List Tup) : tcells (a ++ b) = tcells a ++ tcells b := by unfold tcells; rw [List.flatMap_append]
theorem tcells_len : ∀ ts : List Tup, (tcells ts).length = ts.length * 3
  | [] => rfl
  | t :: ts => by rw [tcells_cons]; simp only [List.length_cons, tcells_len ts]; omega
theorem tcells_take : ∀ (ts : List Tup) (i : Nat), (tcells ts).take (i * 3) = tcells (ts.take i)
  | [], i => by simp [tcells_nil]
  | t :: ts, 0 => by simp [tcells_nil]
  | t :: ts, i + 1 => by
    rw [tcells_cons, show (i + 1) * 3 = i * 3 + 1 + 1 + 1 by omega]
    simp only [List.take_succ_cons]
    rw [tcells_take ts i, tcells_cons]
theorem tcells_drop : ∀ (ts : List Tup) (i : Nat), (tcells ts).drop (i * 3) = tcells (ts.drop i)
  | [], i => by simp [tcells_nil]
  | t :: ts, 0 => by simp
  | t :: ts, i + 1 => by
    rw [tcells_cons, show (i + 1) * 3 = i * 3 + 1 + 1 + 1 by omega]
    simp only [List.drop_succ_cons]
    rw [tcells_drop ts i]
theorem tcells_at : ∀ (ts : List Tup) (i : Nat), i < ts.length → (tcells ts)[i * 3]? = some (.int .i64 (tupAt ts i).v) ∧ (tcells ts)[i * 3 + 1]? = some (.int .i64 (tupAt ts i).g) ∧ (tcells ts)[i * 3 + 2]? = some (.int .i64 (tupAt ts i).d)
  | [], i, h => absurd h (by simp)
  | t :: ts, 0, _ => ⟨rfl, rfl, rfl⟩
  | t :: ts, i + 1, h => by
    have ih := tcells_at ts i (by simpa using h)
    rw [tcells_cons, show (i + 1) * 3 = i * 3 + 1 + 1 + 1 by omega, show i * 3 + 1 + 1 + 1 + 1 = (i * 3 + 1) + 1 + 1 + 1 by omega, show i * 3 + 1 + 1 + 1 + 2 = (i * 3 + 2) + 1 + 1 + 1 by omega]
    simp only [List.getElem?_cons_succ]
    exact ih
theorem tcells_set (ts : List Tup) (i : Nat) (h : i < ts.length) (g : Int) : (tcells ts).set (i * 3 + 1) (.int .i64 g) = tcells (ts.set i { tupAt ts i with g := g }) := by
  induction ts generalizing i with
  | nil => exact absurd h (by simp)
  | cons t ts ih =>
    cases i with
    | zero => rfl
    | succ i =>
      have := ih i (by simpa using h)
      rw [tcells_cons, show (i + 1) * 3 + 1 = i * 3 + 1 + 1 + 1 + 1 by omega]
      simp only [List.set_cons_succ]
      rw [show i * 3 + 1 = i * 3 + 1 from rfl, this]
      rfl
theorem tcells_one (ts : List Tup) : ∀ u ∈ tcells ts, u.oneCell' = true := by
  intro u hu
  unfold tcells at hu
  rw [List.mem_flatMap] at hu
  obtain ⟨t, _, ht⟩ := hu
  simp at ht
  rcases ht with rfl | rfl | rfl <;> rfl
/-- A tuple's numbers are numbers of 64 bits. -/
def T64 (t : Tup) : Prop := (-9223372036854775808 ≤ t.v ∧ t.v ≤ 9223372036854775807) ∧ (-9223372036854775808 ≤ t.g ∧ t.g ≤ 9223372036854775807) ∧ (-9223372036854775808 ≤ t.d ∧ t.d ≤ 9223372036854775807)
section
variable {w w' : World} {B m : Nat} {A : Option Addr} {ts : List Tup}
theorem Reads.tup_len (h : Reads w B 3 A m (tcells ts)) : ts.length = m := by have := h.1; rw [tcells_len] at this; omega
theorem add_lit_one (a : Addr) (j : Nat) (h : j ≠ 0) : a.add j = ⟨a.block, a.off + j, none⟩ := by unfold Addr.add; rw [if_neg h]
/-- The three cells of a tuple. -/
def TupCells (w : World) (a : Addr) (t : Tup) : Prop := w.cell? a = some (.int .i64 t.v) ∧ w.cell? ⟨a.block, a.off + 1, none⟩ = some (.int .i64 t.g) ∧ w.cell? ⟨a.block, a.off + 2, none⟩ = some (.int .i64 t.d)
theorem TupCells.below {B : Nat} {a : Addr} {t : Tup} (h : TupCells w a t) (hb : Below B w w') (hlt : a.block < B) : TupCells w' a t :=
  ⟨(hb.cell hlt).trans h.1, (hb.cell (p := ⟨a.block, a.off + 1, none⟩) hlt).trans h.2.1, (hb.cell (p := ⟨a.block, a.off + 2, none⟩) hlt).trans h.2.2⟩
theorem Reads.tup {i : Nat} (h : Reads w B 3 A m (tcells ts)) (hi : i < m) : ∃ ad, A = some ad ∧ ad.block < B ∧ TupCells w (ad.add (i * 3)) (tupAt ts i) := by
  obtain ⟨ad, e, hb, hc⟩ := h.2 (by omega)
  have ht := tcells_at ts i (by rw [h.tup_len]; exact hi)
  refine ⟨ad, e, hb, hc _ _ ht.1, ?_, ?_⟩
  · rw [← add_lit_one _ 1 (by decide), add_of_add]
    exact hc _ _ ht.2.1
  · rw [← add_lit_one _ 2 (by decide), add_of_add]
    exact hc _ _ ht.2.2
end
/-- A summary as an argument. -/
structure SIn (k cap n : Int) (A : Option Addr) (m c : Nat) (ts : List Tup) (w : World) : Prop where
  reads : Reads w w.heap.size 3 A m (tcells ts)
  kB : -9223372036854775808 ≤ k ∧ k ≤ 9223372036854775807
  capB : -9223372036854775808 ≤ cap ∧ cap ≤ 9223372036854775807
  nB : -9223372036854775808 ≤ n ∧ n ≤ 9223372036854775807
  tB : ∀ i, T64 (tupAt ts i)
  mc : m ≤ c
  cB : c ≤ maxLen
section
variable {k cap n : Int} {A : Option Addr} {m c : Nat} {ts : List Tup} {w w' : World}
theorem SIn.mB (h : SIn k cap n A m c ts w) : m ≤ 9223372036854775807 := by
  have := h.mc
  have := h.cB
  unfold maxLen at *
  omega
theorem SIn.len (h : SIn k cap n A m c ts w) : ts.length = m := h.reads.tup_len
theorem SIn.below (h : SIn k cap n A m c ts w) (hb : Below w.heap.size w w') : SIn k cap n A m c ts w' := ⟨(h.reads.below hb).more hb.size, h.kB, h.capB, h.nB, h.tB, h.mc, h.cB⟩
end
theorem ret_i64 {k : IntKind} {a b : Int} (h : a = b) : Ending.returned (.int k a) = .returned (.int k b) := by rw [h]
theorem ret_bool {a b : Bool} (h : a = b) : Ending.returned (.bool a) = .returned (.bool b) := by rw [h]
theorem pmost (n k : Int) (h0 : 0 ≤ n) (h1 : n ≤ 1099511627776) (hk : 1 ≤ k) (w : World) : Calls Try.prog 36 #[.int .i64 n, .int .i64 k] w fun e w' => e = .returned (.int .i64 (smost n k)) ∧ w' = w := by
  have hz : k ≠ 0 := by omega
  have hb : n / k ≤ n := Int.ediv_le_self _ h0
  have hb0 : 0 ≤ n / k := Int.ediv_nonneg h0 (by omega)
  have ht : n.tdiv k = n / k := Int.tdiv_eq_ediv_of_nonneg h0
  have hw : IntKind.i64.wrap (n / k) = n / k := IntWalk.i64_in _ (by omega)
  unfold smost
  generalize n / k = q at hb hb0 ht hw ⊢
  go_enter Try.func36, Try.ntmps36
  go_wp2
  all_goals
    go_ret
    exact ⟨ret_i64 (by omega), rfl⟩
end Go.Proofs.Ytdibjlphcmjnoaa
