/- Blocks of memory known whole: what a block holds behind a new block, a call, a store, a draw. -/
import Derived.OneCell
import Derived.WalkKit
set_option linter.unusedVariables false
set_option linter.unusedSimpArgs false
set_option linter.unusedSectionVars false
set_option linter.unnecessarySimpa false
namespace Go.Proofs.Ytdibjlphcmjnoaa
open Go.RowKit

/-- Block b holds the cells cs, none of them frozen. -/
def Row (w : World) (b : Nat) (t : TypeId) (cs : Array Value) : Prop := w.heap[b]? = some (.cells cs t (0, 0))
section
variable {w w' : World} {b : Nat} {t : TypeId} {cs : Array Value}
theorem row_cell (h : Row w b t cs) (i : Nat) : w.cell? ⟨b, i, none⟩ = cs[i]? := by
  unfold Row at h
  simp [World.cell?, h]
theorem row_free (h : Row w b t cs) (i : Nat) : w.frozen? ⟨b, i, none⟩ = false := by
  unfold Row at h
  simp [World.frozen?, h]
theorem row_lt (h : Row w b t cs) : b < w.heap.size := lt_of_block h
theorem row_new (hb : b = w.heap.size) : Row (w.alloc (.cells cs t)) b t cs := by
  subst hb
  unfold Row
  show (w.heap.push _)[w.heap.size]? = _
  simp
theorem row_alloc (h : Row w b t cs) (o : Obj) : Row (w.alloc o) b t cs := (Below.heap_alloc w o b (row_lt h)).trans h
theorem row_call (h : Row w b t cs) (hb : Below w.heap.size w w') : Row w' b t cs := (hb.block b (row_lt h)).trans h
theorem row_below {B : Nat} (h : Row w b t cs) (hb : Below B w w') (hlt : b < B) : Row w' b t cs := (hb.block b hlt).trans h
theorem row_grown {r : Option Nat} (h : Row w b t cs) (hg : w.grownBy w' r) (hne : r ≠ some b) : Row w' b t cs := (hg.block b (row_lt h) (fun e => hne e.symm)).trans h
theorem row_drew (h : Row w b t cs) : Row w.drew b t cs := h
theorem row_other (h : Row w b t cs) {p : Addr} (hne : b ≠ p.block) (v : Value) : Row (w.setCell p v) b t cs := (Below.heap_setCell w p v b hne).trans h
theorem row_set (h : Row w b t cs) (i : Nat) (v : Value) : Row (w.setCell ⟨b, i, none⟩ v) b t (cs.setIfInBounds i v) := by
  have hlt := row_lt h
  unfold Row at *
  have h' : w.heap[b] = .cells cs t (0, 0) := by simpa [Array.getElem?_eq_getElem hlt] using h
  show (w.heap.modify b _)[b]? = _
  rw [Array.getElem?_eq_getElem (by simpa using hlt), Array.getElem_modify_self, h']
  rfl
theorem row_two {x y : Value} (h : Row w b t #[x, y]) : w.cell? ⟨b, 0, none⟩ = some x ∧ w.cell? ⟨b, 1, none⟩ = some y ∧ w.frozen? ⟨b, 0, none⟩ = false ∧ w.frozen? ⟨b, 1, none⟩ = false :=
  ⟨row_cell h 0, row_cell h 1, row_free h 0, row_free h 1⟩
theorem row_two_set {x y u v : Value} (h : Row w b t #[x, y]) : Row ((w.setCell ⟨b, 0, none⟩ u).setCell ⟨b, 1, none⟩ v) b t #[u, v] := row_set (row_set h 0 u) 1 v
theorem row_two_other {c : Nat} {u v : Value} (h : Row w b t cs) (hne : b ≠ c) : Row ((w.setCell ⟨c, 0, none⟩ u).setCell ⟨c, 1, none⟩ v) b t cs := row_other (row_other h hne u) hne v
theorem row_one {x : Value} (h : Row w b t #[x]) : w.cell? ⟨b, 0, none⟩ = some x ∧ w.frozen? ⟨b, 0, none⟩ = false := ⟨row_cell h 0, row_free h 0⟩
theorem size_setCell (p : Addr) (v : Value) : (w.setCell p v).heap.size = w.heap.size := by simp [World.setCell]
end
end Go.Proofs.Ytdibjlphcmjnoaa
