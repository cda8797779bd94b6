/- Spread histograms: words for the laws that play a stream. -/
import Derived.Test.YtaiepjcnncajcaaSpT
import Derived.Test.YtaiepjcnncajcaaSpD
import Derived.Test.YtaiepjcnncajcaaMadeW
set_option linter.unusedVariables false
set_option linter.unusedSimpArgs false
set_option linter.unusedSectionVars false
set_option linter.unnecessarySimpa false
namespace Go.Proofs.Ytaiepjcnncajcaa
open Go.RowKit
theorem row_sx_set {w : World} {b : Nat} {t : TypeId} {x0 x1 x2 x3 x4 x5 : Value} (h : Row w b t #[x0, x1, x2, x3, x4, x5]) (u0 u1 u2 u3 u4 u5 : Value) : Row ((((((w.setCell ⟨b, 0, none⟩ u0).setCell ⟨b, 1, none⟩ u1).setCell ⟨b, 2, none⟩ u2).setCell ⟨b, 3, none⟩ u3).setCell ⟨b, 4, none⟩ u4).setCell ⟨b, 5, none⟩ u5) b t #[u0, u1, u2, u3, u4, u5] := by
  have h0 : Row (w.setCell ⟨b, 0, none⟩ u0) b t #[u0, x1, x2, x3, x4, x5] := row_set h 0 u0
  have h1 : Row ((w.setCell ⟨b, 0, none⟩ u0).setCell ⟨b, 1, none⟩ u1) b t #[u0, u1, x2, x3, x4, x5] := row_set h0 1 u1
  have h2 : Row (((w.setCell ⟨b, 0, none⟩ u0).setCell ⟨b, 1, none⟩ u1).setCell ⟨b, 2, none⟩ u2) b t #[u0, u1, u2, x3, x4, x5] := row_set h1 2 u2
  have h3 : Row ((((w.setCell ⟨b, 0, none⟩ u0).setCell ⟨b, 1, none⟩ u1).setCell ⟨b, 2, none⟩ u2).setCell ⟨b, 3, none⟩ u3) b t #[u0, u1, u2, u3, x4, x5] := row_set h2 3 u3
  have h4 : Row (((((w.setCell ⟨b, 0, none⟩ u0).setCell ⟨b, 1, none⟩ u1).setCell ⟨b, 2, none⟩ u2).setCell ⟨b, 3, none⟩ u3).setCell ⟨b, 4, none⟩ u4) b t #[u0, u1, u2, u3, u4, x5] := row_set h3 4 u4
  have h5 : Row ((((((w.setCell ⟨b, 0, none⟩ u0).setCell ⟨b, 1, none⟩ u1).setCell ⟨b, 2, none⟩ u2).setCell ⟨b, 3, none⟩ u3).setCell ⟨b, 4, none⟩ u4).setCell ⟨b, 5, none⟩ u5) b t #[u0, u1, u2, u3, u4, u5] := row_set h4 5 u5
  exact h5
theorem row_sx_other {w : World} {b b' : Nat} {t : TypeId} {cs : Array Value} (h : Row w b' t cs) (hne : b' ≠ b) (u0 u1 u2 u3 u4 u5 : Value) : Row ((((((w.setCell ⟨b, 0, none⟩ u0).setCell ⟨b, 1, none⟩ u1).setCell ⟨b, 2, none⟩ u2).setCell ⟨b, 3, none⟩ u3).setCell ⟨b, 4, none⟩ u4).setCell ⟨b, 5, none⟩ u5) b' t cs := row_other (row_other (row_other (row_other (row_other (row_other (h) hne u0) hne u1) hne u2) hne u3) hne u4) hne u5
theorem below_sx {B b : Nat} {w0 w : World} (h : Below B w0 w) (hb : B ≤ b) (u0 u1 u2 u3 u4 u5 : Value) : Below B w0 ((((((w.setCell ⟨b, 0, none⟩ u0).setCell ⟨b, 1, none⟩ u1).setCell ⟨b, 2, none⟩ u2).setCell ⟨b, 3, none⟩ u3).setCell ⟨b, 4, none⟩ u4).setCell ⟨b, 5, none⟩ u5) := ((((((h.setCell (p := ⟨b, 0, none⟩) hb u0).setCell (p := ⟨b, 1, none⟩) hb u1).setCell (p := ⟨b, 2, none⟩) hb u2).setCell (p := ⟨b, 3, none⟩) hb u3).setCell (p := ⟨b, 4, none⟩) hb u4).setCell (p := ⟨b, 5, none⟩) hb u5)
theorem size_sx {b : Nat} {w : World} (u0 u1 u2 u3 u4 u5 : Value) : ((((((w.setCell ⟨b, 0, none⟩ u0).setCell ⟨b, 1, none⟩ u1).setCell ⟨b, 2, none⟩ u2).setCell ⟨b, 3, none⟩ u3).setCell ⟨b, 4, none⟩ u4).setCell ⟨b, 5, none⟩ u5).heap.size = w.heap.size := by simp only [size_setCell]
theorem MIn.other {A : Option Addr} {m c : Nat} {l : List Mk} {w : World} (h : MIn A m c l w) {p : Addr} (hp : ∀ a, A = some a → a.block ≠ p.block) (v : Value) : MIn A m c l (w.setCell p v) :=
  h.keep (by rw [size_setCell]; exact Nat.le_refl _) (fun a e => Below.heap_setCell w p v a.block (hp a e))
theorem MIn.sx {A : Option Addr} {m c b : Nat} {l : List Mk} {w : World} (h : MIn A m c l w) (hp : ∀ a, A = some a → a.block ≠ b) (u0 u1 u2 u3 u4 u5 : Value) : MIn A m c l ((((((w.setCell ⟨b, 0, none⟩ u0).setCell ⟨b, 1, none⟩ u1).setCell ⟨b, 2, none⟩ u2).setCell ⟨b, 3, none⟩ u3).setCell ⟨b, 4, none⟩ u4).setCell ⟨b, 5, none⟩ u5) := ((((((h.other (p := ⟨b, 0, none⟩) hp u0).other (p := ⟨b, 1, none⟩) hp u1).other (p := ⟨b, 2, none⟩) hp u2).other (p := ⟨b, 3, none⟩) hp u3).other (p := ⟨b, 4, none⟩) hp u4).other (p := ⟨b, 5, none⟩) hp u5)
/-- Items of the law's own. -/
def LIn (A : Option Addr) (n : Nat) (l : List Itm) (w : World) : Prop := Reads w w.heap.size 2 A n (icells l)
theorem LIn.below {A : Option Addr} {n : Nat} {l : List Itm} {w w' : World} (h : LIn A n l w) (hb : Below w.heap.size w w') : LIn A n l w' := (Reads.below h hb).more hb.size
theorem LIn.other {A : Option Addr} {n : Nat} {l : List Itm} {w : World} (h : LIn A n l w) {p : Addr} (hp : ∀ a, A = some a → a.block ≠ p.block) (v : Value) : LIn A n l (w.setCell p v) := by
  refine ⟨h.1, fun hn => ?_⟩
  obtain ⟨ad, e, hb, hc⟩ := h.2 hn
  exact ⟨ad, e, by rw [size_setCell]; exact hb, fun j u hu => (World.cell?_of_block (by rw [block_of_add]; exact Below.heap_setCell w p v ad.block (hp ad e))).trans (hc j u hu)⟩
theorem LIn.sx {A : Option Addr} {n b : Nat} {l : List Itm} {w : World} (h : LIn A n l w) (hp : ∀ a, A = some a → a.block ≠ b) (u0 u1 u2 u3 u4 u5 : Value) : LIn A n l ((((((w.setCell ⟨b, 0, none⟩ u0).setCell ⟨b, 1, none⟩ u1).setCell ⟨b, 2, none⟩ u2).setCell ⟨b, 3, none⟩ u3).setCell ⟨b, 4, none⟩ u4).setCell ⟨b, 5, none⟩ u5) := ((((((h.other (p := ⟨b, 0, none⟩) hp u0).other (p := ⟨b, 1, none⟩) hp u1).other (p := ⟨b, 2, none⟩) hp u2).other (p := ⟨b, 3, none⟩) hp u3).other (p := ⟨b, 4, none⟩) hp u4).other (p := ⟨b, 5, none⟩) hp u5)
theorem LIn.item {A : Option Addr} {n i : Nat} {l : List Itm} {w : World} (h : LIn A n l w) (hi : i < n) : ∃ ad, A = some ad ∧ ad.block < w.heap.size ∧ ItmCells w (ad.add (i * 2)) (itmAt l i) := Reads.itm h hi
theorem dropM_len (now w : Int) (l : List Mk) : (dropM now w l).length ≤ l.length := by
  obtain ⟨k, _, e⟩ := dropM_suffix now w l
  rw [e, List.length_drop]
  omega
/-- What becomes of a valid state by a value. -/
theorem spAdd_cases {wd k cap now seq v : Int} {l : List Mk} (h : spValid wd k cap now seq l) (h0 : (-4096) ≤ v ∧ v ≤ 4096) :
    (¬ smFull cap seq l ∧ spAdd wd k cap now seq l v = ⟨wd, k, cap, now, seq + 1, prune (closeB k) (incl l (seq + 1) now v), 0⟩ ∧ spValid wd k cap now (seq + 1) (prune (closeB k) (incl l (seq + 1) now v)) ∧ (prune (closeB k) (incl l (seq + 1) now v)).length ≤ l.length + 1) ∨ spAdd wd k cap now seq l v = spZero 5 := by
  by_cases hf : smFull cap seq l
  · exact .inr (spAdd_c (spvalE_yes h) (by omega) hf)
  · refine .inl ⟨hf, spAdd_d (spvalE_yes h) (by omega) hf, spAdd_valid h (by omega) hf, ?_⟩
    have := prune_len (closeB k) _ (incl l (seq + 1) now v) (Nat.le_refl _)
    rw [incl_len] at this
    exact this
end Go.Proofs.Ytaiepjcnncajcaa
