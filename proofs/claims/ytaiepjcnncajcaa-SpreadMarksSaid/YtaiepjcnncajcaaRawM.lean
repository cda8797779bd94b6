/- A parameter that is a mark opened to what it reads. -/
import Derived.Deep.Slices
import Derived.Deep.Fields
import Derived.ChangeSame
import Derived.Lib.SmallJoins
import Derived.Test.YtaiepjcnncajcaaSprE
namespace Go.Proofs.Ytaiepjcnncajcaa
open Go.ChangeShapes Go.WideShapes Go.Deep Go.RowKit Go.Joins
theorem cellsI : Try.prog.cellsOf 2 = 1 := by kernel_rfl
theorem cellsM : Try.prog.cellsOf 33 = 7 := by kernel_rfl
theorem list7 {α : Type} {l : List α} (h : l.length = 7) : ∃ a b c d e f g, l = [a, b, c, d, e, f, g] := by
  match l, h with
  | [a, b, c, d, e, f, g], _ => exact ⟨a, b, c, d, e, f, g, rfl⟩
section
variable {H : Type} {enc : TypeId × Value → H} {W : World}
theorem cell_int {n : Nat} {c : Value} {y : DataW H × List MemPlace} (h : DataW.trod enc Try.prog W 0 (fun _ => true) true n 2 [c] = some y) : ∃ x : Int, c = .int .i64 x := by
  obtain ⟨x, e, _, _⟩ := DataW.trod_int Try.underlying2 h
  simp at e
  exact ⟨x, e⟩
set_option maxRecDepth 100000 in
theorem mark_open {r : Reach} {b0 : Nat} {v : Value} {d : DataW H} {p : List MemPlace} (hv : Value.okWide Try.prog W r b0 33 v) (h : DataW.Trod enc Try.prog W 0 (fun _ => true) true 33 v d p) :
    ∃ a0 a1 a2 a3 a4 a5 a6 : Int, v = .agg #[.int .i64 a0, .int .i64 a1, .int .i64 a2, .int .i64 a3, .int .i64 a4, .int .i64 a5, .int .i64 a6] := by
  obtain ⟨⟨l⟩, rfl, hsz⟩ := okWide_struct Try.underlying33 hv
  obtain ⟨c0, c1, c2, c3, c4, c5, c6, rfl⟩ := list7 (show l.length = 7 from hsz.trans cellsM)
  obtain ⟨fuel, hf⟩ := h
  obtain ⟨xs, n, _, hx, hl, hlen, hfs⟩ := DataW.trod_struct Try.underlying33 hf
  obtain ⟨y0, y1, y2, y3, y4, y5, y6, rfl⟩ := list7 (show xs.length = 7 from hlen)
  have e0 := hfs 0 _ rfl
  have e1 := hfs 1 _ rfl
  have e2 := hfs 2 _ rfl
  have e3 := hfs 3 _ rfl
  have e4 := hfs 4 _ rfl
  have e5 := hfs 5 _ rfl
  have e6 := hfs 6 _ rfl
  simp [Value.cells, cellsI] at e0 e1 e2 e3 e4 e5 e6
  obtain ⟨a0, rfl⟩ := cell_int e0
  obtain ⟨a1, rfl⟩ := cell_int e1
  obtain ⟨a2, rfl⟩ := cell_int e2
  obtain ⟨a3, rfl⟩ := cell_int e3
  obtain ⟨a4, rfl⟩ := cell_int e4
  obtain ⟨a5, rfl⟩ := cell_int e5
  obtain ⟨a6, rfl⟩ := cell_int e6
  exact ⟨a0, a1, a2, a3, a4, a5, a6, rfl⟩
end
end Go.Proofs.Ytaiepjcnncajcaa
