/- A state opened to what it reads (open_slice_fields is the guide's, extra-structs.md, copied as that page bids). -/
import Derived.Deep.Slices
import Derived.Deep.Fields
import Derived.ChangeSame
import Derived.Lib.SmallJoins
import Derived.Test.YthknkdjpfanlnaaMkA
set_option linter.unusedVariables false
set_option linter.unusedSimpArgs false
set_option linter.unusedSectionVars false
set_option linter.unnecessarySimpa false
namespace Go.Proofs.Ythknkdjpfanlnaa
open Go.ChangeShapes Go.WideShapes Go.Deep Go.RowKit Go.Joins
section
variable {H : Type} {enc : TypeId × Value → H} {P : Program} {w : World} {base : Nat} {spare : Nat → Bool} {held : Bool}
theorem open_slice_fields {t e : TypeId} {fs : Array Field} {fuel : Nat} {cs : List Value} {x : DataW H × List MemPlace} (ht : P.underlying t = some (.slice e)) (he : P.underlying e = some (.struct fs))
    (hone : oneCellFields P fs = true) (hC : P.cellsOf e = fs.size) (h : DataW.trod enc P w base spare held fuel t cs = some x) :
    (cs = [.slice none 0 0] ∧ x = (.nil, [])) ∨
    ∃ (a : Addr) (len cap m : Nat) (D : Nat → DataW H) (Pl : Nat → List MemPlace), cs = [.slice (some a) len cap] ∧ base ≤ a.block ∧ len ≤ cap ∧ cap ≤ maxLen ∧ m = (if spare a.block then cap else len) ∧
      x = (.slice ((List.range len).map D) ((List.range (m - len)).map fun j => D (len + j)), MemPlace.row a (m * fs.size) ++ (List.range m).flatMap Pl) ∧
      ∀ i, i < m → ∃ (ys : List (DataW H × List MemPlace)) (n : Nat), D i = .agg (ys.map (·.1)) ∧ Pl i = ys.flatMap (·.2) ∧ ys.length = fs.size ∧
        ∀ (j : Nat) (f : Field), fs[j]? = some f → ∃ (v : Value) (y : DataW H × List MemPlace), w.cell? (a.add (i * fs.size + j)) = some v ∧ ys[j]? = some y ∧ DataW.trod enc P w base spare held n f.type [v] = some y := by
  rcases open_slice ht h with h0 | ⟨a, len, cap, m, n, D, Pl, hcs, hb, hl, hm, hmm, hx, hi⟩
  · exact .inl h0
  · refine .inr ⟨a, len, cap, m, D, Pl, hcs, hb, hl, hm, hmm, by rw [hC] at hx; exact hx, fun i him => ?_⟩
    obtain ⟨cs', hc, ht'⟩ := hi i him
    rw [hC] at hc
    obtain ⟨ys, n', hn', hy, hlen, hyl, hf⟩ := DataW.trod_struct he ht'
    obtain ⟨_, hcl, hat⟩ := World.cells?_some hc
    simp only [Prod.mk.injEq] at hy
    refine ⟨ys, n', hy.1, hy.2, hyl, fun j f hj => ?_⟩
    obtain ⟨ho, hk⟩ := hone_of hone j f hj
    have hjl : j < fs.size := (Array.getElem?_eq_some_iff.1 hj).1
    have hcell := hat j hjl
    have hv : cs'[j]? = some (cs'[j]'(by omega)) := List.getElem?_eq_getElem (by omega)
    have h1 := hf j f hj
    rw [ho, hk] at h1
    have hone' : (cs'.drop j).take 1 = [cs'[j]'(by omega)] := by
      rw [List.drop_eq_getElem_cons (by omega)]
      rfl
    rw [hone'] at h1
    have hys : ys[j]? = some (ys[j]'(by omega)) := List.getElem?_eq_getElem (by omega)
    refine ⟨_, _, ?_, hys, h1.trans hys⟩
    rw [← Go.Deep.add_add, hcell, hv]
end


theorem cellsI : Try.prog.cellsOf 2 = 1 := by kernel_rfl
theorem cellsJ : Try.prog.cellsOf 3 = 1 := by kernel_rfl
theorem cellsM : Try.prog.cellsOf 43 = 7 := by kernel_rfl
theorem cellsMs : Try.prog.cellsOf 22 = 1 := by kernel_rfl
theorem i64_wf3 {x : Int} (h : (Lit.int .i64 x).wf = true) : I64 x := by
  simp [Lit.wf, IntKind.min, IntKind.max, IntKind.signed, IntKind.bits] at h
  exact ⟨by omega, by omega⟩
theorem list7 {α : Type} {l : List α} (h : l.length = 7) : ∃ a b c d e f g, l = [a, b, c, d, e, f, g] := by
  match l, h with
  | [a, b, c, d, e, f, g], _ => exact ⟨a, b, c, d, e, f, g, rfl⟩
theorem list6 {α : Type} {l : List α} (h : l.length = 6) : ∃ a b c d e f, l = [a, b, c, d, e, f] := by
  match l, h with
  | [a, b, c, d, e, f], _ => exact ⟨a, b, c, d, e, f, rfl⟩
section
variable {H : Type} {enc : TypeId × Value → H} {W : World}
theorem mk_left {l : List Mk} {t : Mk} {i : Nat} (h : i < l.length) : mkAt (l ++ [t]) i = mkAt l i := mkAt_append_left h
theorem mk_last {l : List Mk} {t : Mk} : mkAt (l ++ [t]) l.length = t := by
  rw [mkAt_append_right (Nat.le_refl _), Nat.sub_self]
  rfl
theorem mks_of {P : Nat → Mk → Prop} : ∀ n, (∀ i, i < n → ∃ x, P i x) → ∃ l : List Mk, l.length = n ∧ ∀ i, i < n → P i (mkAt l i)
  | 0, _ => ⟨[], rfl, fun i h => absurd h (by omega)⟩
  | n + 1, h => by
    obtain ⟨l, h1, h2⟩ := mks_of n (fun i hi => h i (by omega))
    obtain ⟨x, hx⟩ := h n (by omega)
    refine ⟨l ++ [x], by simp [h1], fun i hi => ?_⟩
    by_cases c : i < n
    · rw [mk_left (by omega)]
      exact h2 i c
    · obtain rfl : i = l.length := by omega
      rw [mk_last, h1]
      exact hx
theorem mks_open {fuel : Nat} {v : Value} {y : DataW H × List MemPlace} (hf : DataW.trod enc Try.prog W 0 (fun _ => true) true fuel 22 [v] = some y) :
    ∃ A m c l, v = .slice A m c ∧ MIn A m c l W := by
  rcases open_slice_fields Try.underlying22 Try.underlying43 (by kernel_rfl) cellsM hf with ⟨h1, _⟩ | ⟨a', len, cap, m, D, Pl, h1, _, hl, hc, hm0, _, hi⟩
  · obtain rfl : v = .slice none 0 0 := by simpa using h1
    exact ⟨none, 0, 0, [], rfl, by simpa [mcells_nil] using Reads.none_, fun i => by unfold mkAt; simp; exact M64_zero, Nat.le_refl _, Nat.zero_le _⟩
  · obtain rfl : v = .slice (some a') len cap := by simpa using h1
    have hm : len ≤ m := by
      rw [hm0, if_pos rfl]
      exact hl
    have hh : ∀ i, i < len → ∃ x : Mk, (W.cell? (a'.add (i * 7)) = some (.int .i64 x.seq) ∧ W.cell? (a'.add (i * 7 + 1)) = some (.int .i64 x.t) ∧ W.cell? (a'.add (i * 7 + 2)) = some (.int .i64 x.n) ∧ W.cell? (a'.add (i * 7 + 3)) = some (.int .i64 x.s) ∧ W.cell? (a'.add (i * 7 + 4)) = some (.int .i64 x.q) ∧ W.cell? (a'.add (i * 7 + 5)) = some (.int .i64 x.lo) ∧ W.cell? (a'.add (i * 7 + 6)) = some (.int .i64 x.hi)) ∧ M64 x := by
      intro i hi'
      obtain ⟨ys, n, _, _, _, hf⟩ := hi i (by omega)
      obtain ⟨v0, y0, c0, _, t0⟩ := hf 0 _ rfl
      obtain ⟨v1, y1, c1, _, t1⟩ := hf 1 _ rfl
      obtain ⟨v2, y2, c2, _, t2⟩ := hf 2 _ rfl
      obtain ⟨v3, y3, c3, _, t3⟩ := hf 3 _ rfl
      obtain ⟨v4, y4, c4, _, t4⟩ := hf 4 _ rfl
      obtain ⟨v5, y5, c5, _, t5⟩ := hf 5 _ rfl
      obtain ⟨v6, y6, c6, _, t6⟩ := hf 6 _ rfl
      obtain ⟨x0, e0, _, w0⟩ := DataW.trod_int Try.underlying2 t0
      obtain ⟨x1, e1, _, w1⟩ := DataW.trod_int Try.underlying2 t1
      obtain ⟨x2, e2, _, w2⟩ := DataW.trod_int Try.underlying2 t2
      obtain ⟨x3, e3, _, w3⟩ := DataW.trod_int Try.underlying2 t3
      obtain ⟨x4, e4, _, w4⟩ := DataW.trod_int Try.underlying2 t4
      obtain ⟨x5, e5, _, w5⟩ := DataW.trod_int Try.underlying2 t5
      obtain ⟨x6, e6, _, w6⟩ := DataW.trod_int Try.underlying2 t6
      simp at e0 e1 e2 e3 e4 e5 e6
      subst e0 e1 e2 e3 e4 e5 e6
      exact ⟨⟨x0, x1, x2, x3, x4, x5, x6⟩, ⟨c0, c1, c2, c3, c4, c5, c6⟩, i64_wf3 w0, i64_wf3 w1, i64_wf3 w2, i64_wf3 w3, i64_wf3 w4, i64_wf3 w5, i64_wf3 w6⟩
    obtain ⟨l, hl1, hl2⟩ := mks_of len hh
    have hb : ∀ i, M64 (mkAt l i) := by
      intro i
      by_cases c : i < len
      · exact (hl2 i c).2
      · have : mkAt l i = Mk.zero := by unfold mkAt; rw [List.getD_eq_getElem?_getD, List.getElem?_eq_none (by omega)]; rfl
        rw [this]
        exact M64_zero
    refine ⟨some a', len, cap, l, rfl, ⟨by rw [mcells_len, hl1], fun h0 => ⟨a', rfl, ?_, fun j u hu => ?_⟩⟩, hb, hl, hc⟩
    · have := World.block_lt_of_cell? W _ (hl2 0 h0).1.1
      rw [block_of_add] at this
      exact this
    · have hj : j < len * 7 := by
        have := (List.getElem?_eq_some_iff.1 hu).1
        rw [mcells_len, hl1] at this
        exact this
      have hat := mcells_at l (j / 7) (by omega)
      have hcl := (hl2 (j / 7) (by omega)).1
      have h3 : j % 7 = 0 ∨ j % 7 = 1 ∨ j % 7 = 2 ∨ j % 7 = 3 ∨ j % 7 = 4 ∨ j % 7 = 5 ∨ j % 7 = 6 := by omega
      rcases h3 with hp | hp | hp | hp | hp | hp | hp
      · have e : j / 7 * 7 = j := by omega
        rw [e] at hat hcl
        rw [hu] at hat
        rw [hcl.1, hat.1]
      · have e : j / 7 * 7 + 1 = j := by omega
        rw [e] at hat hcl
        rw [hu] at hat
        rw [hcl.2.1, hat.2.1]
      · have e : j / 7 * 7 + 2 = j := by omega
        rw [e] at hat hcl
        rw [hu] at hat
        rw [hcl.2.2.1, hat.2.2.1]
      · have e : j / 7 * 7 + 3 = j := by omega
        rw [e] at hat hcl
        rw [hu] at hat
        rw [hcl.2.2.2.1, hat.2.2.2.1]
      · have e : j / 7 * 7 + 4 = j := by omega
        rw [e] at hat hcl
        rw [hu] at hat
        rw [hcl.2.2.2.2.1, hat.2.2.2.2.1]
      · have e : j / 7 * 7 + 5 = j := by omega
        rw [e] at hat hcl
        rw [hu] at hat
        rw [hcl.2.2.2.2.2.1, hat.2.2.2.2.2.1]
      · have e : j / 7 * 7 + 6 = j := by omega
        rw [e] at hat hcl
        rw [hu] at hat
        rw [hcl.2.2.2.2.2.2, hat.2.2.2.2.2.2]
theorem cellssmooth : Try.prog.cellsOf 24 = 7 := by kernel_rfl
set_option maxRecDepth 100000 in
theorem smooth_open {r : Reach} {b0 : Nat} {v : Value} {d : DataW H} {p : List MemPlace} (hv : Value.okWide Try.prog W r b0 24 v) (h : DataW.Trod enc Try.prog W 0 (fun _ => true) true 24 v d p) :
    ∃ (x0 x1 x2 x3 x4 x5 : Int) (A : Option Addr) (m c : Nat) (l : List Mk), v = .agg #[.int .i64 x0, .int .i64 x1, .int .i64 x2, .int .i64 x3, .int .i64 x4, .int .i64 x5, .slice A m c] ∧ MIn A m c l W ∧ I64 x0 ∧ I64 x1 ∧ I64 x2 ∧ I64 x3 ∧ I64 x4 ∧ I64 x5 := by
  obtain ⟨⟨l⟩, rfl, hsz⟩ := okWide_struct Try.underlying24 hv
  obtain ⟨c0, c1, c2, c3, c4, c5, c6, rfl⟩ := list7 (show l.length = 7 from hsz.trans cellssmooth)
  obtain ⟨fuel, hf⟩ := h
  obtain ⟨xs, n, _, hx, hl, hlen, hfs⟩ := DataW.trod_struct Try.underlying24 hf
  obtain ⟨y0, y1, y2, y3, y4, y5, y6, rfl⟩ := list7 (show xs.length = 7 from hlen)
  have e0 := hfs 0 _ rfl
  have e1 := hfs 1 _ rfl
  have e2 := hfs 2 _ rfl
  have e3 := hfs 3 _ rfl
  have e4 := hfs 4 _ rfl
  have e5 := hfs 5 _ rfl
  have e6 := hfs 6 _ rfl
  simp [Value.cells, cellsI, cellsJ, cellsMs] at e0 e1 e2 e3 e4 e5 e6
  obtain ⟨x0, z0, _, w0⟩ := DataW.trod_int Try.underlying3 e0
  obtain ⟨x1, z1, _, w1⟩ := DataW.trod_int Try.underlying2 e1
  obtain ⟨x2, z2, _, w2⟩ := DataW.trod_int Try.underlying3 e2
  obtain ⟨x3, z3, _, w3⟩ := DataW.trod_int Try.underlying3 e3
  obtain ⟨x4, z4, _, w4⟩ := DataW.trod_int Try.underlying2 e4
  obtain ⟨x5, z5, _, w5⟩ := DataW.trod_int Try.underlying2 e5
  obtain ⟨A, m, c, l, rfl, hin⟩ := mks_open e6
  simp at z0 z1 z2 z3 z4 z5
  subst z0 z1 z2 z3 z4 z5
  exact ⟨x0, x1, x2, x3, x4, x5, A, m, c, l, rfl, hin, i64_wf3 w0, i64_wf3 w1, i64_wf3 w2, i64_wf3 w3, i64_wf3 w4, i64_wf3 w5⟩
set_option maxRecDepth 100000 in
theorem mark13_open {r : Reach} {b0 : Nat} {v : Value} {d : DataW H} {p : List MemPlace} (hv : Value.okWide Try.prog W r b0 43 v) (h : DataW.Trod enc Try.prog W 0 (fun _ => true) true 43 v d p) :
    ∃ x0 x1 x2 x3 x4 x5 x6 : Int, v = .agg #[.int .i64 x0, .int .i64 x1, .int .i64 x2, .int .i64 x3, .int .i64 x4, .int .i64 x5, .int .i64 x6] ∧ M64 ⟨x0, x1, x2, x3, x4, x5, x6⟩ := by
  obtain ⟨⟨l⟩, rfl, hsz⟩ := okWide_struct Try.underlying43 hv
  obtain ⟨c0, c1, c2, c3, c4, c5, c6, rfl⟩ := list7 (show l.length = 7 from hsz.trans cellsM)
  obtain ⟨fuel, hf⟩ := h
  obtain ⟨xs, n, _, hx, hl, hlen, hfs⟩ := DataW.trod_struct Try.underlying43 hf
  obtain ⟨y0, y1, y2, y3, y4, y5, y6, rfl⟩ := list7 (show xs.length = 7 from hlen)
  have e0 := hfs 0 _ rfl
  have e1 := hfs 1 _ rfl
  have e2 := hfs 2 _ rfl
  have e3 := hfs 3 _ rfl
  have e4 := hfs 4 _ rfl
  have e5 := hfs 5 _ rfl
  have e6 := hfs 6 _ rfl
  simp [Value.cells, cellsI] at e0 e1 e2 e3 e4 e5 e6
  obtain ⟨x0, z0, _, w0⟩ := DataW.trod_int Try.underlying2 e0
  obtain ⟨x1, z1, _, w1⟩ := DataW.trod_int Try.underlying2 e1
  obtain ⟨x2, z2, _, w2⟩ := DataW.trod_int Try.underlying2 e2
  obtain ⟨x3, z3, _, w3⟩ := DataW.trod_int Try.underlying2 e3
  obtain ⟨x4, z4, _, w4⟩ := DataW.trod_int Try.underlying2 e4
  obtain ⟨x5, z5, _, w5⟩ := DataW.trod_int Try.underlying2 e5
  obtain ⟨x6, z6, _, w6⟩ := DataW.trod_int Try.underlying2 e6
  simp at z0 z1 z2 z3 z4 z5 z6
  subst z0 z1 z2 z3 z4 z5 z6
  exact ⟨x0, x1, x2, x3, x4, x5, x6, rfl, i64_wf3 w0, i64_wf3 w1, i64_wf3 w2, i64_wf3 w3, i64_wf3 w4, i64_wf3 w5, i64_wf3 w6⟩
end
end Go.Proofs.Ythknkdjpfanlnaa
