/- A state opened to what it reads (open_slice_fields is the guide's, extra-structs.md, copied as that page bids). -/
import Derived.Deep.Slices
import Derived.Deep.Fields
import Derived.ChangeSame
import Derived.Lib.SmallJoins
import Derived.Test.YtejoomlaanmbkaaPolyA
namespace Go.Proofs.Ytejoomlaanmbkaa
open Go.ChangeShapes Go.WideShapes Go.Deep Go.RowKit Go.Joins
section
variable {H : Type} {enc : TypeId × Value → H} {P : Program} {w : World} {base : Nat} {spare : Nat → Bool} {held : Bool}
theorem open_slice_fields {t e : TypeId} {fs : Array Field} {fuel : Nat} {cs : List Value} {x : DataW H × List MemPlace} (ht : P.underlying t = some (.slice e)) (he : P.underlying e = some (.struct fs))
    (hone : oneCellFields P fs = true) (hC : P.cellsOf e = fs.size) (h : DataW.trod enc P w base spare held fuel t cs = some x) :
    (cs = [.slice none 0 0] ∧ x = (.nil, [])) ∨
    ∃ (a : Addr) (len cap m : Nat) (D : Nat → DataW H) (Pl : Nat → List MemPlace), cs = [.slice (some a) len cap] ∧ base ≤ a.block ∧ len ≤ cap ∧ cap ≤ maxLen ∧ m = (if spare a.block then cap else len) ∧
      x = (.slice ((List.range len).map D) ((List.range (m - len)).map fun j => D (len + j)), MemPlace.row a (m * fs.size) ++ (List.range m).flatMap Pl) ∧
      ∀ i, i < m → ∃ (ys : List (DataW H × List MemPlace)) (n : Nat), D i = .agg (ys.map (·.1)) ∧ Pl i = ys.flatMap (·.2) ∧ ys.length = fs.size ∧
        ∀ (j : Nat) (f : Field), fs[j]? = some f → ∃ (v : Value) (y : DataW H × List MemPlace), w.cell? (a.add (i * fs.size + j)) = some v ∧ ys[j]? = some y ∧ DataW.trod enc P w base spare held n f.type [v] = some y := by
  rcases open_slice ht h with h0 | ⟨a, len, cap, m, n, D, Pl, hcs, hb, hl, hm, hmm, hx, hi⟩
  · exact .inl h0
  · refine .inr ⟨a, len, cap, m, D, Pl, hcs, hb, hl, hm, hmm, by rw [hC] at hx; exact hx, fun i him => ?_⟩
    obtain ⟨cs', hc, ht'⟩ := hi i him
    rw [hC] at hc
    obtain ⟨ys, n', hn', hy, hlen, hyl, hf⟩ := DataW.trod_struct he ht'
    obtain ⟨_, hcl, hat⟩ := World.cells?_some hc
    simp only [Prod.mk.injEq] at hy
    refine ⟨ys, n', hy.1, hy.2, hyl, fun j f hj => ?_⟩
    obtain ⟨ho, hk⟩ := hone_of hone j f hj
    have hjl : j < fs.size := (Array.getElem?_eq_some_iff.1 hj).1
    have hcell := hat j hjl
    have hv : cs'[j]? = some (cs'[j]'(by omega)) := List.getElem?_eq_getElem (by omega)
    have h1 := hf j f hj
    rw [ho, hk] at h1
    have hone' : (cs'.drop j).take 1 = [cs'[j]'(by omega)] := by
      rw [List.drop_eq_getElem_cons (by omega)]
      rfl
    rw [hone'] at h1
    have hys : ys[j]? = some (ys[j]'(by omega)) := List.getElem?_eq_getElem (by omega)
    refine ⟨_, _, ?_, hys, h1.trans hys⟩
    rw [← Go.Deep.add_add, hcell, hv]
end

theorem cellsWide : Try.prog.cellsOf 35 = 2 := by kernel_rfl
theorem cellsPoly : Try.prog.cellsOf 24 = 4 := by kernel_rfl
theorem i64_wf3 {x : Int} (h : (Lit.int .i64 x).wf = true) : -9223372036854775808 ≤ x ∧ x ≤ 9223372036854775807 := by
  simp [Lit.wf, IntKind.min, IntKind.max, IntKind.signed, IntKind.bits] at h
  exact ⟨by omega, by omega⟩
theorem u64_wf3 {x : Int} (h : (Lit.int .u64 x).wf = true) : Word x := by
  simp [Lit.wf, IntKind.min, IntKind.max, IntKind.signed, IntKind.bits] at h
  unfold Word
  exact ⟨by omega, by omega⟩
section
variable {H : Type} {enc : TypeId × Value → H} {W : World}
theorem mom_left {l : List Nat} {t : Nat} {i : Nat} (h : i < l.length) : momAt (l ++ [t]) i = momAt l i := by
  unfold momAt
  rw [List.getD_eq_getElem?_getD, List.getD_eq_getElem?_getD, List.getElem?_append_left h]
theorem mom_last {l : List Nat} {t : Nat} : momAt (l ++ [t]) l.length = t := by
  unfold momAt
  rw [List.getD_eq_getElem?_getD, List.getElem?_append_right (Nat.le_refl _)]
  simp
theorem moms_of {P : Nat → Nat → Prop} : ∀ n, (∀ i, i < n → ∃ x, P i x) → ∃ l : List Nat, l.length = n ∧ ∀ i, i < n → P i (momAt l i)
  | 0, _ => ⟨[], rfl, fun i h => absurd h (by omega)⟩
  | n + 1, h => by
    obtain ⟨l, h1, h2⟩ := moms_of n (fun i hi => h i (by omega))
    obtain ⟨x, hx⟩ := h n (by omega)
    refine ⟨l ++ [x], by simp [h1], fun i hi => ?_⟩
    by_cases c : i < n
    · rw [mom_left (by omega)]
      exact h2 i c
    · obtain rfl : i = l.length := by omega
      rw [mom_last, h1]
      exact hx
theorem win_open {fuel : Nat} {v : Value} {y : DataW H × List MemPlace} (hf : DataW.trod enc Try.prog W 0 (fun _ => true) true fuel 22 [v] = some y) :
    ∃ A m c ms, v = .slice A m c ∧ Reads W W.heap.size 2 A m (wcells ms) ∧ (∀ i, momAt ms i < big) ∧ m ≤ c ∧ c ≤ maxLen := by
  rcases open_slice_fields Try.underlying22 Try.underlying35 (by kernel_rfl) cellsWide hf with ⟨h1, _⟩ | ⟨a', len, cap, m, D, Pl, h1, _, hl, hc, hm0, _, hq⟩
  · obtain rfl : v = .slice none 0 0 := by simpa using h1
    exact ⟨none, 0, 0, [], rfl, by simpa [wcells_nil] using Reads.none_, by simp [momAt, big], Nat.le_refl _, Nat.zero_le _⟩
  · obtain rfl : v = .slice (some a') len cap := by simpa using h1
    have hm : len ≤ m := by
      rw [hm0, if_pos rfl]
      exact hl
    have hh : ∀ i, i < len → ∃ x : Nat, (W.cell? (a'.add (i * 2)) = some (.int .u64 (hi x)) ∧ W.cell? (a'.add (i * 2 + 1)) = some (.int .u64 (lo x))) ∧ x < big := by
      intro i hi'
      obtain ⟨ys, n, _, _, _, hf⟩ := hq i (by omega)
      obtain ⟨v0, y0, c0, _, t0⟩ := hf 0 _ rfl
      obtain ⟨v1, y1, c1, _, t1⟩ := hf 1 _ rfl
      obtain ⟨x0, e0, _, w0⟩ := DataW.trod_int Try.underlying33 t0
      obtain ⟨x1, e1, _, w1⟩ := DataW.trod_int Try.underlying33 t1
      simp at e0 e1
      subst e0 e1
      obtain ⟨x, hx, h2, h3⟩ := of_words (u64_wf3 w0) (u64_wf3 w1)
      exact ⟨x, ⟨by rw [h2]; exact c0, by rw [h3]; exact c1⟩, hx⟩
    obtain ⟨l, hl1, hl2⟩ := moms_of len hh
    have hb : ∀ i, momAt l i < big := by
      intro i
      by_cases c : i < len
      · exact (hl2 i c).2
      · rw [mom_out (by omega)]
        decide
    refine ⟨some a', len, cap, l, rfl, ⟨by rw [wcells_len, hl1], fun h0 => ⟨a', rfl, ?_, fun j u hu => ?_⟩⟩, hb, hl, hc⟩
    · have := World.block_lt_of_cell? W _ (hl2 0 h0).1.1
      rw [block_of_add] at this
      exact this
    · have hj : j < len * 2 := by
        have := (List.getElem?_eq_some_iff.1 hu).1
        rw [wcells_len, hl1] at this
        exact this
      have hat := wcells_at l (j / 2) (by omega)
      have hcl := (hl2 (j / 2) (by omega)).1
      have h3 : j % 2 = 0 ∨ j % 2 = 1 := by omega
      rcases h3 with hp | hp
      · have e : j / 2 * 2 = j := by omega
        rw [e] at hat hcl
        rw [hu] at hat
        rw [hcl.1, hat.1]
      · have e : j / 2 * 2 + 1 = j := by omega
        rw [e] at hat hcl
        rw [hu] at hat
        rw [hcl.2, hat.2]
set_option maxRecDepth 100000 in
theorem pin_open {r : Reach} {b0 : Nat} {v : Value} {d : DataW H} {p : List MemPlace} (hv : Value.okWide Try.prog W r b0 24 v) (h : DataW.Trod enc Try.prog W 0 (fun _ => true) true 24 v d p) :
    ∃ p land now A n c ms, v = .agg #[.int .i64 p, .int .i64 land, .int .i64 now, .slice A n c] ∧ PIn p land now A n c ms W := by
  obtain ⟨v0, v1, v2, v3, y0, y1, y2, y3, n, rfl, _, _, t0, t1, t2, t3⟩ := open_agg4 Try.underlying24 (by kernel_rfl) cellsPoly hv h
  obtain ⟨x0, e0, _, w0⟩ := DataW.trod_int Try.underlying3 t0
  obtain ⟨x1, e1, _, w1⟩ := DataW.trod_int Try.underlying2 t1
  obtain ⟨x2, e2, _, w2⟩ := DataW.trod_int Try.underlying2 t2
  simp at e0 e1 e2
  subst e0 e1 e2
  obtain ⟨A, m, c, ts, rfl, hr, hb, h1, h2⟩ := win_open t3
  exact ⟨x0, x1, x2, A, m, c, ts, rfl, ⟨hr, i64_wf3 w0, i64_wf3 w1, i64_wf3 w2, hb, h1, h2⟩⟩
end
end Go.Proofs.Ytejoomlaanmbkaa
