/- A state opened to what it reads (open_slice_fields is the guide's, extra-structs.md, copied as that page bids). -/
import Derived.Deep.Slices
import Derived.Deep.Fields
import Derived.ChangeSame
import Derived.Lib.SmallJoins
import Derived.Test.YtdibjlphcmjnoaaSumG
namespace Go.Proofs.Ytdibjlphcmjnoaa
open Go.ChangeShapes Go.WideShapes Go.Deep Go.RowKit Go.Joins
section
variable {H : Type} {enc : TypeId × Value → H} {P : Program} {w : World} {base : Nat} {spare : Nat → Bool} {held : Bool}
theorem open_slice_fields {t e : TypeId} {fs : Array Field} {fuel : Nat} {cs : List Value} {x : DataW H × List MemPlace} (ht : P.underlying t = some (.slice e)) (he : P.underlying e = some (.struct fs))
    (hone : oneCellFields P fs = true) (hC : P.cellsOf e = fs.size) (h : DataW.trod enc P w base spare held fuel t cs = some x) :
    (cs = [.slice none 0 0] ∧ x = (.nil, [])) ∨
    ∃ (a : Addr) (len cap m : Nat) (D : Nat → DataW H) (Pl : Nat → List MemPlace), cs = [.slice (some a) len cap] ∧ base ≤ a.block ∧ len ≤ cap ∧ cap ≤ maxLen ∧ m = (if spare a.block then cap else len) ∧
      x = (.slice ((List.range len).map D) ((List.range (m - len)).map fun j => D (len + j)), MemPlace.row a (m * fs.size) ++ (List.range m).flatMap Pl) ∧
      ∀ i, i < m → ∃ (ys : List (DataW H × List MemPlace)) (n : Nat), D i = .agg (ys.map (·.1)) ∧ Pl i = ys.flatMap (·.2) ∧ ys.length = fs.size ∧
        ∀ (j : Nat) (f : Field), fs[j]? = some f → ∃ (v : Value) (y : DataW H × List MemPlace), w.cell? (a.add (i * fs.size + j)) = some v ∧ ys[j]? = some y ∧ DataW.trod enc P w base spare held n f.type [v] = some y := by
  rcases open_slice ht h with h0 | ⟨a, len, cap, m, n, D, Pl, hcs, hb, hl, hm, hmm, hx, hi⟩
  · exact .inl h0
  · refine .inr ⟨a, len, cap, m, D, Pl, hcs, hb, hl, hm, hmm, by rw [hC] at hx; exact hx, fun i him => ?_⟩
    obtain ⟨cs', hc, ht'⟩ := hi i him
    rw [hC] at hc
    obtain ⟨ys, n', hn', hy, hlen, hyl, hf⟩ := DataW.trod_struct he ht'
    obtain ⟨_, hcl, hat⟩ := World.cells?_some hc
    simp only [Prod.mk.injEq] at hy
    refine ⟨ys, n', hy.1, hy.2, hyl, fun j f hj => ?_⟩
    obtain ⟨ho, hk⟩ := hone_of hone j f hj
    have hjl : j < fs.size := (Array.getElem?_eq_some_iff.1 hj).1
    have hcell := hat j hjl
    have hv : cs'[j]? = some (cs'[j]'(by omega)) := List.getElem?_eq_getElem (by omega)
    have h1 := hf j f hj
    rw [ho, hk] at h1
    have hone' : (cs'.drop j).take 1 = [cs'[j]'(by omega)] := by
      rw [List.drop_eq_getElem_cons (by omega)]
      rfl
    rw [hone'] at h1
    have hys : ys[j]? = some (ys[j]'(by omega)) := List.getElem?_eq_getElem (by omega)
    refine ⟨_, _, ?_, hys, h1.trans hys⟩
    rw [← Go.Deep.add_add, hcell, hv]
end

theorem cellsTup : Try.prog.cellsOf 66 = 3 := by kernel_rfl
theorem cellsSum : Try.prog.cellsOf 24 = 4 := by kernel_rfl
theorem i64_wf3 {x : Int} (h : (Lit.int .i64 x).wf = true) : -9223372036854775808 ≤ x ∧ x ≤ 9223372036854775807 := by
  simp [Lit.wf, IntKind.min, IntKind.max, IntKind.signed, IntKind.bits] at h
  exact ⟨by omega, by omega⟩
section
variable {H : Type} {enc : TypeId × Value → H} {W : World}
theorem tup_left {l : List Tup} {t : Tup} {i : Nat} (h : i < l.length) : tupAt (l ++ [t]) i = tupAt l i := by
  unfold tupAt
  rw [List.getD_eq_getElem?_getD, List.getD_eq_getElem?_getD, List.getElem?_append_left h]
theorem tup_last {l : List Tup} {t : Tup} : tupAt (l ++ [t]) l.length = t := by
  unfold tupAt
  rw [List.getD_eq_getElem?_getD, List.getElem?_append_right (Nat.le_refl _)]
  simp
theorem tups_of {P : Nat → Tup → Prop} : ∀ n, (∀ i, i < n → ∃ x, P i x) → ∃ l : List Tup, l.length = n ∧ ∀ i, i < n → P i (tupAt l i)
  | 0, _ => ⟨[], rfl, fun i h => absurd h (by omega)⟩
  | n + 1, h => by
    obtain ⟨l, h1, h2⟩ := tups_of n (fun i hi => h i (by omega))
    obtain ⟨x, hx⟩ := h n (by omega)
    refine ⟨l ++ [x], by simp [h1], fun i hi => ?_⟩
    by_cases c : i < n
    · rw [tup_left (by omega)]
      exact h2 i c
    · obtain rfl : i = l.length := by omega
      rw [tup_last, h1]
      exact hx
theorem tin_open {fuel : Nat} {v : Value} {y : DataW H × List MemPlace} (hf : DataW.trod enc Try.prog W 0 (fun _ => true) true fuel 22 [v] = some y) :
    ∃ A m c ts, v = .slice A m c ∧ Reads W W.heap.size 3 A m (tcells ts) ∧ (∀ i, T64 (tupAt ts i)) ∧ m ≤ c ∧ c ≤ maxLen := by
  rcases open_slice_fields Try.underlying22 Try.underlying66 (by kernel_rfl) cellsTup hf with ⟨h1, _⟩ | ⟨a', len, cap, m, D, Pl, h1, _, hl, hc, hm0, _, hi⟩
  · obtain rfl : v = .slice none 0 0 := by simpa using h1
    exact ⟨none, 0, 0, [], rfl, by simpa [tcells_nil] using Reads.none_, by simp [tupAt, Tup.zero, T64], Nat.le_refl _, Nat.zero_le _⟩
  · obtain rfl : v = .slice (some a') len cap := by simpa using h1
    have hm : len ≤ m := by
      rw [hm0, if_pos rfl]
      exact hl
    have hh : ∀ i, i < len → ∃ x : Tup, (W.cell? (a'.add (i * 3)) = some (.int .i64 x.v) ∧ W.cell? (a'.add (i * 3 + 1)) = some (.int .i64 x.g) ∧ W.cell? (a'.add (i * 3 + 2)) = some (.int .i64 x.d)) ∧ T64 x := by
      intro i hi'
      obtain ⟨ys, n, _, _, _, hf⟩ := hi i (by omega)
      obtain ⟨v0, y0, c0, _, t0⟩ := hf 0 _ rfl
      obtain ⟨v1, y1, c1, _, t1⟩ := hf 1 _ rfl
      obtain ⟨v2, y2, c2, _, t2⟩ := hf 2 _ rfl
      obtain ⟨x0, e0, _, w0⟩ := DataW.trod_int Try.underlying2 t0
      obtain ⟨x1, e1, _, w1⟩ := DataW.trod_int Try.underlying2 t1
      obtain ⟨x2, e2, _, w2⟩ := DataW.trod_int Try.underlying2 t2
      simp at e0 e1 e2
      subst e0 e1 e2
      have b0 := i64_wf3 w0
      have b1 := i64_wf3 w1
      have b2 := i64_wf3 w2
      exact ⟨⟨x0, x1, x2⟩, ⟨c0, c1, c2⟩, by unfold T64; dsimp only; omega⟩
    obtain ⟨l, hl1, hl2⟩ := tups_of len hh
    have hb : ∀ i, T64 (tupAt l i) := by
      intro i
      by_cases c : i < len
      · exact (hl2 i c).2
      · have : tupAt l i = Tup.zero := by unfold tupAt; rw [List.getD_eq_getElem?_getD, List.getElem?_eq_none (by omega)]; rfl
        rw [this]
        simp [Tup.zero, T64]
    refine ⟨some a', len, cap, l, rfl, ⟨by rw [tcells_len, hl1], fun h0 => ⟨a', rfl, ?_, fun j u hu => ?_⟩⟩, hb, hl, hc⟩
    · have := World.block_lt_of_cell? W _ (hl2 0 h0).1.1
      rw [block_of_add] at this
      exact this
    · have hj : j < len * 3 := by
        have := (List.getElem?_eq_some_iff.1 hu).1
        rw [tcells_len, hl1] at this
        exact this
      have hat := tcells_at l (j / 3) (by omega)
      have hcl := (hl2 (j / 3) (by omega)).1
      have h3 : j % 3 = 0 ∨ j % 3 = 1 ∨ j % 3 = 2 := by omega
      rcases h3 with hp | hp | hp
      · have e : j / 3 * 3 = j := by omega
        rw [e] at hat hcl
        rw [hu] at hat
        rw [hcl.1, hat.1]
      · have e : j / 3 * 3 + 1 = j := by omega
        rw [e] at hat hcl
        rw [hu] at hat
        rw [hcl.2.1, hat.2.1]
      · have e : j / 3 * 3 + 2 = j := by omega
        rw [e] at hat hcl
        rw [hu] at hat
        rw [hcl.2.2, hat.2.2]
set_option maxRecDepth 100000 in
theorem sin_open {r : Reach} {b0 : Nat} {v : Value} {d : DataW H} {p : List MemPlace} (hv : Value.okWide Try.prog W r b0 24 v) (h : DataW.Trod enc Try.prog W 0 (fun _ => true) true 24 v d p) :
    ∃ k cap n A m c ts, v = .agg #[.int .i64 k, .int .i64 cap, .int .i64 n, .slice A m c] ∧ SIn k cap n A m c ts W := by
  obtain ⟨v0, v1, v2, v3, y0, y1, y2, y3, n, rfl, _, _, t0, t1, t2, t3⟩ := open_agg4 Try.underlying24 (by kernel_rfl) cellsSum hv h
  obtain ⟨x0, e0, _, w0⟩ := DataW.trod_int Try.underlying3 t0
  obtain ⟨x1, e1, _, w1⟩ := DataW.trod_int Try.underlying3 t1
  obtain ⟨x2, e2, _, w2⟩ := DataW.trod_int Try.underlying2 t2
  simp at e0 e1 e2
  subst e0 e1 e2
  obtain ⟨A, m, c, ts, rfl, hr, hb, h1, h2⟩ := tin_open t3
  exact ⟨x0, x1, x2, A, m, c, ts, rfl, ⟨hr, i64_wf3 w0, i64_wf3 w1, i64_wf3 w2, hb, h1, h2⟩⟩
end
end Go.Proofs.Ytdibjlphcmjnoaa
