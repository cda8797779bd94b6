/- What the law TopTwoWays needs, joined of its texts by a program (slim.py); part 2. -/
import Derived.Test.YtdipoojjlddohaaGreatZTopTwoWays1
section
/- Valid lists of marks stay valid by a tick and by a value more; plain. -/
set_option linter.unusedVariables false
set_option linter.unusedSimpArgs false
set_option linter.unusedSectionVars false
set_option linter.unnecessarySimpa false
namespace Go.Proofs.YtdipoojjlddohaaGreat
theorem sq_nonneg (x : Int) : 0 ≤ x * x := by
  rcases Int.le_total 0 x with h | h
  · exact Int.mul_nonneg h h
  · exact Int.mul_nonneg_of_nonpos_of_nonpos h h
theorem le_of_sq {x y : Int} (hy : 0 ≤ y) (h : x * x ≤ y * y) : x ≤ y := by
  rcases Int.lt_or_le y x with g | g
  · have h1 : y * y ≤ y * x := Int.mul_le_mul_of_nonneg_left (by omega) hy
    have h2 : y * x < x * x := Int.mul_lt_mul_of_pos_right g (by omega)
    omega
  · exact g
/-- Of two parts together. -/
theorem cauchy {n1 q1 s1 n2 q2 s2 : Int} (hn1 : 0 ≤ n1) (hq1 : 0 ≤ q1) (hn2 : 0 ≤ n2) (hq2 : 0 ≤ q2) (h1 : s1 * s1 ≤ n1 * q1) (h2 : s2 * s2 ≤ n2 * q2) : (s1 + s2) * (s1 + s2) ≤ (n1 + n2) * (q1 + q2) := by
  have a0 : 0 ≤ n1 * q2 := Int.mul_nonneg hn1 hq2
  have a1 : 0 ≤ n2 * q1 := Int.mul_nonneg hn2 hq1
  have a2 : 0 ≤ n1 * q1 := Int.mul_nonneg hn1 hq1
  have key : 2 * (s1 * s2) ≤ n1 * q2 + n2 * q1 := by
    refine le_of_sq (by omega) ?_
    have b1 : (s1 * s1) * (s2 * s2) ≤ (n1 * q1) * (n2 * q2) := Int.mul_le_mul h1 h2 (sq_nonneg _) a2
    have b2 := sq_nonneg (n1 * q2 - n2 * q1)
    have e1 : 2 * (s1 * s2) * (2 * (s1 * s2)) = 4 * ((s1 * s1) * (s2 * s2)) := by grind
    have e2 : (n1 * q2 + n2 * q1) * (n1 * q2 + n2 * q1) = (n1 * q2 - n2 * q1) * (n1 * q2 - n2 * q1) + 4 * ((n1 * q1) * (n2 * q2)) := by grind
    omega
  have e3 : (s1 + s2) * (s1 + s2) = s1 * s1 + s2 * s2 + 2 * (s1 * s2) := by grind
  have e4 : (n1 + n2) * (q1 + q2) = n1 * q1 + n2 * q2 + (n1 * q2 + n2 * q1) := by grind
  omega
theorem part_wide {n lo hi s q lo' hi' : Int} (hn : 0 ≤ n) (h : partP n lo hi s q) (hl : lo' ≤ lo) (hh : hi ≤ hi') : partP n lo' hi' s q := by
  obtain ⟨h1, h2, h3, h4, h5⟩ := h
  exact ⟨Int.le_trans (Int.mul_le_mul_of_nonneg_left hl hn) h1, Int.le_trans h2 (Int.mul_le_mul_of_nonneg_left hh hn), h3, h4, h5⟩
theorem part_add {n1 n2 lo hi s1 s2 q1 q2 : Int} (hn1 : 0 ≤ n1) (hn2 : 0 ≤ n2) (h1 : partP n1 lo hi s1 q1) (h2 : partP n2 lo hi s2 q2) : partP (n1 + n2) lo hi (s1 + s2) (q1 + q2) := by
  obtain ⟨a1, a2, a3, a4, a5⟩ := h1
  obtain ⟨b1, b2, b3, b4, b5⟩ := h2
  refine ⟨?_, ?_, by omega, ?_, cauchy hn1 a3 hn2 b3 a5 b5⟩
  · rw [Int.add_mul]; omega
  · rw [Int.add_mul]; omega
  · rw [Int.add_mul, Int.add_mul]; omega
theorem vv_small {v : Int} (h0 : -4096 ≤ v) (h1 : v ≤ 4096) : 0 ≤ v * v ∧ v * v ≤ 16777216 := by
  have := sq_bound (s := v) (B := 4096) (by omega) (by omega)
  exact this
theorem part_one {v lo hi : Int} (h0 : -4096 ≤ v) (h1 : v ≤ 4096) (hl : lo ≤ v) (hh : v ≤ hi) : partP 1 lo hi v (v * v) := by
  have := vv_small h0 h1
  exact ⟨by omega, by omega, this.1, by omega, by omega⟩
theorem two_trans {seq cap now w least : Int} {a b c : Mk} (ha : oneP seq cap now w least a) (hb : oneP seq cap now w least b) (hc : oneP seq cap now w least c) (h1 : twoP a b) (h2 : twoP b c) : twoP a c := by
  obtain ⟨p1, p2, p3, p4, p5⟩ := h1
  obtain ⟨q1, q2, q3, q4, q5⟩ := h2
  have na : a.n = seq - a.seq + 1 := ha.2.2.1
  have nb : b.n = seq - b.seq + 1 := hb.2.2.1
  have nc : c.n = seq - c.seq + 1 := hc.2.2.1
  refine ⟨by omega, by omega, by omega, by omega, ?_⟩
  have := part_add (by omega) (by omega) p5 (part_wide (by omega) q5 p3 p4)
  rw [show a.n - b.n + (b.n - c.n) = a.n - c.n by omega, show a.s - b.s + (b.s - c.s) = a.s - c.s by omega, show a.q - b.q + (b.q - c.q) = a.q - c.q by omega] at this
  exact this
/-- Valid lists, said of lists. -/
structure VL (l : List Mk) (seq cap now w least : Int) : Prop where
  one : ∀ m ∈ l, oneP seq cap now w least m
  two : l.Pairwise twoP
  live : ∀ m ∈ l.tail, now - w < m.t
  alone : ∀ a, l = [a] → now - w < a.t
  last : l ≠ [] → lastP seq (mkAt l (l.length - 1))
theorem mem_at {l : List Mk} {m : Mk} (h : m ∈ l) : ∃ i, i < l.length ∧ mkAt l i = m := by
  obtain ⟨i, hi, e⟩ := List.getElem_of_mem h
  refine ⟨i, hi, ?_⟩
  unfold mkAt
  rw [List.getD_eq_getElem?_getD, List.getElem?_eq_getElem hi]
  exact e
theorem pairwise_of_next {seq cap now w least : Int} : ∀ {l : List Mk}, (∀ m ∈ l, oneP seq cap now w least m) → (∀ i, i + 1 < l.length → twoP (mkAt l i) (mkAt l (i + 1))) → l.Pairwise twoP
  | [], _, _ => List.Pairwise.nil
  | [a], _, _ => List.pairwise_singleton _ _
  | a :: b :: r, h1, h2 => by
    have ih := pairwise_of_next (l := b :: r) (fun m hm => h1 m (List.mem_cons_of_mem _ hm)) (fun i hi => by have := h2 (i + 1) (by simpa using hi); simpa [mkAt_succ] using this)
    have hab : twoP a b := h2 0 (by simp)
    refine List.Pairwise.cons (fun c hc => ?_) ih
    rcases List.mem_cons.1 hc with rfl | hc'
    · exact hab
    · exact two_trans (h1 a (by simp)) (h1 b (by simp)) (h1 c (by simp [hc'])) hab (List.rel_of_pairwise_cons ih hc')
theorem pairwise_at {l : List Mk} (h : l.Pairwise twoP) {i j : Nat} (hij : i < j) (hj : j < l.length) : twoP (mkAt l i) (mkAt l j) := by
  have := List.pairwise_iff_getElem.1 h i j (by omega) hj hij
  unfold mkAt
  rw [List.getD_eq_getElem?_getD, List.getD_eq_getElem?_getD, List.getElem?_eq_getElem (by omega), List.getElem?_eq_getElem hj]
  exact this
theorem mvalid_iff {l : List Mk} {seq cap now w least : Int} : mvalid l seq cap now w least ↔ (0 ≤ seq ∧ seq ≤ 1099511627776) ∧ VL l seq cap now w least := by
  constructor
  · rintro ⟨h1, h2, h3, h4⟩
    have o : ∀ m ∈ l, oneP seq cap now w least m := fun m hm => by
      obtain ⟨i, hi, rfl⟩ := mem_at hm
      exact (h3 i hi).1
    refine ⟨⟨h1, h2⟩, o, pairwise_of_next o (fun i hi => by have := (h3 (i + 1) hi).2.2 (by omega); simpa using this), fun m hm => ?_, fun a e => ?_, fun h => h4 (by simpa using h)⟩
    · cases l with
      | nil => simp at hm
      | cons a r =>
        obtain ⟨i, hi, rfl⟩ := mem_at hm
        have := (h3 (i + 1) (by simpa using hi)).2.1 (.inl (by omega))
        exact this
    · subst e
      exact (h3 0 (by simp)).2.1 (.inr rfl)
  · rintro ⟨⟨h1, h2⟩, h⟩
    refine ⟨h1, h2, fun i hi => ⟨h.one _ (mkAt_mem hi), fun hh => ?_, fun hh => ?_⟩, fun hn => h.last (by simpa using hn)⟩
    · cases l with
      | nil => simp at hi
      | cons a r =>
        cases i with
        | zero =>
          have : r = [] := by
            rcases hh with hh | hh
            · omega
            · simpa using hh
          subst this
          exact h.alone a rfl
        | succ i => exact h.live _ (by simpa [mkAt_succ] using mkAt_mem (l := r) (i := i) (by simpa using hi))
    · exact pairwise_at h.two (by omega) hi
theorem mkAt_last_suffix {l s : List Mk} (h : s <:+ l) (hs : s ≠ []) : mkAt s (s.length - 1) = mkAt l (l.length - 1) := by
  obtain ⟨t, rfl⟩ := h
  have : 0 < s.length := List.length_pos_iff.2 hs
  rw [mkAt_append_right (by simp; omega), List.length_append]
  congr 1
  omega
/-- A tick: what is left is a rear part, of which but for the first all is live. -/
theorem dropM_spec (now w : Int) : ∀ l : List Mk, dropM now w l <:+ l ∧ (∀ a, dropM now w l = [a] → now - w < a.t) ∧ ∀ a b r, dropM now w l = a :: b :: r → now - w < b.t
  | [] => by rw [dropM_nil]; exact ⟨List.suffix_refl _, fun _ h => by simp at h, fun _ _ _ h => by simp at h⟩
  | [a] => by
    rw [dropM_one]
    split
    · rename_i h
      exact ⟨List.suffix_refl _, fun _ e => by simp at e; subst e; exact h, fun _ _ _ e => by simp at e⟩
    · exact ⟨List.nil_suffix, fun _ h => by simp at h, fun _ _ _ h => by simp at h⟩
  | a :: b :: r => by
    rw [dropM_two]
    split
    · rename_i h
      exact ⟨List.suffix_refl _, fun _ e => by simp at e, fun _ _ _ e => by simp at e; obtain ⟨_, rfl, _⟩ := e; exact h⟩
    · obtain ⟨h1, h2, h3⟩ := dropM_spec now w (b :: r)
      exact ⟨h1.trans (List.suffix_cons _ _), h2, h3⟩
theorem one_later {seq cap now now' w least : Int} {m : Mk} (h : oneP seq cap now w least m) (hn : now ≤ now') : oneP seq cap now' w least m := by
  obtain ⟨h1, h2, h3, h4, h5, h6, h7⟩ := h
  exact ⟨h1, h2, h3, h4, h5, by omega, h7⟩
theorem VL.tick {l : List Mk} {seq cap now now' w least : Int} (h : VL l seq cap now w least) (hn : now ≤ now') : VL (dropM now' w l) seq cap now' w least := by
  obtain ⟨s1, s2, s3⟩ := dropM_spec now' w l
  have two := h.two.sublist s1.sublist
  refine ⟨fun m hm => one_later (h.one m (s1.subset hm)) hn, two, fun m hm => ?_, s2, fun hne => ?_⟩
  · cases hd : dropM now' w l with
    | nil => rw [hd] at hm; simp at hm
    | cons a r =>
      cases r with
      | nil => rw [hd] at hm; simp at hm
      | cons b r =>
        rw [hd] at hm two
        have hb := s3 a b r hd
        simp only [List.tail_cons] at hm
        rcases List.mem_cons.1 hm with rfl | hm
        · exact hb
        · have := (List.rel_of_pairwise_cons (List.Pairwise.of_cons two) hm).2.1
          omega
  · rw [mkAt_last_suffix s1 hne]
    exact h.last (fun e => by subst e; exact hne (by rw [dropM_nil]))
theorem inc_one {seq cap now w least v : Int} {m : Mk} (h : oneP seq cap now w least m) (hc : m.n < cap) (hl : least ≤ v) (hv : -4096 ≤ v) (hv' : v ≤ 4096) : oneP (seq + 1) cap now w least (inc v m) := by
  obtain ⟨h1, h2, h3, h4, h5, h6, h7, h8, h9, h10⟩ := h
  have hn : 0 ≤ m.n := by omega
  refine ⟨h1, by show m.seq ≤ _; omega, by show m.n + 1 = seq + 1 - m.seq + 1; omega, by show m.n + 1 ≤ cap; omega, h5, h6, by show least ≤ min m.lo v; omega, by show max m.hi v ≤ 4096; omega, by show min m.lo v ≤ max m.hi v; omega, ?_⟩
  exact part_add hn (by omega) (part_wide hn h10 (show min m.lo v ≤ m.lo by omega) (show m.hi ≤ max m.hi v by omega)) (part_one hv hv' (show min m.lo v ≤ v by omega) (show v ≤ max m.hi v by omega))
theorem inc_two {seq cap now w least v : Int} {a b : Mk} (ha : oneP seq cap now w least a) (hb : oneP seq cap now w least b) (h : twoP a b) : twoP (inc v a) (inc v b) := by
  obtain ⟨h1, h2, h3, h4, h5⟩ := h
  have na : a.n = seq - a.seq + 1 := ha.2.2.1
  have nb : b.n = seq - b.seq + 1 := hb.2.2.1
  refine ⟨h1, h2, by show min a.lo v ≤ min b.lo v; omega, by show max b.hi v ≤ max a.hi v; omega, ?_⟩
  have := part_wide (lo' := min a.lo v) (hi' := max a.hi v) (by omega) h5 (by omega) (by omega)
  show partP (a.n + 1 - (b.n + 1)) _ _ (a.s + v - (b.s + v)) (a.q + v * v - (b.q + v * v))
  rw [show a.n + 1 - (b.n + 1) = a.n - b.n by omega, show a.s + v - (b.s + v) = a.s - b.s by omega, show a.q + v * v - (b.q + v * v) = a.q - b.q by omega]
  exact this
theorem new_two {seq cap now w least v : Int} {a : Mk} (ha : oneP seq cap now w least a) (hv : -4096 ≤ v) (hv' : v ≤ 4096) : twoP (inc v a) (newMk (seq + 1) now v) := by
  obtain ⟨h1, h2, h3, h4, h5, h6, h7, h8, h9, h10⟩ := ha
  have hn : 0 ≤ a.n := by omega
  refine ⟨by show a.seq < seq + 1; omega, h6, by show min a.lo v ≤ v; omega, by show v ≤ max a.hi v; omega, ?_⟩
  show partP (a.n + 1 - 1) (min a.lo v) (max a.hi v) (a.s + v - v) (a.q + v * v - v * v)
  rw [show a.n + 1 - 1 = a.n by omega, show a.s + v - v = a.s by omega, show a.q + v * v - v * v = a.q by omega]
  exact part_wide hn h10 (by omega) (by omega)
theorem VL.incl {l : List Mk} {seq cap now w least v : Int} (h : VL l seq cap now w least) (hs : 0 ≤ seq) (hc : ∀ m ∈ l, m.n < cap) (hcap : 1 ≤ cap) (hnow : 0 ≤ now) (hw : 1 ≤ w) (hl : least ≤ v) (hv : -4096 ≤ v) (hv' : v ≤ 4096) :
    VL (incl l (seq + 1) now v) (seq + 1) cap now w least := by
  unfold Proofs.YtdipoojjlddohaaGreat.incl
  have on : oneP (seq + 1) cap now w least (newMk (seq + 1) now v) :=
    ⟨by show 1 ≤ seq + 1; omega, Int.le_refl _, by show (1 : Int) = _; show (1 : Int) = seq + 1 - (seq + 1) + 1; omega, hcap, hnow, Int.le_refl _, hl, hv', Int.le_refl _, part_one hv hv' (Int.le_refl _) (Int.le_refl _)⟩
  refine ⟨fun m hm => ?_, ?_, fun m hm => ?_, fun a e => ?_, fun _ => ?_⟩
  · rcases List.mem_append.1 hm with hm | hm
    · obtain ⟨m, hm2, rfl⟩ := List.mem_map.1 hm
      exact inc_one (h.one m hm2) (hc m hm2) hl hv hv'
    · obtain rfl : m = newMk (seq + 1) now v := by simpa using hm
      exact on
  · rw [List.pairwise_append]
    refine ⟨?_, List.pairwise_singleton _ _, fun a ha b hb => ?_⟩
    · rw [List.pairwise_map]
      exact List.Pairwise.imp_of_mem (fun ha hb hab => inc_two (h.one _ ha) (h.one _ hb) hab) h.two
    · obtain ⟨m, hm, rfl⟩ := List.mem_map.1 ha
      obtain rfl : b = newMk (seq + 1) now v := by simpa using hb
      exact new_two (h.one m hm) hv hv'
  · cases l with
    | nil => simp at hm
    | cons a r =>
      simp only [List.map_cons, List.cons_append, List.tail_cons] at hm
      rcases List.mem_append.1 hm with hm | hm
      · obtain ⟨m, hm2, rfl⟩ := List.mem_map.1 hm
        exact h.live m hm2
      · obtain rfl : m = newMk (seq + 1) now v := by simpa using hm
        show now - w < now
        omega
  · cases l with
    | nil =>
      simp at e
      rw [← e]
      show now - w < now
      omega
    | cons b r => simp at e
  · rw [mkAt_append_right (by simp)]
    simp only [List.length_append, List.length_map, List.length_cons, List.length_nil]
    rw [show l.length + (0 + 1) - 1 - l.length = 0 by omega]
    exact ⟨rfl, rfl, rfl, rfl⟩
theorem prune_sub (near : Mk → Mk → Bool) : ∀ (k : Nat) (l : List Mk), l.length ≤ k → (prune near l).Sublist l
  | 0, l, h => by
    have : l = [] := by cases l <;> simp_all
    subst this
    rw [prune_nil]
    exact List.Sublist.refl _
  | k + 1, [], _ => by rw [prune_nil]; exact List.Sublist.refl _
  | k + 1, a :: r, h => by
    rw [prune_cons]
    exact ((prune_sub near k _ (by simp at h ⊢; omega)).trans (List.drop_sublist _ _)).cons_cons a
theorem prune_last (near : Mk → Mk → Bool) : ∀ (k : Nat) (l : List Mk), l.length ≤ k → l ≠ [] → prune near l ≠ [] ∧ mkAt (prune near l) ((prune near l).length - 1) = mkAt l (l.length - 1)
  | 0, l, h, hn => by
    have : l = [] := by cases l <;> simp_all
    exact absurd this hn
  | k + 1, [], _, hn => absurd rfl hn
  | k + 1, a :: r, h, _ => by
    rw [prune_cons]
    refine ⟨by simp, ?_⟩
    cases r with
    | nil => rw [List.drop_nil, prune_nil]
    | cons b r =>
      have hp := lastN_le (near a) (b :: r) (by simp)
      have hd : (b :: r).drop (lastN (near a) (b :: r)) ≠ [] := by
        intro e
        have := congrArg List.length e
        rw [List.length_drop, List.length_nil] at this
        omega
      obtain ⟨h1, h2⟩ := prune_last near k _ (by simp at h ⊢; omega) hd
      have h3 := mkAt_last_suffix (List.drop_suffix (lastN (near a) (b :: r)) (b :: r)) hd
      generalize hg : prune near (List.drop (lastN (near a) (b :: r)) (b :: r)) = g at h1 h2
      have gl : 0 < g.length := List.length_pos_iff.2 h1
      obtain ⟨g0, hg0⟩ : ∃ g0, g.length = g0 + 1 := ⟨g.length - 1, by omega⟩
      rw [h3] at h2
      simp only [List.length_cons, Nat.add_sub_cancel, hg0] at h2 ⊢
      rw [mkAt_succ, mkAt_succ]
      exact h2
theorem VL.prune {l : List Mk} {seq cap now w least : Int} (h : VL l seq cap now w least) (near : Mk → Mk → Bool) : VL (prune near l) seq cap now w least := by
  have sb := prune_sub near _ l (Nat.le_refl _)
  refine ⟨fun m hm => h.one m (sb.subset hm), h.two.sublist sb, fun m hm => ?_, fun a e => ?_, fun hn => ?_⟩
  · cases l with
    | nil => rw [prune_nil] at hm; simp at hm
    | cons a r =>
      rw [prune_cons] at hm
      refine h.live m ?_
      simp only [List.tail_cons] at hm ⊢
      exact ((prune_sub near _ _ (Nat.le_refl _)).trans (List.drop_sublist _ _)).subset hm
  · cases l with
    | nil => rw [prune_nil] at e; simp at e
    | cons b r =>
      have hl := (prune_last near _ (b :: r) (Nat.le_refl _) (by simp)).2
      rw [e] at hl
      have eb : b = a := by rw [prune_cons] at e; simp at e; exact e.1
      cases r with
      | nil => subst eb; exact h.alone _ rfl
      | cons c r =>
        have h1 : mkAt (b :: c :: r) ((b :: c :: r).length - 1) ∈ (c :: r) := by
          simp only [List.length_cons, Nat.add_sub_cancel]
          rw [mkAt_succ]
          exact mkAt_mem (by simp)
        have := h.live _ h1
        rw [← hl] at this
        exact this
  · have hne : l ≠ [] := fun e => by subst e; exact hn (by rw [prune_nil])
    rw [(prune_last near _ l (Nat.le_refl _) hne).2]
    exact h.last hne
end Go.Proofs.YtdipoojjlddohaaGreat
end
section
/- Smooth histograms: the aggregate of a mark, which states are valid, and what becomes of them; plain. -/
set_option linter.unusedVariables false
set_option linter.unusedSimpArgs false
set_option linter.unusedSectionVars false
set_option linter.unnecessarySimpa false
namespace Go.Proofs.YtdipoojjlddohaaGreat
/-- The aggregate of a mark. -/
def ofV (agg : Int) (m : Mk) : Int :=
  if agg = 1 then m.n else if agg = 2 then m.s else if agg = 3 then m.q else if agg = 4 then (if -9223372036854775808 ≤ m.hi - m.lo ∧ m.hi - m.lo ≤ 9223372036854775807 then m.hi - m.lo else 0) else 0
/-- One mark is close to another. -/
def nearP (agg k : Int) (a b : Mk) : Prop := k * ofV agg a ≤ (k + 1) * ofV agg b
instance (agg k : Int) (a b : Mk) : Decidable (nearP agg k a b) := by unfold nearP; infer_instance
def nearB (agg k : Int) (a b : Mk) : Bool := decide (nearP agg k a b)
/-- The least value. -/
def leastV (agg : Int) : Int := if agg = 2 ∨ agg = 3 then 0 else -4096
def smGood (agg wd k cap now : Int) : Prop := (1 ≤ agg ∧ agg ≤ 4) ∧ 1 ≤ wd ∧ wd ≤ 1048576 ∧ 1 ≤ k ∧ k ≤ 64 ∧ 1 ≤ cap ∧ cap ≤ 65536 ∧ 0 ≤ now ∧ now ≤ 16777216
instance (agg wd k cap now : Int) : Decidable (smGood agg wd k cap now) := by unfold smGood; infer_instance
/-- What a place asks of the marks ahead of it. -/
def smAt (agg k : Int) (l : List Mk) (i : Nat) : Prop :=
  (2 ≤ i → ¬ nearP agg k (mkAt l (i - 2)) (mkAt l i)) ∧ (1 ≤ i → 1 < (mkAt l i).seq - (mkAt l (i - 1)).seq → nearP agg k (mkAt l (i - 1)) (mkAt l i))
instance (agg k : Int) (l : List Mk) (i : Nat) : Decidable (smAt agg k l i) := by unfold smAt; infer_instance
def smValid (agg wd k cap now seq : Int) (l : List Mk) : Prop := smGood agg wd k cap now ∧ mvalid l seq cap now wd (leastV agg) ∧ ∀ i, i < l.length → smAt agg k l i
instance (agg wd k cap now seq : Int) (l : List Mk) : Decidable (smValid agg wd k cap now seq l) := by unfold smValid; infer_instance
def smvalE (agg wd k cap now seq : Int) (l : List Mk) : Int := if smValid agg wd k cap now seq l then 0 else 2
theorem smvalE_yes {agg wd k cap now seq : Int} {l : List Mk} (h : smValid agg wd k cap now seq l) : smvalE agg wd k cap now seq l = 0 := by unfold smvalE; rw [if_pos h]
theorem smvalE_no {agg wd k cap now seq : Int} {l : List Mk} (h : ¬ smValid agg wd k cap now seq l) : smvalE agg wd k cap now seq l = 2 := by unfold smvalE; rw [if_neg h]
theorem of_smvalE {agg wd k cap now seq : Int} {l : List Mk} (h : smvalE agg wd k cap now seq l = 0) : smValid agg wd k cap now seq l := by
  unfold smvalE at h
  split at h
  · assumption
  · cases h
theorem smvalE_two {agg wd k cap now seq : Int} {l : List Mk} : smvalE agg wd k cap now seq l = 0 ∨ smvalE agg wd k cap now seq l = 2 := by
  unfold smvalE
  split
  · exact .inl rfl
  · exact .inr rfl
/-- What a call that answers a state leaves. -/
structure SmOut where
  agg : Int
  wd : Int
  k : Int
  cap : Int
  now : Int
  seq : Int
  ms : List Mk
  f : Int
def smZero (f : Int) : SmOut := ⟨0, 0, 0, 0, 0, 0, [], f⟩
def smNew (agg wd k cap now : Int) : SmOut := if smGood agg wd k cap now then ⟨agg, wd, k, cap, now, 0, [], 0⟩ else smZero 1
def smTick (agg wd k cap now seq : Int) (l : List Mk) (tt9 : Int) : SmOut :=
  if smvalE agg wd k cap now seq l = 0 then (if tt9 < now ∨ 16777216 < tt9 then smZero 3 else ⟨agg, wd, k, cap, tt9, seq, dropM tt9 wd l, 0⟩) else smZero 2
def smFull (cap seq : Int) (l : List Mk) : Prop := (l ≠ [] ∧ (mkAt l 0).n = cap) ∨ seq = 1099511627776
instance (cap seq : Int) (l : List Mk) : Decidable (smFull cap seq l) := by unfold smFull; infer_instance
def smAdd (agg wd k cap now seq : Int) (l : List Mk) (v : Int) : SmOut :=
  if smvalE agg wd k cap now seq l = 0 then (if v < leastV agg ∨ 4096 < v then smZero 4 else if smFull cap seq l then smZero 5 else ⟨agg, wd, k, cap, now, seq + 1, prune (nearB agg k) (incl l (seq + 1) now v), 0⟩) else smZero 2
theorem leastV_ge (agg : Int) : -4096 ≤ leastV agg := by unfold leastV; split <;> omega
/-- The aggregates of a valid mark are small. -/
theorem ofV_bound {agg seq cap now w : Int} {m : Mk} (h : oneP seq cap now w (leastV agg) m) (hc : cap ≤ 65536) : 0 ≤ ofV agg m ∧ ofV agg m ≤ 1099511627776 := by
  obtain ⟨h1, h2, h3, h4, h5, h6, h7, h8, h9, p1, p2, p3, p4, p5⟩ := h
  have hn : 0 ≤ m.n := by omega
  have lg := leastV_ge agg
  have b1 : m.n * m.hi ≤ 65536 * 4096 := by
    rcases Int.le_total 0 m.hi with g | g
    · exact Int.mul_le_mul (by omega) h8 g (by omega)
    · have : m.n * m.hi ≤ 0 := Int.mul_nonpos_of_nonneg_of_nonpos hn g
      omega
  unfold ofV
  split
  · omega
  · split
    · rename_i _ ha
      have hl : leastV agg = 0 := by unfold leastV; rw [if_pos (.inl ha)]
      have : 0 ≤ m.n * m.lo := Int.mul_nonneg hn (by omega)
      omega
    · split
      · omega
      · split
        · rw [if_pos (by omega)]
          omega
        · omega
/-- Values that an aggregate takes. -/
theorem ofV_inc {agg seq cap now w v : Int} {a b : Mk} (ha : oneP seq cap now w (leastV agg) a) (hb : oneP seq cap now w (leastV agg) b) (h : twoP a b) (hl : leastV agg ≤ v) (hv : v ≤ 4096) (hagg : 1 ≤ agg ∧ agg ≤ 4) :
    0 ≤ ofV agg (inc v b) - ofV agg b ∧ ofV agg (inc v a) - ofV agg a ≤ ofV agg (inc v b) - ofV agg b := by
  obtain ⟨_, _, _, _, _, _, a7, a8, a9, _⟩ := ha
  obtain ⟨_, _, _, _, _, _, b7, b8, b9, _⟩ := hb
  obtain ⟨_, _, t3, t4, _⟩ := h
  have lg := leastV_ge agg
  have vv := sq_nonneg v
  by_cases c1 : agg = 1
  · subst c1
    simp only [ofV, inc]
    simp
    omega
  · by_cases c2 : agg = 2
    · subst c2
      have hl0 : leastV 2 = 0 := by decide
      simp only [ofV, inc]
      simp
      omega
    · by_cases c3 : agg = 3
      · subst c3
        simp only [ofV, inc]
        simp
        omega
      · have c4 : agg = 4 := by omega
        subst c4
        have r1 : ofV 4 (inc v a) = max a.hi v - min a.lo v := by simp only [ofV, inc]; simp; omega
        have r2 : ofV 4 (inc v b) = max b.hi v - min b.lo v := by simp only [ofV, inc]; simp; omega
        have r3 : ofV 4 a = a.hi - a.lo := by simp only [ofV]; simp; omega
        have r4 : ofV 4 b = b.hi - b.lo := by simp only [ofV]; simp; omega
        rw [r1, r2, r3, r4]
        omega
theorem near_inc {agg k seq cap now w v : Int} {a b : Mk} (ha : oneP seq cap now w (leastV agg) a) (hb : oneP seq cap now w (leastV agg) b) (h : twoP a b) (hl : leastV agg ≤ v) (hv : v ≤ 4096) (hagg : 1 ≤ agg ∧ agg ≤ 4) (hk : 1 ≤ k) (hn : nearP agg k a b) : nearP agg k (inc v a) (inc v b) := by
  obtain ⟨h1, h2⟩ := ofV_inc ha hb h hl hv hagg
  unfold nearP at hn ⊢
  generalize ofV agg (inc v a) = x' at *
  generalize ofV agg (inc v b) = y' at *
  generalize ofV agg a = x at *
  generalize ofV agg b = y at *
  have e1 : k * (x' - x) ≤ k * (y' - y) := Int.mul_le_mul_of_nonneg_left h2 (by omega)
  rw [Int.mul_sub, Int.mul_sub] at e1
  have e2 : (k + 1) * y' = k * y' + y' := by rw [Int.add_mul, Int.one_mul]
  have e3 : (k + 1) * y = k * y + y := by rw [Int.add_mul, Int.one_mul]
  omega
/-- Neighbours with a gap between them are close. -/
def Gap (near : Mk → Mk → Prop) (l : List Mk) : Prop := ∀ i, i + 1 < l.length → 1 < (mkAt l (i + 1)).seq - (mkAt l i).seq → near (mkAt l i) (mkAt l (i + 1))
/-- A mark is not close to the next but one. -/
def Far (near : Mk → Mk → Prop) (l : List Mk) : Prop := ∀ i, i + 2 < l.length → ¬ near (mkAt l i) (mkAt l (i + 2))
theorem smAt_iff {agg k : Int} {l : List Mk} : (∀ i, i < l.length → smAt agg k l i) ↔ Far (nearP agg k) l ∧ Gap (nearP agg k) l := by
  constructor
  · intro h
    exact ⟨fun i hi => by have := (h (i + 2) hi).1 (by omega); simpa using this, fun i hi hg => by have := (h (i + 1) hi).2 (by omega); simp only [Nat.add_sub_cancel] at this; exact this hg⟩
  · rintro ⟨h1, h2⟩ i hi
    refine ⟨fun h => ?_, fun h hg => ?_⟩
    · obtain ⟨j, rfl⟩ : ∃ j, i = j + 2 := ⟨i - 2, by omega⟩
      simpa using h1 j hi
    · obtain ⟨j, rfl⟩ : ∃ j, i = j + 1 := ⟨i - 1, by omega⟩
      simp only [Nat.add_sub_cancel] at hg ⊢
      exact h2 j hi hg
theorem Far.drop {near : Mk → Mk → Prop} {l : List Mk} (h : Far near l) (k : Nat) : Far near (l.drop k) := fun i hi => by
  rw [mkAt_drop, mkAt_drop]
  have := h (k + i) (by simp at hi; omega)
  rwa [Nat.add_assoc] at this
theorem Gap.drop {near : Mk → Mk → Prop} {l : List Mk} (h : Gap near l) (k : Nat) : Gap near (l.drop k) := fun i hi hg => by
  rw [mkAt_drop, mkAt_drop] at hg ⊢
  have := h (k + i) (by simp at hi; omega)
  rw [Nat.add_assoc] at this
  exact this hg
theorem Gap.tail {near : Mk → Mk → Prop} {a : Mk} {l : List Mk} (h : Gap near (a :: l)) : Gap near l := fun i hi hg => h (i + 1) (by simpa using hi) hg
/-- Behind the marks that fall away. -/
theorem prune_far {near : Mk → Mk → Prop} {nb : Mk → Mk → Bool} (hnb : ∀ a b, nb a b = true ↔ near a b) : ∀ (k : Nat) (l : List Mk), l.length ≤ k → Gap near l → Far near (prune nb l) ∧ Gap near (prune nb l)
  | 0, l, h, _ => by
    have : l = [] := by cases l <;> simp_all
    subst this
    rw [prune_nil]
    exact ⟨fun i hi => by simp at hi, fun i hi => by simp at hi⟩
  | k + 1, [], _, _ => by
    rw [prune_nil]
    exact ⟨fun i hi => by simp at hi, fun i hi => by simp at hi⟩
  | k + 1, a :: r, h, hg => by
    rw [prune_cons]
    have hr : r.length ≤ k := by simpa using h
    obtain ⟨f1, g1⟩ := prune_far hnb k (r.drop (lastN (nb a) r)) (by simp; omega) (hg.tail.drop _)
    have hs := lastN_spec (nb a) r
    generalize hp : lastN (nb a) r = p at *
    cases hd : r.drop p with
    | nil =>
      rw [prune_nil]
      exact ⟨fun i hi => by simp at hi, fun i hi => by simp at hi⟩
    | cons b r' =>
      rw [hd] at f1 g1
      rw [prune_cons] at f1 g1 ⊢
      have hpl : p < r.length := by
        have := congrArg List.length hd
        simp at this
        omega
      have hb : b = mkAt r p := by
        have := drop_mk hpl
        rw [hd] at this
        simpa using (List.cons.inj this).1
      have sub : ∀ c ∈ prune nb (r'.drop (lastN (nb b) r')), ¬ near a c := by
        intro c hc
        have hc := ((prune_sub nb _ _ (Nat.le_refl _)).trans (List.drop_sublist _ _)).subset hc
        obtain ⟨j, hj, rfl⟩ := mem_at hc
        have e : mkAt r' j = mkAt r (p + 1 + j) := by
          have h1 := drop_mk hpl
          rw [hd] at h1
          have h2 := (List.cons.inj h1).2
          rw [h2, mkAt_drop]
        have hj2 : p + 1 + j < r.length := by
          have := congrArg List.length hd
          simp at this
          omega
        have hf : nb a (mkAt r (p + 1 + j)) = false := by
          rcases hs with hs | hs
          · exact hs _ hj2
          · exact hs.2.2 _ (by omega) hj2
        rw [e]
        intro hn
        rw [(hnb _ _).2 hn] at hf
        cases hf
      refine ⟨fun i hi => ?_, fun i hi hgp => ?_⟩
      · cases i with
        | zero =>
          rw [mkAt_zero, mkAt_succ, mkAt_succ]
          exact sub _ (mkAt_mem (by simpa using hi))
        | succ i => exact f1 i (by simp at hi ⊢; omega)
      · cases i with
        | zero =>
          rw [mkAt_zero, mkAt_succ, mkAt_zero] at hgp ⊢
          rcases hs with hs | hs
          · have p0 : p = 0 := by rw [← hp]; exact lastN_none hs
            subst p0
            rw [hb] at hgp ⊢
            exact hg 0 (by simpa using hpl) hgp
          · rw [hb]
            exact (hnb _ _).1 hs.2.1
        | succ i => exact g1 i (by simp at hi ⊢; omega) hgp
theorem gap_incl {agg k seq cap now w v : Int} {l : List Mk} (hV : VL l seq cap now w (leastV agg)) (hg : Gap (nearP agg k) l) (hl : leastV agg ≤ v) (hv : v ≤ 4096) (hagg : 1 ≤ agg ∧ agg ≤ 4) (hk : 1 ≤ k) : Gap (nearP agg k) (incl l (seq + 1) now v) := by
  intro i hi hgp
  rw [incl_len] at hi
  unfold incl at hgp ⊢
  by_cases h : i + 1 < l.length
  · have e1 : mkAt (l.map (inc v) ++ [newMk (seq + 1) now v]) (i + 1) = inc v (mkAt l (i + 1)) := by
      rw [mkAt_append_left (by simpa using h), mkAt_map h]
    have e0 : mkAt (l.map (inc v) ++ [newMk (seq + 1) now v]) i = inc v (mkAt l i) := by
      rw [mkAt_append_left (by simp; omega), mkAt_map (by omega)]
    rw [e1, e0] at hgp ⊢
    exact near_inc (hV.one _ (mkAt_mem (by omega))) (hV.one _ (mkAt_mem h)) (pairwise_at hV.two (by omega) h) hl hv hagg hk (hg i h hgp)
  · exfalso
    have hil : i + 1 = l.length := by omega
    have e1 : mkAt (l.map (inc v) ++ [newMk (seq + 1) now v]) (i + 1) = newMk (seq + 1) now v := by
      rw [mkAt_append_right (by simp; omega)]
      simp only [List.length_map]
      rw [show i + 1 - l.length = 0 by omega]
      rfl
    have e0 : mkAt (l.map (inc v) ++ [newMk (seq + 1) now v]) i = inc v (mkAt l i) := by
      rw [mkAt_append_left (by simp; omega), mkAt_map (by omega)]
    rw [e1, e0] at hgp
    have hne : l ≠ [] := fun e => by subst e; simp at hil
    have := (hV.last hne).1
    rw [show l.length - 1 = i by omega] at this
    have e3 : (inc v (mkAt l i)).seq = (mkAt l i).seq := rfl
    have e4 : (newMk (seq + 1) now v).seq = seq + 1 := rfl
    rw [e3, e4] at hgp
    omega
/-- All marks are of fewer items than the first. -/
theorem VL.n_lt {l : List Mk} {seq cap now w least : Int} (h : VL l seq cap now w least) (h0 : ¬ (l ≠ [] ∧ (mkAt l 0).n = cap)) : ∀ m ∈ l, m.n < cap := by
  intro m hm
  cases l with
  | nil => simp at hm
  | cons a r =>
    have ha := h.one a (by simp)
    have hac : a.n ≠ cap := fun e => h0 ⟨by simp, e⟩
    rcases List.mem_cons.1 hm with rfl | hm'
    · have := ha.2.2.2.1
      omega
    · have hb := h.one m hm
      have t := (List.rel_of_pairwise_cons h.two hm').1
      have e1 := ha.2.2.1
      have e2 := hb.2.2.1
      have e3 := ha.2.2.2.1
      omega
theorem smTick_valid {agg wd k cap now seq tt9 : Int} {l : List Mk} (h : smValid agg wd k cap now seq l) (h0 : ¬ (tt9 < now ∨ 16777216 < tt9)) : smValid agg wd k cap tt9 seq (dropM tt9 wd l) := by
  obtain ⟨⟨h1, h2, h3, h4, h5, h6, h7, h8, h9⟩, hm, hs⟩ := h
  obtain ⟨hq, hV⟩ := mvalid_iff.1 hm
  refine ⟨⟨h1, h2, h3, h4, h5, h6, h7, by omega, by omega⟩, mvalid_iff.2 ⟨hq, hV.tick (by omega)⟩, ?_⟩
  obtain ⟨f, g⟩ := smAt_iff.1 hs
  obtain ⟨j, _, e⟩ := dropM_suffix tt9 wd l
  rw [e]
  exact smAt_iff.2 ⟨f.drop j, g.drop j⟩
theorem smAdd_valid {agg wd k cap now seq v : Int} {l : List Mk} (h : smValid agg wd k cap now seq l) (h0 : ¬ (v < leastV agg ∨ 4096 < v)) (h1 : ¬ smFull cap seq l) : smValid agg wd k cap now (seq + 1) (prune (nearB agg k) (incl l (seq + 1) now v)) := by
  obtain ⟨hG, hm, hs⟩ := h
  obtain ⟨hq, hV⟩ := mvalid_iff.1 hm
  have hG' := hG
  obtain ⟨g1, g2, g3, g4, g5, g6, g7, g8, g9⟩ := hG
  have hn := hV.n_lt (fun a => h1 (.inl a))
  have hsq : seq ≠ 1099511627776 := fun e => h1 (.inr e)
  have lg := leastV_ge agg
  obtain ⟨f, g⟩ := smAt_iff.1 hs
  have gi := gap_incl hV g (by omega) (by omega) g1 g4 (v := v)
  refine ⟨hG', mvalid_iff.2 ⟨by omega, (hV.incl hq.1 hn g6 g8 g2 (by omega) (by omega) (by omega)).prune _⟩, smAt_iff.2 (prune_far (fun a b => ?_) _ _ (Nat.le_refl _) gi)⟩
  unfold nearB
  exact decide_eq_true_iff
end Go.Proofs.YtdipoojjlddohaaGreat
end
section
/- Marks of smooth histograms: words; small functions. -/
set_option linter.unusedVariables false
set_option linter.unusedSimpArgs false
set_option linter.unusedSectionVars false
set_option linter.unnecessarySimpa false
namespace Go.Proofs.YtdipoojjlddohaaGreat
open Go.RowKit
/-- The cells of a list of marks. -/
def mcells (l : List Mk) : List Value := l.flatMap fun m => [.int .i64 m.seq, .int .i64 m.t, .int .i64 m.n, .int .i64 m.s, .int .i64 m.q, .int .i64 m.lo, .int .i64 m.hi]
theorem mcells_nil : mcells [] = [] := rfl
theorem mcells_cons (m : Mk) (l : List Mk) : mcells (m :: l) = .int .i64 m.seq :: .int .i64 m.t :: .int .i64 m.n :: .int .i64 m.s :: .int .i64 m.q :: .int .i64 m.lo :: .int .i64 m.hi :: mcells l := rfl
theorem mcells_append (a b : List Mk) : mcells (a ++ b) = mcells a ++ mcells b := by unfold mcells; rw [List.flatMap_append]
theorem mcells_len : ∀ l : List Mk, (mcells l).length = l.length * 7
  | [] => rfl
  | m :: l => by rw [mcells_cons]; simp only [List.length_cons, mcells_len l]; omega
theorem mcells_at : ∀ (l : List Mk) (i : Nat), i < l.length → (mcells l)[i * 7]? = some (.int .i64 (mkAt l i).seq) ∧ (mcells l)[i * 7 + 1]? = some (.int .i64 (mkAt l i).t) ∧ (mcells l)[i * 7 + 2]? = some (.int .i64 (mkAt l i).n) ∧ (mcells l)[i * 7 + 3]? = some (.int .i64 (mkAt l i).s) ∧ (mcells l)[i * 7 + 4]? = some (.int .i64 (mkAt l i).q) ∧ (mcells l)[i * 7 + 5]? = some (.int .i64 (mkAt l i).lo) ∧ (mcells l)[i * 7 + 6]? = some (.int .i64 (mkAt l i).hi)
  | [], i, h => absurd h (by simp)
  | m :: l, 0, _ => ⟨rfl, rfl, rfl, rfl, rfl, rfl, rfl⟩
  | m :: l, i + 1, h => by
    have ih := mcells_at l i (by simpa using h)
    rw [mcells_cons, show (i + 1) * 7 = i * 7 + 1 + 1 + 1 + 1 + 1 + 1 + 1 by omega, show i * 7 + 1 + 1 + 1 + 1 + 1 + 1 + 1 + 1 = (i * 7 + 1) + 1 + 1 + 1 + 1 + 1 + 1 + 1 by omega, show i * 7 + 1 + 1 + 1 + 1 + 1 + 1 + 1 + 2 = (i * 7 + 2) + 1 + 1 + 1 + 1 + 1 + 1 + 1 by omega, show i * 7 + 1 + 1 + 1 + 1 + 1 + 1 + 1 + 3 = (i * 7 + 3) + 1 + 1 + 1 + 1 + 1 + 1 + 1 by omega, show i * 7 + 1 + 1 + 1 + 1 + 1 + 1 + 1 + 4 = (i * 7 + 4) + 1 + 1 + 1 + 1 + 1 + 1 + 1 by omega, show i * 7 + 1 + 1 + 1 + 1 + 1 + 1 + 1 + 5 = (i * 7 + 5) + 1 + 1 + 1 + 1 + 1 + 1 + 1 by omega, show i * 7 + 1 + 1 + 1 + 1 + 1 + 1 + 1 + 6 = (i * 7 + 6) + 1 + 1 + 1 + 1 + 1 + 1 + 1 by omega]
    simp only [List.getElem?_cons_succ]
    exact ih
theorem mcells_one (l : List Mk) : ∀ u ∈ mcells l, u.oneCell' = true := by
  intro u hu
  unfold mcells at hu
  rw [List.mem_flatMap] at hu
  obtain ⟨t, _, ht⟩ := hu
  simp at ht
  rcases ht with rfl | rfl | rfl | rfl | rfl | rfl | rfl <;> rfl
def I64 (x : Int) : Prop := -9223372036854775808 ≤ x ∧ x ≤ 9223372036854775807
/-- A mark's numbers are numbers of 64 bits. -/
def M64 (m : Mk) : Prop := I64 m.seq ∧ I64 m.t ∧ I64 m.n ∧ I64 m.s ∧ I64 m.q ∧ I64 m.lo ∧ I64 m.hi
theorem M64_zero : M64 Mk.zero := by unfold M64 I64 Mk.zero; simp
/-- The seven cells of a mark. -/
def MkCells (w : World) (a : Addr) (m : Mk) : Prop := w.cell? a = some (.int .i64 m.seq) ∧ w.cell? ⟨a.block, a.off + 1, none⟩ = some (.int .i64 m.t) ∧ w.cell? ⟨a.block, a.off + 2, none⟩ = some (.int .i64 m.n) ∧ w.cell? ⟨a.block, a.off + 3, none⟩ = some (.int .i64 m.s) ∧ w.cell? ⟨a.block, a.off + 4, none⟩ = some (.int .i64 m.q) ∧ w.cell? ⟨a.block, a.off + 5, none⟩ = some (.int .i64 m.lo) ∧ w.cell? ⟨a.block, a.off + 6, none⟩ = some (.int .i64 m.hi)
section
variable {w w' : World} {B m : Nat} {A : Option Addr} {l : List Mk}
theorem Reads.mk_len (h : Reads w B 7 A m (mcells l)) : l.length = m := by have := h.1; rw [mcells_len] at this; omega
theorem mk_lit (a : Addr) (j : Nat) (h : j ≠ 0) : a.add j = ⟨a.block, a.off + j, none⟩ := by unfold Addr.add; rw [if_neg h]
theorem MkCells.keep {a : Addr} {x : Mk} (h : MkCells w a x) (hk : ∀ p : Addr, p.block = a.block → w'.cell? p = w.cell? p) : MkCells w' a x :=
  ⟨(hk _ rfl).trans h.1, (hk ⟨a.block, a.off + 1, none⟩ rfl).trans h.2.1, (hk ⟨a.block, a.off + 2, none⟩ rfl).trans h.2.2.1, (hk ⟨a.block, a.off + 3, none⟩ rfl).trans h.2.2.2.1, (hk ⟨a.block, a.off + 4, none⟩ rfl).trans h.2.2.2.2.1, (hk ⟨a.block, a.off + 5, none⟩ rfl).trans h.2.2.2.2.2.1, (hk ⟨a.block, a.off + 6, none⟩ rfl).trans h.2.2.2.2.2.2⟩
theorem MkCells.below {a : Addr} {x : Mk} (h : MkCells w a x) (hb : Below B w w') (hlt : a.block < B) : MkCells w' a x := h.keep fun p hp => hb.cell (by rw [hp]; exact hlt)
theorem Reads.mk {i : Nat} (h : Reads w B 7 A m (mcells l)) (hi : i < m) : ∃ ad, A = some ad ∧ ad.block < B ∧ MkCells w (ad.add (i * 7)) (mkAt l i) := by
  obtain ⟨ad, e, hb, hc⟩ := h.2 (by omega)
  have ht := mcells_at l i (by rw [h.mk_len]; exact hi)
  refine ⟨ad, e, hb, hc _ _ ht.1, ?_, ?_, ?_, ?_, ?_, ?_⟩
  · rw [← mk_lit _ 1 (by decide), add_of_add]
    exact hc _ _ ht.2.1
  · rw [← mk_lit _ 2 (by decide), add_of_add]
    exact hc _ _ ht.2.2.1
  · rw [← mk_lit _ 3 (by decide), add_of_add]
    exact hc _ _ ht.2.2.2.1
  · rw [← mk_lit _ 4 (by decide), add_of_add]
    exact hc _ _ ht.2.2.2.2.1
  · rw [← mk_lit _ 5 (by decide), add_of_add]
    exact hc _ _ ht.2.2.2.2.2.1
  · rw [← mk_lit _ 6 (by decide), add_of_add]
    exact hc _ _ ht.2.2.2.2.2.2
end
/-- Marks as an argument. -/
structure MIn (A : Option Addr) (m c : Nat) (l : List Mk) (w : World) : Prop where
  reads : Reads w w.heap.size 7 A m (mcells l)
  mB : ∀ i, M64 (mkAt l i)
  mc : m ≤ c
  cB : c ≤ maxLen
section
variable {w w' : World} {m c : Nat} {A : Option Addr} {l : List Mk}
theorem MIn.max (h : MIn A m c l w) : m ≤ 9223372036854775807 := by
  have := h.mc
  have := h.cB
  unfold maxLen at *
  omega
theorem MIn.len (h : MIn A m c l w) : l.length = m := h.reads.mk_len
theorem MIn.below (h : MIn A m c l w) (hb : Below w.heap.size w w') : MIn A m c l w' := ⟨(h.reads.below hb).more hb.size, h.mB, h.mc, h.cB⟩
end
theorem info_mk : (Tryz.prog.info? 228).map (fun i => (i.zero, i.size, i.bytes)) = some (some (.agg #[.int .i64 0, .int .i64 0, .int .i64 0, .int .i64 0, .int .i64 0, .int .i64 0, .int .i64 0]), 7, 56) := by kernel_rfl
theorem mul_small {n x : Int} (h0 : 0 ≤ n) (h1 : n ≤ 65536) (h2 : -4096 ≤ x) (h3 : x ≤ 4096) : -268435456 ≤ n * x ∧ n * x ≤ 268435456 := by
  constructor
  · have : n * (-4096) ≤ n * x := Int.mul_le_mul_of_nonneg_left h2 h0
    omega
  · have : n * x ≤ n * 4096 := Int.mul_le_mul_of_nonneg_left h3 h0
    omega
theorem pfits_0 (n lo hi s q : Int) (w : World) (hn0 : 0 ≤ n) (hn1 : n ≤ 65536) (l0 : -4096 ≤ lo) (l1 : lo ≤ 4096) (g0 : -4096 ≤ hi) (g1 : hi ≤ 4096)  (h : s < n * lo) : Calls Tryz.prog 268 #[.int .i64 n, .int .i64 lo, .int .i64 hi, .int .i64 s, .int .i64 q] w fun e w' => e = .returned (.bool false) ∧ w' = w := by
  have b1 := mul_small hn0 hn1 l0 l1
  have b2 := mul_small hn0 hn1 g0 g1
  have wl : IntKind.i64.wrap (n * lo) = n * lo := IntWalk.i64_in _ (by omega)
  have wh : IntKind.i64.wrap (n * hi) = n * hi := IntWalk.i64_in _ (by omega)
  have wn2 : IntKind.i64.wrap (n * 4096) = n * 4096 := IntWalk.i64_in _ (by omega)
  have wn3 : IntKind.i64.wrap (n * 4096 * 4096) = n * 4096 * 4096 := IntWalk.i64_in _ (by omega)
  go_enter Tryz.func268, Tryz.ntmps268
  go_wp2_with fail
  go_ret
  exact ⟨by first | rfl | exact ret_bool (by simp; omega) | exact ret_bool (by simp [*]), rfl⟩
theorem pfits_1 (n lo hi s q : Int) (w : World) (hn0 : 0 ≤ n) (hn1 : n ≤ 65536) (l0 : -4096 ≤ lo) (l1 : lo ≤ 4096) (g0 : -4096 ≤ hi) (g1 : hi ≤ 4096) (h0 : n * lo ≤ s) (h : n * hi < s) : Calls Tryz.prog 268 #[.int .i64 n, .int .i64 lo, .int .i64 hi, .int .i64 s, .int .i64 q] w fun e w' => e = .returned (.bool false) ∧ w' = w := by
  have b1 := mul_small hn0 hn1 l0 l1
  have b2 := mul_small hn0 hn1 g0 g1
  have wl : IntKind.i64.wrap (n * lo) = n * lo := IntWalk.i64_in _ (by omega)
  have wh : IntKind.i64.wrap (n * hi) = n * hi := IntWalk.i64_in _ (by omega)
  have wn2 : IntKind.i64.wrap (n * 4096) = n * 4096 := IntWalk.i64_in _ (by omega)
  have wn3 : IntKind.i64.wrap (n * 4096 * 4096) = n * 4096 * 4096 := IntWalk.i64_in _ (by omega)
  go_enter Tryz.func268, Tryz.ntmps268
  go_wp2_with fail
  go_ret
  exact ⟨by first | rfl | exact ret_bool (by simp; omega) | exact ret_bool (by simp [*]), rfl⟩
theorem pfits_2 (n lo hi s q : Int) (w : World) (hn0 : 0 ≤ n) (hn1 : n ≤ 65536) (l0 : -4096 ≤ lo) (l1 : lo ≤ 4096) (g0 : -4096 ≤ hi) (g1 : hi ≤ 4096) (h0 : n * lo ≤ s) (h1 : s ≤ n * hi) (h : q < 0) : Calls Tryz.prog 268 #[.int .i64 n, .int .i64 lo, .int .i64 hi, .int .i64 s, .int .i64 q] w fun e w' => e = .returned (.bool false) ∧ w' = w := by
  have b1 := mul_small hn0 hn1 l0 l1
  have b2 := mul_small hn0 hn1 g0 g1
  have wl : IntKind.i64.wrap (n * lo) = n * lo := IntWalk.i64_in _ (by omega)
  have wh : IntKind.i64.wrap (n * hi) = n * hi := IntWalk.i64_in _ (by omega)
  have wn2 : IntKind.i64.wrap (n * 4096) = n * 4096 := IntWalk.i64_in _ (by omega)
  have wn3 : IntKind.i64.wrap (n * 4096 * 4096) = n * 4096 * 4096 := IntWalk.i64_in _ (by omega)
  go_enter Tryz.func268, Tryz.ntmps268
  go_wp2_with fail
  go_ret
  exact ⟨by first | rfl | exact ret_bool (by simp; omega) | exact ret_bool (by simp [*]), rfl⟩
theorem pfits_3 (n lo hi s q : Int) (w : World) (hn0 : 0 ≤ n) (hn1 : n ≤ 65536) (l0 : -4096 ≤ lo) (l1 : lo ≤ 4096) (g0 : -4096 ≤ hi) (g1 : hi ≤ 4096) (h0 : n * lo ≤ s) (h1 : s ≤ n * hi) (h2 : 0 ≤ q) (h : n * 4096 * 4096 < q) : Calls Tryz.prog 268 #[.int .i64 n, .int .i64 lo, .int .i64 hi, .int .i64 s, .int .i64 q] w fun e w' => e = .returned (.bool false) ∧ w' = w := by
  have b1 := mul_small hn0 hn1 l0 l1
  have b2 := mul_small hn0 hn1 g0 g1
  have wl : IntKind.i64.wrap (n * lo) = n * lo := IntWalk.i64_in _ (by omega)
  have wh : IntKind.i64.wrap (n * hi) = n * hi := IntWalk.i64_in _ (by omega)
  have wn2 : IntKind.i64.wrap (n * 4096) = n * 4096 := IntWalk.i64_in _ (by omega)
  have wn3 : IntKind.i64.wrap (n * 4096 * 4096) = n * 4096 * 4096 := IntWalk.i64_in _ (by omega)
  go_enter Tryz.func268, Tryz.ntmps268
  go_wp2_with fail
  go_ret
  exact ⟨by first | rfl | exact ret_bool (by simp; omega) | exact ret_bool (by simp [*]), rfl⟩
theorem pfits_4 (n lo hi s q : Int) (w : World) (hn0 : 0 ≤ n) (hn1 : n ≤ 65536) (l0 : -4096 ≤ lo) (l1 : lo ≤ 4096) (g0 : -4096 ≤ hi) (g1 : hi ≤ 4096) (h0 : n * lo ≤ s) (h1 : s ≤ n * hi) (h2 : 0 ≤ q) (h3 : q ≤ n * 4096 * 4096) (h : n * q < s * s) : Calls Tryz.prog 268 #[.int .i64 n, .int .i64 lo, .int .i64 hi, .int .i64 s, .int .i64 q] w fun e w' => e = .returned (.bool false) ∧ w' = w := by
  have b1 := mul_small hn0 hn1 l0 l1
  have b2 := mul_small hn0 hn1 g0 g1
  have wl : IntKind.i64.wrap (n * lo) = n * lo := IntWalk.i64_in _ (by omega)
  have wh : IntKind.i64.wrap (n * hi) = n * hi := IntWalk.i64_in _ (by omega)
  have wn2 : IntKind.i64.wrap (n * 4096) = n * 4096 := IntWalk.i64_in _ (by omega)
  have wn3 : IntKind.i64.wrap (n * 4096 * 4096) = n * 4096 * 4096 := IntWalk.i64_in _ (by omega)
  have b3 := sq_bound (s := s) (B := 268435456) (by omega) (by omega)
  have b4 : 0 ≤ n * q ∧ n * q ≤ 65536 * 1099511627776 := ⟨Int.mul_nonneg hn0 h2, Int.mul_le_mul hn1 (by omega) h2 (by decide)⟩
  have wss : IntKind.i64.wrap (s * s) = s * s := IntWalk.i64_in _ (by omega)
  have wnq : IntKind.i64.wrap (n * q) = n * q := IntWalk.i64_in _ (by omega)
  go_enter Tryz.func268, Tryz.ntmps268
  go_wp2_with fail
  go_ret
  exact ⟨by first | rfl | exact ret_bool (by simp; omega) | exact ret_bool (by simp [*]), rfl⟩
theorem pfits_5 (n lo hi s q : Int) (w : World) (hn0 : 0 ≤ n) (hn1 : n ≤ 65536) (l0 : -4096 ≤ lo) (l1 : lo ≤ 4096) (g0 : -4096 ≤ hi) (g1 : hi ≤ 4096) (h0 : n * lo ≤ s) (h1 : s ≤ n * hi) (h2 : 0 ≤ q) (h3 : q ≤ n * 4096 * 4096) (h4 : s * s ≤ n * q) : Calls Tryz.prog 268 #[.int .i64 n, .int .i64 lo, .int .i64 hi, .int .i64 s, .int .i64 q] w fun e w' => e = .returned (.bool true) ∧ w' = w := by
  have b1 := mul_small hn0 hn1 l0 l1
  have b2 := mul_small hn0 hn1 g0 g1
  have wl : IntKind.i64.wrap (n * lo) = n * lo := IntWalk.i64_in _ (by omega)
  have wh : IntKind.i64.wrap (n * hi) = n * hi := IntWalk.i64_in _ (by omega)
  have wn2 : IntKind.i64.wrap (n * 4096) = n * 4096 := IntWalk.i64_in _ (by omega)
  have wn3 : IntKind.i64.wrap (n * 4096 * 4096) = n * 4096 * 4096 := IntWalk.i64_in _ (by omega)
  have b3 := sq_bound (s := s) (B := 268435456) (by omega) (by omega)
  have b4 : 0 ≤ n * q ∧ n * q ≤ 65536 * 1099511627776 := ⟨Int.mul_nonneg hn0 h2, Int.mul_le_mul hn1 (by omega) h2 (by decide)⟩
  have wss : IntKind.i64.wrap (s * s) = s * s := IntWalk.i64_in _ (by omega)
  have wnq : IntKind.i64.wrap (n * q) = n * q := IntWalk.i64_in _ (by omega)
  go_enter Tryz.func268, Tryz.ntmps268
  go_wp2_with fail
  go_ret
  exact ⟨by first | rfl | exact ret_bool (by simp; omega) | exact ret_bool (by simp [*]), rfl⟩
theorem pfits (n lo hi s q : Int) (w : World) (hn0 : 0 ≤ n) (hn1 : n ≤ 65536) (l0 : -4096 ≤ lo) (l1 : lo ≤ 4096) (g0 : -4096 ≤ hi) (g1 : hi ≤ 4096) : Calls Tryz.prog 268 #[.int .i64 n, .int .i64 lo, .int .i64 hi, .int .i64 s, .int .i64 q] w fun e w' => e = .returned (.bool (decide (n * lo ≤ s ∧ s ≤ n * hi ∧ 0 ≤ q ∧ q ≤ n * 4096 * 4096 ∧ s * s ≤ n * q))) ∧ w' = w := by
  by_cases h0 : n * lo ≤ s
  · skip
    by_cases h1 : s ≤ n * hi
    · skip
      by_cases h2 : 0 ≤ q
      · skip
        by_cases h3 : q ≤ n * 4096 * 4096
        · skip
          by_cases h4 : s * s ≤ n * q
          · skip
            rw [show decide (n * lo ≤ s ∧ s ≤ n * hi ∧ 0 ≤ q ∧ q ≤ n * 4096 * 4096 ∧ s * s ≤ n * q) = true from decide_eq_true ⟨h0, h1, h2, h3, h4⟩]
            exact pfits_5 n lo hi s q w hn0 hn1 l0 l1 g0 g1 h0 h1 h2 h3 h4
          · rw [show decide (n * lo ≤ s ∧ s ≤ n * hi ∧ 0 ≤ q ∧ q ≤ n * 4096 * 4096 ∧ s * s ≤ n * q) = false from decide_eq_false (fun a => h4 a.2.2.2.2)]
            exact pfits_4 n lo hi s q w hn0 hn1 l0 l1 g0 g1 h0 h1 h2 h3 (Int.not_le.1 h4)
        · rw [show decide (n * lo ≤ s ∧ s ≤ n * hi ∧ 0 ≤ q ∧ q ≤ n * 4096 * 4096 ∧ s * s ≤ n * q) = false from decide_eq_false (fun a => h3 a.2.2.2.1)]
          exact pfits_3 n lo hi s q w hn0 hn1 l0 l1 g0 g1 h0 h1 h2 (Int.not_le.1 h3)
      · rw [show decide (n * lo ≤ s ∧ s ≤ n * hi ∧ 0 ≤ q ∧ q ≤ n * 4096 * 4096 ∧ s * s ≤ n * q) = false from decide_eq_false (fun a => h2 a.2.2.1)]
        exact pfits_2 n lo hi s q w hn0 hn1 l0 l1 g0 g1 h0 h1 (Int.not_le.1 h2)
    · rw [show decide (n * lo ≤ s ∧ s ≤ n * hi ∧ 0 ≤ q ∧ q ≤ n * 4096 * 4096 ∧ s * s ≤ n * q) = false from decide_eq_false (fun a => h1 a.2.1)]
      exact pfits_1 n lo hi s q w hn0 hn1 l0 l1 g0 g1 h0 (Int.not_le.1 h1)
  · rw [show decide (n * lo ≤ s ∧ s ≤ n * hi ∧ 0 ≤ q ∧ q ≤ n * 4096 * 4096 ∧ s * s ≤ n * q) = false from decide_eq_false (fun a => h0 a.1)]
    exact pfits_0 n lo hi s q w hn0 hn1 l0 l1 g0 g1  (Int.not_le.1 h0)
theorem pfitsP (n lo hi s q : Int) (w : World) (hn0 : 0 ≤ n) (hn1 : n ≤ 65536) (l0 : -4096 ≤ lo) (l1 : lo ≤ 4096) (g0 : -4096 ≤ hi) (g1 : hi ≤ 4096) : Calls Tryz.prog 268 #[.int .i64 n, .int .i64 lo, .int .i64 hi, .int .i64 s, .int .i64 q] w fun e w' => e = .returned (.bool (decide (partP n lo hi s q))) ∧ w' = w := by
  have e : decide (partP n lo hi s q) = decide (n * lo ≤ s ∧ s ≤ n * hi ∧ 0 ≤ q ∧ q ≤ n * 4096 * 4096 ∧ s * s ≤ n * q) := by
    by_cases h : partP n lo hi s q
    · exact (decide_eq_true h).trans (decide_eq_true (p := n * lo ≤ s ∧ s ≤ n * hi ∧ 0 ≤ q ∧ q ≤ n * 4096 * 4096 ∧ s * s ≤ n * q) h).symm
    · exact (decide_eq_false h).trans (decide_eq_false (p := n * lo ≤ s ∧ s ≤ n * hi ∧ 0 ≤ q ∧ q ≤ n * 4096 * 4096 ∧ s * s ≤ n * q) h).symm
  rw [e]
  exact pfits n lo hi s q w hn0 hn1 l0 l1 g0 g1
theorem ptick_2 (now : Int) (w : World)  (h0 : 0 ≤ now) (h1 : now ≤ 16777216) : Calls Tryz.prog 230 #[.int .i64 now] w fun e w' => e = .returned (.bool true) ∧ w' = w := by
  go_enter Tryz.func230, Tryz.ntmps230
  go_wp2_with fail
  go_ret
  exact ⟨by first | rfl | exact ret_bool (by simp; omega), rfl⟩
theorem pfirst_yes (now wd : Int) (w : World) (n0 : 0 ≤ now) (n1 : now ≤ 16777216) (d0 : 1 ≤ wd) (d1 : wd ≤ 1048576) (h : 0 ≤ now - wd + 1) : Calls Tryz.prog 160 #[.int .i64 now, .int .i64 wd] w fun e w' => e = .returned (.int .i64 (now - wd + 1)) ∧ w' = w := by
  have PT := Lib.hid (fun w => ptick_2 now w n0 n1)
  have w1 : IntKind.i64.wrap (now - wd) = now - wd := IntWalk.i64_in _ (by omega)
  have w2 : IntKind.i64.wrap (now - wd + 1) = now - wd + 1 := IntWalk.i64_in _ (by omega)
  go_enter Tryz.func160, Tryz.ntmps160
  go_wp2_with (go_at_call 230; with_reducible refine (PT.out _).mono ?_; rintro e w9 ⟨rfl, h9⟩; obtain rfl := h9.symm)
  go_ret
  exact ⟨by first | rfl | exact ret_i64 (by omega), rfl⟩
theorem pfirst_no (now wd : Int) (w : World) (n0 : 0 ≤ now) (n1 : now ≤ 16777216) (d0 : 1 ≤ wd) (d1 : wd ≤ 1048576) (h : now - wd + 1 < 0) : Calls Tryz.prog 160 #[.int .i64 now, .int .i64 wd] w fun e w' => e = .returned (.int .i64 0) ∧ w' = w := by
  have PT := Lib.hid (fun w => ptick_2 now w n0 n1)
  have w1 : IntKind.i64.wrap (now - wd) = now - wd := IntWalk.i64_in _ (by omega)
  have w2 : IntKind.i64.wrap (now - wd + 1) = now - wd + 1 := IntWalk.i64_in _ (by omega)
  go_enter Tryz.func160, Tryz.ntmps160
  go_wp2_with (go_at_call 230; with_reducible refine (PT.out _).mono ?_; rintro e w9 ⟨rfl, h9⟩; obtain rfl := h9.symm)
  go_ret
  exact ⟨by first | rfl | exact ret_i64 (by omega), rfl⟩
theorem plive_yes_true (now wd t : Int) (w : World) (n0 : 0 ≤ now) (n1 : now ≤ 16777216) (d0 : 1 ≤ wd) (d1 : wd ≤ 1048576) (t0 : 0 ≤ t) (t1 : t ≤ now) (h : 0 ≤ now - wd + 1) (hl : now - wd < t) : Calls Tryz.prog 137 #[.int .i64 now, .int .i64 wd, .int .i64 t] w fun e w' => e = .returned (.bool true) ∧ w' = w := by
  have PT := Lib.hid (fun w => ptick_2 t w t0 (by omega))
  have PF := Lib.hid (fun w => pfirst_yes now wd w n0 n1 d0 d1 h)
  go_enter Tryz.func137, Tryz.ntmps137
  go_wp2_with (first | (go_at_call 230; with_reducible refine (PT.out _).mono ?_; rintro e w9 ⟨rfl, h9⟩; obtain rfl := h9.symm) | (go_at_call 160; with_reducible refine (PF.out _).mono ?_; rintro e w9 ⟨rfl, h9⟩; obtain rfl := h9.symm))
  go_ret
  exact ⟨by first | rfl | exact ret_bool (by simp; omega), rfl⟩
theorem plive_yes_false (now wd t : Int) (w : World) (n0 : 0 ≤ now) (n1 : now ≤ 16777216) (d0 : 1 ≤ wd) (d1 : wd ≤ 1048576) (t0 : 0 ≤ t) (t1 : t ≤ now) (h : 0 ≤ now - wd + 1) (hl : ¬ now - wd < t) : Calls Tryz.prog 137 #[.int .i64 now, .int .i64 wd, .int .i64 t] w fun e w' => e = .returned (.bool false) ∧ w' = w := by
  have PT := Lib.hid (fun w => ptick_2 t w t0 (by omega))
  have PF := Lib.hid (fun w => pfirst_yes now wd w n0 n1 d0 d1 h)
  go_enter Tryz.func137, Tryz.ntmps137
  go_wp2_with (first | (go_at_call 230; with_reducible refine (PT.out _).mono ?_; rintro e w9 ⟨rfl, h9⟩; obtain rfl := h9.symm) | (go_at_call 160; with_reducible refine (PF.out _).mono ?_; rintro e w9 ⟨rfl, h9⟩; obtain rfl := h9.symm))
  go_ret
  exact ⟨by first | rfl | exact ret_bool (by simp; omega), rfl⟩
theorem plive_no_true (now wd t : Int) (w : World) (n0 : 0 ≤ now) (n1 : now ≤ 16777216) (d0 : 1 ≤ wd) (d1 : wd ≤ 1048576) (t0 : 0 ≤ t) (t1 : t ≤ now) (h : now - wd + 1 < 0) (hl : now - wd < t) : Calls Tryz.prog 137 #[.int .i64 now, .int .i64 wd, .int .i64 t] w fun e w' => e = .returned (.bool true) ∧ w' = w := by
  have PT := Lib.hid (fun w => ptick_2 t w t0 (by omega))
  have PF := Lib.hid (fun w => pfirst_no now wd w n0 n1 d0 d1 h)
  go_enter Tryz.func137, Tryz.ntmps137
  go_wp2_with (first | (go_at_call 230; with_reducible refine (PT.out _).mono ?_; rintro e w9 ⟨rfl, h9⟩; obtain rfl := h9.symm) | (go_at_call 160; with_reducible refine (PF.out _).mono ?_; rintro e w9 ⟨rfl, h9⟩; obtain rfl := h9.symm))
  go_ret
  exact ⟨by first | rfl | exact ret_bool (by simp; omega), rfl⟩
theorem plive (now wd t : Int) (w : World) (n0 : 0 ≤ now) (n1 : now ≤ 16777216) (d0 : 1 ≤ wd) (d1 : wd ≤ 1048576) (t0 : 0 ≤ t) (t1 : t ≤ now) : Calls Tryz.prog 137 #[.int .i64 now, .int .i64 wd, .int .i64 t] w fun e w' => e = .returned (.bool (decide (now - wd < t))) ∧ w' = w := by
  by_cases h : 0 ≤ now - wd + 1
  · by_cases hl : now - wd < t
    · rw [decide_eq_true hl]
      exact plive_yes_true now wd t w n0 n1 d0 d1 t0 t1 h hl
    · rw [decide_eq_false hl]
      exact plive_yes_false now wd t w n0 n1 d0 d1 t0 t1 h hl
  · rw [decide_eq_true (by omega)]
    exact plive_no_true now wd t w n0 n1 d0 d1 t0 t1 (by omega) (by omega)
end Go.Proofs.YtdipoojjlddohaaGreat
end
section
/- Whole synopses out of and into memory. -/
set_option linter.unusedVariables false
set_option linter.unusedSimpArgs false
set_option linter.unusedSectionVars false
set_option linter.unnecessarySimpa false
namespace Go.Proofs.YtdipoojjlddohaaGreat
open Go.RowKit
theorem info_syn : (Tryz.prog.info? 58).map (·.size) = some 57 := by kernel_rfl
theorem info_ans : (Tryz.prog.info? 71).map (·.size) = some 11 := by kernel_rfl
theorem heap_setRow_other (w : World) (g : Nat) (cs : Array Value) (b : Nat) (h : b ≠ g) : (w.setRow g cs).heap[b]? = w.heap[b]? := by
  simp only [World.setRow]
  rw [Array.getElem?_modify, if_neg (fun e => h e.symm)]
theorem size_setRow (w : World) (g : Nat) (cs : Array Value) : (w.setRow g cs).heap.size = w.heap.size := by
  simp [World.setRow]
section
variable {w : World} {b g : Nat} {t : TypeId} {old cs cs' : Array Value}
theorem row_setRow (h : Row w b t old) : Row (w.setRow b cs) b t cs := by
  unfold Row at *
  simp only [World.setRow]
  rw [Array.getElem?_modify, if_pos rfl, h]
  rfl
theorem row_setRow_other (h : Row w b t cs) (hne : b ≠ g) : Row (w.setRow g cs') b t cs := (heap_setRow_other w g cs' b hne).trans h
end
theorem all_one {cs : Array Value} (h : cs.toList.all (·.oneCell') = true) : cs.all (·.oneCell') = true :=
  Array.all_eq_true_iff_forall_mem.2 fun v hv => List.all_eq_true.1 h v (Array.mem_toList_iff.2 hv)
section
variable {ops : Array Oper} {rest : List Oper} {o : Oper} {a : Act} {w : World} {Q : Exit → Act → World → Prop} {b : Nat} {cs old : Array Value}
/-- A whole synopsis is read. -/
theorem wpList_lsyn (R : Row w b 58 cs) (hs : cs.size = 57) (hgd : o.guard = none) (x : Operand) (ho : o.op = .load 58 x) (hx : a.eval x = .pointer (some ⟨b, 0, none⟩))
    (h : wpList Tryz.prog ops Q rest (a.put o.dst (.agg cs)) w) : wpList Tryz.prog ops Q (o :: rest) a w :=
  wpList_load_row hgd 58 x ho b hx 58 cs (0, 0) _ R Tryz.underlying58 rfl (by rw [hs]; exact info_syn) h
theorem built_cfg (x0 x1 x2 x3 x4 x5 x6 x7 : Value) : Tryz.prog.built 58 [(0, .agg #[x0, x1, x2, x3, x4, x5, x6, x7])] = some #[x0, x1, x2, x3, x4, x5, x6, x7, .int .i64 0, .int .i64 0, .int .i64 0, .slice none 0 0, .int .i64 0, .int .i64 0, .int .i64 0, .int .i64 0, .slice none 0 0, .int .i64 0, .int .i64 0, .int .i64 0, .int .i64 0, .int .i64 0, .slice none 0 0, .int .i64 0, .int .i64 0, .int .i64 0, .int .i64 0, .int .i64 0, .int .i64 0, .slice none 0 0, .int .i64 0, .int .i64 0, .int .i64 0, .int .i64 0, .int .i64 0, .slice none 0 0, .int .i64 0, .int .i64 0, .int .i64 0, .slice none 0 0, .int .i64 0, .slice none 0 0, .bool false, .int .i64 0, .int .i64 0, .int .i64 0, .slice none 0 0, .slice none 0 0, .int .i64 0, .int .i64 0, .int .i64 0, .slice none 0 0, .int .i64 0, .int .i64 0, .int .i64 0, .int .i64 0, .slice none 0 0] := by kernel_rfl
set_option maxRecDepth 100000 in
/-- A synopsis out of a configuration. -/
theorem wpList_bsyn (x0 x1 x2 x3 x4 x5 x6 x7 : Value) (hgd : o.guard = none) (x : Operand) (ho : o.op = .build 58 #[(0, x)]) (hx : a.eval x = .agg #[x0, x1, x2, x3, x4, x5, x6, x7])
    (h : wpList Tryz.prog ops Q rest (a.put o.dst (.agg #[x0, x1, x2, x3, x4, x5, x6, x7, .int .i64 0, .int .i64 0, .int .i64 0, .slice none 0 0, .int .i64 0, .int .i64 0, .int .i64 0, .int .i64 0, .slice none 0 0, .int .i64 0, .int .i64 0, .int .i64 0, .int .i64 0, .int .i64 0, .slice none 0 0, .int .i64 0, .int .i64 0, .int .i64 0, .int .i64 0, .int .i64 0, .int .i64 0, .slice none 0 0, .int .i64 0, .int .i64 0, .int .i64 0, .int .i64 0, .int .i64 0, .slice none 0 0, .int .i64 0, .int .i64 0, .int .i64 0, .slice none 0 0, .int .i64 0, .slice none 0 0, .bool false, .int .i64 0, .int .i64 0, .int .i64 0, .slice none 0 0, .slice none 0 0, .int .i64 0, .int .i64 0, .int .i64 0, .slice none 0 0, .int .i64 0, .int .i64 0, .int .i64 0, .int .i64 0, .slice none 0 0])) w) : wpList Tryz.prog ops Q (o :: rest) a w := by
  have e : (Tryz.prog.built 58 ((#[(0, x)] : Array (Nat × Operand)).map fun (i, x) => (i, a.eval x)).toList) = some #[x0, x1, x2, x3, x4, x5, x6, x7, .int .i64 0, .int .i64 0, .int .i64 0, .slice none 0 0, .int .i64 0, .int .i64 0, .int .i64 0, .int .i64 0, .slice none 0 0, .int .i64 0, .int .i64 0, .int .i64 0, .int .i64 0, .int .i64 0, .slice none 0 0, .int .i64 0, .int .i64 0, .int .i64 0, .int .i64 0, .int .i64 0, .int .i64 0, .slice none 0 0, .int .i64 0, .int .i64 0, .int .i64 0, .int .i64 0, .int .i64 0, .slice none 0 0, .int .i64 0, .int .i64 0, .int .i64 0, .slice none 0 0, .int .i64 0, .slice none 0 0, .bool false, .int .i64 0, .int .i64 0, .int .i64 0, .slice none 0 0, .slice none 0 0, .int .i64 0, .int .i64 0, .int .i64 0, .slice none 0 0, .int .i64 0, .int .i64 0, .int .i64 0, .int .i64 0, .slice none 0 0] := by
    have e1 : ((#[(0, x)] : Array (Nat × Operand)).map fun (i, x) => (i, a.eval x)).toList = [(0, a.eval x)] := by simp
    rw [e1, hx]
    exact built_cfg x0 x1 x2 x3 x4 x5 x6 x7
  exact wpList_build hgd 58 #[(0, x)] ho (by rw [e]; rfl) (by rw [e]; exact h)
/-- The same at a guarded operation that is wanted. -/
theorem wp_lsyn {K : Act → World → Prop} (R : Row w b 58 cs) (hs : cs.size = 57) (x : Operand) (ho : o.op = .load 58 x) (hx : a.eval x = .pointer (some ⟨b, 0, none⟩))
    (h : K (a.put o.dst (.agg cs)) w) : o.wp Tryz.prog a w K Q :=
  wp_load_row 58 x ho b hx 58 cs (0, 0) _ R Tryz.underlying58 rfl (by rw [hs]; exact info_syn) h
/-- A whole synopsis is read by a guarded operation that is wanted. -/
theorem wpList_lsyn_g (R : Row w b 58 cs) (hs : cs.size = 57) (hw : Region.wanted o (yielded ops a.tmps) = true) (x : Operand) (ho : o.op = .load 58 x) (hx : a.eval x = .pointer (some ⟨b, 0, none⟩))
    (h : wpList Tryz.prog ops Q rest (a.put o.dst (.agg cs)) w) : wpList Tryz.prog ops Q (o :: rest) a w := by
  unfold wpList
  rw [if_pos hw]
  exact .inl (wp_lsyn R hs x ho hx h)
/-- A whole synopsis is laid. -/
theorem wpList_ssyn (R : Row w b 58 old) (hs : old.size = 57) (hc : cs.size = 57) (h1 : cs.all (·.oneCell') = true) (hgd : o.guard = none) (x y : Operand) (ho : o.op = .store 58 x y) (hx : a.eval x = .pointer (some ⟨b, 0, none⟩)) (hy : a.eval y = .agg cs)
    (h : wpList Tryz.prog ops Q rest (a.put o.dst undef) (w.setRow b cs)) : wpList Tryz.prog ops Q (o :: rest) a w :=
  wpList_store_row hgd 58 x y ho b cs hx hy 58 old R (by rw [hc]; exact info_syn) (hs.trans hc.symm) h1 h
/-- The result is a whole synopsis and an error. -/
theorem results_syn {fn : Func} {p q : Tmp} (h : fn.results = #[.cell p 58, .tmp q]) (tmps : Array Value) (R : Row w b 58 cs) (hs : cs.size = 57) (hp : tmps.getD p undef = .pointer (some ⟨b, 0, none⟩)) :
    (results fn tmps).run Tryz.prog w = .ok (.tuple #[.agg cs, tmps.getD q undef]) w := by
  have hl := run_loadVar_row (P := Tryz.prog) w b 58 58 cs (0, 0) _ R Tryz.underlying58 rfl (by rw [hs]; exact info_syn)
  have hp' : tmps[p]?.getD undef = .pointer (some ⟨b, 0, none⟩) := by simpa using hp
  simp [results, h, hp', asAddr, hl]
theorem wpList_lans (R : Row w b 71 cs) (hs : cs.size = 11) (hgd : o.guard = none) (x : Operand) (ho : o.op = .load 71 x) (hx : a.eval x = .pointer (some ⟨b, 0, none⟩))
    (h : wpList Tryz.prog ops Q rest (a.put o.dst (.agg cs)) w) : wpList Tryz.prog ops Q (o :: rest) a w :=
  wpList_load_row hgd 71 x ho b hx 71 cs (0, 0) _ R Tryz.underlying71 rfl (by rw [hs]; exact info_ans) h
theorem wpList_sans (R : Row w b 71 old) (hs : old.size = 11) (hc : cs.size = 11) (h1 : cs.all (·.oneCell') = true) (hgd : o.guard = none) (x y : Operand) (ho : o.op = .store 71 x y) (hx : a.eval x = .pointer (some ⟨b, 0, none⟩)) (hy : a.eval y = .agg cs)
    (h : wpList Tryz.prog ops Q rest (a.put o.dst undef) (w.setRow b cs)) : wpList Tryz.prog ops Q (o :: rest) a w :=
  wpList_store_row hgd 71 x y ho b cs hx hy 71 old R (by rw [hc]; exact info_ans) (hs.trans hc.symm) h1 h
theorem results_ans {fn : Func} {p q : Tmp} (h : fn.results = #[.cell p 71, .tmp q]) (tmps : Array Value) (R : Row w b 71 cs) (hs : cs.size = 11) (hp : tmps.getD p undef = .pointer (some ⟨b, 0, none⟩)) :
    (results fn tmps).run Tryz.prog w = .ok (.tuple #[.agg cs, tmps.getD q undef]) w := by
  have hl := run_loadVar_row (P := Tryz.prog) w b 71 71 cs (0, 0) _ R Tryz.underlying71 rfl (by rw [hs]; exact info_ans)
  have hp' : tmps[p]?.getD undef = .pointer (some ⟨b, 0, none⟩) := by simpa using hp
  simp [results, h, hp', asAddr, hl]
/-- The results are a whole synopsis and two more. -/
theorem results_syn3 {fn : Func} {p q r : Tmp} (h : fn.results = #[.cell p 58, .tmp q, .tmp r]) (tmps : Array Value) (R : Row w b 58 cs) (hs : cs.size = 57) (hp : tmps.getD p undef = .pointer (some ⟨b, 0, none⟩)) :
    (results fn tmps).run Tryz.prog w = .ok (.tuple #[.agg cs, tmps.getD q undef, tmps.getD r undef]) w := by
  have hl := run_loadVar_row (P := Tryz.prog) w b 58 58 cs (0, 0) _ R Tryz.underlying58 rfl (by rw [hs]; exact info_syn)
  have hp' : tmps[p]?.getD undef = .pointer (some ⟨b, 0, none⟩) := by simpa using hp
  simp [results, h, hp', asAddr, hl]
/-- The load of a whole synopsis, run. -/
theorem exec_lsyn {o : Oper} {a : Act} (R : Row w b 58 cs) (hs : cs.size = 57) (x : Operand) (ho : o.op = .load 58 x) (hx : a.eval x = .pointer (some ⟨b, 0, none⟩)) : (execOp a.eval o).run Tryz.prog w = .ok (.value (.agg cs)) w := by
  unfold execOp
  simp only [ho, hx, Instr.loadAt, Instr.sureAddr, Sem.run_bind, Sem.run_pure, Result.andThen_ok, run_loadVar_row w b 58 58 cs (0, 0) _ R Tryz.underlying58 rfl (by rw [hs]; exact info_syn)]
end
/-- What keeps what is known of a state's list: calls, stores elsewhere. -/
structure InOK (IN : Option Addr → Nat → Nat → World → Prop) : Prop where
  below : ∀ {A m c w w'}, IN A m c w → Below w.heap.size w w' → IN A m c w'
  setc : ∀ {A m c w} {p : Addr} (u : Value), IN A m c w → (0 < m → ∀ a, A = some a → p.block ≠ a.block) → IN A m c (w.setCell p u)
  setr : ∀ {A m c w} {g : Nat} (cs : Array Value), IN A m c w → (0 < m → ∀ a, A = some a → g ≠ a.block) → IN A m c (w.setRow g cs)
  blk : ∀ {A m c w}, IN A m c w → 0 < m → ∀ a, A = some a → a.block < w.heap.size
  keep : ∀ {A m c w w'}, IN A m c w → w.heap.size ≤ w'.heap.size → (0 < m → ∀ a, A = some a → w'.heap[a.block]? = w.heap[a.block]?) → IN A m c w'
/-- What a call leaves that answers a state and an error. -/
def GRet (IN : Option Addr → Nat → Nat → World → Prop) (cs : Option Addr → Nat → Nat → Array Value) (er : Int) (Fr : Nat → Prop) (w : World) (e : Ending) (w' : World) : Prop :=
  ∃ (A : Option Addr) (m c : Nat), e = .returned (.tuple #[.agg (cs A m c), .int .i64 er]) ∧ IN A m c w' ∧ Below w.heap.size w w' ∧ (0 < m → ∀ a, A = some a → w.heap.size ≤ a.block ∨ Fr a.block)
theorem reads_keep0 {w w' : World} {size n : Nat} {A : Option Addr} {xs : List Value} (h : Reads w w.heap.size size A n xs) (hs : w'.heap.size = w.heap.size) (hk : 0 < n → ∀ a, A = some a → w'.heap[a.block]? = w.heap[a.block]?) : Reads w' w'.heap.size size A n xs := by
  rw [hs]
  by_cases h0 : 0 < n
  · exact reads_keep h (fun a e _ => hk h0 a e)
  · exact ⟨h.1, fun hn => absurd hn h0⟩
theorem reads_blk {w : World} {B size n : Nat} {A : Option Addr} {xs : List Value} (h : Reads w B size A n xs) (hn : 0 < n) (a : Addr) (e : A = some a) : a.block < B := by
  obtain ⟨ad, e', hb, _⟩ := h.2 hn
  rw [e'] at e
  cases e
  exact hb
theorem reads_keep1 {w w' : World} {size n : Nat} {A : Option Addr} {xs : List Value} (h : Reads w w.heap.size size A n xs) (hs : w.heap.size ≤ w'.heap.size) (hk : 0 < n → ∀ a, A = some a → w'.heap[a.block]? = w.heap[a.block]?) : Reads w' w'.heap.size size A n xs := by
  by_cases h0 : 0 < n
  · exact (reads_keep h (fun a e _ => hk h0 a e)).more hs
  · exact ⟨h.1, fun hn => absurd hn h0⟩
theorem inOK_bk (P : List Bk → Prop) : InOK (fun A m c w => ∃ l, BIn A m c l w ∧ P l) :=
  ⟨fun ⟨l, h, hp⟩ hb => ⟨l, h.below hb, hp⟩,
   fun u ⟨l, h, hp⟩ hne => ⟨l, ⟨reads_keep0 h.reads (size_setCell _ _) (fun h0 a e => Below.heap_setCell _ _ u a.block (fun x => hne h0 a e x.symm)), h.mc, h.cB⟩, hp⟩,
   fun cs ⟨l, h, hp⟩ hne => ⟨l, ⟨reads_keep0 h.reads (size_setRow _ _ _) (fun h0 a e => heap_setRow_other _ _ cs a.block (fun x => hne h0 a e x.symm)), h.mc, h.cB⟩, hp⟩,
   fun ⟨l, h, _⟩ hn a e => reads_blk h.reads hn a e,
   fun ⟨l, h, hp⟩ hs hk => ⟨l, ⟨reads_keep1 h.reads hs hk, h.mc, h.cB⟩, hp⟩⟩
theorem inOK_mk (P : List Mk → Prop) : InOK (fun A m c w => ∃ l, MIn A m c l w ∧ P l) :=
  ⟨fun ⟨l, h, hp⟩ hb => ⟨l, h.below hb, hp⟩,
   fun u ⟨l, h, hp⟩ hne => ⟨l, ⟨reads_keep0 h.reads (size_setCell _ _) (fun h0 a e => Below.heap_setCell _ _ u a.block (fun x => hne h0 a e x.symm)), h.mB, h.mc, h.cB⟩, hp⟩,
   fun cs ⟨l, h, hp⟩ hne => ⟨l, ⟨reads_keep0 h.reads (size_setRow _ _ _) (fun h0 a e => heap_setRow_other _ _ cs a.block (fun x => hne h0 a e x.symm)), h.mB, h.mc, h.cB⟩, hp⟩,
   fun ⟨l, h, _⟩ hn a e => reads_blk h.reads hn a e,
   fun ⟨l, h, hp⟩ hs hk => ⟨l, ⟨reads_keep1 h.reads hs hk, h.mB, h.mc, h.cB⟩, hp⟩⟩
end Go.Proofs.YtdipoojjlddohaaGreat
end
section
/- A law on statements whose order is open and whose last operations wait for all the others: the operations ahead of them are taken in whatever order, a condition S on the world holding behind each of them; the last ones stand in their own order, and S need not outlive them. -/
set_option linter.unusedVariables false
set_option linter.unusedSimpArgs false
set_option linter.unusedSectionVars false
set_option linter.unnecessarySimpa false
namespace Go.Proofs.YtdipoojjlddohaaGreat
open Go.RowKit
section
variable {P : Program} {ops : Array Oper} {md : Region.Mode} {S : World → Prop} {Q : Exit → Act → World → Prop} {n g : Nat} {tail : List Oper}
/-- What is left of the operations ahead, in whatever order; then the last ones. -/
def HeadW (P : Program) (md : Region.Mode) (ops : Array Oper) (S : World → Prop) (Q : Exit → Act → World → Prop) (n g : Nat) (tail : List Oper) : Nat → Array Bool → Act → World → Prop
  | 0, listed, a, w => Region.seqB md ops g n listed = true ∧ wpList P ops Q tail a w
  | f + 1, listed, a, w => Region.ready md ops listed ≠ [] ∧ ∀ i ∈ Region.ready md ops listed, i < n ∧ wpOp P ops Q i (fun a' w' => S w' ∧ HeadW P md ops S Q n g tail f (listed.setIfInBounds i true) a' w') a w
theorem headW_any (hg : tail.length = g) (ht : ∀ j, tail[j]? = ops[n + j]?) : ∀ (f : Nat) (listed : Array Bool) (a : Act) (w : World), HeadW P md ops S Q n g tail f listed a w → wpAny P md ops Q (f + g) listed a w
  | 0, listed, a, w, h => by
    rw [Nat.zero_add]
    subst hg
    exact wpAny_of_seq tail n listed a w ht h.1 h.2
  | f + 1, listed, a, w, h => by
    rw [show f + 1 + g = (f + g) + 1 from by omega]
    exact ⟨fun h0 => absurd h0 h.1, fun i hi => wpOp_mono (fun a' w' h' => headW_any hg ht f _ a' w' h'.2) (h.2 i hi).2⟩
/-- The conditions on the statement. -/
structure PhaseOK (md : Region.Mode) (ops : Array Oper) (n : Nat) : Prop where
  sel : Region.noSelect ops = true
  sink : Region.sinkB md ops n = true
  chain : Region.chainB md ops n = true
  lt : n < ops.size
theorem headW_first (ok : PhaseOK md ops n) {i : Nat} {oi : Oper} {v : Value} (hi : ops[i]? = some oi) (hin : i < n) (hQ : ∀ c a w, Q (.panic c) (a.put oi.dst v) w → Q (.panic c) a w) :
    ∀ (f : Nat) (listed : Array Bool) (a : Act) (w : World), HeadInv md ops n listed →
      (∀ j oj, ops[j]? = some oj → j ≠ i → listed.getD j true = false → (∀ e ∈ oj.after, Region.binds md e = true → e.on ≠ i) → oi.apart ops oj = true) →
      i ∈ Region.ready md ops listed → YieldsIf P ops S oi v a → S w → HeadW P md ops S Q n g tail f (listed.setIfInBounds i true) (a.put oi.dst v) w → HeadW P md ops S Q n g tail (f + 1) listed a w := by
  have hsel := Region.noSelect_spec ok.sel
  intro f
  induction f with
  | zero =>
    intro listed a w inv _ hr hy hS H
    refine ⟨fun h0 => by rw [h0] at hr; exact absurd hr (by simp), fun j hj => ?_⟩
    have hjn : j < n := Nat.lt_of_not_le fun hle => tail_waits ok.sink ok.chain ok.lt inv _ i rfl hin (mem_ready.1 hr).1 j hle hj
    by_cases hji : j = i
    · subst hji
      exact ⟨hjn, hy.wpOp hi hS ⟨hS, H⟩⟩
    · exact absurd (seqB_ready H.1 j (ready_mono hj hji)) (by omega)
  | succ f ih =>
    intro listed a w inv hfree hr hy hS H
    refine ⟨fun h0 => by rw [h0] at hr; exact absurd hr (by simp), fun j hj => ?_⟩
    have hun := (mem_ready.1 hr).1
    have hjn : j < n := Nat.lt_of_not_le fun hle => tail_waits ok.sink ok.chain ok.lt inv _ i rfl hin hun j hle hj
    by_cases hji : j = i
    · subst hji
      exact ⟨hjn, hy.wpOp hi hS ⟨hS, H⟩⟩
    · have h1 := (H.2 j (ready_mono hj hji)).2
      obtain ⟨hjun, oj, hoj, hall⟩ := mem_ready.1 hj
      have hnot : ∀ e ∈ oj.after, Region.binds md e = true → e.on ≠ i := fun e he hb heq => by
        have h1 := hall e he hb
        rw [heq, getD_both hun] at h1
        cases h1
      have h2 := wpOp_putIf hoj (hfree j oj hoj hji hjun hnot) (fun cs b => hsel i oi cs b hi) (fun cs b => hsel j oj cs b hoj) hQ hy h1
      refine ⟨hjn, wpOp_mono (fun a' w' h3 => ⟨h3.2.1, ih (listed.setIfInBounds j true) a' w' (inv.set hj hjn) (fun k ok' hk hki hku hno => ?_) (ready_mono hr (Ne.symm hji)) h3.1 h3.2.1 ?_⟩) h2⟩
      · refine hfree k ok' hk hki ?_ hno
        by_cases hjk : j = k
        · subst hjk
          exact hjun
        · rw [getD_set_ne true hjk] at hku
          exact hku
      · rw [Array.setIfInBounds_comm _ _ hji]
        exact h3.2.2
/-- The same, where what is listed hangs together. -/
def HW (P : Program) (md : Region.Mode) (ops : Array Oper) (S : World → Prop) (Q : Exit → Act → World → Prop) (n g : Nat) (tail : List Oper) (f : Nat) (listed : Array Bool) (a : Act) (w : World) : Prop :=
  HeadInv md ops n listed → HeadW P md ops S Q n g tail f listed a w
variable {f : Nat} {listed : Array Bool} {a : Act} {w : World}
/-- An operation that gives one value in every world that meets S is taken first. -/
theorem hw_take (ok : PhaseOK md ops n) {i : Nat} {oi : Oper} (v : Value) (hi : ops[i]? = some oi) (hin : i < n) (hf : Region.free md ops listed i = true) (hr : (Region.ready md ops listed).contains i = true)
    (hQ : ∀ c a w, Q (.panic c) (a.put oi.dst v) w → Q (.panic c) a w) (hy : YieldsIf P ops S oi v a) (hS : S w) (h : HW P md ops S Q n g tail f (listed.setIfInBounds i true) (a.put oi.dst v) w) : HW P md ops S Q n g tail (f + 1) listed a w := fun inv =>
  have hr' : i ∈ Region.ready md ops listed := by simpa using hr
  headW_first ok hi hin hQ f listed a w inv (Region.free_spec hi hf) hr' hy hS (h (inv.set hr' hin))
/-- One operation alone may come up. -/
theorem hw_one {i : Nat} {oi : Oper} (hi : ops[i]? = some oi) (hin : i < n) (hr : Region.ready md ops listed = [i])
    (h : ∀ K : Act → World → Prop, (∀ a' w', S w' → HW P md ops S Q n g tail f (listed.setIfInBounds i true) a' w' → K a' w') → if Region.wanted oi (yielded ops a.tmps) = true then Oper.wp P oi a w K Q else K (a.put oi.dst undef) w) : HW P md ops S Q n g tail (f + 1) listed a w := fun inv => by
  refine ⟨by rw [hr]; simp, fun j hj => ?_⟩
  have hj' := hj
  rw [hr] at hj
  obtain rfl : j = i := by simpa using hj
  refine ⟨hin, ?_⟩
  have := h (fun a' w' => S w' ∧ HeadW P md ops S Q n g tail f (listed.setIfInBounds j true) a' w') (fun a' w' hS hh => ⟨hS, hh (inv.set hj' hin)⟩)
  unfold wpOp
  simp only [hi]
  split at this
  · rename_i hw
    simp only [hw, if_true]
    exact .inl this
  · rename_i hw
    simp only [hw]
    exact this
theorem hw_done (hB : Region.seqB md ops g n listed = true) (h : wpList P ops Q tail a w) : HW P md ops S Q n g tail 0 listed a w := fun _ => ⟨hB, h⟩
/-- The statement: n operations ahead of those that wait. -/
theorem wp_region_phase {id : Nat} {l : List Oper} (n : Nat) (S : World → Prop) (hm : P.follows .mixedOrders = true) (hsel : Region.noSelect l.toArray = true) (hs : Region.sinkB .any l.toArray n = true) (hc : Region.chainB .any l.toArray n = true) (hn : decide (n < l.toArray.size) = true)
    (h : PhaseOK .any l.toArray n → HW P .any l.toArray S Q n (l.drop n).length (l.drop n) n (Array.replicate l.toArray.size false) a w.drew) : (Code.region id l.toArray true).wp P Q a w := by
  have hn := of_decide_eq_true hn
  refine wp_region_any hm ?_
  have inv0 : HeadInv .any l.toArray n (Array.replicate l.toArray.size false) :=
    ⟨by simp, fun j oj _ hl => (by rw [getD_replicate_false] at hl; cases hl), fun t _ ht => getD_in (by simpa using ht) (getD_replicate_false _ _)⟩
  have H := headW_any (P := P) (S := S) (Q := Q) (md := .any) (ops := l.toArray) (n := n) (tail := l.drop n) rfl (fun j => by simp [List.getElem?_drop]) n _ a _ (h ⟨hsel, hs, hc, hn⟩ inv0)
  have e : n + (l.drop n).length = l.toArray.size := by
    have : n < l.length := by simpa using hn
    simp
    omega
  rw [e] at H
  exact H
end
end Go.Proofs.YtdipoojjlddohaaGreat
end
section
/- Smooth histograms: the aggregate of the live items lies between the bounds, which are narrow; few marks; plain. -/
set_option linter.unusedVariables false
set_option linter.unusedSimpArgs false
set_option linter.unusedSectionVars false
set_option linter.unnecessarySimpa false
namespace Go.Proofs.YtdipoojjlddohaaGreat
def isum : List Itm → Int
  | [] => 0
  | x :: l => x.v + isum l
def isq : List Itm → Int
  | [] => 0
  | x :: l => x.v * x.v + isq l
theorem isum_append : ∀ a b : List Itm, isum (a ++ b) = isum a + isum b
  | [], b => by simp [isum]
  | x :: a, b => by rw [List.cons_append, isum, isum, isum_append a b]; omega
theorem isq_append : ∀ a b : List Itm, isq (a ++ b) = isq a + isq b
  | [], b => by simp [isq]
  | x :: a, b => by rw [List.cons_append, isq, isq, isq_append a b]; omega
def IsMin (l : List Itm) (m : Int) : Prop := (∃ x ∈ l, x.v = m) ∧ ∀ x ∈ l, m ≤ x.v
def IsMax (l : List Itm) (m : Int) : Prop := (∃ x ∈ l, x.v = m) ∧ ∀ x ∈ l, x.v ≤ m
theorem IsMin.unique {l : List Itm} {a b : Int} (h : IsMin l a) (h' : IsMin l b) : a = b := by
  obtain ⟨⟨x, hx, rfl⟩, h2⟩ := h
  obtain ⟨⟨y, hy, rfl⟩, h4⟩ := h'
  have := h2 y hy
  have := h4 x hx
  omega
theorem IsMax.unique {l : List Itm} {a b : Int} (h : IsMax l a) (h' : IsMax l b) : a = b := by
  obtain ⟨⟨x, hx, rfl⟩, h2⟩ := h
  obtain ⟨⟨y, hy, rfl⟩, h4⟩ := h'
  have := h2 y hy
  have := h4 x hx
  omega
theorem IsMin.snoc {l : List Itm} {a : Int} (h : IsMin l a) (x : Itm) : IsMin (l ++ [x]) (min a x.v) := by
  obtain ⟨⟨y, hy, rfl⟩, h2⟩ := h
  refine ⟨?_, fun z hz => ?_⟩
  · rcases Int.le_total y.v x.v with c | c
    · exact ⟨y, by simp [hy], by omega⟩
    · exact ⟨x, by simp, by omega⟩
  · rcases List.mem_append.1 hz with hz | hz
    · have := h2 z hz
      omega
    · obtain rfl : z = x := by simpa using hz
      omega
theorem IsMax.snoc {l : List Itm} {a : Int} (h : IsMax l a) (x : Itm) : IsMax (l ++ [x]) (max a x.v) := by
  obtain ⟨⟨y, hy, rfl⟩, h2⟩ := h
  refine ⟨?_, fun z hz => ?_⟩
  · rcases Int.le_total x.v y.v with c | c
    · exact ⟨y, by simp [hy], by omega⟩
    · exact ⟨x, by simp, by omega⟩
  · rcases List.mem_append.1 hz with hz | hz
    · have := h2 z hz
      omega
    · obtain rfl : z = x := by simpa using hz
      omega
theorem IsMin.one (x : Itm) : IsMin [x] x.v := ⟨⟨x, by simp, rfl⟩, fun z hz => by rw [show z = x from by simpa using hz]; exact Int.le_refl _⟩
theorem IsMax.one (x : Itm) : IsMax [x] x.v := ⟨⟨x, by simp, rfl⟩, fun z hz => by rw [show z = x from by simpa using hz]; exact Int.le_refl _⟩
/-- A mark of items. -/
structure MkIs (m : Mk) (l : List Itm) : Prop where
  n : m.n = l.length
  s : m.s = isum l
  q : m.q = isq l
  lo : IsMin l m.lo
  hi : IsMax l m.hi
theorem MkIs.snoc {m : Mk} {l : List Itm} (h : MkIs m l) (x : Itm) : MkIs (inc x.v m) (l ++ [x]) := by
  refine ⟨?_, ?_, ?_, h.lo.snoc x, h.hi.snoc x⟩
  · show m.n + 1 = _
    rw [h.n]; simp
  · show m.s + x.v = _
    rw [h.s, isum_append]; simp [isum]
  · show m.q + x.v * x.v = _
    rw [h.q, isq_append]; simp [isq]
theorem MkIs.new (seq : Int) (x : Itm) : MkIs (newMk seq x.t x.v) [x] := ⟨by simp [newMk], by simp [newMk, isum], by simp [newMk, isq], IsMin.one x, IsMax.one x⟩
/-- Items in the order of their ticks, up to now. -/
structure Ord (l : List Itm) (now : Int) : Prop where
  up : ∀ i j, i ≤ j → j < l.length → (itmAt l i).t ≤ (itmAt l j).t
  pos : ∀ i, i < l.length → 0 ≤ (itmAt l i).t
  now : ∀ i, i < l.length → (itmAt l i).t ≤ now
theorem Ord.nil (now : Int) : Ord [] now := ⟨fun i j _ h => absurd h (by simp), fun i h => absurd h (by simp), fun i h => absurd h (by simp)⟩
theorem Ord.later {l : List Itm} {now tt9 : Int} (h : Ord l now) (hn : now ≤ tt9) : Ord l tt9 := ⟨h.up, h.pos, fun i hi => by have := h.now i hi; omega⟩
theorem Ord.snoc {l : List Itm} {now v : Int} (h : Ord l now) (hn : 0 ≤ now) : Ord (l ++ [⟨now, v⟩]) now := by
  have key : ∀ i, i < (l ++ [(⟨now, v⟩ : Itm)]).length → (itmAt (l ++ [⟨now, v⟩]) i).t ≤ now ∧ 0 ≤ (itmAt (l ++ [⟨now, v⟩]) i).t := by
    intro i hi
    by_cases c : i < l.length
    · rw [itm_left c]
      exact ⟨h.now i c, h.pos i c⟩
    · obtain rfl : i = l.length := by simp at hi; omega
      rw [itm_last]
      exact ⟨Int.le_refl _, hn⟩
  refine ⟨fun i j hij hj => ?_, fun i hi => (key i hi).2, fun i hi => (key i hi).1⟩
  by_cases c : j < l.length
  · rw [itm_left (by omega), itm_left c]
    exact h.up i j hij c
  · obtain rfl : j = l.length := by simp at hj; omega
    rw [itm_last]
    exact (key i (by simp; omega)).1
/-- The histogram of items: each mark is that of the items from its number on, and what lies ahead of all marks is not live. -/
structure HistOf (l : List Mk) (seq now wd : Int) (its : List Itm) : Prop where
  seq : seq = its.length
  ord : Ord its now
  mks : ∀ m ∈ l, 1 ≤ m.seq ∧ m.seq ≤ its.length ∧ m.t = (itmAt its (m.seq - 1).toNat).t ∧ MkIs m (its.drop (m.seq - 1).toNat)
  gone : ∀ i : Nat, i < its.length → (l ≠ [] → (i : Int) < (mkAt l 0).seq - 1) → (itmAt its i).t ≤ now - wd
theorem hist_nil (now wd : Int) : HistOf [] 0 now wd [] := ⟨rfl, Ord.nil _, fun m h => absurd h (by simp), fun i h => absurd h (by simp)⟩
theorem hist_drop {wd tt9 : Int} {its : List Itm} (ord : Ord its tt9) : ∀ (l : List Mk), (∀ m ∈ l, 1 ≤ m.seq ∧ m.seq ≤ its.length ∧ m.t = (itmAt its (m.seq - 1).toNat).t ∧ MkIs m (its.drop (m.seq - 1).toNat)) → (l ≠ [] → (mkAt l (l.length - 1)).seq = its.length) →
    (∀ i : Nat, i < its.length → (l ≠ [] → (i : Int) < (mkAt l 0).seq - 1) → (itmAt its i).t ≤ tt9 - wd) → ∀ i : Nat, i < its.length → (dropM tt9 wd l ≠ [] → (i : Int) < (mkAt (dropM tt9 wd l) 0).seq - 1) → (itmAt its i).t ≤ tt9 - wd
  | [], _, _, h, i, hi, _ => h i hi (fun h => absurd rfl h)
  | [a], hm, hl, h, i, hi, hd => by
    rw [dropM_one] at hd
    split at hd
    · exact h i hi hd
    · rename_i hlive
      obtain ⟨m1, m2, m3, _⟩ := hm a (by simp)
      have hls := hl (by simp)
      have hls : a.seq = its.length := hls
      have := ord.up i (a.seq - 1).toNat (by omega) (by omega)
      omega
  | a :: b :: r, hm, hl, h, i, hi, hd => by
    rw [dropM_two] at hd
    split at hd
    · exact h i hi hd
    · rename_i hlive
      refine hist_drop ord (b :: r) (fun m hmm => hm m (List.mem_cons_of_mem _ hmm)) (fun _ => ?_) (fun j hj hjb => ?_) i hi hd
      · have := hl (by simp)
        simpa [mkAt_succ] using this
      · obtain ⟨m1, m2, m3, _⟩ := hm b (by simp)
        have hjb := hjb (by simp)
        have hjb : (j : Int) < b.seq - 1 := hjb
        have := ord.up j (b.seq - 1).toNat (by omega) (by omega)
        omega
theorem HistOf.tick {l : List Mk} {seq cap now wd tt9 least : Int} {its : List Itm} (h : HistOf l seq now wd its) (hV : VL l seq cap now wd least) (hn : now ≤ tt9) : HistOf (dropM tt9 wd l) seq tt9 wd its := by
  have s1 := (dropM_spec tt9 wd l).1
  refine ⟨h.seq, h.ord.later hn, fun m hm => h.mks m (s1.subset hm), ?_⟩
  refine hist_drop (h.ord.later hn) l h.mks (fun hne => ?_) (fun i hi hc => ?_)
  · rw [(hV.last hne).1, h.seq]
  · have := h.gone i hi hc
    omega
theorem HistOf.incl {l : List Mk} {seq now wd v : Int} {its : List Itm} (h : HistOf l seq now wd its) (hn : 0 ≤ now) : HistOf (incl l (seq + 1) now v) (seq + 1) now wd (its ++ [⟨now, v⟩]) := by
  have hs := h.seq
  refine ⟨by rw [hs]; simp, h.ord.snoc hn, fun m hm => ?_, fun i hi hc => ?_⟩
  · unfold Proofs.YtdipoojjlddohaaGreat.incl at hm
    rcases List.mem_append.1 hm with hm | hm
    · obtain ⟨m, hm2, rfl⟩ := List.mem_map.1 hm
      obtain ⟨m1, m2, m3, m4⟩ := h.mks m hm2
      refine ⟨m1, by show m.seq ≤ _; simp; omega, ?_, ?_⟩
      · show m.t = (itmAt _ (m.seq - 1).toNat).t
        rw [itm_left (by omega)]
        exact m3
      · show MkIs (inc v m) (List.drop (m.seq - 1).toNat _)
        rw [List.drop_append_of_le_length (by omega)]
        exact m4.snoc ⟨now, v⟩
    · obtain rfl : m = newMk (seq + 1) now v := by simpa using hm
      have e : (newMk (seq + 1) now v).seq = seq + 1 := rfl
      have e2 : ((newMk (seq + 1) now v).seq - 1).toNat = its.length := by rw [e]; omega
      refine ⟨by rw [e]; omega, by rw [e]; simp; omega, ?_, ?_⟩
      · rw [e2, itm_last]
        rfl
      · rw [e2, List.drop_left]
        exact MkIs.new (seq + 1) ⟨now, v⟩
  · have hc := hc (fun e => by have := congrArg List.length e; rw [incl_len] at this; simp at this)
    unfold Proofs.YtdipoojjlddohaaGreat.incl at hc
    cases l with
    | nil =>
      have hc : (i : Int) < seq + 1 - 1 := hc
      rw [itm_left (by omega)]
      exact h.gone i (by omega) (fun e => absurd rfl e)
    | cons a r =>
      have hc : (i : Int) < a.seq - 1 := hc
      have m2 := (h.mks a (by simp)).2.1
      rw [itm_left (by omega)]
      exact h.gone i (by omega) (fun _ => hc)
theorem HistOf.prune {l : List Mk} {seq now wd : Int} {its : List Itm} (h : HistOf l seq now wd its) (near : Mk → Mk → Bool) : HistOf (prune near l) seq now wd its := by
  have sb := prune_sub near _ l (Nat.le_refl _)
  refine ⟨h.seq, h.ord, fun m hm => h.mks m (sb.subset hm), fun i hi hc => h.gone i hi (fun hne => ?_)⟩
  cases l with
  | nil => exact absurd rfl hne
  | cons a r =>
    rw [prune_cons] at hc
    exact hc (by simp)
/-- The items that are live. -/
def liveI (now wd : Int) (its : List Itm) : List Itm := its.filter fun x => decide (now - wd < x.t ∧ x.t ≤ now)
theorem filter_drop {f : Itm → Bool} : ∀ (l : List Itm) (p : Nat), p ≤ l.length → (∀ i, i < p → f (itmAt l i) = false) → (∀ i, p ≤ i → i < l.length → f (itmAt l i) = true) → l.filter f = l.drop p
  | [], p, hp, _, _ => by simp
  | x :: l, 0, _, _, h2 => by
    have hx : f x = true := h2 0 (Nat.le_refl _) (by simp)
    have ih := filter_drop l 0 (by omega) (fun i h => absurd h (by omega)) (fun i _ hi => h2 (i + 1) (by omega) (by simpa using hi))
    rw [List.filter_cons, if_pos hx, ih]
    simp
  | x :: l, p + 1, hp, h1, h2 => by
    have hx : f x = false := h1 0 (by omega)
    have ih := filter_drop l p (by simpa using hp) (fun i h => h1 (i + 1) (by omega)) (fun i h hi => h2 (i + 1) (by omega) (by simpa using hi))
    rw [List.filter_cons, if_neg (by rw [hx]; simp), ih]
    simp
theorem first_live {f : Nat → Bool} (n : Nat) (hm : ∀ i j, i ≤ j → j < n → f i = true → f j = true) : ∃ p, p ≤ n ∧ (∀ i, i < p → f i = false) ∧ ∀ i, p ≤ i → i < n → f i = true := by
  induction n with
  | zero => exact ⟨0, Nat.le_refl _, fun i h => absurd h (by omega), fun i _ h => absurd h (by omega)⟩
  | succ n ih =>
    obtain ⟨p, h1, h2, h3⟩ := ih (fun i j a b c => hm i j a (by omega) c)
    by_cases c : p < n
    · exact ⟨p, by omega, h2, fun i a b => by
        by_cases d : i < n
        · exact h3 i a d
        · obtain rfl : i = n := by omega
          exact hm p i a (by omega) (h3 p (Nat.le_refl _) c)⟩
    · obtain rfl : p = n := by omega
      cases hf : f p with
      | true => exact ⟨p, by omega, h2, fun i a b => by rw [show i = p by omega]; exact hf⟩
      | false => exact ⟨p + 1, by omega, fun i a => by
          by_cases d : i < p
          · exact h2 i d
          · rw [show i = p by omega]
            exact hf, fun i a b => absurd a (by omega)⟩
/-- The live items are a rear part. -/
theorem live_drop {now wd : Int} {its : List Itm} (h : Ord its now) : ∃ p, p ≤ its.length ∧ liveI now wd its = its.drop p ∧ (∀ i, i < p → ¬ now - wd < (itmAt its i).t) ∧ ∀ i, p ≤ i → i < its.length → now - wd < (itmAt its i).t := by
  obtain ⟨p, h1, h2, h3⟩ := first_live (f := fun i => decide (now - wd < (itmAt its i).t)) its.length (fun i j a b c => by
    have c := of_decide_eq_true c
    have := h.up i j a b
    exact decide_eq_true (by omega))
  have h2' : ∀ i, i < p → ¬ now - wd < (itmAt its i).t := fun i hi => of_decide_eq_false (h2 i hi)
  have h3' : ∀ i, p ≤ i → i < its.length → now - wd < (itmAt its i).t := fun i a b => of_decide_eq_true (h3 i a b)
  refine ⟨p, h1, ?_, h2', h3'⟩
  unfold liveI
  exact filter_drop its p h1 (fun i hi => decide_eq_false (fun a => h2' i hi a.1)) (fun i a b => decide_eq_true ⟨h3' i a b, h.now i b⟩)
/-- An aggregate of items. -/
def AggIs (agg : Int) (l : List Itm) (n : Int) : Prop :=
  (agg = 1 → n = l.length) ∧ (agg = 2 → n = isum l) ∧ (agg = 3 → n = isq l) ∧ (agg = 4 → (l = [] ∧ n = 0) ∨ ∃ lo hi, IsMin l lo ∧ IsMax l hi ∧ n = hi - lo)
theorem agg_nil {agg n : Int} (ha : 1 ≤ agg ∧ agg ≤ 4) (h : AggIs agg [] n) : n = 0 := by
  obtain ⟨h1, h2, h3, h4⟩ := h
  have c : agg = 1 ∨ agg = 2 ∨ agg = 3 ∨ agg = 4 := by omega
  rcases c with c | c | c | c
  · simpa using h1 c
  · simpa [isum] using h2 c
  · simpa [isq] using h3 c
  · rcases h4 c with ⟨_, h⟩ | ⟨_, _, ⟨⟨x, hx, _⟩, _⟩, _⟩
    · exact h
    · simp at hx
theorem agg_mk {agg n : Int} {m : Mk} {l : List Itm} (ha : 1 ≤ agg ∧ agg ≤ 4) (hm : MkIs m l) (hb : -4096 ≤ m.lo ∧ m.hi ≤ 4096 ∧ m.lo ≤ m.hi) (h : AggIs agg l n) : ofV agg m = n := by
  obtain ⟨h1, h2, h3, h4⟩ := h
  have c : agg = 1 ∨ agg = 2 ∨ agg = 3 ∨ agg = 4 := by omega
  rcases c with c | c | c | c
  · have := h1 c
    subst c
    rw [this, ← hm.n]; simp [ofV]
  · have := h2 c
    subst c
    rw [this, ← hm.s]; simp [ofV]
  · have := h3 c
    subst c
    rw [this, ← hm.q]; simp [ofV]
  · have h5 := h4 c
    clear h4 h1 h2 h3
    subst c
    rcases h5 with ⟨e, _⟩ | ⟨lo, hi, a, b, e⟩
    · obtain ⟨⟨x, hx, _⟩, _⟩ := hm.lo
      rw [e] at hx
      simp at hx
    · have e1 := a.unique hm.lo
      have e2 := b.unique hm.hi
      simp only [ofV]
      simp
      omega
/-- Values that a law plays with. -/
def ValsOK (agg : Int) (l : List Itm) : Prop := ∀ x ∈ l, leastV agg ≤ x.v ∧ x.v ≤ 4096
theorem isum_nonneg : ∀ l : List Itm, (∀ x ∈ l, 0 ≤ x.v) → 0 ≤ isum l
  | [], _ => Int.le_refl _
  | x :: l, h => by
    rw [isum]
    have := h x (by simp)
    have := isum_nonneg l (fun y hy => h y (by simp [hy]))
    omega
theorem isq_nonneg : ∀ l : List Itm, 0 ≤ isq l
  | [] => Int.le_refl _
  | x :: l => by
    rw [isq]
    have := sq_nonneg x.v
    have := isq_nonneg l
    omega
/-- An aggregate of a rear part is at most that of the whole. -/
theorem agg_mono {agg n n' : Int} {a b : List Itm} (ha : 1 ≤ agg ∧ agg ≤ 4) (hv : ValsOK agg a) (h : AggIs agg b n) (h' : AggIs agg (a ++ b) n') : n ≤ n' := by
  obtain ⟨h1, h2, h3, h4⟩ := h
  obtain ⟨g1, g2, g3, g4⟩ := h'
  have c : agg = 1 ∨ agg = 2 ∨ agg = 3 ∨ agg = 4 := by omega
  rcases c with c | c | c | c
  · have e1 := h1 c
    have e2 := g1 c
    rw [List.length_append] at e2
    omega
  · have e1 := h2 c
    have e2 := g2 c
    rw [isum_append] at e2
    have := isum_nonneg a (fun x hx => by have := (hv x hx).1; unfold leastV at this; rw [if_pos (.inl c)] at this; exact this)
    omega
  · have e1 := h3 c
    have e2 := g3 c
    rw [isq_append] at e2
    have := isq_nonneg a
    omega
  · rcases h4 c with ⟨e, e0⟩ | ⟨lo, hi, p1, p2, e⟩
    · rcases g4 c with ⟨_, f0⟩ | ⟨lo', hi', ⟨⟨x, hx, hxe⟩, _⟩, ⟨_, q2⟩, f⟩
      · omega
      · have := q2 x hx
        omega
    · rcases g4 c with ⟨f, _⟩ | ⟨lo', hi', ⟨_, q1⟩, ⟨_, q2⟩, f⟩
      · obtain ⟨⟨x, hx, _⟩, _⟩ := p1
        have : x ∈ a ++ b := by simp [hx]
        rw [f] at this
        simp at this
      · obtain ⟨⟨x, hx, ex⟩, _⟩ := p1
        obtain ⟨⟨y, hy, ey⟩, _⟩ := p2
        have := q1 x (by simp [hx])
        have := q2 y (by simp [hy])
        omega
/-- The bounds of an answer. -/
def askLo (agg now wd : Int) (l : List Mk) : Int :=
  if l = [] then 0 else if now - wd < (mkAt l 0).t then ofV agg (mkAt l 0) else ofV agg (mkAt l 1)
def askHi (agg now wd : Int) (l : List Mk) : Int :=
  if l = [] then 0 else if now - wd < (mkAt l 0).t then ofV agg (mkAt l 0) else if (mkAt l 1).seq = (mkAt l 0).seq + 1 then ofV agg (mkAt l 1) else ofV agg (mkAt l 0)
theorem askLo_nil {agg now wd : Int} : askLo agg now wd [] = 0 := by unfold askLo; rw [if_pos rfl]
theorem askHi_nil {agg now wd : Int} : askHi agg now wd [] = 0 := by unfold askHi; rw [if_pos rfl]
theorem askLo_cons {agg now wd : Int} (a : Mk) (r : List Mk) : askLo agg now wd (a :: r) = if now - wd < a.t then ofV agg a else ofV agg (mkAt r 0) := by
  unfold askLo
  rw [if_neg (List.cons_ne_nil _ _)]
  rfl
theorem askHi_cons {agg now wd : Int} (a : Mk) (r : List Mk) : askHi agg now wd (a :: r) = if now - wd < a.t then ofV agg a else if (mkAt r 0).seq = a.seq + 1 then ofV agg (mkAt r 0) else ofV agg a := by
  unfold askHi
  rw [if_neg (List.cons_ne_nil _ _)]
  rfl
theorem agg_some (agg : Int) (l : List Itm) : ∃ n, AggIs agg l n := by
  by_cases c : agg = 4
  · have ex : ∀ l : List Itm, l = [] ∨ ∃ lo hi, IsMin l lo ∧ IsMax l hi := by
      intro l
      induction l with
      | nil => exact .inl rfl
      | cons x l ih =>
        right
        rcases ih with rfl | ⟨lo, hi, ⟨⟨y, hy, ey⟩, a⟩, ⟨⟨z, hz, ez⟩, b⟩⟩
        · exact ⟨x.v, x.v, IsMin.one x, IsMax.one x⟩
        · refine ⟨min x.v lo, max x.v hi, ⟨?_, ?_⟩, ?_, ?_⟩
          · rcases Int.le_total x.v lo with c | c
            · exact ⟨x, by simp, by omega⟩
            · exact ⟨y, by simp [hy], by omega⟩
          · intro u hu
            rcases List.mem_cons.1 hu with rfl | hu
            · omega
            · have := a u hu; omega
          · rcases Int.le_total hi x.v with c | c
            · exact ⟨x, by simp, by omega⟩
            · exact ⟨z, by simp [hz], by omega⟩
          · intro u hu
            rcases List.mem_cons.1 hu with rfl | hu
            · omega
            · have := b u hu; omega
    rcases ex l with e | ⟨lo, hi, a, b⟩
    · exact ⟨0, fun h => by omega, fun h => by omega, fun h => by omega, fun _ => .inl ⟨e, rfl⟩⟩
    · exact ⟨hi - lo, fun h => by omega, fun h => by omega, fun h => by omega, fun _ => .inr ⟨lo, hi, a, b, rfl⟩⟩
  · exact ⟨if agg = 1 then l.length else if agg = 2 then isum l else isq l, fun h => by rw [if_pos h], fun h => by rw [if_neg (by omega), if_pos h], fun h => by rw [if_neg (by omega), if_neg (by omega)], fun h => absurd h c⟩
/-- The answer of a histogram of items. -/
theorem ask_true {agg wd k cap now seq n : Int} {l : List Mk} {its : List Itm} (hv : smValid agg wd k cap now seq l) (h : HistOf l seq now wd its) (hok : ValsOK agg its) (hn : AggIs agg (liveI now wd its) n) :
    askLo agg now wd l ≤ n ∧ n ≤ askHi agg now wd l ∧ k * (askHi agg now wd l - askLo agg now wd l) ≤ n := by
  obtain ⟨⟨ha, g2, g3, g4, g5, g6, g7, g8, g9⟩, hm, hs⟩ := hv
  obtain ⟨hq, hV⟩ := mvalid_iff.1 hm
  obtain ⟨far, gap⟩ := smAt_iff.1 hs
  obtain ⟨p, hp, el, lt, ge⟩ := live_drop (wd := wd) h.ord
  rw [el] at hn
  have n0 : ∀ {x : Int} {l : List Itm}, ValsOK agg l → AggIs agg l x → 0 ≤ x := fun {x l} hl hx => by
    have := agg_mono (a := l) (b := []) (n := 0) (n' := x) ha hl ⟨fun _ => rfl, fun _ => rfl, fun _ => rfl, fun _ => .inl ⟨rfl, rfl⟩⟩ (by simpa using hx)
    exact this
  have vd : ∀ q, ValsOK agg (its.drop q) := fun q x hx => hok x (List.mem_of_mem_drop hx)
  have bd : ∀ m ∈ l, -4096 ≤ m.lo ∧ m.hi ≤ 4096 ∧ m.lo ≤ m.hi := fun m hmm => by
    have := hV.one m hmm
    have lg := leastV_ge agg
    exact ⟨by have := this.2.2.2.2.2.2.1; omega, this.2.2.2.2.2.2.2.1, this.2.2.2.2.2.2.2.2.1⟩
  cases l with
  | nil =>
    rw [askLo_nil, askHi_nil]
    have : p = its.length := by
      rcases Nat.lt_or_ge p its.length with c | c
      · have := h.gone p c (fun e => absurd rfl e)
        have := ge p (Nat.le_refl _) c
        omega
      · omega
    subst this
    rw [List.drop_length] at hn
    have := agg_nil ha hn
    subst this
    omega
  | cons a r =>
    obtain ⟨a1, a2, a3, a4⟩ := h.mks a (by simp)
    have hgone : ∀ i : Nat, i < its.length → (i : Int) < a.seq - 1 → (itmAt its i).t ≤ now - wd := fun i hi hc => h.gone i hi (fun _ => hc)
    rw [askLo_cons, askHi_cons]
    have pa : (a.seq - 1).toNat ≤ p := by
      rcases Nat.lt_or_ge p (a.seq - 1).toNat with c | c
      · have := hgone p (by omega) (by omega)
        have := ge p (Nat.le_refl _) (by omega)
        omega
      · exact c
    by_cases hl : now - wd < a.t
    · rw [if_pos hl, if_pos hl]
      have ep : p = (a.seq - 1).toNat := by
        rcases Nat.lt_or_ge (a.seq - 1).toNat p with c | c
        · exact absurd hl (by rw [a3]; exact lt _ c)
        · omega
      rw [ep] at hn
      have e := agg_mk ha a4 (bd a (by simp)) hn
      have := n0 (vd _) hn
      rw [e, Int.sub_self, Int.mul_zero]
      omega
    · rw [if_neg hl, if_neg hl]
      cases r with
      | nil => exact absurd (hV.alone a rfl) hl
      | cons b r =>
        rw [mkAt_zero]
        obtain ⟨b1, b2, b3, b4⟩ := h.mks b (by simp)
        have hbl : now - wd < b.t := hV.live b (by simp)
        have pb : p ≤ (b.seq - 1).toNat := by
          rcases Nat.lt_or_ge (b.seq - 1).toNat p with c | c
          · exact absurd hbl (by rw [b3]; exact lt _ c)
          · exact c
        have pa2 : (a.seq - 1).toNat < p := by
          rcases Nat.lt_or_ge (a.seq - 1).toNat p with c | c
          · exact c
          · have := ge (a.seq - 1).toNat c (by omega)
            rw [← a3] at this
            exact absurd this hl
        obtain ⟨nb, hnb⟩ := agg_some agg (its.drop (b.seq - 1).toNat)
        obtain ⟨na, hna⟩ := agg_some agg (its.drop (a.seq - 1).toNat)
        have eb := agg_mk ha b4 (bd b (by simp)) hnb
        have ea := agg_mk ha a4 (bd a (by simp)) hna
        have split : ∀ i j, i ≤ j → its.drop i = (its.drop i).take (j - i) ++ its.drop j := fun i j hij => by
          rw [show its.drop j = (its.drop i).drop (j - i) by rw [List.drop_drop]; congr 1; omega, List.take_append_drop]
        have m1 : nb ≤ n := by
          rw [split p _ pb] at hn
          exact agg_mono ha (fun x hx => vd p x (List.mem_of_mem_take hx)) hnb hn
        have m2 : n ≤ na := by
          rw [split _ p pa] at hna
          exact agg_mono ha (fun x hx => vd (a.seq - 1).toNat x (List.mem_of_mem_take hx)) hn hna
        have hnn := n0 (vd _) hn
        rw [eb, ea]
        by_cases hsq : b.seq = a.seq + 1
        · rw [if_pos hsq]
          have ep : p = (b.seq - 1).toNat := by omega
          rw [ep] at hn
          have e := agg_mk ha b4 (bd b (by simp)) hn
          rw [eb] at e
          rw [Int.sub_self, Int.mul_zero]
          omega
        · rw [if_neg hsq]
          have tw : twoP a b := List.rel_of_pairwise_cons hV.two (by simp)
          have hne := gap 0 (by simp) (by rw [mkAt_succ, mkAt_zero, mkAt_zero]; have := tw.1; omega)
          rw [mkAt_succ, mkAt_zero, mkAt_zero] at hne
          unfold nearP at hne
          rw [ea, eb, Int.add_mul, Int.one_mul] at hne
          rw [Int.mul_sub]
          omega
theorem ask_le {agg wd k cap now seq : Int} {l : List Mk} (hv : smValid agg wd k cap now seq l) : 0 ≤ askLo agg now wd l ∧ askLo agg now wd l ≤ askHi agg now wd l ∧ askHi agg now wd l ≤ 1099511627776 := by
  obtain ⟨⟨ha, g2, g3, g4, g5, g6, g7, g8, g9⟩, hm, _⟩ := hv
  obtain ⟨hq, hV⟩ := mvalid_iff.1 hm
  cases l with
  | nil => rw [askLo_nil, askHi_nil]; omega
  | cons a r =>
    have oa := ofV_bound (hV.one a (by simp)) (by omega)
    rw [askLo_cons, askHi_cons]
    by_cases hl : now - wd < a.t
    · rw [if_pos hl, if_pos hl]
      omega
    · rw [if_neg hl, if_neg hl]
      cases r with
      | nil => exact absurd (hV.alone a rfl) hl
      | cons b r =>
        rw [mkAt_zero]
        have ob := ofV_bound (hV.one b (by simp)) (by omega)
        have tw : twoP a b := List.rel_of_pairwise_cons hV.two (by simp)
        split
        · omega
        · have hab : ofV agg b ≤ ofV agg a := by
            obtain ⟨t1, t2, t3, t4, p1, p2, p3, p4, p5⟩ := tw
            have e1 := (hV.one a (by simp)).2.2.1
            have e2 := (hV.one b (by simp)).2.2.1
            have a7 := (hV.one a (by simp)).2.2.2.2.2.2.1
            have a8 := (hV.one a (by simp)).2.2.2.2.2.2.2.1
            have a9 := (hV.one a (by simp)).2.2.2.2.2.2.2.2.1
            have b9 := (hV.one b (by simp)).2.2.2.2.2.2.2.2.1
            have lg := leastV_ge agg
            have c : agg = 1 ∨ agg = 2 ∨ agg = 3 ∨ agg = 4 := by omega
            rcases c with c | c | c | c
            · subst c; simp [ofV]; omega
            · subst c
              have hl0 : leastV 2 = 0 := by decide
              have : 0 ≤ (a.n - b.n) * a.lo := Int.mul_nonneg (by omega) (by omega)
              simp [ofV]; omega
            · subst c; simp [ofV]; omega
            · subst c; simp only [ofV]; simp; omega
          omega
/-- The greatest aggregate. -/
def topF (agg cap : Int) : Int := if agg = 2 then cap * 4096 else if agg = 3 then cap * 16777216 else if agg = 4 then 8192 else cap
def mostS (agg k cap : Int) : Int := if (1 ≤ agg ∧ agg ≤ 4) ∧ 1 ≤ k ∧ k ≤ 64 ∧ 1 ≤ cap ∧ cap ≤ 65536 then 2 * k * (Lib.bitLen (topF agg cap).toNat : Nat) + 2 else 0
end Go.Proofs.YtdipoojjlddohaaGreat
end
section
/- A stream is played into a synopsis of any kind that takes every item: the top's run, walked. -/
set_option linter.unusedVariables false
set_option linter.unusedSimpArgs false
set_option linter.unusedSectionVars false
set_option linter.unnecessarySimpa false
namespace Go.Proofs.YtdipoojjlddohaaGreat
open Go.RowKit
/-- The tick behind the first items. -/
def nowK (l : List Itm) (k : Nat) : Int := if k = 0 then 0 else (itmAt l (k - 1)).t
theorem orow_ne_row {w : World} {base size n b : Nat} {e t : TypeId} {v : Value} {xs : List Value} {cs : Array Value} (h : w.ownsRow base e size v n xs) (h2 : Row w b t cs) (hne : e ≠ t) : v.ownBlock ≠ some b := by
  rcases h.2 with ⟨rfl, _⟩ | ⟨g, cap, cur, rfl, _, hg, _⟩
  · simp [Value.ownBlock]
  · intro he
    have e9 : g = b := Option.some.inj he
    subst e9
    unfold Row at h2
    rw [hg] at h2
    simp at h2
    exact hne h2.2
/-- What is known of a kind of synopses that takes every item. -/
structure KindOK (cfg : Array Value) (IN : List Itm → Int → Option Addr → Nat → Nat → World → Prop) (csf : List Itm → Int → Option Addr → Nat → Nat → Array Value) (okv : Int → Prop) (N : Nat) : Prop where
  inok : ∀ ad now, InOK (IN ad now)
  size : ∀ ad now A m c, (csf ad now A m c).size = 57
  one : ∀ ad now A m c, (csf ad now A m c).all (·.oneCell') = true
  new : ∀ w, Calls Tryz.prog 37 #[.agg cfg, .int .i64 0] w (GRet (IN [] 0) (csf [] 0) 0 (fun _ => False) w)
  adv : ∀ ad now tt A m c w, IN ad now A m c w → now ≤ tt → tt ≤ 16777216 → Calls Tryz.prog 21 #[.agg (csf ad now A m c), .int .i64 tt] w (GRet (IN ad tt) (csf ad tt) 0 (fun b => 0 < m ∧ ∃ a, A = some a ∧ a.block = b) w)
  add : ∀ ad now v A m c w, IN ad now A m c w → ad.length < N → okv v → Calls Tryz.prog 38 #[.agg (csf ad now A m c), .int .i64 v, .slice none 0 0] w (GRet (IN (ad ++ [⟨now, v⟩]) now) (csf (ad ++ [⟨now, v⟩]) now) 0 (fun b => 0 < m ∧ ∃ a, A = some a ∧ a.block = b) w)
/-- What the run leaves. -/
def RunRet (IN : List Itm → Int → Option Addr → Nat → Nat → World → Prop) (csf : List Itm → Int → Option Addr → Nat → Nat → Array Value) (l : List Itm) (w : World) (e : Ending) (w' : World) : Prop :=
  ∃ (A : Option Addr) (m c : Nat) (v : Value), e = .returned (.tuple #[.agg (csf l (nowK l l.length) A m c), v, .bool true]) ∧ IN l (nowK l l.length) A m c w' ∧ w'.ownsRow w.heap.size 90 2 v l.length (icells l) ∧ Below w.heap.size w w'
set_option maxRecDepth 100000 in
set_option maxHeartbeats 8000000 in
theorem prun (x0 x1 x2 x3 x4 x5 x6 x7 : Value) (IN : List Itm → Int → Option Addr → Nat → Nat → World → Prop) (csf : List Itm → Int → Option Addr → Nat → Nat → Array Value) (okv : Int → Prop) (N : Nat) (HK : RowKit.Hid (KindOK #[x0, x1, x2, x3, x4, x5, x6, x7] IN csf okv N)) (A0 : Option Addr) (n c0 : Nat) (l : List Itm) (w : World) (hin : Reads w w.heap.size 2 A0 n (icells l)) (hn : n ≤ 100000) (hN : n ≤ N)
    (hT : ∀ i, i < n → nowK l i ≤ (itmAt l i).t ∧ (itmAt l i).t ≤ 16777216 ∧ okv (itmAt l i).v) : Calls Tryz.prog 11 #[.agg #[x0, x1, x2, x3, x4, x5, x6, x7], .slice A0 n c0] w (RunRet IN csf l w) := by
  obtain ⟨ii, hii, iz0, iz1, iz2⟩ := info_parts info_itm
  have HR := Lib.hid hin
  have HL := Lib.hid hin.itm_len
  have HT := Lib.hid hT
  clear hin hT
  go_enter Tryz.func11, Tryz.ntmps11
  go_upto_region 1 with (fail)
  have X : Row ((w.alloc (.cells #[x0, x1, x2, x3, x4, x5, x6, x7] 27)).alloc (.cells #[.int .i64 0, .int .i64 0, .int .i64 0, .int .i64 0, .int .i64 0, .int .i64 0, .int .i64 0, .int .i64 0, .int .i64 0, .int .i64 0, .int .i64 0, .slice none 0 0, .int .i64 0, .int .i64 0, .int .i64 0, .int .i64 0, .slice none 0 0, .int .i64 0, .int .i64 0, .int .i64 0, .int .i64 0, .int .i64 0, .slice none 0 0, .int .i64 0, .int .i64 0, .int .i64 0, .int .i64 0, .int .i64 0, .int .i64 0, .slice none 0 0, .int .i64 0, .int .i64 0, .int .i64 0, .int .i64 0, .int .i64 0, .slice none 0 0, .int .i64 0, .int .i64 0, .int .i64 0, .slice none 0 0, .int .i64 0, .slice none 0 0, .bool false, .int .i64 0, .int .i64 0, .int .i64 0, .slice none 0 0, .slice none 0 0, .int .i64 0, .int .i64 0, .int .i64 0, .slice none 0 0, .int .i64 0, .int .i64 0, .int .i64 0, .int .i64 0, .slice none 0 0] 58)) (w.heap.size) 27 #[x0, x1, x2, x3, x4, x5, x6, x7] := row_alloc (row_new rfl) _
  have R : Row ((w.alloc (.cells #[x0, x1, x2, x3, x4, x5, x6, x7] 27)).alloc (.cells #[.int .i64 0, .int .i64 0, .int .i64 0, .int .i64 0, .int .i64 0, .int .i64 0, .int .i64 0, .int .i64 0, .int .i64 0, .int .i64 0, .int .i64 0, .slice none 0 0, .int .i64 0, .int .i64 0, .int .i64 0, .int .i64 0, .slice none 0 0, .int .i64 0, .int .i64 0, .int .i64 0, .int .i64 0, .int .i64 0, .slice none 0 0, .int .i64 0, .int .i64 0, .int .i64 0, .int .i64 0, .int .i64 0, .int .i64 0, .slice none 0 0, .int .i64 0, .int .i64 0, .int .i64 0, .int .i64 0, .int .i64 0, .slice none 0 0, .int .i64 0, .int .i64 0, .int .i64 0, .slice none 0 0, .int .i64 0, .slice none 0 0, .bool false, .int .i64 0, .int .i64 0, .int .i64 0, .slice none 0 0, .slice none 0 0, .int .i64 0, .int .i64 0, .int .i64 0, .slice none 0 0, .int .i64 0, .int .i64 0, .int .i64 0, .int .i64 0, .slice none 0 0] 58)) (w.heap.size + 1) 58 #[.int .i64 0, .int .i64 0, .int .i64 0, .int .i64 0, .int .i64 0, .int .i64 0, .int .i64 0, .int .i64 0, .int .i64 0, .int .i64 0, .int .i64 0, .slice none 0 0, .int .i64 0, .int .i64 0, .int .i64 0, .int .i64 0, .slice none 0 0, .int .i64 0, .int .i64 0, .int .i64 0, .int .i64 0, .int .i64 0, .slice none 0 0, .int .i64 0, .int .i64 0, .int .i64 0, .int .i64 0, .int .i64 0, .int .i64 0, .slice none 0 0, .int .i64 0, .int .i64 0, .int .i64 0, .int .i64 0, .int .i64 0, .slice none 0 0, .int .i64 0, .int .i64 0, .int .i64 0, .slice none 0 0, .int .i64 0, .slice none 0 0, .bool false, .int .i64 0, .int .i64 0, .int .i64 0, .slice none 0 0, .slice none 0 0, .int .i64 0, .int .i64 0, .int .i64 0, .slice none 0 0, .int .i64 0, .int .i64 0, .int .i64 0, .int .i64 0, .slice none 0 0] := row_new (by simp)
  have o : Below w.heap.size w ((w.alloc (.cells #[x0, x1, x2, x3, x4, x5, x6, x7] 27)).alloc (.cells #[.int .i64 0, .int .i64 0, .int .i64 0, .int .i64 0, .int .i64 0, .int .i64 0, .int .i64 0, .int .i64 0, .int .i64 0, .int .i64 0, .int .i64 0, .slice none 0 0, .int .i64 0, .int .i64 0, .int .i64 0, .int .i64 0, .slice none 0 0, .int .i64 0, .int .i64 0, .int .i64 0, .int .i64 0, .int .i64 0, .slice none 0 0, .int .i64 0, .int .i64 0, .int .i64 0, .int .i64 0, .int .i64 0, .int .i64 0, .slice none 0 0, .int .i64 0, .int .i64 0, .int .i64 0, .int .i64 0, .int .i64 0, .slice none 0 0, .int .i64 0, .int .i64 0, .int .i64 0, .slice none 0 0, .int .i64 0, .slice none 0 0, .bool false, .int .i64 0, .int .i64 0, .int .i64 0, .slice none 0 0, .slice none 0 0, .int .i64 0, .int .i64 0, .int .i64 0, .slice none 0 0, .int .i64 0, .int .i64 0, .int .i64 0, .int .i64 0, .slice none 0 0] 58)) := by (repeat (first | exact Below.refl _ _ | refine Below.setCell ?_ (by first | (simp; done) | (simp; omega) | omega) _ | refine Below.alloc ?_ (by first | (simp; done) | (simp; omega) | omega) _ | refine Below.drew ?_ | refine Below.trans ?_ (Below.mono (by assumption) (by first | (simp; done) | (simp; omega) | omega))))
  obtain ⟨w1, hw1⟩ : ∃ x, x = ((w.alloc (.cells #[x0, x1, x2, x3, x4, x5, x6, x7] 27)).alloc (.cells #[.int .i64 0, .int .i64 0, .int .i64 0, .int .i64 0, .int .i64 0, .int .i64 0, .int .i64 0, .int .i64 0, .int .i64 0, .int .i64 0, .int .i64 0, .slice none 0 0, .int .i64 0, .int .i64 0, .int .i64 0, .int .i64 0, .slice none 0 0, .int .i64 0, .int .i64 0, .int .i64 0, .int .i64 0, .int .i64 0, .slice none 0 0, .int .i64 0, .int .i64 0, .int .i64 0, .int .i64 0, .int .i64 0, .int .i64 0, .slice none 0 0, .int .i64 0, .int .i64 0, .int .i64 0, .int .i64 0, .int .i64 0, .slice none 0 0, .int .i64 0, .int .i64 0, .int .i64 0, .slice none 0 0, .int .i64 0, .slice none 0 0, .bool false, .int .i64 0, .int .i64 0, .int .i64 0, .slice none 0 0, .slice none 0 0, .int .i64 0, .int .i64 0, .int .i64 0, .slice none 0 0, .int .i64 0, .int .i64 0, .int .i64 0, .int .i64 0, .slice none 0 0] 58)) := ⟨_, rfl⟩
  rw [← hw1] at X R o ⊢
  clear hw1
  obtain ⟨X0, X1, X2, X3, X4, X5, X6, X7, Xf0, Xf1, Xf2, Xf3, Xf4, Xf5, Xf6, Xf7⟩ := row_eight X
  go_wp2_with fail
  refine (HK.out.new _).mono ?_
  rintro e w2 ⟨A1, m1, c1, rfl, in1, hb, fr0⟩
  have zr0 := row_lt R
  replace R := row_call R hb
  replace o := o.trans (hb.mono o.size)
  clear hb X X0 Xf0 X1 Xf1 X2 Xf2 X3 Xf3 X4 Xf4 X5 Xf5 X6 Xf6 X7 Xf7
  have hs1 := HK.out.size [] 0 A1 m1 c1
  have h1 := HK.out.one [] 0 A1 m1 c1
  have IOA := HK.out.inok [] 0
  generalize hcs1 : csf [] 0 A1 m1 c1 = cs1 at hs1 h1 ⊢
  have SZ : Row (w2.alloc (.cells #[.int .i64 0, .int .i64 0, .int .i64 0, .int .i64 0, .int .i64 0, .int .i64 0, .int .i64 0, .int .i64 0, .int .i64 0, .int .i64 0, .int .i64 0, .slice none 0 0, .int .i64 0, .int .i64 0, .int .i64 0, .int .i64 0, .slice none 0 0, .int .i64 0, .int .i64 0, .int .i64 0, .int .i64 0, .int .i64 0, .slice none 0 0, .int .i64 0, .int .i64 0, .int .i64 0, .int .i64 0, .int .i64 0, .int .i64 0, .slice none 0 0, .int .i64 0, .int .i64 0, .int .i64 0, .int .i64 0, .int .i64 0, .slice none 0 0, .int .i64 0, .int .i64 0, .int .i64 0, .slice none 0 0, .int .i64 0, .slice none 0 0, .bool false, .int .i64 0, .int .i64 0, .int .i64 0, .slice none 0 0, .slice none 0 0, .int .i64 0, .int .i64 0, .int .i64 0, .slice none 0 0, .int .i64 0, .int .i64 0, .int .i64 0, .int .i64 0, .slice none 0 0] 58)) w2.heap.size 58 #[.int .i64 0, .int .i64 0, .int .i64 0, .int .i64 0, .int .i64 0, .int .i64 0, .int .i64 0, .int .i64 0, .int .i64 0, .int .i64 0, .int .i64 0, .slice none 0 0, .int .i64 0, .int .i64 0, .int .i64 0, .int .i64 0, .slice none 0 0, .int .i64 0, .int .i64 0, .int .i64 0, .int .i64 0, .int .i64 0, .slice none 0 0, .int .i64 0, .int .i64 0, .int .i64 0, .int .i64 0, .int .i64 0, .int .i64 0, .slice none 0 0, .int .i64 0, .int .i64 0, .int .i64 0, .int .i64 0, .int .i64 0, .slice none 0 0, .int .i64 0, .int .i64 0, .int .i64 0, .slice none 0 0, .int .i64 0, .slice none 0 0, .bool false, .int .i64 0, .int .i64 0, .int .i64 0, .slice none 0 0, .slice none 0 0, .int .i64 0, .int .i64 0, .int .i64 0, .slice none 0 0, .int .i64 0, .int .i64 0, .int .i64 0, .int .i64 0, .slice none 0 0] := row_new rfl
  go_upto_region 2 with (with_reducible refine wpList_ssyn SZ rfl hs1 h1 rfl _ _ rfl rfl rfl ?_)
  have S := row_setRow (cs := cs1) SZ
  have zr := row_lt R
  have z1 := o.size
  have b1 := IOA.blk in1
  replace in1 := IOA.setr (g := w2.heap.size) cs1 (IOA.below in1 ((Below.refl _ _).alloc (Nat.le_refl _) (.cells #[.int .i64 0, .int .i64 0, .int .i64 0, .int .i64 0, .int .i64 0, .int .i64 0, .int .i64 0, .int .i64 0, .int .i64 0, .int .i64 0, .int .i64 0, .slice none 0 0, .int .i64 0, .int .i64 0, .int .i64 0, .int .i64 0, .slice none 0 0, .int .i64 0, .int .i64 0, .int .i64 0, .int .i64 0, .int .i64 0, .slice none 0 0, .int .i64 0, .int .i64 0, .int .i64 0, .int .i64 0, .int .i64 0, .int .i64 0, .slice none 0 0, .int .i64 0, .int .i64 0, .int .i64 0, .int .i64 0, .int .i64 0, .slice none 0 0, .int .i64 0, .int .i64 0, .int .i64 0, .slice none 0 0, .int .i64 0, .slice none 0 0, .bool false, .int .i64 0, .int .i64 0, .int .i64 0, .slice none 0 0, .slice none 0 0, .int .i64 0, .int .i64 0, .int .i64 0, .slice none 0 0, .int .i64 0, .int .i64 0, .int .i64 0, .int .i64 0, .slice none 0 0] 58))) (fun hm a e => by have := b1 hm a e; omega)
  have fr1 : 0 < m1 → ∀ a, A1 = some a → a.block ≠ w2.heap.size ∧ a.block ≠ w.heap.size + 1 := fun hm a e => by
    have := b1 hm a e
    rcases fr0 hm a e with h | h
    · exact ⟨by omega, by omega⟩
    · exact h.elim
  replace R := row_setRow_other (g := w2.heap.size) (cs' := cs1) (row_alloc R (.cells #[.int .i64 0, .int .i64 0, .int .i64 0, .int .i64 0, .int .i64 0, .int .i64 0, .int .i64 0, .int .i64 0, .int .i64 0, .int .i64 0, .int .i64 0, .slice none 0 0, .int .i64 0, .int .i64 0, .int .i64 0, .int .i64 0, .slice none 0 0, .int .i64 0, .int .i64 0, .int .i64 0, .int .i64 0, .int .i64 0, .slice none 0 0, .int .i64 0, .int .i64 0, .int .i64 0, .int .i64 0, .int .i64 0, .int .i64 0, .slice none 0 0, .int .i64 0, .int .i64 0, .int .i64 0, .int .i64 0, .int .i64 0, .slice none 0 0, .int .i64 0, .int .i64 0, .int .i64 0, .slice none 0 0, .int .i64 0, .slice none 0 0, .bool false, .int .i64 0, .int .i64 0, .int .i64 0, .slice none 0 0, .slice none 0 0, .int .i64 0, .int .i64 0, .int .i64 0, .slice none 0 0, .int .i64 0, .int .i64 0, .int .i64 0, .int .i64 0, .slice none 0 0] 58)) (by omega)
  replace o := below_setRow (g := w2.heap.size) (o.alloc o.size (.cells #[.int .i64 0, .int .i64 0, .int .i64 0, .int .i64 0, .int .i64 0, .int .i64 0, .int .i64 0, .int .i64 0, .int .i64 0, .int .i64 0, .int .i64 0, .slice none 0 0, .int .i64 0, .int .i64 0, .int .i64 0, .int .i64 0, .slice none 0 0, .int .i64 0, .int .i64 0, .int .i64 0, .int .i64 0, .int .i64 0, .slice none 0 0, .int .i64 0, .int .i64 0, .int .i64 0, .int .i64 0, .int .i64 0, .int .i64 0, .slice none 0 0, .int .i64 0, .int .i64 0, .int .i64 0, .int .i64 0, .int .i64 0, .slice none 0 0, .int .i64 0, .int .i64 0, .int .i64 0, .slice none 0 0, .int .i64 0, .slice none 0 0, .bool false, .int .i64 0, .int .i64 0, .int .i64 0, .slice none 0 0, .slice none 0 0, .int .i64 0, .int .i64 0, .int .i64 0, .slice none 0 0, .int .i64 0, .int .i64 0, .int .i64 0, .int .i64 0, .slice none 0 0] 58)) o.size cs1
  obtain ⟨w3, hw3⟩ : ∃ x, x = (w2.alloc (.cells #[.int .i64 0, .int .i64 0, .int .i64 0, .int .i64 0, .int .i64 0, .int .i64 0, .int .i64 0, .int .i64 0, .int .i64 0, .int .i64 0, .int .i64 0, .slice none 0 0, .int .i64 0, .int .i64 0, .int .i64 0, .int .i64 0, .slice none 0 0, .int .i64 0, .int .i64 0, .int .i64 0, .int .i64 0, .int .i64 0, .slice none 0 0, .int .i64 0, .int .i64 0, .int .i64 0, .int .i64 0, .int .i64 0, .int .i64 0, .slice none 0 0, .int .i64 0, .int .i64 0, .int .i64 0, .int .i64 0, .int .i64 0, .slice none 0 0, .int .i64 0, .int .i64 0, .int .i64 0, .slice none 0 0, .int .i64 0, .slice none 0 0, .bool false, .int .i64 0, .int .i64 0, .int .i64 0, .slice none 0 0, .slice none 0 0, .int .i64 0, .int .i64 0, .int .i64 0, .slice none 0 0, .int .i64 0, .int .i64 0, .int .i64 0, .int .i64 0, .slice none 0 0] 58)).setRow w2.heap.size cs1 := ⟨_, rfl⟩
  rw [← hw3] at S R in1 o ⊢
  clear hw3 SZ h1 b1
  generalize w2.heap.size = sb at S z1 zr fr1 ⊢
  rw [← hcs1] at S
  clear hcs1 hs1
  go_wp2
  go_loopw [8, 9, 11, 12, 13, 21] (fun u8 u9 _ _ _ u21 wr => ∃ (k : Nat) (A : Option Addr) (m c : Nat), k ≤ n ∧ u21 = .int .i64 (k : Nat) ∧ u8 = .int .i64 0 ∧ wr.ownsRow w.heap.size 90 2 u9 k (icells (l.take k)) ∧ Row wr sb 58 (csf (l.take k) (nowK l k) A m c) ∧ Row wr (w.heap.size + 1) 58 #[.int .i64 0, .int .i64 0, .int .i64 0, .int .i64 0, .int .i64 0, .int .i64 0, .int .i64 0, .int .i64 0, .int .i64 0, .int .i64 0, .int .i64 0, .slice none 0 0, .int .i64 0, .int .i64 0, .int .i64 0, .int .i64 0, .slice none 0 0, .int .i64 0, .int .i64 0, .int .i64 0, .int .i64 0, .int .i64 0, .slice none 0 0, .int .i64 0, .int .i64 0, .int .i64 0, .int .i64 0, .int .i64 0, .int .i64 0, .slice none 0 0, .int .i64 0, .int .i64 0, .int .i64 0, .int .i64 0, .int .i64 0, .slice none 0 0, .int .i64 0, .int .i64 0, .int .i64 0, .slice none 0 0, .int .i64 0, .slice none 0 0, .bool false, .int .i64 0, .int .i64 0, .int .i64 0, .slice none 0 0, .slice none 0 0, .int .i64 0, .int .i64 0, .int .i64 0, .slice none 0 0, .int .i64 0, .int .i64 0, .int .i64 0, .int .i64 0, .slice none 0 0] ∧ IN (l.take k) (nowK l k) A m c wr ∧ RowKit.Hid (0 < m → ∀ a, A = some a → a.block ≠ sb ∧ a.block ≠ w.heap.size + 1 ∧ u9.ownBlock ≠ some a.block) ∧ Below w.heap.size w wr) (fun _ _ _ _ _ u21 _ => n - (intOf u21).toNat)
  case atStart => exact ⟨0, A1, m1, c1, Nat.zero_le _, rfl, rfl, World.ownsRow_nil _ _ _ _, S, R, in1, Lib.hid (fun hm a e => ⟨(fr1 hm a e).1, (fr1 hm a e).2, by simp [Value.ownBlock]⟩), o⟩
  case round =>
    clear S R in1 fr1 o
    obtain ⟨k, A, m, c, hk, rfl, rfl, OW, S, R, in1, fr, o⟩ := hrel
    by_cases hlt : k < n
    · obtain ⟨ad, rfl, hadb, hi0⟩ := HR.out.itm hlt
      obtain ⟨c0', c1'⟩ := hi0.below o (by rw [block_of_add]; exact hadb)
      obtain ⟨t1, t2, t3⟩ := HT.out k hlt
      have kl : k < l.length := by rw [HL.out]; exact hlt
      have eT : l.take (k + 1) = l.take k ++ [itmAt l k] := by rw [List.take_succ_eq_append_getElem kl, itm_eq kl]
      have eN : nowK l (k + 1) = (itmAt l k).t := by unfold nowK; rw [if_neg (by omega)]; rfl
      have ln : (l.take k).length < N := by rw [List.length_take]; omega
      obtain ⟨⟨tk, vk⟩, hx⟩ : ∃ x, itmAt l k = x := ⟨_, rfl⟩
      rw [hx] at c0' c1' t1 t2 t3 eT eN
      dsimp only at c0' c1' t1 t2 t3 eN
      have PA := HK.out.adv (l.take k) (nowK l k) tk A m c
      have PD := fun A m c w => HK.out.add (l.take k) tk vk A m c w
      have hs0 := HK.out.size (l.take k) (nowK l k) A m c
      have IO0 := HK.out.inok (l.take k) (nowK l k)
      have IO1 := HK.out.inok (l.take k) tk
      have IO2 := HK.out.inok (l.take k ++ [⟨tk, vk⟩]) tk
      have hb0 := IO0.blk in1
      have S1 := HK.out.size (l.take k) tk
      have O1 := HK.out.one (l.take k) tk
      have S2 := HK.out.size (l.take k ++ [⟨tk, vk⟩]) tk
      have O2 := HK.out.one (l.take k ++ [⟨tk, vk⟩]) tk
      generalize csf (l.take k) (nowK l k) A m c = cs0 at S PA hs0
      replace PA := Lib.hid (fun w' (h : IN (l.take k) (nowK l k) A m c w') => PA w' h t1 t2)
      replace PD := Lib.hid (fun A m c w (h : IN (l.take k) tk A m c w) => PD A m c w h ln t3)
      replace S1 := Lib.hid S1
      replace O1 := Lib.hid O1
      replace S2 := Lib.hid S2
      replace O2 := Lib.hid O2
      replace eT := Lib.hid eT
      replace eN := Lib.hid eN
      have i1 : (k : Int) < (n : Int) := by omega
      have i2 : (0 : Int) ≤ (k : Int) := by omega
      have zo := o.size
      clear hi0 t1 t2 t3 kl ln hx
      generalize nowK l k = nw at *
      generalize l.take k = lk at *
      go_upto_region 6 with (fail)
      have B : Row (wr.alloc (.cells #[.int .i64 tk, .int .i64 vk] 90)) wr.heap.size 90 #[.int .i64 tk, .int .i64 vk] := row_new rfl
      have zS := row_lt S
      have zR := row_lt R
      have zW := fun g (e : u9.ownBlock = some g) => (OW.lt g e).2
      have hbi : 0 < m → ∀ a, A = some a → a.block ≠ wr.heap.size := fun hm a e => by have := hb0 hm a e; omega
      replace S := row_alloc S (.cells #[.int .i64 tk, .int .i64 vk] 90)
      replace R := row_alloc R (.cells #[.int .i64 tk, .int .i64 vk] 90)
      replace in1 := IO0.below in1 ((Below.refl _ _).alloc (Nat.le_refl _) (.cells #[.int .i64 tk, .int .i64 vk] 90))
      replace OW := OW.alloc (.cells #[.int .i64 tk, .int .i64 vk] 90)
      replace o := o.alloc o.size (.cells #[.int .i64 tk, .int .i64 vk] 90)
      obtain ⟨w1, hw1⟩ : ∃ x, x = wr.alloc (.cells #[.int .i64 tk, .int .i64 vk] 90) := ⟨_, rfl⟩
      rw [← hw1] at B S R in1 OW o ⊢
      clear hw1 c0' c1' hb0
      generalize wr.heap.size = ib at B zS zR zW hbi ⊢
      obtain ⟨B0, B1, _, _⟩ := row_two B
      go_wp2_with (with_reducible refine wpList_lsyn S hs0 rfl _ rfl rfl ?_)
      refine (PA.out _ in1).mono ?_
      rintro e w2 ⟨A2, m2, c2, rfl, in2, hb, fr2⟩
      have yS := row_lt S
      have yR := row_lt R
      have yB := row_lt B
      have yW := fun g (e : u9.ownBlock = some g) => (OW.lt g e).2
      have frA : 0 < m2 → ∀ a, A2 = some a → a.block ≠ sb ∧ a.block ≠ w.heap.size + 1 ∧ a.block ≠ ib ∧ u9.ownBlock ≠ some a.block := fun hm a e => by
        rcases fr2 hm a e with h | ⟨h0, a', ea, h⟩
        · exact ⟨by omega, by omega, by omega, fun x => by have := yW _ x; omega⟩
        · obtain ⟨f1, f2, f3⟩ := fr.out h0 a' ea
          rw [← h]
          exact ⟨f1, f2, hbi h0 a' ea, f3⟩
      replace S := row_call S hb
      replace R := row_call R hb
      replace B := row_call B hb
      replace OW := orow_keep OW (fun g e => hb.block g (OW.lt g e).2)
      replace o := o.trans (hb.mono o.size)
      have nWS := orow_ne_row OW S (by decide)
      have s1 := S1.out A2 m2 c2
      have o1 := O1.out A2 m2 c2
      generalize hcs1 : csf lk tk A2 m2 c2 = cs1 at s1 o1 ⊢
      replace hcs1 := Lib.hid hcs1
      go_upto_region 8 with (with_reducible refine wpList_ssyn S hs0 s1 o1 rfl _ _ rfl rfl rfl ?_)
      clear B0 B1 hb yS yR yB yW fr2 PA fr hbi
      replace S := row_setRow (cs := cs1) S
      replace R := row_setRow_other (g := sb) (cs' := cs1) R (by omega)
      replace B := row_setRow_other (g := sb) (cs' := cs1) B (by omega)
      replace OW := orow_keep OW (fun g e => heap_setRow_other w2 sb cs1 g (fun x => nWS (x ▸ e)))
      replace in2 := IO1.setr (g := sb) cs1 in2 (fun hm a e => (frA hm a e).1.symm)
      replace o := below_setRow (g := sb) o z1 cs1
      obtain ⟨w3, hw3⟩ : ∃ x, x = w2.setRow sb cs1 := ⟨_, rfl⟩
      rw [← hw3] at S R B OW in2 o ⊢
      clear hw3
      obtain ⟨B0, B1, _, _⟩ := row_two B
      rw [← hcs1.out] at S s1
      clear hcs1
      go_wp2_with (with_reducible refine wpList_lsyn S s1 rfl _ rfl rfl ?_)
      refine (PD.out _ _ _ _ in2).mono ?_
      rintro e w4 ⟨A3, m3, c3, rfl, in3, hb, fr3⟩
      have yS := row_lt S
      have yR := row_lt R
      have yB := row_lt B
      have yW := fun g (e : u9.ownBlock = some g) => (OW.lt g e).2
      have frB : 0 < m3 → ∀ a, A3 = some a → a.block ≠ sb ∧ a.block ≠ w.heap.size + 1 ∧ a.block ≠ ib ∧ u9.ownBlock ≠ some a.block := fun hm a e => by
        rcases fr3 hm a e with h | ⟨h0, a', ea, h⟩
        · exact ⟨by omega, by omega, by omega, fun x => by have := yW _ x; omega⟩
        · rw [← h]
          exact frA h0 a' ea
      replace S := row_call S hb
      replace R := row_call R hb
      replace B := row_call B hb
      replace OW := orow_keep OW (fun g e => hb.block g (OW.lt g e).2)
      replace o := o.trans (hb.mono o.size)
      have xS := row_lt S
      have xR := row_lt R
      have xB := row_lt B
      have xW := fun g (e : u9.ownBlock = some g) => (OW.lt g e).2
      have hs2 := S2.out A3 m3 c3
      have o2 := O2.out A3 m3 c3
      generalize hcs2 : csf (lk ++ [⟨tk, vk⟩]) tk A3 m3 c3 = cs2 at hs2 o2 ⊢
      replace hcs2 := Lib.hid hcs2
      have TZ : Row (w4.alloc (.cells #[.int .i64 0, .int .i64 0, .int .i64 0, .int .i64 0, .int .i64 0, .int .i64 0, .int .i64 0, .int .i64 0, .int .i64 0, .int .i64 0, .int .i64 0, .slice none 0 0, .int .i64 0, .int .i64 0, .int .i64 0, .int .i64 0, .slice none 0 0, .int .i64 0, .int .i64 0, .int .i64 0, .int .i64 0, .int .i64 0, .slice none 0 0, .int .i64 0, .int .i64 0, .int .i64 0, .int .i64 0, .int .i64 0, .int .i64 0, .slice none 0 0, .int .i64 0, .int .i64 0, .int .i64 0, .int .i64 0, .int .i64 0, .slice none 0 0, .int .i64 0, .int .i64 0, .int .i64 0, .slice none 0 0, .int .i64 0, .slice none 0 0, .bool false, .int .i64 0, .int .i64 0, .int .i64 0, .slice none 0 0, .slice none 0 0, .int .i64 0, .int .i64 0, .int .i64 0, .slice none 0 0, .int .i64 0, .int .i64 0, .int .i64 0, .int .i64 0, .slice none 0 0] 58)) w4.heap.size 58 #[.int .i64 0, .int .i64 0, .int .i64 0, .int .i64 0, .int .i64 0, .int .i64 0, .int .i64 0, .int .i64 0, .int .i64 0, .int .i64 0, .int .i64 0, .slice none 0 0, .int .i64 0, .int .i64 0, .int .i64 0, .int .i64 0, .slice none 0 0, .int .i64 0, .int .i64 0, .int .i64 0, .int .i64 0, .int .i64 0, .slice none 0 0, .int .i64 0, .int .i64 0, .int .i64 0, .int .i64 0, .int .i64 0, .int .i64 0, .slice none 0 0, .int .i64 0, .int .i64 0, .int .i64 0, .int .i64 0, .int .i64 0, .slice none 0 0, .int .i64 0, .int .i64 0, .int .i64 0, .slice none 0 0, .int .i64 0, .slice none 0 0, .bool false, .int .i64 0, .int .i64 0, .int .i64 0, .slice none 0 0, .slice none 0 0, .int .i64 0, .int .i64 0, .int .i64 0, .slice none 0 0, .int .i64 0, .int .i64 0, .int .i64 0, .int .i64 0, .slice none 0 0] := row_new rfl
      go_upto_region 14 with (with_reducible refine wpList_ssyn TZ rfl hs2 o2 rfl _ _ rfl rfl rfl ?_)
      clear B0 B1 hb yS yR yB yW fr3 PD frA
      have T := row_setRow (cs := cs2) TZ
      have hb3 := IO2.blk in3
      have htb : 0 < m3 → ∀ a, A3 = some a → a.block ≠ w4.heap.size := fun hm a e => by have := hb3 hm a e; omega
      replace in3 := IO2.setr (g := w4.heap.size) cs2 (IO2.below in3 ((Below.refl _ _).alloc (Nat.le_refl _) (.cells #[.int .i64 0, .int .i64 0, .int .i64 0, .int .i64 0, .int .i64 0, .int .i64 0, .int .i64 0, .int .i64 0, .int .i64 0, .int .i64 0, .int .i64 0, .slice none 0 0, .int .i64 0, .int .i64 0, .int .i64 0, .int .i64 0, .slice none 0 0, .int .i64 0, .int .i64 0, .int .i64 0, .int .i64 0, .int .i64 0, .slice none 0 0, .int .i64 0, .int .i64 0, .int .i64 0, .int .i64 0, .int .i64 0, .int .i64 0, .slice none 0 0, .int .i64 0, .int .i64 0, .int .i64 0, .int .i64 0, .int .i64 0, .slice none 0 0, .int .i64 0, .int .i64 0, .int .i64 0, .slice none 0 0, .int .i64 0, .slice none 0 0, .bool false, .int .i64 0, .int .i64 0, .int .i64 0, .slice none 0 0, .slice none 0 0, .int .i64 0, .int .i64 0, .int .i64 0, .slice none 0 0, .int .i64 0, .int .i64 0, .int .i64 0, .int .i64 0, .slice none 0 0] 58))) (fun hm a e => (htb hm a e).symm)
      replace S := row_setRow_other (g := w4.heap.size) (cs' := cs2) (row_alloc S (.cells #[.int .i64 0, .int .i64 0, .int .i64 0, .int .i64 0, .int .i64 0, .int .i64 0, .int .i64 0, .int .i64 0, .int .i64 0, .int .i64 0, .int .i64 0, .slice none 0 0, .int .i64 0, .int .i64 0, .int .i64 0, .int .i64 0, .slice none 0 0, .int .i64 0, .int .i64 0, .int .i64 0, .int .i64 0, .int .i64 0, .slice none 0 0, .int .i64 0, .int .i64 0, .int .i64 0, .int .i64 0, .int .i64 0, .int .i64 0, .slice none 0 0, .int .i64 0, .int .i64 0, .int .i64 0, .int .i64 0, .int .i64 0, .slice none 0 0, .int .i64 0, .int .i64 0, .int .i64 0, .slice none 0 0, .int .i64 0, .slice none 0 0, .bool false, .int .i64 0, .int .i64 0, .int .i64 0, .slice none 0 0, .slice none 0 0, .int .i64 0, .int .i64 0, .int .i64 0, .slice none 0 0, .int .i64 0, .int .i64 0, .int .i64 0, .int .i64 0, .slice none 0 0] 58)) (by omega)
      replace R := row_setRow_other (g := w4.heap.size) (cs' := cs2) (row_alloc R (.cells #[.int .i64 0, .int .i64 0, .int .i64 0, .int .i64 0, .int .i64 0, .int .i64 0, .int .i64 0, .int .i64 0, .int .i64 0, .int .i64 0, .int .i64 0, .slice none 0 0, .int .i64 0, .int .i64 0, .int .i64 0, .int .i64 0, .slice none 0 0, .int .i64 0, .int .i64 0, .int .i64 0, .int .i64 0, .int .i64 0, .slice none 0 0, .int .i64 0, .int .i64 0, .int .i64 0, .int .i64 0, .int .i64 0, .int .i64 0, .slice none 0 0, .int .i64 0, .int .i64 0, .int .i64 0, .int .i64 0, .int .i64 0, .slice none 0 0, .int .i64 0, .int .i64 0, .int .i64 0, .slice none 0 0, .int .i64 0, .slice none 0 0, .bool false, .int .i64 0, .int .i64 0, .int .i64 0, .slice none 0 0, .slice none 0 0, .int .i64 0, .int .i64 0, .int .i64 0, .slice none 0 0, .int .i64 0, .int .i64 0, .int .i64 0, .int .i64 0, .slice none 0 0] 58)) (by omega)
      replace B := row_setRow_other (g := w4.heap.size) (cs' := cs2) (row_alloc B (.cells #[.int .i64 0, .int .i64 0, .int .i64 0, .int .i64 0, .int .i64 0, .int .i64 0, .int .i64 0, .int .i64 0, .int .i64 0, .int .i64 0, .int .i64 0, .slice none 0 0, .int .i64 0, .int .i64 0, .int .i64 0, .int .i64 0, .slice none 0 0, .int .i64 0, .int .i64 0, .int .i64 0, .int .i64 0, .int .i64 0, .slice none 0 0, .int .i64 0, .int .i64 0, .int .i64 0, .int .i64 0, .int .i64 0, .int .i64 0, .slice none 0 0, .int .i64 0, .int .i64 0, .int .i64 0, .int .i64 0, .int .i64 0, .slice none 0 0, .int .i64 0, .int .i64 0, .int .i64 0, .slice none 0 0, .int .i64 0, .slice none 0 0, .bool false, .int .i64 0, .int .i64 0, .int .i64 0, .slice none 0 0, .slice none 0 0, .int .i64 0, .int .i64 0, .int .i64 0, .slice none 0 0, .int .i64 0, .int .i64 0, .int .i64 0, .int .i64 0, .slice none 0 0] 58)) (by omega)
      replace OW := orow_keep (OW.alloc (.cells #[.int .i64 0, .int .i64 0, .int .i64 0, .int .i64 0, .int .i64 0, .int .i64 0, .int .i64 0, .int .i64 0, .int .i64 0, .int .i64 0, .int .i64 0, .slice none 0 0, .int .i64 0, .int .i64 0, .int .i64 0, .int .i64 0, .slice none 0 0, .int .i64 0, .int .i64 0, .int .i64 0, .int .i64 0, .int .i64 0, .slice none 0 0, .int .i64 0, .int .i64 0, .int .i64 0, .int .i64 0, .int .i64 0, .int .i64 0, .slice none 0 0, .int .i64 0, .int .i64 0, .int .i64 0, .int .i64 0, .int .i64 0, .slice none 0 0, .int .i64 0, .int .i64 0, .int .i64 0, .slice none 0 0, .int .i64 0, .slice none 0 0, .bool false, .int .i64 0, .int .i64 0, .int .i64 0, .slice none 0 0, .slice none 0 0, .int .i64 0, .int .i64 0, .int .i64 0, .slice none 0 0, .int .i64 0, .int .i64 0, .int .i64 0, .int .i64 0, .slice none 0 0] 58)) (fun g e => heap_setRow_other _ w4.heap.size cs2 g (fun x => by have := xW g e; omega))
      replace o := below_setRow (g := w4.heap.size) (o.alloc o.size (.cells #[.int .i64 0, .int .i64 0, .int .i64 0, .int .i64 0, .int .i64 0, .int .i64 0, .int .i64 0, .int .i64 0, .int .i64 0, .int .i64 0, .int .i64 0, .slice none 0 0, .int .i64 0, .int .i64 0, .int .i64 0, .int .i64 0, .slice none 0 0, .int .i64 0, .int .i64 0, .int .i64 0, .int .i64 0, .int .i64 0, .slice none 0 0, .int .i64 0, .int .i64 0, .int .i64 0, .int .i64 0, .int .i64 0, .int .i64 0, .slice none 0 0, .int .i64 0, .int .i64 0, .int .i64 0, .int .i64 0, .int .i64 0, .slice none 0 0, .int .i64 0, .int .i64 0, .int .i64 0, .slice none 0 0, .int .i64 0, .slice none 0 0, .bool false, .int .i64 0, .int .i64 0, .int .i64 0, .slice none 0 0, .slice none 0 0, .int .i64 0, .int .i64 0, .int .i64 0, .slice none 0 0, .int .i64 0, .int .i64 0, .int .i64 0, .int .i64 0, .slice none 0 0] 58)) o.size cs2
      obtain ⟨w6, hw6⟩ : ∃ x, x = (w4.alloc (.cells #[.int .i64 0, .int .i64 0, .int .i64 0, .int .i64 0, .int .i64 0, .int .i64 0, .int .i64 0, .int .i64 0, .int .i64 0, .int .i64 0, .int .i64 0, .slice none 0 0, .int .i64 0, .int .i64 0, .int .i64 0, .int .i64 0, .slice none 0 0, .int .i64 0, .int .i64 0, .int .i64 0, .int .i64 0, .int .i64 0, .slice none 0 0, .int .i64 0, .int .i64 0, .int .i64 0, .int .i64 0, .int .i64 0, .int .i64 0, .slice none 0 0, .int .i64 0, .int .i64 0, .int .i64 0, .int .i64 0, .int .i64 0, .slice none 0 0, .int .i64 0, .int .i64 0, .int .i64 0, .slice none 0 0, .int .i64 0, .slice none 0 0, .bool false, .int .i64 0, .int .i64 0, .int .i64 0, .slice none 0 0, .slice none 0 0, .int .i64 0, .int .i64 0, .int .i64 0, .slice none 0 0, .int .i64 0, .int .i64 0, .int .i64 0, .int .i64 0, .slice none 0 0] 58)).setRow w4.heap.size cs2 := ⟨_, rfl⟩
      rw [← hw6] at T S R B OW in3 o ⊢
      clear hw6 TZ hb3
      generalize w4.heap.size = tb at T xS xR xB xW htb ⊢
      refine wp_region_phase 5 (fun w' => Row w' tb 58 cs2 ∧ Row w' ib 90 #[.int .i64 tk, .int .i64 vk]) (by kernel_rfl) (by kernel_rfl) (by kernel_rfl) (by kernel_rfl) (by kernel_rfl) (fun HOK => ?_)
      have HS := (⟨row_drew T, row_drew B⟩ : Row w6.drew tb 58 cs2 ∧ Row w6.drew ib 90 #[.int .i64 tk, .int .i64 vk])
      (refine hw_take HOK (i := 0) (.agg cs2) rfl (by decide) (by kernel_rfl) (by kernel_rfl) (by exact fun _ _ _ h => h) (Or.inl ⟨by rfl, fun w' hS => exec_lsyn hS.1 hs2 _ rfl rfl⟩) HS ?_; try simp only [Act.put, List.getElem_toArray, List.getElem_cons_zero, List.getElem_cons_succ, List.setIfInBounds_toArray, List.set_cons_zero, List.set_cons_succ])
      (refine hw_take HOK (i := 1) ?_ rfl (by decide) (by kernel_rfl) (by kernel_rfl) (by exact fun _ _ _ h => h) (Or.inl ⟨by rfl, fun w' hS => ?_⟩) HS ?_; rotate_left; (go_simp; try with_reducible rfl); simp only [Act.put, List.getElem_toArray, List.getElem_cons_zero, List.getElem_cons_succ,  List.setIfInBounds_toArray, List.set_cons_zero, List.set_cons_succ])
      (refine hw_take HOK (i := 2) ?_ rfl (by decide) (by kernel_rfl) (by kernel_rfl) (by exact fun _ _ _ h => h) (Or.inl ⟨by rfl, fun w' hS => ?_⟩) HS ?_; rotate_left; (obtain ⟨B0, B1, Bf0, Bf1⟩ := row_two hS.2; go_simp; try with_reducible rfl); simp only [Act.put, List.getElem_toArray, List.getElem_cons_zero, List.getElem_cons_succ,  List.setIfInBounds_toArray, List.set_cons_zero, List.set_cons_succ])
      replace T : Row w6.drew tb 58 cs2 := T
      replace B : Row w6.drew ib 90 #[.int .i64 tk, .int .i64 vk] := B
      replace S : Row w6.drew sb 58 (csf lk tk A2 m2 c2) := S
      replace R : Row w6.drew (w.heap.size + 1) 58 #[.int .i64 0, .int .i64 0, .int .i64 0, .int .i64 0, .int .i64 0, .int .i64 0, .int .i64 0, .int .i64 0, .int .i64 0, .int .i64 0, .int .i64 0, .slice none 0 0, .int .i64 0, .int .i64 0, .int .i64 0, .int .i64 0, .slice none 0 0, .int .i64 0, .int .i64 0, .int .i64 0, .int .i64 0, .int .i64 0, .slice none 0 0, .int .i64 0, .int .i64 0, .int .i64 0, .int .i64 0, .int .i64 0, .int .i64 0, .slice none 0 0, .int .i64 0, .int .i64 0, .int .i64 0, .int .i64 0, .int .i64 0, .slice none 0 0, .int .i64 0, .int .i64 0, .int .i64 0, .slice none 0 0, .int .i64 0, .slice none 0 0, .bool false, .int .i64 0, .int .i64 0, .int .i64 0, .slice none 0 0, .slice none 0 0, .int .i64 0, .int .i64 0, .int .i64 0, .slice none 0 0, .int .i64 0, .int .i64 0, .int .i64 0, .int .i64 0, .slice none 0 0] := R
      replace OW : w6.drew.ownsRow w.heap.size 90 2 u9 k (icells lk) := OW
      replace in3 := IO2.keep (w' := w6.drew) in3 (Nat.le_refl _) (fun _ _ _ => rfl)
      replace o := o.drew
      clear HS
      generalize w6.drew = w7 at *
      have RA : Reads (w7.alloc (.cells #[.int .i64 tk, .int .i64 vk] 90)) (w7.alloc (.cells #[.int .i64 tk, .int .i64 vk] 90)).heap.size 2 (some ⟨w7.heap.size, 0, none⟩) 1 #[.int .i64 tk, .int .i64 vk].toList := (own_new (w := w7) (e := 90) (size := 2) (n := 1) (cs := #[.int .i64 tk, .int .i64 vk]) rfl (by unfold maxLen; omega) (by first | (simp; done) | omega | decide)).reads
      have z7 := o.size
      replace T := row_alloc T (.cells #[.int .i64 tk, .int .i64 vk] 90)
      replace B := row_alloc B (.cells #[.int .i64 tk, .int .i64 vk] 90)
      replace S := row_alloc S (.cells #[.int .i64 tk, .int .i64 vk] 90)
      replace R := row_alloc R (.cells #[.int .i64 tk, .int .i64 vk] 90)
      replace OW := OW.alloc (.cells #[.int .i64 tk, .int .i64 vk] 90)
      replace in3 := IO2.below in3 ((Below.refl _ _).alloc (Nat.le_refl _) (.cells #[.int .i64 tk, .int .i64 vk] 90))
      replace o := o.alloc o.size (.cells #[.int .i64 tk, .int .i64 vk] 90)
      refine hw_one (i := 3) rfl (by decide) (by kernel_rfl) (fun K hK => ?_)
      go_simp
      refine hK _ (w7.alloc (.cells #[.int .i64 tk, .int .i64 vk] 90)) ⟨T, B⟩ ?_
      clear hK K
      generalize w7.alloc (.cells #[.int .i64 tk, .int .i64 vk] 90) = w8 at T B S R OW in3 o RA ⊢
      generalize w7.heap.size = ga at RA ⊢
      try simp only [Act.put, List.getElem_toArray, List.getElem_cons_zero, List.getElem_cons_succ, List.setIfInBounds_toArray, List.set_cons_zero, List.set_cons_succ]
      have nS := orow_ne_row OW S (by decide)
      have nT := orow_ne_row OW T (by decide)
      have nR := orow_ne_row OW R (by decide)
      have nB : u9.ownBlock ≠ some ib := fun e => by have := zW ib e; omega
      have hb4 := IO2.blk in3
      have frC : 0 < m3 → ∀ a, A3 = some a → a.block ≠ sb ∧ a.block ≠ w.heap.size + 1 ∧ u9.ownBlock ≠ some a.block := fun hm a e => ⟨(frB hm a e).1, (frB hm a e).2.1, (frB hm a e).2.2.2⟩
      have z8 := o.size
      have z9 := row_lt S
      replace frC := Lib.hid frC
      clear frB htb zS zR zW xS xR xB xW
      refine hw_one (i := 4) rfl (by decide) (by kernel_rfl) (fun K hK => ?_)
      refine step_append_any w8 rfl _ _ 22 rfl w.heap.size 90 ii (.agg #[.int .i64 0, .int .i64 0]) 2 16 Tryz.underlying22 hii iz0 iz1 iz2 rfl (by decide) u9 k (icells lk) rfl OW w8.heap.size (some ⟨ga, 0, none⟩) 1 1 #[.int .i64 tk, .int .i64 vk].toList rfl RA (by simp [Value.oneCell']) (by unfold maxLen; omega) (by omega) z8 ?_
      intro v6 w9 own6 hg6 hat6
      replace T := row_grown T hg6 nT
      replace B := row_grown B hg6 nB
      replace S := row_grown S hg6 nS
      replace R := row_grown R hg6 nR
      have in4 := IO2.keep in3 hg6.size (fun hm a e => hg6.block _ (hb4 hm a e) (fun x => (frC.out hm a e).2.2 x.symm))
      replace o := below_grown o hg6 (fun b e => (OW.lt b e).1) o.size
      refine hK _ _ ⟨T, B⟩ ?_
      clear hK K
      try simp only [Act.put, List.getElem_toArray, List.getElem_cons_zero, List.getElem_cons_succ, List.setIfInBounds_toArray, List.set_cons_zero, List.set_cons_succ]
      refine hw_done (by kernel_rfl) ?_
      try simp only [List.drop_succ_cons, List.drop_zero]
      clear HOK
      have O4 := (IO2.keep (w' := w9.setRow sb cs2) in4 (by rw [size_setRow]; exact Nat.le_refl _) (fun hm a e => heap_setRow_other w9 sb cs2 a.block (fun x => (frC.out hm a e).1 x)))
      have fW : v6.ownBlock ≠ some sb ∧ (0 < m3 → ∀ a, A3 = some a → v6.ownBlock ≠ some a.block) := by
        rcases hat6 with h | h <;> rw [h]
        · exact ⟨nS, fun hm a e => (frC.out hm a e).2.2⟩
        · exact ⟨fun x => by have := Option.some.inj x; omega, fun hm a e x => by have := Option.some.inj x; have := hb4 hm a e; omega⟩
      go_wp2_with (with_reducible refine wpList_ssyn S s1 hs2 o2 rfl _ _ rfl rfl rfl ?_)
      go_roundw
      case rel =>
        refine ⟨k + 1, A3, m3, c3, by omega, by go_num, rfl, ?_, ?_, row_setRow_other R (by omega), ?_, Lib.hid (fun hm a e => ⟨(frC.out hm a e).1, (frC.out hm a e).2.1, fW.2 hm a e⟩), below_setRow o z1 cs2⟩
        · rw [eT.out, icells_append]
          exact orow_keep own6 (fun g e => heap_setRow_other w9 sb cs2 g (fun x => fW.1 (x ▸ e)))
        · rw [eT.out, eN.out, hcs2.out]
          exact row_setRow S
        · rw [eT.out, eN.out]
          exact O4
      case measure => simp [intOf]; omega
    · have i1 : ¬ (k : Int) < (n : Int) := by omega
      obtain rfl : k = n := by omega
      have hn2 : l.take k = l := List.take_of_length_le (by rw [HL.out]; exact Nat.le_refl _)
      rw [hn2] at OW S in1
      have hs0 := HK.out.size l (nowK l k) A m c
      have h1 := HK.out.one l (nowK l k) A m c
      have IO0 := HK.out.inok l (nowK l k)
      have hlk : l.length = k := HL.out
      have nWR := orow_ne_row OW R (by decide)
      generalize hcs0 : csf l (nowK l k) A m c = cs0 at S hs0 h1
      go_wp2_with (first | (with_reducible refine wpList_lsyn S hs0 rfl _ rfl rfl ?_) | (with_reducible refine wpList_ssyn R rfl hs0 h1 rfl _ _ rfl rfl rfl ?_))
      have R9 := row_setRow (cs := cs0) R
      refine bodyPost_ret (v := .tuple #[.agg cs0, u9, .bool true]) ?_ rfl ?_
      · exact results_syn3 (p := 4) (q := 5) (r := 6) rfl _ R9 hs0 rfl
      · subst hlk
        refine ⟨A, m, c, u9, by rw [hcs0], IO0.setr _ in1 (fun hm a e => (fr.out hm a e).2.1.symm), orow_keep OW (fun g e => heap_setRow_other wr (w.heap.size + 1) cs0 g (fun x => nWR (x ▸ e))), below_setRow o (by omega) _⟩
end Go.Proofs.YtdipoojjlddohaaGreat
end
section
/- Marks of smooth histograms: a value more in all marks, walked. -/
set_option linter.unusedVariables false
set_option linter.unusedSimpArgs false
set_option linter.unusedSectionVars false
set_option linter.unnecessarySimpa false
namespace Go.Proofs.YtdipoojjlddohaaGreat
open Go.RowKit
/-- What a call that answers marks of its own leaves. -/
def MRet (n : Nat) (l : List Mk) (w : World) (e : Ending) (w' : World) : Prop := ∃ v, e = .returned v ∧ w'.ownsRow w.heap.size 228 7 v n (mcells l) ∧ Below w.heap.size w w'
/-- Small numbers. -/
def SmallM (m : Mk) : Prop := (0 ≤ m.n ∧ m.n ≤ 65536) ∧ (-268435456 ≤ m.s ∧ m.s ≤ 268435456) ∧ 0 ≤ m.q ∧ m.q ≤ 1099511627776
theorem mk_take {l : List Mk} {j : Nat} (h : j < l.length) : l.take (j + 1) = l.take j ++ [mkAt l j] := by
  rw [List.take_succ_eq_append_getElem h]
  unfold mkAt
  rw [List.getD_eq_getElem?_getD, List.getElem?_eq_getElem h]
  rfl
theorem SmallM.of_one {seq cap now w least : Int} {m : Mk} (h : oneP seq cap now w least m) (hc : cap ≤ 65536) (hl : -4096 ≤ least) : SmallM m := by
  obtain ⟨h1, h2, h3, h4, h5, h6, h7, h8, h9, p1, p2, p3, p4, p5⟩ := h
  have b1 := mul_small (n := m.n) (x := m.lo) (by omega) (by omega) (by omega) (by omega)
  have b2 := mul_small (n := m.n) (x := m.hi) (by omega) (by omega) (by omega) (by omega)
  exact ⟨by omega, by omega, by omega, by omega⟩
set_option maxRecDepth 100000 in
set_option maxHeartbeats 4000000 in
theorem pmadd (A : Option Addr) (m c : Nat) (l : List Mk) (seq t v : Int) (w : World) (hin : MIn A m c l w) (hm : m ≤ 1000000) (hS : ∀ i, i < m → SmallM (mkAt l i)) (v0 : -4096 ≤ v) (v1 : v ≤ 4096) :
    Calls Tryz.prog 215 #[.slice A m c, .int .i64 seq, .int .i64 t, .int .i64 v] w fun e w' => MRet (m + 1) (incl l seq t v) w e w' := by
  have HR := Lib.hid hin
  have HL := Lib.hid hin.len
  have HS := Lib.hid hS
  have hvv := vv_small v0 v1
  have wvv : IntKind.i64.wrap (v * v) = v * v := IntWalk.i64_in _ (by omega)
  obtain ⟨i0, hi0, iz0, iz1, iz2⟩ := info_parts info_mk
  clear hin hS
  go_enter Tryz.func215, Tryz.ntmps215
  go_wp2
  go_loopw [9, 14] (fun u i wr => ∃ j : Nat, j ≤ m ∧ i = .int .i64 (j : Nat) ∧ wr.ownsRow w.heap.size 228 7 u j (mcells ((l.take j).map (inc v))) ∧ Below w.heap.size w wr) (fun _ i _ => m - (intOf i).toNat)
  case atStart => exact ⟨0, by omega, rfl, World.ownsRow_nil _ _ _ _, Below.refl _ _⟩
  case round =>
    obtain ⟨j, hj, rfl, own, o⟩ := hrel
    by_cases hlt : j < m
    · obtain ⟨ad, rfl, hadb, ht0⟩ := HR.out.reads.mk hlt
      have hS1 := HS.out j hlt
      have HE : RowKit.Hid (mcells ((l.take (j + 1)).map (inc v)) = mcells ((l.take j).map (inc v)) ++ mcells [inc v (mkAt l j)]) := Lib.hid (by rw [mk_take (by rw [HL.out]; exact hlt), List.map_append, mcells_append]; rfl)
      generalize mkAt l j = mj at ht0 hS1 HE
      obtain ⟨sq, tk, n, s, q, lo, hi⟩ := mj
      obtain ⟨p0, p1, p2, p3, p4, p5, p6⟩ := ht0.below o (by rw [block_of_add]; exact hadb)
      obtain ⟨⟨n0, n1⟩, ⟨s0, s1⟩, q0, q1⟩ := hS1
      dsimp only at p0 p1 p2 p3 p4 p5 p6 n0 n1 s0 s1 q0 q1
      have HX : RowKit.Hid (mcells [inc v (⟨sq, tk, n, s, q, lo, hi⟩ : Mk)] = (#[.int .i64 sq, .int .i64 tk, .int .i64 (n + 1), .int .i64 (s + v), .int .i64 (q + v * v), .int .i64 (min lo v), .int .i64 (max hi v)] : Array Value).toList) := Lib.hid rfl
      have wn : IntKind.i64.wrap (n + 1) = n + 1 := IntWalk.i64_in _ (by omega)
      have ws : IntKind.i64.wrap (s + v) = s + v := IntWalk.i64_in _ (by omega)
      have wq : IntKind.i64.wrap (q + v * v) = q + v * v := IntWalk.i64_in _ (by omega)
      clear ht0 n0 n1 s0 s1 q0 q1 hvv
      have i1 : (j : Int) < (m : Int) := by omega
      have i2 : (0 : Int) ≤ (j : Int) := by omega
      go_upto_region 5 with (fail)
      have K : Row (wr.alloc (.cells #[.int .i64 sq, .int .i64 tk, .int .i64 n, .int .i64 s, .int .i64 q, .int .i64 lo, .int .i64 hi] 228)) wr.heap.size 228 #[.int .i64 sq, .int .i64 tk, .int .i64 n, .int .i64 s, .int .i64 q, .int .i64 lo, .int .i64 hi] := row_new rfl
      have zo := o.size
      have kn : u9.ownBlock ≠ some wr.heap.size := orow_new own (Nat.le_refl _)
      replace own := own.alloc (.cells #[.int .i64 sq, .int .i64 tk, .int .i64 n, .int .i64 s, .int .i64 q, .int .i64 lo, .int .i64 hi] 228)
      replace o := o.alloc o.size (.cells #[.int .i64 sq, .int .i64 tk, .int .i64 n, .int .i64 s, .int .i64 q, .int .i64 lo, .int .i64 hi] 228)
      generalize wr.alloc (.cells #[.int .i64 sq, .int .i64 tk, .int .i64 n, .int .i64 s, .int .i64 q, .int .i64 lo, .int .i64 hi] 228) = w3 at own o K ⊢
      generalize wr.heap.size = mb at K kn zo ⊢
      clear p0 p1 p2 p3 p4 p5 p6
      obtain ⟨K0, K1, K2, K3, K4, K5, K6, Kf0, Kf1, Kf2, Kf3, Kf4, Kf5, Kf6⟩ := row_seven K
      have KR := Lib.hid K
      clear K
      go_upto_region 9 with (fail)
      replace own := orow_other (p := ⟨mb, 2, none⟩) own kn (.int .i64 (n + 1))
      replace o := o.setCell (p := ⟨mb, 2, none⟩) (by show w.heap.size ≤ mb; omega) (.int .i64 (n + 1))
      replace own := orow_other (p := ⟨mb, 3, none⟩) own kn (.int .i64 (s + v))
      replace o := o.setCell (p := ⟨mb, 3, none⟩) (by show w.heap.size ≤ mb; omega) (.int .i64 (s + v))
      replace own := orow_other (p := ⟨mb, 4, none⟩) own kn (.int .i64 (q + v * v))
      replace o := o.setCell (p := ⟨mb, 4, none⟩) (by show w.heap.size ≤ mb; omega) (.int .i64 (q + v * v))
      replace own := orow_other (p := ⟨mb, 5, none⟩) own kn (.int .i64 (min lo v))
      replace o := o.setCell (p := ⟨mb, 5, none⟩) (by show w.heap.size ≤ mb; omega) (.int .i64 (min lo v))
      replace own := orow_other (p := ⟨mb, 6, none⟩) own kn (.int .i64 (max hi v))
      replace o := o.setCell (p := ⟨mb, 6, none⟩) (by show w.heap.size ≤ mb; omega) (.int .i64 (max hi v))
      have K : Row (((((w3.setCell ⟨mb, 2, none⟩ (.int .i64 (n + 1))).setCell ⟨mb, 3, none⟩ (.int .i64 (s + v))).setCell ⟨mb, 4, none⟩ (.int .i64 (q + v * v))).setCell ⟨mb, 5, none⟩ (.int .i64 (min lo v))).setCell ⟨mb, 6, none⟩ (.int .i64 (max hi v))) mb 228 #[.int .i64 sq, .int .i64 tk, .int .i64 (n + 1), .int .i64 (s + v), .int .i64 (q + v * v), .int .i64 (min lo v), .int .i64 (max hi v)] := (row_set (row_set (row_set (row_set (row_set KR.out 2 (.int .i64 (n + 1))) 3 (.int .i64 (s + v))) 4 (.int .i64 (q + v * v))) 5 (.int .i64 (min lo v))) 6 (.int .i64 (max hi v)))
      generalize (((((w3.setCell ⟨mb, 2, none⟩ (.int .i64 (n + 1))).setCell ⟨mb, 3, none⟩ (.int .i64 (s + v))).setCell ⟨mb, 4, none⟩ (.int .i64 (q + v * v))).setCell ⟨mb, 5, none⟩ (.int .i64 (min lo v))).setCell ⟨mb, 6, none⟩ (.int .i64 (max hi v))) = w4 at own o K ⊢
      clear K0 K1 K2 K3 K4 K5 K6 Kf0 Kf1 Kf2 Kf3 Kf4 Kf5 Kf6 KR
      obtain ⟨K0, K1, K2, K3, K4, K5, K6, Kf0, Kf1, Kf2, Kf3, Kf4, Kf5, Kf6⟩ := row_seven K
      have hbl := own.lt
      have OWN := Lib.hid own
      have zo := o.size
      clear own
      go_wp2_with (at_builtin; refine wpList_push rfl _ _ 35 rfl 228 i0 (.agg #[.int .i64 0, .int .i64 0, .int .i64 0, .int .i64 0, .int .i64 0, .int .i64 0, .int .i64 0]) 7 56 Tryz.underlying35 hi0 iz0 iz1 iz2 rfl (by decide) w.heap.size u9 j (mcells ((l.take j).map (inc v))) rfl OWN.out #[.int .i64 sq, .int .i64 tk, .int .i64 (n + 1), .int .i64 (s + v), .int .i64 (q + v * v), .int .i64 (min lo v), .int .i64 (max hi v)] rfl rfl (by simp [Value.oneCell']) (by unfold maxLen; omega) (by omega) (by omega) ?_; intro g' c4 w9 own9 hg9 hat9 hgr9)
      have own : w9.ownsRow w.heap.size 228 7 (.slice (some ⟨g', 0, none⟩) (j + 1) c4) (j + 1) (mcells ((l.take (j + 1)).map (inc v))) := by
        rw [HE.out, HX.out]
        exact own9.row hg9
      replace o := below_grown (o.alloc o.size (.cells #[.int .i64 sq, .int .i64 tk, .int .i64 (n + 1), .int .i64 (s + v), .int .i64 (q + v * v), .int .i64 (min lo v), .int .i64 (max hi v)] 228)) hgr9 (fun b e => (hbl b e).1) (by simp; omega)
      clear own9 hgr9 hat9 OWN zo
      go_wp2
      go_roundw
      case rel => exact ⟨j + 1, by omega, by go_num, own, o⟩
      case measure => simp [intOf]; omega
    · have i1 : ¬ (j : Int) < (m : Int) := by omega
      obtain rfl : j = m := by omega
      have HE : RowKit.Hid (mcells (incl l seq t v) = mcells ((l.take j).map (inc v)) ++ (#[.int .i64 seq, .int .i64 t, .int .i64 1, .int .i64 v, .int .i64 (v * v), .int .i64 v, .int .i64 v] : Array Value).toList) := Lib.hid (by
        unfold incl
        rw [mcells_append, List.take_of_length_le (by rw [HL.out]; exact Nat.le_refl _)]
        rfl)
      have hbl := own.lt
      have OWN := Lib.hid own
      have zo := o.size
      clear own hvv
      go_wp2_with (at_builtin; refine wpList_push rfl _ _ 35 rfl 228 i0 (.agg #[.int .i64 0, .int .i64 0, .int .i64 0, .int .i64 0, .int .i64 0, .int .i64 0, .int .i64 0]) 7 56 Tryz.underlying35 hi0 iz0 iz1 iz2 rfl (by decide) w.heap.size u9 j (mcells ((l.take j).map (inc v))) rfl OWN.out #[.int .i64 seq, .int .i64 t, .int .i64 1, .int .i64 v, .int .i64 (v * v), .int .i64 v, .int .i64 v] rfl rfl (by simp [Value.oneCell']) (by unfold maxLen; omega) (by omega) (by omega) ?_; intro g' c4 w9 own9 hg9 hat9 hgr9)
      have own : w9.ownsRow w.heap.size 228 7 (.slice (some ⟨g', 0, none⟩) (j + 1) c4) (j + 1) (mcells (incl l seq t v)) := by
        rw [HE.out]
        exact own9.row hg9
      replace o := below_grown (o.alloc o.size (.cells #[.int .i64 seq, .int .i64 t, .int .i64 1, .int .i64 v, .int .i64 (v * v), .int .i64 v, .int .i64 v] 228)) hgr9 (fun b e => (hbl b e).1) (by simp; omega)
      clear own9 hgr9 hat9 OWN zo
      go_wp2
      go_ret
      exact ⟨_, rfl, own, o⟩
end Go.Proofs.YtdipoojjlddohaaGreat
end
section
/- Intervals of integers, walked (out of AskB). -/
set_option linter.unusedVariables false
set_option linter.unusedSimpArgs false
set_option linter.unusedSectionVars false
set_option linter.unnecessarySimpa false
namespace Go.Proofs.YtdipoojjlddohaaGreat
open Go.RowKit
theorem and_xor (a : Nat) : ∀ b, 2 * (a &&& b) + (a ^^^ b) = a + b := by
  induction a using Nat.strongRecOn with
  | _ a ih =>
    intro b
    by_cases h : a = 0
    · subst h; simp
    · have i := ih (a / 2) (by omega) (b / 2)
      have h1 := Nat.and_div_two (a := a) (b := b)
      have h2 := Nat.xor_div_two (a := a) (b := b)
      have h3 := Nat.and_mod_two_eq_one (a := a) (b := b)
      have h4 := Nat.xor_mod_two_eq_one (a := a) (b := b)
      rw [← h1, ← h2] at i
      generalize (a &&& b) = x at *
      generalize (a ^^^ b) = y at *
      omega
theorem i64_small (n : Int) (h0 : 0 ≤ n) (h1 : n < 2 ^ 62) : IntKind.i64.wrap n = n := IntWalk.i64_in _ (by omega)
theorem bits_xor (a b : Nat) (ha : a < 2 ^ 62) (hb : b < 2 ^ 62) : bits .xor .i64 a b = ((a ^^^ b : Nat) : Int) := by
  have ha' : a % 2 ^ IntKind.i64.bits = a := Nat.mod_eq_of_lt (Nat.lt_of_lt_of_le ha (by decide))
  have hb' : b % 2 ^ IntKind.i64.bits = b := Nat.mod_eq_of_lt (Nat.lt_of_lt_of_le hb (by decide))
  simp only [bits, BitVec.ofInt_natCast, BitVec.toNat_xor, BitVec.toNat_ofNat, ha', hb']
  exact i64_small _ (Int.natCast_nonneg _) (by exact_mod_cast Nat.xor_lt_two_pow ha hb)
theorem mid_is {lo hi : Nat} (h : hi ≤ 4398046511104) (h2 : lo ≤ hi) : ∃ x y : Nat, bits .and .i64 (lo : Int) (hi : Int) = (x : Int) ∧ bits .xor .i64 (lo : Int) (hi : Int) = (y : Int) ∧ (x : Int) + (y : Int) / 2 = ((lo + hi) / 2 : Nat) := by
  refine ⟨lo &&& hi, lo ^^^ hi, (bits_nat .i64 62 (by decide) i64_small lo hi (by omega) (by omega)).1, bits_xor lo hi (by omega) (by omega), ?_⟩
  have := and_xor lo hi
  omega
theorem pratio (n : Int) (w : World) : Calls Tryz.prog 57 #[.int .i64 n] w fun e w' => e = .returned (.agg #[.int .i64 n, .int .i64 1]) ∧ Below w.heap.size w w' := by
  go_enter Tryz.func57, Tryz.ntmps57
  go_wp2
  exact bodyPost_ret (v := .agg #[.int .i64 n, .int .i64 1]) (by simp [results, Tryz.results57, go_sem]) rfl ⟨rfl, by (repeat (first | exact Below.refl _ _ | refine Below.setCell ?_ (by first | (simp; done) | (simp; omega) | omega) _ | refine Below.alloc ?_ (by first | (simp; done) | (simp; omega) | omega) _ | refine Below.drew ?_ | refine Below.trans ?_ (Below.mono (by assumption) (by first | (simp; done) | (simp; omega) | omega))))⟩
theorem rratio (n : Int) (w : World) : Calls Tryz.prog 59 #[.int .i64 n] w fun e w' => e = .returned (.agg #[.int .i64 n, .int .i64 1]) ∧ Below w.heap.size w w' := by
  go_enter Tryz.func59, Tryz.ntmps59
  go_wp2
  exact bodyPost_ret (v := .agg #[.int .i64 n, .int .i64 1]) (by simp [results, Tryz.results59, go_sem]) rfl ⟨rfl, by (repeat (first | exact Below.refl _ _ | refine Below.setCell ?_ (by first | (simp; done) | (simp; omega) | omega) _ | refine Below.alloc ?_ (by first | (simp; done) | (simp; omega) | omega) _ | refine Below.drew ?_ | refine Below.trans ?_ (Below.mono (by assumption) (by first | (simp; done) | (simp; omega) | omega))))⟩
theorem row_six_of {w : World} {b : Nat} {t : TypeId} {x0 x1 x2 x3 x4 x5 : Value} (h : Row w b t #[x0, x1, x2, x3, x4, x5]) : w.cell? ⟨b, 0, none⟩ = some x0 ∧ w.cell? ⟨b, 1, none⟩ = some x1 ∧ w.cell? ⟨b, 2, none⟩ = some x2 ∧ w.cell? ⟨b, 3, none⟩ = some x3 ∧ w.cell? ⟨b, 4, none⟩ = some x4 ∧ w.cell? ⟨b, 5, none⟩ = some x5 := by
  obtain ⟨h0, h1, h2, h3, h4, h5, _⟩ := row_six h
  exact ⟨h0, h1, h2, h3, h4, h5⟩
theorem below_six {B b : Nat} {w0 w : World} (h : Below B w0 w) (hb : B ≤ b) (u0 u1 u2 u3 u4 u5 : Value) : Below B w0 ((((((w.setCell ⟨b, 0, none⟩ u0).setCell ⟨b, 1, none⟩ u1).setCell ⟨b, 2, none⟩ u2).setCell ⟨b, 3, none⟩ u3).setCell ⟨b, 4, none⟩ u4).setCell ⟨b, 5, none⟩ u5) :=
  (((((h.setCell (p := ⟨b, 0, none⟩) hb u0).setCell (p := ⟨b, 1, none⟩) hb u1).setCell (p := ⟨b, 2, none⟩) hb u2).setCell (p := ⟨b, 3, none⟩) hb u3).setCell (p := ⟨b, 4, none⟩) hb u4).setCell (p := ⟨b, 5, none⟩) hb u5
theorem pwhole (lo hi : Nat) (h : lo ≤ hi) (hB : hi ≤ 4398046511104) (w : World) : Calls Tryz.prog 139 #[.int .i64 lo, .int .i64 hi] w fun e w' => e = .returned (.tuple #[.agg #[.int .i64 lo, .int .i64 1, .int .i64 ((lo + hi) / 2 : Nat), .int .i64 1, .int .i64 hi, .int .i64 1], .bool true]) ∧ Below w.heap.size w w' := by
  have h1 : ¬ (hi : Int) < (lo : Int) := by omega
  obtain ⟨x, y, e1, e2, e3⟩ := mid_is hB h
  have e4 : wrap64 ((x : Int) + (y : Int) / 2) = ((lo + hi) / 2 : Nat) := by rw [e3]; exact IntWalk.wrap64_in _ (by omega)
  generalize (lo + hi) / 2 = md at e3 e4 ⊢
  clear e3
  have P1 := Lib.hid (fun w => pratio (lo : Int) w)
  have P2 := Lib.hid (fun w => pratio (md : Int) w)
  have P3 := Lib.hid (fun w => pratio (hi : Int) w)
  go_enter Tryz.func139, Tryz.ntmps139
  go_wp2_with fail
  refine (P1.out _).mono ?_
  rintro e w1 ⟨rfl, hb1⟩
  have r : Row w1 w.heap.size 64 #[.int .i64 0, .int .i64 0, .int .i64 0, .int .i64 0, .int .i64 0, .int .i64 0] := row_call (row_new rfl) hb1
  have o : Below w.heap.size w w1 := ((Below.refl _ _).alloc (Nat.le_refl _) _).trans (hb1.mono (by simp))
  clear hb1
  go_wp2_with fail
  refine (P2.out _).mono ?_
  rintro e w2 ⟨rfl, hb2⟩
  replace r := row_call r hb2
  replace o := o.trans (hb2.mono o.size)
  clear hb2
  go_wp2_with fail
  refine (P3.out _).mono ?_
  rintro e w3 ⟨rfl, hb3⟩
  replace r := row_call r hb3
  replace o := o.trans (hb3.mono o.size)
  clear hb3
  obtain ⟨R0, R1, R2, R3, R4, R5, Rf0, Rf1, Rf2, Rf3, Rf4, Rf5⟩ := row_six r
  go_wp2
  exact bodyPost_ret (v := .tuple #[.agg #[.int .i64 lo, .int .i64 1, .int .i64 md, .int .i64 1, .int .i64 hi, .int .i64 1], .bool true]) (by simp [results, Tryz.results139, go_sem, R0, R1, R2, R3, R4, R5]) rfl ⟨rfl, below_six o (Nat.le_refl _) _ _ _ _ _ _⟩
end Go.Proofs.YtdipoojjlddohaaGreat
end
section
/- Bounds: ratios in lowest terms, walked. -/
set_option linter.unusedVariables false
set_option linter.unusedSimpArgs false
set_option linter.unusedSectionVars false
set_option linter.unnecessarySimpa false
namespace Go.Proofs.YtdipoojjlddohaaGreat
open Go.RowKit
theorem rabsN (a : Nat) (h : a < 9223372036854775808) (w : World) : Calls Tryz.prog 244 #[.int .i64 (a : Nat)] w fun e w' => e = .returned (.int .u64 (a : Nat)) ∧ w' = w := by
  have t0 : ¬ (a : Int) < 0 := by omega
  have wa : IntKind.u64.wrap (a : Int) = (a : Int) := IntWalk.u64_in _ (by omega)
  clear h
  go_enter Tryz.func244, Tryz.ntmps244
  go_wp2
  go_ret
  exact ⟨rfl, rfl⟩
set_option maxHeartbeats 2000000 in
theorem pratval (a b : Nat) (w : World) (ha : a < 9223372036854775808) (hb0 : 1 ≤ b) (hb : b < 9223372036854775808) (hg : Nat.gcd a b = 1) : Calls Tryz.prog 56 #[.agg #[.int .i64 (a : Nat), .int .i64 (b : Nat)]] w fun e w' => e = .returned (.bool true) ∧ Below w.heap.size w w' := by
  have PZ := Lib.hid (fun w => psize a ha w)
  have PA := Lib.hid (fun w => pof a (by omega) w)
  have PB := Lib.hid (fun w => pof b (by omega) w)
  have PO := Lib.hid (fun w => pof 1 (by omega) w)
  have PG := fun w => pgcd a b (by unfold big; omega) (by unfold big; omega) w
  rw [hg] at PG
  replace PG := Lib.hid PG
  have i1 : (1 : Int) ≤ (b : Int) := by omega
  have d1 : decide ((1 : Int) ≤ (b : Int)) = true := decide_eq_true i1
  have wb : IntKind.u64.wrap (b : Int) = (b : Int) := IntWalk.u64_in _ (by omega)
  clear hg
  go_enter Tryz.func56, Tryz.ntmps56
  go_upto_region 1 with (fail)
  have X : Row (w.alloc (.cells #[.int .i64 (a : Nat), .int .i64 (b : Nat)] 62)) w.heap.size 62 #[.int .i64 (a : Nat), .int .i64 (b : Nat)] := row_new rfl
  have o : Below w.heap.size w (w.alloc (.cells #[.int .i64 (a : Nat), .int .i64 (b : Nat)] 62)) := by (repeat (first | exact Below.refl _ _ | refine Below.setCell ?_ (by first | (simp; done) | (simp; omega) | omega) _ | refine Below.alloc ?_ (by first | (simp; done) | (simp; omega) | omega) _ | refine Below.drew ?_ | refine Below.trans ?_ (Below.mono (by assumption) (by first | (simp; done) | (simp; omega) | omega))))
  generalize (w.alloc (.cells #[.int .i64 (a : Nat), .int .i64 (b : Nat)] 62)) = w1 at X o ⊢
  refine wp_region_free0 [0, 1, 2, 3, 4, 5, 6, 7, 8, 9, 10, 11, 12, 13, 14, 15] [] [0, 1, 2, 3, 4, 5, 6, 7, 8, 9, 10, 11, 12, 13, 14, 15] 16 (fun w' => Row w' (w.heap.size) 62 #[.int .i64 (a : Nat), .int .i64 (b : Nat)] ∧ Below w.heap.size w w') (by kernel_rfl) (by kernel_rfl) (fun _ _ d _ _ h => by cases d <;> exact h) ?_ ?_
  · exact ⟨X, o.drew⟩
  (refine plan_pure ?_ rfl rfl (fun w' => ?_) ?_; rotate_left; (go_simp; try with_reducible rfl); simp only [Act.put, List.setIfInBounds_toArray, List.set_cons_zero, List.set_cons_succ])
  (refine plan_val ?_ rfl rfl rfl (fun w' hS => ?_) ?_; rotate_left; (obtain ⟨X0, X1, Xf0, Xf1⟩ := row_two hS.1; go_simp; try with_reducible rfl); simp only [Act.put, List.setIfInBounds_toArray, List.set_cons_zero, List.set_cons_succ])
  (refine plan_pure ?_ rfl rfl (fun w' => ?_) ?_; rotate_left; (go_simp; try with_reducible rfl); simp only [Act.put, List.setIfInBounds_toArray, List.set_cons_zero, List.set_cons_succ])
  (refine plan_pure ?_ rfl rfl (fun w' => ?_) ?_; rotate_left; (go_simp; try with_reducible rfl); simp only [Act.put, List.setIfInBounds_toArray, List.set_cons_zero, List.set_cons_succ])
  (refine plan_pure ?_ rfl rfl (fun w' => ?_) ?_; rotate_left; (go_simp; try with_reducible rfl); simp only [Act.put, List.setIfInBounds_toArray, List.set_cons_zero, List.set_cons_succ])
  (refine plan_val ?_ rfl rfl rfl (fun w' hS => ?_) ?_; rotate_left; (obtain ⟨X0, X1, Xf0, Xf1⟩ := row_two hS.1; go_simp; try with_reducible rfl); simp only [Act.put, List.setIfInBounds_toArray, List.set_cons_zero, List.set_cons_succ])
  refine plan_call (.int .u64 (a : Nat)) 155 #[.int .i64 (a : Nat)] rfl rfl rfl (fun _ _ h hb => ⟨row_call h.1 hb, h.2.trans (hb.mono h.2.size)⟩) (fun w' hS => by obtain ⟨X0, X1, Xf0, Xf1⟩ := row_two hS.1; go_simp) (fun w' hS => (PZ.out w').mono fun _ _ h => ⟨h.1, by rw [h.2]; exact Below.refl _ _⟩) ?_
  simp only [Act.put, List.setIfInBounds_toArray, List.set_cons_zero, List.set_cons_succ]
  refine plan_call (W a) 76 #[.int .u64 (a : Nat)] rfl rfl rfl (fun _ _ h hb => ⟨row_call h.1 hb, h.2.trans (hb.mono h.2.size)⟩) (fun w' hS => by obtain ⟨X0, X1, Xf0, Xf1⟩ := row_two hS.1; go_simp) (fun w' hS => PA.out w') ?_
  simp only [Act.put, List.setIfInBounds_toArray, List.set_cons_zero, List.set_cons_succ]
  (refine plan_pure ?_ rfl rfl (fun w' => ?_) ?_; rotate_left; (go_simp; try with_reducible rfl); simp only [Act.put, List.setIfInBounds_toArray, List.set_cons_zero, List.set_cons_succ])
  (refine plan_val ?_ rfl rfl rfl (fun w' hS => ?_) ?_; rotate_left; (obtain ⟨X0, X1, Xf0, Xf1⟩ := row_two hS.1; go_simp; try with_reducible rfl); simp only [Act.put, List.setIfInBounds_toArray, List.set_cons_zero, List.set_cons_succ])
  (refine plan_pure ?_ rfl rfl (fun w' => ?_) ?_; rotate_left; (go_simp; try with_reducible rfl); simp only [Act.put, List.setIfInBounds_toArray, List.set_cons_zero, List.set_cons_succ])
  refine plan_call (W b) 76 #[.int .u64 (b : Nat)] rfl rfl rfl (fun _ _ h hb => ⟨row_call h.1 hb, h.2.trans (hb.mono h.2.size)⟩) (fun w' hS => by obtain ⟨X0, X1, Xf0, Xf1⟩ := row_two hS.1; go_simp) (fun w' hS => PB.out w') ?_
  simp only [Act.put, List.setIfInBounds_toArray, List.set_cons_zero, List.set_cons_succ]
  refine plan_call (W 1) 154 #[W a, W b] rfl rfl rfl (fun _ _ h hb => ⟨row_call h.1 hb, h.2.trans (hb.mono h.2.size)⟩) (fun w' hS => by obtain ⟨X0, X1, Xf0, Xf1⟩ := row_two hS.1; go_simp) (fun w' hS => PG.out w') ?_
  simp only [Act.put, List.setIfInBounds_toArray, List.set_cons_zero, List.set_cons_succ]
  refine plan_call (W 1) 76 #[.int .u64 1] rfl rfl rfl (fun _ _ h hb => ⟨row_call h.1 hb, h.2.trans (hb.mono h.2.size)⟩) (fun w' hS => by obtain ⟨X0, X1, Xf0, Xf1⟩ := row_two hS.1; go_simp) (fun w' hS => PO.out w') ?_
  simp only [Act.put, List.setIfInBounds_toArray, List.set_cons_zero, List.set_cons_succ]
  (refine plan_pure ?_ rfl rfl (fun w' => ?_) ?_; rotate_left; (go_simp; try with_reducible rfl); simp only [Act.put, List.setIfInBounds_toArray, List.set_cons_zero, List.set_cons_succ])
  (refine plan_pure ?_ rfl rfl (fun w' => ?_) ?_; rotate_left; (go_simp; try with_reducible rfl); simp only [Act.put, List.setIfInBounds_toArray, List.set_cons_zero, List.set_cons_succ])
  refine plan_nil ?_
  intro w3 L
  simp only [List.drop_succ_cons, List.drop_zero]
  try simp only [Act.put, List.setIfInBounds_toArray, List.set_cons_zero, List.set_cons_succ]
  have o2 := L.2
  clear L X o
  go_wp2
  go_ret
  exact ⟨rfl, o2⟩
set_option maxHeartbeats 2000000 in
theorem rratval (a b : Nat) (w : World) (ha : a < 9223372036854775808) (hb0 : 1 ≤ b) (hb : b < 9223372036854775808) (hg : Nat.gcd a b = 1) : Calls Tryz.prog 156 #[.agg #[.int .i64 (a : Nat), .int .i64 (b : Nat)]] w fun e w' => e = .returned (.bool true) ∧ Below w.heap.size w w' := by
  have PZ := Lib.hid (fun w => rabsN a ha w)
  have PA := Lib.hid (fun w => rof a (by omega) w)
  have PB := Lib.hid (fun w => rof b (by omega) w)
  have PO := Lib.hid (fun w => rof 1 (by omega) w)
  have PG := fun w => rgcd a b (by unfold big; omega) (by unfold big; omega) w
  rw [hg] at PG
  replace PG := Lib.hid PG
  have i1 : (1 : Int) ≤ (b : Int) := by omega
  have d1 : decide ((1 : Int) ≤ (b : Int)) = true := decide_eq_true i1
  have wb : IntKind.u64.wrap (b : Int) = (b : Int) := IntWalk.u64_in _ (by omega)
  clear hg
  go_enter Tryz.func156, Tryz.ntmps156
  go_upto_region 1 with (fail)
  have X : Row (w.alloc (.cells #[.int .i64 (a : Nat), .int .i64 (b : Nat)] 62)) w.heap.size 62 #[.int .i64 (a : Nat), .int .i64 (b : Nat)] := row_new rfl
  have o : Below w.heap.size w (w.alloc (.cells #[.int .i64 (a : Nat), .int .i64 (b : Nat)] 62)) := by (repeat (first | exact Below.refl _ _ | refine Below.setCell ?_ (by first | (simp; done) | (simp; omega) | omega) _ | refine Below.alloc ?_ (by first | (simp; done) | (simp; omega) | omega) _ | refine Below.drew ?_ | refine Below.trans ?_ (Below.mono (by assumption) (by first | (simp; done) | (simp; omega) | omega))))
  generalize (w.alloc (.cells #[.int .i64 (a : Nat), .int .i64 (b : Nat)] 62)) = w1 at X o ⊢
  refine wp_region_free0 [0, 1, 2, 3, 4, 5, 6, 7, 8, 9, 10, 11, 12, 13, 14, 15] [] [0, 1, 2, 3, 4, 5, 6, 7, 8, 9, 10, 11, 12, 13, 14, 15] 16 (fun w' => Row w' (w.heap.size) 62 #[.int .i64 (a : Nat), .int .i64 (b : Nat)] ∧ Below w.heap.size w w') (by kernel_rfl) (by kernel_rfl) (fun _ _ d _ _ h => by cases d <;> exact h) ?_ ?_
  · exact ⟨X, o.drew⟩
  (refine plan_pure ?_ rfl rfl (fun w' => ?_) ?_; rotate_left; (go_simp; try with_reducible rfl); simp only [Act.put, List.setIfInBounds_toArray, List.set_cons_zero, List.set_cons_succ])
  (refine plan_val ?_ rfl rfl rfl (fun w' hS => ?_) ?_; rotate_left; (obtain ⟨X0, X1, Xf0, Xf1⟩ := row_two hS.1; go_simp; try with_reducible rfl); simp only [Act.put, List.setIfInBounds_toArray, List.set_cons_zero, List.set_cons_succ])
  (refine plan_pure ?_ rfl rfl (fun w' => ?_) ?_; rotate_left; (go_simp; try with_reducible rfl); simp only [Act.put, List.setIfInBounds_toArray, List.set_cons_zero, List.set_cons_succ])
  (refine plan_pure ?_ rfl rfl (fun w' => ?_) ?_; rotate_left; (go_simp; try with_reducible rfl); simp only [Act.put, List.setIfInBounds_toArray, List.set_cons_zero, List.set_cons_succ])
  (refine plan_pure ?_ rfl rfl (fun w' => ?_) ?_; rotate_left; (go_simp; try with_reducible rfl); simp only [Act.put, List.setIfInBounds_toArray, List.set_cons_zero, List.set_cons_succ])
  (refine plan_val ?_ rfl rfl rfl (fun w' hS => ?_) ?_; rotate_left; (obtain ⟨X0, X1, Xf0, Xf1⟩ := row_two hS.1; go_simp; try with_reducible rfl); simp only [Act.put, List.setIfInBounds_toArray, List.set_cons_zero, List.set_cons_succ])
  refine plan_call (.int .u64 (a : Nat)) 244 #[.int .i64 (a : Nat)] rfl rfl rfl (fun _ _ h hb => ⟨row_call h.1 hb, h.2.trans (hb.mono h.2.size)⟩) (fun w' hS => by obtain ⟨X0, X1, Xf0, Xf1⟩ := row_two hS.1; go_simp) (fun w' hS => (PZ.out w').mono fun _ _ h => ⟨h.1, by rw [h.2]; exact Below.refl _ _⟩) ?_
  simp only [Act.put, List.setIfInBounds_toArray, List.set_cons_zero, List.set_cons_succ]
  refine plan_call (W a) 243 #[.int .u64 (a : Nat)] rfl rfl rfl (fun _ _ h hb => ⟨row_call h.1 hb, h.2.trans (hb.mono h.2.size)⟩) (fun w' hS => by obtain ⟨X0, X1, Xf0, Xf1⟩ := row_two hS.1; go_simp) (fun w' hS => PA.out w') ?_
  simp only [Act.put, List.setIfInBounds_toArray, List.set_cons_zero, List.set_cons_succ]
  (refine plan_pure ?_ rfl rfl (fun w' => ?_) ?_; rotate_left; (go_simp; try with_reducible rfl); simp only [Act.put, List.setIfInBounds_toArray, List.set_cons_zero, List.set_cons_succ])
  (refine plan_val ?_ rfl rfl rfl (fun w' hS => ?_) ?_; rotate_left; (obtain ⟨X0, X1, Xf0, Xf1⟩ := row_two hS.1; go_simp; try with_reducible rfl); simp only [Act.put, List.setIfInBounds_toArray, List.set_cons_zero, List.set_cons_succ])
  (refine plan_pure ?_ rfl rfl (fun w' => ?_) ?_; rotate_left; (go_simp; try with_reducible rfl); simp only [Act.put, List.setIfInBounds_toArray, List.set_cons_zero, List.set_cons_succ])
  refine plan_call (W b) 243 #[.int .u64 (b : Nat)] rfl rfl rfl (fun _ _ h hb => ⟨row_call h.1 hb, h.2.trans (hb.mono h.2.size)⟩) (fun w' hS => by obtain ⟨X0, X1, Xf0, Xf1⟩ := row_two hS.1; go_simp) (fun w' hS => PB.out w') ?_
  simp only [Act.put, List.setIfInBounds_toArray, List.set_cons_zero, List.set_cons_succ]
  refine plan_call (W 1) 242 #[W a, W b] rfl rfl rfl (fun _ _ h hb => ⟨row_call h.1 hb, h.2.trans (hb.mono h.2.size)⟩) (fun w' hS => by obtain ⟨X0, X1, Xf0, Xf1⟩ := row_two hS.1; go_simp) (fun w' hS => PG.out w') ?_
  simp only [Act.put, List.setIfInBounds_toArray, List.set_cons_zero, List.set_cons_succ]
  refine plan_call (W 1) 243 #[.int .u64 1] rfl rfl rfl (fun _ _ h hb => ⟨row_call h.1 hb, h.2.trans (hb.mono h.2.size)⟩) (fun w' hS => by obtain ⟨X0, X1, Xf0, Xf1⟩ := row_two hS.1; go_simp) (fun w' hS => PO.out w') ?_
  simp only [Act.put, List.setIfInBounds_toArray, List.set_cons_zero, List.set_cons_succ]
  (refine plan_pure ?_ rfl rfl (fun w' => ?_) ?_; rotate_left; (go_simp; try with_reducible rfl); simp only [Act.put, List.setIfInBounds_toArray, List.set_cons_zero, List.set_cons_succ])
  (refine plan_pure ?_ rfl rfl (fun w' => ?_) ?_; rotate_left; (go_simp; try with_reducible rfl); simp only [Act.put, List.setIfInBounds_toArray, List.set_cons_zero, List.set_cons_succ])
  refine plan_nil ?_
  intro w3 L
  simp only [List.drop_succ_cons, List.drop_zero]
  try simp only [Act.put, List.setIfInBounds_toArray, List.set_cons_zero, List.set_cons_succ]
  have o2 := L.2
  clear L X o
  go_wp2
  go_ret
  exact ⟨rfl, o2⟩
theorem pexactR (a b : Nat) (w : World) (ha : a < 9223372036854775808) (hb0 : 1 ≤ b) (hb : b < 9223372036854775808) (hg : Nat.gcd a b = 1) : Calls Tryz.prog 85 #[.agg #[.int .i64 (a : Nat), .int .i64 (b : Nat)]] w fun e w' => e = .returned (.agg #[.int .i64 (a : Nat), .int .i64 (b : Nat), .int .i64 (a : Nat), .int .i64 (b : Nat), .int .i64 (a : Nat), .int .i64 (b : Nat)]) ∧ Below w.heap.size w w' := by
  have PV := Lib.hid (fun w => pratval a b w ha hb0 hb hg)
  clear ha hb0 hb hg
  go_enter Tryz.func85, Tryz.ntmps85
  go_wp2_with fail
  have X : Row ((w.alloc (.cells #[.int .i64 (a : Nat), .int .i64 (b : Nat)] 62)).alloc (.cells #[.int .i64 0, .int .i64 0, .int .i64 0, .int .i64 0, .int .i64 0, .int .i64 0] 64)) w.heap.size 62 #[.int .i64 (a : Nat), .int .i64 (b : Nat)] := row_alloc (row_new rfl) _
  have R : Row ((w.alloc (.cells #[.int .i64 (a : Nat), .int .i64 (b : Nat)] 62)).alloc (.cells #[.int .i64 0, .int .i64 0, .int .i64 0, .int .i64 0, .int .i64 0, .int .i64 0] 64)) (w.heap.size + 1) 64 #[.int .i64 0, .int .i64 0, .int .i64 0, .int .i64 0, .int .i64 0, .int .i64 0] := row_new (by simp)
  have o : Below w.heap.size w ((w.alloc (.cells #[.int .i64 (a : Nat), .int .i64 (b : Nat)] 62)).alloc (.cells #[.int .i64 0, .int .i64 0, .int .i64 0, .int .i64 0, .int .i64 0, .int .i64 0] 64)) := by (repeat (first | exact Below.refl _ _ | refine Below.setCell ?_ (by first | (simp; done) | (simp; omega) | omega) _ | refine Below.alloc ?_ (by first | (simp; done) | (simp; omega) | omega) _ | refine Below.drew ?_ | refine Below.trans ?_ (Below.mono (by assumption) (by first | (simp; done) | (simp; omega) | omega))))
  generalize ((w.alloc (.cells #[.int .i64 (a : Nat), .int .i64 (b : Nat)] 62)).alloc (.cells #[.int .i64 0, .int .i64 0, .int .i64 0, .int .i64 0, .int .i64 0, .int .i64 0] 64)) = w1 at X R o ⊢
  refine (PV.out _).mono ?_
  rintro e w2 ⟨rfl, hb2⟩
  replace X := row_call X hb2
  replace R := row_call R hb2
  replace o := o.trans (hb2.mono o.size)
  clear hb2
  obtain ⟨X0, X1, Xf0, Xf1⟩ := row_two X
  obtain ⟨R0, R1, R2, R3, R4, R5, Rf0, Rf1, Rf2, Rf3, Rf4, Rf5⟩ := row_six R
  go_wp2
  exact bodyPost_ret (v := .agg #[.int .i64 (a : Nat), .int .i64 (b : Nat), .int .i64 (a : Nat), .int .i64 (b : Nat), .int .i64 (a : Nat), .int .i64 (b : Nat)]) (by simp [results, Tryz.results85, go_sem, R0, R1, R2, R3, R4, R5]) rfl ⟨rfl, below_six o (by omega) _ _ _ _ _ _⟩
theorem rexactR (a b : Nat) (w : World) (ha : a < 9223372036854775808) (hb0 : 1 ≤ b) (hb : b < 9223372036854775808) (hg : Nat.gcd a b = 1) : Calls Tryz.prog 58 #[.agg #[.int .i64 (a : Nat), .int .i64 (b : Nat)]] w fun e w' => e = .returned (.agg #[.int .i64 (a : Nat), .int .i64 (b : Nat), .int .i64 (a : Nat), .int .i64 (b : Nat), .int .i64 (a : Nat), .int .i64 (b : Nat)]) ∧ Below w.heap.size w w' := by
  have PV := Lib.hid (fun w => rratval a b w ha hb0 hb hg)
  clear ha hb0 hb hg
  go_enter Tryz.func58, Tryz.ntmps58
  go_wp2_with fail
  have X : Row ((w.alloc (.cells #[.int .i64 (a : Nat), .int .i64 (b : Nat)] 62)).alloc (.cells #[.int .i64 0, .int .i64 0, .int .i64 0, .int .i64 0, .int .i64 0, .int .i64 0] 64)) w.heap.size 62 #[.int .i64 (a : Nat), .int .i64 (b : Nat)] := row_alloc (row_new rfl) _
  have R : Row ((w.alloc (.cells #[.int .i64 (a : Nat), .int .i64 (b : Nat)] 62)).alloc (.cells #[.int .i64 0, .int .i64 0, .int .i64 0, .int .i64 0, .int .i64 0, .int .i64 0] 64)) (w.heap.size + 1) 64 #[.int .i64 0, .int .i64 0, .int .i64 0, .int .i64 0, .int .i64 0, .int .i64 0] := row_new (by simp)
  have o : Below w.heap.size w ((w.alloc (.cells #[.int .i64 (a : Nat), .int .i64 (b : Nat)] 62)).alloc (.cells #[.int .i64 0, .int .i64 0, .int .i64 0, .int .i64 0, .int .i64 0, .int .i64 0] 64)) := by (repeat (first | exact Below.refl _ _ | refine Below.setCell ?_ (by first | (simp; done) | (simp; omega) | omega) _ | refine Below.alloc ?_ (by first | (simp; done) | (simp; omega) | omega) _ | refine Below.drew ?_ | refine Below.trans ?_ (Below.mono (by assumption) (by first | (simp; done) | (simp; omega) | omega))))
  generalize ((w.alloc (.cells #[.int .i64 (a : Nat), .int .i64 (b : Nat)] 62)).alloc (.cells #[.int .i64 0, .int .i64 0, .int .i64 0, .int .i64 0, .int .i64 0, .int .i64 0] 64)) = w1 at X R o ⊢
  refine (PV.out _).mono ?_
  rintro e w2 ⟨rfl, hb2⟩
  replace X := row_call X hb2
  replace R := row_call R hb2
  replace o := o.trans (hb2.mono o.size)
  clear hb2
  obtain ⟨X0, X1, Xf0, Xf1⟩ := row_two X
  obtain ⟨R0, R1, R2, R3, R4, R5, Rf0, Rf1, Rf2, Rf3, Rf4, Rf5⟩ := row_six R
  go_wp2
  exact bodyPost_ret (v := .agg #[.int .i64 (a : Nat), .int .i64 (b : Nat), .int .i64 (a : Nat), .int .i64 (b : Nat), .int .i64 (a : Nat), .int .i64 (b : Nat)]) (by simp [results, Tryz.results58, go_sem, R0, R1, R2, R3, R4, R5]) rfl ⟨rfl, below_six o (by omega) _ _ _ _ _ _⟩
end Go.Proofs.YtdipoojjlddohaaGreat
end
section
/- Plain facts on products of signed numbers: no program is in sight. -/
set_option linter.unusedVariables false
set_option linter.unusedSimpArgs false
set_option linter.unusedSectionVars false
set_option linter.unnecessarySimpa false
namespace Go.Proofs.YtdipoojjlddohaaGreat
open Go.RowKit
/-- The order of two integers. -/
def icmp (p q : Int) : Int := if p < q then -1 else if p = q then 0 else 1
/-- The magnitude of a product. -/
def pabs (a b : Int) : Nat := a.natAbs * b.natAbs
/-- The product is below 0 as far as the signs say. -/
def sneg (a b : Int) : Bool := decide (a < 0) != decide (b < 0)
/-- The product is below 0. -/
def pneg (a b : Int) : Bool := sneg a b && !decide (pabs a b = 0)
/-- The sign. -/
def isign (a : Int) : Int := if a < 0 then -1 else if 0 < a then 1 else 0
theorem i64_abs {a : Int} (h : -9223372036854775808 ≤ a ∧ a ≤ 9223372036854775807) : a.natAbs < 18446744073709551616 := by omega
theorem pabs_eq (a b : Int) : pabs a b = (a * b).natAbs := (Int.natAbs_mul a b).symm
theorem pneg_eq (a b : Int) : pneg a b = decide (a * b < 0) := by
  have hz : pabs a b = 0 ↔ a = 0 ∨ b = 0 := by
    unfold pabs
    rw [Nat.mul_eq_zero]
    omega
  unfold pneg sneg
  rcases Int.lt_trichotomy a 0 with h | h | h <;> rcases Int.lt_trichotomy b 0 with k | k | k
  · have := Int.mul_pos_of_neg_of_neg h k
    simp [h, k]; omega
  · subst k; simp [h, hz]
  · have := Int.mul_neg_of_neg_of_pos h k
    have n0 : ¬ b < 0 := by omega
    have : ¬ (pabs a b = 0) := by rw [hz]; omega
    simp [h, n0, this]; omega
  · subst h; simp [k, hz]
  · subst h; subst k; simp
  · subst h; simp [hz] <;> omega
  · have := Int.mul_neg_of_pos_of_neg h k
    have n0 : ¬ a < 0 := by omega
    have : ¬ (pabs a b = 0) := by rw [hz]; omega
    simp [k, n0, this]; omega
  · subst k; simp [hz] <;> omega
  · have := Int.mul_pos h k
    have n0 : ¬ a < 0 := by omega
    have n1 : ¬ b < 0 := by omega
    simp [n0, n1]; omega
/-- What the program answers. -/
def pcrossV (m n : Bool) (x y : Nat) : Int := if m then (if n then cmp y x else -1) else (if n then 1 else cmp x y)
theorem cross_is (a b c d : Int) : pcrossV (pneg a b) (pneg c d) (pabs a b) (pabs c d) = icmp (a * b) (c * d) := by
  rw [pneg_eq, pneg_eq, pabs_eq, pabs_eq]
  generalize a * b = p
  generalize c * d = q
  unfold pcrossV icmp cmp
  by_cases h : p < 0 <;> by_cases k : q < 0 <;> simp only [h, k, decide_true, decide_false, if_true, if_false, Bool.false_eq_true] <;> repeat (first | omega | split)
/-- What the reference answers. -/
def rcrossV (p q : Int) (x y : Nat) : Int := if p < q then -1 else if q < p then 1 else p * cmp x y
end Go.Proofs.YtdipoojjlddohaaGreat
end
section
/- The exact comparison of two products, walked: the program, the reference and the law. -/
set_option linter.unusedVariables false
set_option linter.unusedSimpArgs false
set_option linter.unusedSectionVars false
set_option linter.unnecessarySimpa false
namespace Go.Proofs.YtdipoojjlddohaaGreat
open Go.RowKit Go.Shelf
theorem ret_eqX {k : IntKind} {a b : Int} (h : a = b) : Ending.returned (.int k a) = .returned (.int k b) := by rw [h]
theorem neg_wrap (a : Int) (h : -9223372036854775808 ≤ a) (k : a < 0) : IntKind.u64.wrap (-IntKind.u64.wrap a) = (a.natAbs : Int) := by
  rw [IntKind.wrap_u64, IntKind.wrap_u64]
  omega
theorem wpsize (a : Int) (h : -9223372036854775808 ≤ a ∧ a ≤ 9223372036854775807) (w : World) :
    Calls Tryz.prog 274 #[.int .i64 a] w fun e w' => e = .returned (.int .u64 (a.natAbs : Int)) ∧ w' = w := by
  obtain ⟨h1, h2⟩ := h
  by_cases hn : a < 0
  all_goals
    go_enter Tryz.func274, Tryz.ntmps274
    go_wp2
    go_ret
    exact ⟨ret_eqX (by first | omega | exact neg_wrap a h1 hn), rfl⟩
theorem pprodn (x y : Nat) (hx : x < 18446744073709551616) (hy : y < 18446744073709551616) (w : World) :
    Calls Tryz.prog 89 #[.int .u64 x, .int .u64 y] w fun e w' => e = .returned (W (x * y)) ∧ Below w.heap.size w w' := pproduct x y ⟨by omega, by omega⟩ ⟨by omega, by omega⟩ w
theorem psigned (a b : Int) (ha : -9223372036854775808 ≤ a ∧ a ≤ 9223372036854775807) (hb : -9223372036854775808 ≤ b ∧ b ≤ 9223372036854775807) (w : World) :
    Calls Tryz.prog 241 #[.int .i64 a, .int .i64 b] w fun e w' => e = .returned (.tuple #[.bool (sneg a b), W (pabs a b)]) ∧ Below w.heap.size w w' := by
  have HA := Lib.hid (fun w => wpsize a ha w)
  have HB := Lib.hid (fun w => wpsize b hb w)
  have HP := Lib.hid (fun w => pprodn a.natAbs b.natAbs (i64_abs ha) (i64_abs hb) w)
  clear ha hb
  unfold sneg pabs
  generalize a.natAbs * b.natAbs = z at HP ⊢
  generalize a.natAbs = x at HA HP
  generalize b.natAbs = y at HB HP
  go_enter Tryz.func241, Tryz.ntmps241
  go_wp2_with (first | (go_at_call 274; (first | with_reducible refine (HA.out _).mono ?_ | with_reducible refine (HB.out _).mono ?_); rintro e w9 ⟨rfl, rfl⟩) | (go_at_call 89; refine (HP.out _).mono ?_; rintro e w1 ⟨rfl, hb1⟩; have hz1 := hb1.size; (try simp at hz1); have q1_0 : w.heap.size < w1.heap.size := (by omega); have r1_0 : Row w1 (w.heap.size) 67 #[.int .u64 0, .int .u64 0] := row_call (by (repeat (first | assumption | (refine row_new ?_; (first | (simp; done) | omega)) | refine row_alloc ?_ _ | refine row_drew ?_ | refine row_call ?_ (by assumption)))) hb1; obtain ⟨c1_0a, c1_0b, f1_0a, f1_0b⟩ := row_two r1_0))
  have r2 := row_two_set (u := .int .u64 (hi z)) (v := .int .u64 (lo z)) r1_0
  have o2 : Below w.heap.size w ((w1.setCell ⟨w.heap.size, 0, none⟩ (.int .u64 (hi z))).setCell ⟨w.heap.size, 1, none⟩ (.int .u64 (lo z))) := by
    (repeat (first | exact Below.refl _ _ | refine Below.setCell ?_ (by first | (simp; done) | (simp; omega) | omega) _ | refine Below.alloc ?_ (by first | (simp; done) | (simp; omega) | omega) _ | refine Below.drew ?_ | refine Below.trans ?_ (Below.mono (by assumption) (by first | (simp; done) | (simp; omega) | omega))))
  generalize ((w1.setCell ⟨w.heap.size, 0, none⟩ (.int .u64 (hi z))).setCell ⟨w.heap.size, 1, none⟩ (.int .u64 (lo z))) = w2 at r2 o2 ⊢
  obtain ⟨d1, d2, _, _⟩ := row_two r2
  exact bodyPost_ret (v := .tuple #[.bool (decide (a < 0) != decide (b < 0)), W z]) (by simp [results, Tryz.results241, go_sem, bne, W, d1, d2]) rfl ⟨rfl, o2⟩
theorem pcross_in (a b c d : Int) (s1 s2 z1 z2 : Bool) (x y : Nat)
    (H1 : RowKit.Hid (∀ w, Calls Tryz.prog 241 #[.int .i64 a, .int .i64 b] w fun e w' => e = .returned (.tuple #[.bool s1, W x]) ∧ Below w.heap.size w w'))
    (H2 : RowKit.Hid (∀ w, Calls Tryz.prog 241 #[.int .i64 c, .int .i64 d] w fun e w' => e = .returned (.tuple #[.bool s2, W y]) ∧ Below w.heap.size w w'))
    (Z1 : RowKit.Hid (∀ w, Calls Tryz.prog 163 #[W x] w fun e w' => e = .returned (.bool z1) ∧ Below w.heap.size w w'))
    (Z2 : RowKit.Hid (∀ w, Calls Tryz.prog 163 #[W y] w fun e w' => e = .returned (.bool z2) ∧ Below w.heap.size w w')) (w : World) :
    Calls Tryz.prog 153 #[.int .i64 a, .int .i64 b, .int .i64 c, .int .i64 d] w fun e w' => e = .returned (.int .i64 (pcrossV (s1 && !z1) (s2 && !z2) x y)) ∧ Below w.heap.size w w' := by
  cases s1 <;> cases s2 <;> cases z1 <;> cases z2
  all_goals
    go_enter Tryz.func153, Tryz.ntmps153
    go_wp2_with (first | (go_at_call 241; with_reducible refine (H1.out _).mono ?_; rintro e w1 ⟨rfl, hb1⟩; have hz1 := hb1.size; (try simp at hz1)) | (go_at_call 241; with_reducible refine (H2.out _).mono ?_; rintro e w2 ⟨rfl, hb2⟩; have hz2 := hb2.size; (try simp at hz2); have q2_0 : w1.heap.size < w2.heap.size := (by omega); have r2_0 : Row w2 (w1.heap.size) 67 (Wc x) := row_call (by (repeat (first | assumption | (refine row_new ?_; (first | (simp; done) | omega)) | refine row_alloc ?_ _ | refine row_drew ?_ | refine row_call ?_ (by assumption)))) hb2; obtain ⟨c2_0a, c2_0b, f2_0a, f2_0b⟩ := row_two r2_0) | (go_at_call 163; with_reducible refine (Z1.out _).mono ?_; rintro e w3 ⟨rfl, hb3⟩; have hz3 := hb3.size; (try simp at hz3); have q3_0 : w1.heap.size < w3.heap.size := (by omega); have r3_0 : Row w3 (w1.heap.size) 67 (Wc x) := row_call (by (repeat (first | assumption | (refine row_new ?_; (first | (simp; done) | omega)) | refine row_alloc ?_ _ | refine row_drew ?_ | refine row_call ?_ (by assumption)))) hb3; obtain ⟨c3_0a, c3_0b, f3_0a, f3_0b⟩ := row_two r3_0; have q3_1 : w2.heap.size < w3.heap.size := (by omega); have r3_1 : Row w3 (w2.heap.size) 67 (Wc y) := row_call (by (repeat (first | assumption | (refine row_new ?_; (first | (simp; done) | omega)) | refine row_alloc ?_ _ | refine row_drew ?_ | refine row_call ?_ (by assumption)))) hb3; obtain ⟨c3_1a, c3_1b, f3_1a, f3_1b⟩ := row_two r3_1) | (go_at_call 163; with_reducible refine (Z2.out _).mono ?_; rintro e w4 ⟨rfl, hb4⟩; have hz4 := hb4.size; (try simp at hz4); have q4_0 : w1.heap.size < w4.heap.size := (by omega); have r4_0 : Row w4 (w1.heap.size) 67 (Wc x) := row_call (by (repeat (first | assumption | (refine row_new ?_; (first | (simp; done) | omega)) | refine row_alloc ?_ _ | refine row_drew ?_ | refine row_call ?_ (by assumption)))) hb4; obtain ⟨c4_0a, c4_0b, f4_0a, f4_0b⟩ := row_two r4_0; have q4_1 : w2.heap.size < w4.heap.size := (by omega); have r4_1 : Row w4 (w2.heap.size) 67 (Wc y) := row_call (by (repeat (first | assumption | (refine row_new ?_; (first | (simp; done) | omega)) | refine row_alloc ?_ _ | refine row_drew ?_ | refine row_call ?_ (by assumption)))) hb4; obtain ⟨c4_1a, c4_1b, f4_1a, f4_1b⟩ := row_two r4_1) | (go_at_call 235; refine (pcmp_any _ _ _).mono ?_; rintro e w5 ⟨rfl, hb5⟩; have hz5 := hb5.size; (try simp at hz5)))
    all_goals
      go_ret
      refine ⟨rfl, ?_⟩
      (repeat (first | exact Below.refl _ _ | refine Below.setCell ?_ (by first | (simp; done) | (simp; omega) | omega) _ | refine Below.alloc ?_ (by first | (simp; done) | (simp; omega) | omega) _ | refine Below.drew ?_ | refine Below.trans ?_ (Below.mono (by assumption) (by first | (simp; done) | (simp; omega) | omega))))
theorem pcross (a b c d : Int) (ha : -9223372036854775808 ≤ a ∧ a ≤ 9223372036854775807) (hb : -9223372036854775808 ≤ b ∧ b ≤ 9223372036854775807) (hc : -9223372036854775808 ≤ c ∧ c ≤ 9223372036854775807) (hd : -9223372036854775808 ≤ d ∧ d ≤ 9223372036854775807) (w : World) :
    Calls Tryz.prog 153 #[.int .i64 a, .int .i64 b, .int .i64 c, .int .i64 d] w fun e w' => e = .returned (.int .i64 (icmp (a * b) (c * d))) ∧ Below w.heap.size w w' := by
  have h := pcross_in a b c d _ _ _ _ _ _ (Lib.hid fun w => psigned a b ha hb w) (Lib.hid fun w => psigned c d hc hd w) (Lib.hid fun w => pzero (pabs a b) w) (Lib.hid fun w => pzero (pabs c d) w) w
  rw [show (sneg a b && !decide (pabs a b = 0)) = pneg a b from rfl, show (sneg c d && !decide (pabs c d = 0)) = pneg c d from rfl, cross_is] at h
  exact h
end Go.Proofs.YtdipoojjlddohaaGreat
end
section
/- Unsigned numbers of 256 bits times a word, walked. -/
set_option linter.unusedVariables false
set_option linter.unusedSimpArgs false
set_option linter.unusedSectionVars false
set_option linter.unnecessarySimpa false
namespace Go.Proofs.YtdipoojjlddohaaGreat
open Go.RowKit Go.Shelf
/-- The word i of a number. -/
def qd (i N : Nat) : Nat := N / 18446744073709551616 ^ i % 18446744073709551616
/-- What the words below i carry over in the product with n. -/
def qc (N n i : Nat) : Nat := N % 18446744073709551616 ^ i * n / 18446744073709551616 ^ i
def QV (N : Nat) : Value := .agg #[.int .u64 (qd 0 N), .int .u64 (qd 1 N), .int .u64 (qd 2 N), .int .u64 (qd 3 N)]
end Go.Proofs.YtdipoojjlddohaaGreat
end
section
/- Ratios are compared, intervals are valid and hold a number: for ratios that are not negative, walked. -/
set_option linter.unusedVariables false
set_option linter.unusedSimpArgs false
set_option linter.unusedSectionVars false
set_option linter.unnecessarySimpa false
namespace Go.Proofs.YtdipoojjlddohaaGreat
open Go.RowKit Go.Shelf
/-- A ratio in lowest terms that is not negative and not large. -/
def RatOK (a b : Nat) : Prop := a < 4611686018427387904 ∧ (1 ≤ b ∧ b ≤ 4294967295) ∧ Nat.gcd a b = 1
theorem ratOK_one {a : Nat} (h : a < 4611686018427387904) : RatOK a 1 := ⟨h, ⟨by omega, by omega⟩, Nat.gcd_one_right a⟩
theorem pvR {a b : Nat} (h : RatOK a b) (w : World) : Calls Tryz.prog 56 #[.agg #[.int .i64 (a : Nat), .int .i64 (b : Nat)]] w fun e w' => e = .returned (.bool true) ∧ Below w.heap.size w w' := pratval a b w (by have := h.1; omega) h.2.1.1 (by have := h.2.1.2; omega) h.2.2
theorem pcmpR {a b c d : Nat} (h1 : RatOK a b) (h2 : RatOK c d) (w : World) : Calls Tryz.prog 55 #[.agg #[.int .i64 (a : Nat), .int .i64 (b : Nat)], .agg #[.int .i64 (c : Nat), .int .i64 (d : Nat)]] w fun e w' => e = .returned (.int .i64 (icmp ((a : Int) * (d : Int)) ((c : Int) * (b : Int)))) ∧ Below w.heap.size w w' := by
  have P1 := Lib.hid (fun w => pvR h1 w)
  have P2 := Lib.hid (fun w => pvR h2 w)
  have P3 := fun w => pcross (a : Int) (d : Int) (c : Int) (b : Int) (by have := h1.1; omega) (by have := h2.2.1.2; omega) (by have := h2.1; omega) (by have := h1.2.1.2; omega) w
  generalize icmp ((a : Int) * (d : Int)) ((c : Int) * (b : Int)) = r at P3 ⊢
  replace P3 := Lib.hid P3
  clear h1 h2
  go_enter Tryz.func55, Tryz.ntmps55
  go_wp2_with (first | (go_at_call 56; with_reducible refine (P1.out _).mono ?_; rintro e w1 ⟨rfl, hb1⟩; have hz1 := hb1.size; (try simp at hz1); have o1 : Below w.heap.size w w1 := (by (repeat (first | exact Below.refl _ _ | refine Below.setCell ?_ (by first | (simp; done) | (simp; omega) | omega) _ | refine Below.alloc ?_ (by first | (simp; done) | (simp; omega) | omega) _ | refine Below.drew ?_ | refine Below.trans ?_ (Below.mono (by assumption) (by first | (simp; done) | (simp; omega) | omega))))); have q1_0 : w.heap.size < w1.heap.size := (by omega); have r1_0 : Row w1 (w.heap.size) 62 #[.int .i64 (a : Nat), .int .i64 (b : Nat)] := row_call (by (repeat (first | assumption | (refine row_new ?_; (first | (simp; done) | omega)) | refine row_alloc ?_ _ | refine row_drew ?_ | refine row_call ?_ (by assumption)))) hb1; obtain ⟨c1_0a, c1_0b, f1_0a, f1_0b⟩ := row_two r1_0; have q1_1 : w.heap.size + 1 < w1.heap.size := (by omega); have r1_1 : Row w1 (w.heap.size + 1) 62 #[.int .i64 (c : Nat), .int .i64 (d : Nat)] := row_call (by (repeat (first | assumption | (refine row_new ?_; (first | (simp; done) | omega)) | refine row_alloc ?_ _ | refine row_drew ?_ | refine row_call ?_ (by assumption)))) hb1; obtain ⟨c1_1a, c1_1b, f1_1a, f1_1b⟩ := row_two r1_1) | (go_at_call 56; with_reducible refine (P2.out _).mono ?_; rintro e w2 ⟨rfl, hb2⟩; have hz2 := hb2.size; (try simp at hz2); have o2 : Below w.heap.size w w2 := (by (repeat (first | exact Below.refl _ _ | refine Below.setCell ?_ (by first | (simp; done) | (simp; omega) | omega) _ | refine Below.alloc ?_ (by first | (simp; done) | (simp; omega) | omega) _ | refine Below.drew ?_ | refine Below.trans ?_ (Below.mono (by assumption) (by first | (simp; done) | (simp; omega) | omega))))); have q2_0 : w.heap.size < w2.heap.size := (by omega); have r2_0 : Row w2 (w.heap.size) 62 #[.int .i64 (a : Nat), .int .i64 (b : Nat)] := row_call (by (repeat (first | assumption | (refine row_new ?_; (first | (simp; done) | omega)) | refine row_alloc ?_ _ | refine row_drew ?_ | refine row_call ?_ (by assumption)))) hb2; obtain ⟨c2_0a, c2_0b, f2_0a, f2_0b⟩ := row_two r2_0; have q2_1 : w.heap.size + 1 < w2.heap.size := (by omega); have r2_1 : Row w2 (w.heap.size + 1) 62 #[.int .i64 (c : Nat), .int .i64 (d : Nat)] := row_call (by (repeat (first | assumption | (refine row_new ?_; (first | (simp; done) | omega)) | refine row_alloc ?_ _ | refine row_drew ?_ | refine row_call ?_ (by assumption)))) hb2; obtain ⟨c2_1a, c2_1b, f2_1a, f2_1b⟩ := row_two r2_1) | (go_at_call 153; with_reducible refine (P3.out _).mono ?_; rintro e w3 ⟨rfl, hb3⟩; have hz3 := hb3.size; (try simp at hz3); have o3 : Below w.heap.size w w3 := (by (repeat (first | exact Below.refl _ _ | refine Below.setCell ?_ (by first | (simp; done) | (simp; omega) | omega) _ | refine Below.alloc ?_ (by first | (simp; done) | (simp; omega) | omega) _ | refine Below.drew ?_ | refine Below.trans ?_ (Below.mono (by assumption) (by first | (simp; done) | (simp; omega) | omega)))))))
  go_ret
  exact ⟨rfl, o3⟩
theorem icmp_le {p q : Int} (h : p ≤ q) : icmp p q ≤ 0 := by unfold icmp; split <;> (try split) <;> omega
theorem pleR {a b c d : Nat} (h1 : RatOK a b) (h2 : RatOK c d) (h : a * d ≤ c * b) : ∃ r : Int, r ≤ 0 ∧ ∀ w, Calls Tryz.prog 55 #[.agg #[.int .i64 (a : Nat), .int .i64 (b : Nat)], .agg #[.int .i64 (c : Nat), .int .i64 (d : Nat)]] w fun e w' => e = .returned (.int .i64 r) ∧ Below w.heap.size w w' :=
  ⟨_, icmp_le (by rw [← Int.natCast_mul, ← Int.natCast_mul]; exact Int.ofNat_le.2 h), fun w => pcmpR h1 h2 w⟩
/-- An interval of ratios with an estimate in it. -/
structure BndOK (l1 l2 m1 m2 h1 h2 : Nat) : Prop where
  lo : RatOK l1 l2
  md : RatOK m1 m2
  hi : RatOK h1 h2
  lm : l1 * m2 ≤ m1 * l2
  mh : m1 * h2 ≤ h1 * m2
set_option maxHeartbeats 1000000 in
theorem pbvalid {l1 l2 m1 m2 h1 h2 : Nat} (h : BndOK l1 l2 m1 m2 h1 h2) (w : World) : Calls Tryz.prog 14 #[.agg #[.int .i64 (l1 : Nat), .int .i64 (l2 : Nat), .int .i64 (m1 : Nat), .int .i64 (m2 : Nat), .int .i64 (h1 : Nat), .int .i64 (h2 : Nat)]] w fun e w' => e = .returned (.bool true) ∧ Below w.heap.size w w' := by
  have P1 := Lib.hid (fun w => pvR h.lo w)
  have P2 := Lib.hid (fun w => pvR h.md w)
  have P3 := Lib.hid (fun w => pvR h.hi w)
  obtain ⟨r4, i4, P4⟩ := pleR h.lo h.md h.lm
  obtain ⟨r5, i5, P5⟩ := pleR h.md h.hi h.mh
  replace P4 := Lib.hid P4
  replace P5 := Lib.hid P5
  clear h
  go_enter Tryz.func14, Tryz.ntmps14
  go_upto_region 1 with (fail)
  have X : Row (w.alloc (.cells #[.int .i64 (l1 : Nat), .int .i64 (l2 : Nat), .int .i64 (m1 : Nat), .int .i64 (m2 : Nat), .int .i64 (h1 : Nat), .int .i64 (h2 : Nat)] 64)) w.heap.size 64 #[.int .i64 (l1 : Nat), .int .i64 (l2 : Nat), .int .i64 (m1 : Nat), .int .i64 (m2 : Nat), .int .i64 (h1 : Nat), .int .i64 (h2 : Nat)] := row_new rfl
  have o : Below w.heap.size w (w.alloc (.cells #[.int .i64 (l1 : Nat), .int .i64 (l2 : Nat), .int .i64 (m1 : Nat), .int .i64 (m2 : Nat), .int .i64 (h1 : Nat), .int .i64 (h2 : Nat)] 64)) := by (repeat (first | exact Below.refl _ _ | refine Below.setCell ?_ (by first | (simp; done) | (simp; omega) | omega) _ | refine Below.alloc ?_ (by first | (simp; done) | (simp; omega) | omega) _ | refine Below.drew ?_ | refine Below.trans ?_ (Below.mono (by assumption) (by first | (simp; done) | (simp; omega) | omega))))
  generalize (w.alloc (.cells #[.int .i64 (l1 : Nat), .int .i64 (l2 : Nat), .int .i64 (m1 : Nat), .int .i64 (m2 : Nat), .int .i64 (h1 : Nat), .int .i64 (h2 : Nat)] 64)) = w0 at X o ⊢
  obtain ⟨X0, X1, X2, X3, X4, X5, Xf0, Xf1, Xf2, Xf3, Xf4, Xf5⟩ := row_six X
  go_wp2_with fail
  refine (P1.out _).mono ?_
  rintro e w1 ⟨rfl, hb⟩
  replace X := row_call X hb
  replace o := o.trans (hb.mono o.size)
  clear hb X0 Xf0 X1 Xf1 X2 Xf2 X3 Xf3 X4 Xf4 X5 Xf5
  obtain ⟨X0, X1, X2, X3, X4, X5, Xf0, Xf1, Xf2, Xf3, Xf4, Xf5⟩ := row_six X
  go_wp2_with fail
  refine (P2.out _).mono ?_
  rintro e w2 ⟨rfl, hb⟩
  replace X := row_call X hb
  replace o := o.trans (hb.mono o.size)
  clear hb X0 Xf0 X1 Xf1 X2 Xf2 X3 Xf3 X4 Xf4 X5 Xf5
  obtain ⟨X0, X1, X2, X3, X4, X5, Xf0, Xf1, Xf2, Xf3, Xf4, Xf5⟩ := row_six X
  go_wp2_with fail
  refine (P3.out _).mono ?_
  rintro e w3 ⟨rfl, hb⟩
  replace X := row_call X hb
  replace o := o.trans (hb.mono o.size)
  clear hb X0 Xf0 X1 Xf1 X2 Xf2 X3 Xf3 X4 Xf4 X5 Xf5
  obtain ⟨X0, X1, X2, X3, X4, X5, Xf0, Xf1, Xf2, Xf3, Xf4, Xf5⟩ := row_six X
  go_wp2_with fail
  refine (P4.out _).mono ?_
  rintro e w4 ⟨rfl, hb⟩
  replace X := row_call X hb
  replace o := o.trans (hb.mono o.size)
  clear hb X0 Xf0 X1 Xf1 X2 Xf2 X3 Xf3 X4 Xf4 X5 Xf5
  obtain ⟨X0, X1, X2, X3, X4, X5, Xf0, Xf1, Xf2, Xf3, Xf4, Xf5⟩ := row_six X
  go_wp2_with fail
  refine (P5.out _).mono ?_
  rintro e w5 ⟨rfl, hb⟩
  replace X := row_call X hb
  replace o := o.trans (hb.mono o.size)
  clear hb X0 Xf0 X1 Xf1 X2 Xf2 X3 Xf3 X4 Xf4 X5 Xf5
  go_wp2
  go_ret
  exact ⟨by first | rfl | (simp; omega), o⟩
end Go.Proofs.YtdipoojjlddohaaGreat
end
section
/- A law on statements whose order is open: several new variables, taken in whatever order; each has a block of its own. -/
set_option linter.unusedVariables false
set_option linter.unusedSimpArgs false
set_option linter.unusedSectionVars false
set_option linter.unnecessarySimpa false
namespace Go.Proofs.YtdipoojjlddohaaGreat
open Go.RowKit
/-- A new variable: the operation's index, its temporary, its type, its cells. -/
structure NewV where
  i : Nat
  d : Nat
  t : TypeId
  z : Array Value
/-- In whatever order they are taken: they alone may come up. -/
def newsB (md : Region.Mode) (ops : Array Oper) : Nat → Array Bool → List NewV → Bool
  | 0, _, js => js.isEmpty
  | f + 1, listed, js => decide (Region.ready md ops listed = js.map (·.i)) && (List.range js.length).all fun k => newsB md ops f (listed.setIfInBounds ((js[k]?.map (·.i)).getD 0) true) (js.eraseIdx k)
def setAll (listed : Array Bool) (js : List NewV) : Array Bool := js.foldl (fun l j => l.setIfInBounds j.i true) listed
def putAll (a : Act) : List NewV → List Nat → Act
  | j :: js, b :: bs => putAll (a.put (some j.d) (.pointer (some ⟨b, 0, none⟩))) js bs
  | _, _ => a
theorem put_swap {a : Act} {d e : Nat} {u v : Value} (h : d ≠ e) : (a.put (some d) u).put (some e) v = (a.put (some e) v).put (some d) u := by
  simp only [Act.put]
  rw [Array.setIfInBounds_comm _ _ h]
theorem putAll_put {d : Nat} {v : Value} : ∀ (js : List NewV) (bs : List Nat) (a : Act), (∀ j ∈ js, d ≠ j.d) → putAll (a.put (some d) v) js bs = (putAll a js bs).put (some d) v
  | [], _, _, _ => by simp [putAll]
  | _ :: _, [], _, _ => by simp [putAll]
  | j :: js, b :: bs, a, h => by
    rw [putAll, putAll, put_swap (h j (by simp)), putAll_put js bs _ (fun x hx => h x (List.mem_cons_of_mem _ hx))]
theorem putAll_append : ∀ (l1 : List NewV) (c1 : List Nat) (l2 : List NewV) (c2 : List Nat) (a : Act), l1.length = c1.length → putAll a (l1 ++ l2) (c1 ++ c2) = putAll (putAll a l1 c1) l2 c2
  | [], [], _, _, _, _ => by simp [putAll]
  | [], _ :: _, _, _, _, h => by simp at h
  | _ :: _, [], _, _, _, h => by simp at h
  | j :: l1, b :: c1, l2, c2, a, h => by
    rw [List.cons_append, List.cons_append, putAll, putAll, putAll_append l1 c1 l2 c2 _ (by simpa using h)]
theorem setAll_set {i : Nat} : ∀ (js : List NewV) (l : Array Bool), setAll (l.setIfInBounds i true) js = (setAll l js).setIfInBounds i true
  | [], _ => rfl
  | j :: js, l => by
    unfold setAll
    rw [List.foldl_cons, List.foldl_cons]
    have := setAll_set (i := i) js (l.setIfInBounds j.i true)
    unfold setAll at this
    rw [← this]
    by_cases h : i = j.i
    · rw [h]
    · rw [Array.setIfInBounds_comm _ _ h]
theorem setAll_append (l1 l2 : List NewV) (l : Array Bool) : setAll l (l1 ++ l2) = setAll (setAll l l1) l2 := by unfold setAll; rw [List.foldl_append]
section
variable {P : Program} {ops : Array Oper} {md : Region.Mode} {S : World → Prop} {Q : Exit → Act → World → Prop} {n g : Nat} {tail : List Oper} {f : Nat}
/-- What is known of the new variables' blocks. -/
structure NewsAt (w0 : World) (js : List NewV) (bs : List Nat) (w : World) : Prop where
  len : bs.length = js.length
  rows : ∀ (k : Nat) (j : NewV) (b : Nat), js[k]? = some j → bs[k]? = some b → Row w b j.t j.z
  ge : ∀ b ∈ bs, w0.heap.size ≤ b
  nodup : bs.Nodup
  keep : ∀ b, b < w0.heap.size → w.heap[b]? = w0.heap[b]?
theorem hw_news (hal : ∀ w o, S w → S (w.alloc o)) : ∀ (js : List NewV) (listed : Array Bool) (a : Act) (w : World),
    newsB md ops js.length listed js = true → (∀ j ∈ js, Makes P ops j.i j.t j.z ∧ (ops[j.i]?).bind (·.dst) = some j.d ∧ j.i < n) → js.Pairwise (fun x y => x.d ≠ y.d) → S w →
    (∀ bs w', S w' → NewsAt w js bs w' → HW P md ops S Q n g tail f (setAll listed js) (putAll a js bs) w') → HW P md ops S Q n g tail (js.length + f) listed a w := by
  intro js
  generalize hN : js.length = N
  induction N generalizing js with
  | zero =>
    intro listed a w _ _ _ hS H
    obtain rfl : js = [] := List.eq_nil_of_length_eq_zero hN
    rw [Nat.zero_add]
    exact H [] w hS ⟨rfl, by simp, by simp, List.nodup_nil, fun _ _ => rfl⟩
  | succ N ih =>
    intro listed a w hB hM hd hS H
    rw [show N + 1 + f = (N + f) + 1 by omega]
    unfold newsB at hB
    rw [Bool.and_eq_true] at hB
    have hr := of_decide_eq_true hB.1
    intro inv
    refine ⟨fun h0 => ?_, fun i hi => ?_⟩
    · rw [hr] at h0
      have := congrArg List.length h0
      simp at this
      subst this
      simp at hN
    · rw [hr] at hi
      obtain ⟨j, hj, rfl⟩ := List.mem_map.1 hi
      obtain ⟨hMj, hdj, hlt⟩ := hM j hj
      refine ⟨hlt, ?_⟩
      obtain ⟨k, hk, hkj⟩ := List.getElem_of_mem hj
      have hBk := List.all_eq_true.1 hB.2 k (by simpa using hk)
      rw [List.getElem?_eq_getElem hk, hkj] at hBk
      have hready : j.i ∈ Region.ready md ops listed := by rw [hr]; exact List.mem_map.2 ⟨j, hj, rfl⟩
      have ejs : js = js.take k ++ j :: js.drop (k + 1) := by
        rw [← hkj, ← List.drop_eq_getElem_cons hk, List.take_append_drop]
      have eer : js.eraseIdx k = js.take k ++ js.drop (k + 1) := List.eraseIdx_eq_take_drop_succ _ _
      have hle : (js.eraseIdx k).length = N := by rw [List.length_eraseIdx, if_pos hk]; omega
      have hsub : ∀ x ∈ js.eraseIdx k, x ∈ js := fun x hx => List.mem_of_mem_eraseIdx hx
      have hpd := hd
      rw [ejs] at hpd
      have hp1 := List.pairwise_append.1 hpd
      have hp2 := List.pairwise_cons.1 hp1.2.1
      have hne1 : ∀ x ∈ js.take k, j.d ≠ x.d := fun x hx => (hp1.2.2 x hx j (by simp)).symm
      have ihk := ih (js.eraseIdx k) hle (listed.setIfInBounds j.i true) (a.put (some j.d) (.pointer (some ⟨w.heap.size, 0, none⟩))) (w.alloc (.cells j.z j.t)) hBk (fun x hx => hM x (hsub x hx)) (hd.sublist (List.eraseIdx_sublist _ _)) (hal _ _ hS) ?_
      · obtain ⟨o, d', ho, hod, hog, hrun⟩ := hMj
        have edj : d' = j.d := by rw [ho] at hdj; simpa [hod] using hdj
        have hput : ∀ v, a.put o.dst v = a.put (some j.d) v := fun v => by rw [hod, edj]
        unfold wpOp
        simp only [ho]
        have hw : Region.wanted o (yielded ops a.tmps) = true := by unfold Region.wanted; rw [hog]
        simp only [hw, if_true]
        refine .inl ?_
        unfold Oper.wp
        rw [hrun]
        show _ ∧ _
        rw [hput]
        exact ⟨hal _ _ hS, ihk (inv.set hready hlt)⟩
      · intro bs w' hS' hN'
        have hl1 : (js.take k).length = k := by rw [List.length_take]; omega
        have hbl := hN'.len
        rw [hle] at hbl
        have e1 : setAll (listed.setIfInBounds j.i true) (js.eraseIdx k) = setAll listed js := by
          rw [setAll_set, eer, setAll_append]
          conv => rhs; rw [ejs, setAll_append]
          show _ = setAll ((setAll listed (js.take k)).setIfInBounds j.i true) (js.drop (k + 1))
          rw [setAll_set]
        have hbk : (bs.take k).length = k := by rw [List.length_take]; omega
        have e2 : putAll (a.put (some j.d) (.pointer (some ⟨w.heap.size, 0, none⟩))) (js.eraseIdx k) bs = putAll a js (bs.take k ++ w.heap.size :: bs.drop k) := by
          conv => lhs; rw [eer, ← List.take_append_drop k bs, putAll_append _ _ _ _ _ (by rw [hl1, hbk])]
          rw [putAll_put _ _ _ hne1]
          conv => rhs; rw [ejs, putAll_append _ _ _ _ _ (by rw [hl1, hbk])]
          rw [putAll]
        rw [e1, e2]
        refine H _ w' hS' ⟨?_, fun q x b hx hb => ?_, fun b hb => ?_, ?_, fun b hb => ?_⟩
        · simp; omega
        · by_cases hq : q < k
          · refine hN'.rows q x b ?_ ?_
            · rw [eer, List.getElem?_append_left (by omega), List.getElem?_take_of_lt hq]
              exact hx
            · rw [List.getElem?_append_left (by omega), List.getElem?_take_of_lt hq] at hb
              exact hb
          · by_cases hq2 : q = k
            · subst hq2
              rw [List.getElem?_append_right (by omega), hbk, Nat.sub_self] at hb
              obtain rfl : w.heap.size = b := by simpa using hb
              rw [List.getElem?_eq_getElem hk, hkj] at hx
              obtain rfl : j = x := by simpa using hx
              have hkp := hN'.keep w.heap.size (by simp)
              exact hkp.trans (row_new rfl)
            · refine hN'.rows (q - 1) x b ?_ ?_
              · rw [eer, List.getElem?_append_right (by omega), hl1, List.getElem?_drop]
                rw [show k + 1 + (q - 1 - k) = q by omega]
                exact hx
              · rw [List.getElem?_append_right (by omega), hbk, show q - k = (q - 1 - k) + 1 by omega, List.getElem?_cons_succ, List.getElem?_drop] at hb
                rw [show k + (q - 1 - k) = q - 1 by omega] at hb
                exact hb
        · rcases List.mem_append.1 hb with hb | hb
          · have := hN'.ge b (List.mem_of_mem_take hb)
            simp at this
            omega
          · rcases List.mem_cons.1 hb with rfl | hb
            · exact Nat.le_refl _
            · have := hN'.ge b (List.mem_of_mem_drop hb)
              simp at this
              omega
        · have hn := hN'.nodup
          rw [← List.take_append_drop k bs] at hn
          have hn := List.nodup_append.1 hn
          have hge : ∀ b ∈ bs, b ≠ w.heap.size := fun b hb => by
            have := hN'.ge b hb
            simp at this
            omega
          refine List.nodup_append.2 ⟨hn.1, List.nodup_cons.2 ⟨fun h => hge _ (List.mem_of_mem_drop h) rfl, hn.2.1⟩, fun x hx y hy => ?_⟩
          rcases List.mem_cons.1 hy with rfl | hy
          · exact hge x (List.mem_of_mem_take hx)
          · exact hn.2.2 x hx y hy
        · have h1 := hN'.keep b (by simp; omega)
          exact h1.trans (Below.heap_alloc w _ b hb)
end
end Go.Proofs.YtdipoojjlddohaaGreat
end
section
/- Lists of buckets: valid ones, their totals, walked. -/
set_option linter.unusedVariables false
set_option linter.unusedSimpArgs false
set_option linter.unusedSectionVars false
set_option linter.unnecessarySimpa false
namespace Go.Proofs.YtdipoojjlddohaaGreat
open Go.RowKit
theorem pbtick (x : Int) (w : World) (h0 : 0 ≤ x) (h1 : x ≤ 16777216) : Calls Tryz.prog 267 #[.int .i64 x] w fun e w' => e = .returned (.bool true) ∧ w' = w := by
  go_enter Tryz.func267, Tryz.ntmps267
  go_wp2_with fail
  go_ret
  exact ⟨by first | rfl | exact ret_bool (by simp; omega) | exact ret_bool (by simp [*]), rfl⟩
theorem pblevel (x : Int) (w : World) (h0 : 0 ≤ x) (h1 : x ≤ 30) : Calls Tryz.prog 228 #[.int .i64 x] w fun e w' => e = .returned (.bool true) ∧ w' = w := by
  go_enter Tryz.func228, Tryz.ntmps228
  go_wp2_with fail
  go_ret
  exact ⟨by first | rfl | exact ret_bool (by simp; omega) | exact ret_bool (by simp [*]), rfl⟩
/-- The counter of levels, over the first buckets. -/
def manyA (l : List Bk) (j : Nat) : Array Value := ((List.range 31).map fun x => Value.int .i64 (cnt (l.take j) x : Nat)).toArray
theorem many_zero (l : List Bk) : manyA l 0 = #[.int .i64 0, .int .i64 0, .int .i64 0, .int .i64 0, .int .i64 0, .int .i64 0, .int .i64 0, .int .i64 0, .int .i64 0, .int .i64 0, .int .i64 0, .int .i64 0, .int .i64 0, .int .i64 0, .int .i64 0, .int .i64 0, .int .i64 0, .int .i64 0, .int .i64 0, .int .i64 0, .int .i64 0, .int .i64 0, .int .i64 0, .int .i64 0, .int .i64 0, .int .i64 0, .int .i64 0, .int .i64 0, .int .i64 0, .int .i64 0, .int .i64 0] := rfl
theorem many_at (l : List Bk) (j x : Nat) (hx : x ≤ 30) : (manyA l j)[x]? = some (.int .i64 (cnt (l.take j) x : Nat)) := by
  unfold manyA
  rw [List.getElem?_toArray, List.getElem?_map, List.getElem?_range (by omega)]
  rfl
theorem many_step {l : List Bk} {j : Nat} (hj : j < l.length) : (manyA l j).setIfInBounds (bkAt l j).lv (.int .i64 ((cnt (l.take j) (bkAt l j).lv : Nat) + 1 : Int)) = manyA l (j + 1) := by
  apply Array.ext_getElem?
  intro i
  by_cases hi : i ≤ 30
  · rw [many_at _ _ _ hi, Array.getElem?_setIfInBounds]
    have hs : i < (manyA l j).size := by unfold manyA; simp; omega
    rw [take_bk hj, cnt_append, cnt_cons, cnt_nil]
    by_cases h : (bkAt l j).lv = i
    · rw [if_pos h, if_pos (h ▸ hs), if_pos h, h]
      simp
    · rw [if_neg h, if_neg h, many_at _ _ _ hi]
      simp
  · rw [Array.getElem?_eq_none (by unfold manyA; simp; omega), Array.getElem?_eq_none (by unfold manyA; simp; omega)]
set_option maxRecDepth 100000 in
set_option maxHeartbeats 4000000 in
theorem pbvalidL (A : Option Addr) (m c : Nat) (l : List Bk) (k : Nat) (w : World) (hin : BIn A m c l w) (hv : BV k l) (hk : 1 ≤ k ∧ k ≤ 128) (hm : m ≤ 1000000) :
    Calls Tryz.prog 227 #[.slice A m c, .int .i64 (k : Nat)] w fun e w' => e = .returned (.bool true) ∧ Below w.heap.size w w' := by
  have HR := Lib.hid hin
  have HL := Lib.hid hin.len
  have HV := Lib.hid hv
  have k1 : ¬ (k : Int) < 1 := by omega
  have k2 : ¬ 128 < (k : Int) := by omega
  clear hin hv
  go_enter Tryz.func227, Tryz.ntmps227
  go_upto_region 4 with (fail)
  have R : Row (w.alloc (.cells #[.int .i64 0, .int .i64 0, .int .i64 0, .int .i64 0, .int .i64 0, .int .i64 0, .int .i64 0, .int .i64 0, .int .i64 0, .int .i64 0, .int .i64 0, .int .i64 0, .int .i64 0, .int .i64 0, .int .i64 0, .int .i64 0, .int .i64 0, .int .i64 0, .int .i64 0, .int .i64 0, .int .i64 0, .int .i64 0, .int .i64 0, .int .i64 0, .int .i64 0, .int .i64 0, .int .i64 0, .int .i64 0, .int .i64 0, .int .i64 0, .int .i64 0] 361)) w.heap.size 361 (manyA l 0) := by rw [many_zero]; exact row_new rfl
  have o : Below w.heap.size w (w.alloc (.cells #[.int .i64 0, .int .i64 0, .int .i64 0, .int .i64 0, .int .i64 0, .int .i64 0, .int .i64 0, .int .i64 0, .int .i64 0, .int .i64 0, .int .i64 0, .int .i64 0, .int .i64 0, .int .i64 0, .int .i64 0, .int .i64 0, .int .i64 0, .int .i64 0, .int .i64 0, .int .i64 0, .int .i64 0, .int .i64 0, .int .i64 0, .int .i64 0, .int .i64 0, .int .i64 0, .int .i64 0, .int .i64 0, .int .i64 0, .int .i64 0, .int .i64 0] 361)) := by (repeat (first | exact Below.refl _ _ | refine Below.setCell ?_ (by first | (simp; done) | (simp; omega) | omega) _ | refine Below.alloc ?_ (by first | (simp; done) | (simp; omega) | omega) _ | refine Below.drew ?_ | refine Below.trans ?_ (Below.mono (by assumption) (by first | (simp; done) | (simp; omega) | omega))))
  generalize w.alloc (.cells #[.int .i64 0, .int .i64 0, .int .i64 0, .int .i64 0, .int .i64 0, .int .i64 0, .int .i64 0, .int .i64 0, .int .i64 0, .int .i64 0, .int .i64 0, .int .i64 0, .int .i64 0, .int .i64 0, .int .i64 0, .int .i64 0, .int .i64 0, .int .i64 0, .int .i64 0, .int .i64 0, .int .i64 0, .int .i64 0, .int .i64 0, .int .i64 0, .int .i64 0, .int .i64 0, .int .i64 0, .int .i64 0, .int .i64 0, .int .i64 0, .int .i64 0] 361) = w0 at R o ⊢
  go_wp2
  go_loopw [6, 7, 18] (fun u6 u7 i wr => ∃ j : Nat, j ≤ m ∧ i = .int .i64 (j : Nat) ∧ Row wr w.heap.size 361 (manyA l j) ∧ Below w.heap.size w wr) (fun _ _ i _ => m - (intOf i).toNat)
  case atStart => exact ⟨0, Nat.zero_le _, rfl, R, o⟩
  case round =>
    clear R o
    obtain ⟨j, hj, rfl, R, o⟩ := hrel
    by_cases hlt : j < m
    · obtain ⟨ad, rfl, hadb, hi0⟩ := HR.out.reads.bk hlt
      obtain ⟨c0, c1⟩ := hi0.below o (by rw [block_of_add]; exact hadb)
      have jl : j < l.length := by rw [HL.out]; exact hlt
      have tB := HV.out.tick _ (bk_mem jl)
      have vB := HV.out.lev _ (bk_mem jl)
      have ST := many_step jl
      have hma := many_at l j _ vB
      have PT := fun w => pbtick (bkAt l j).t w tB.1 tB.2
      have PL := fun w => pblevel ((bkAt l j).lv : Nat) w (by omega) (by omega)
      have hcn := Nat.le_trans (cnt_le (l.take j) (bkAt l j).lv) (show (l.take j).length ≤ 1000000 by rw [List.length_take, HL.out]; omega)
      have ORD := fun p (hp : p < j) => HV.out.asc (i := p) (j := j) hp jl
      generalize cnt (l.take j) (bkAt l j).lv = cn at ST hma hcn
      generalize (bkAt l j).t = tj at c0 tB PT ORD
      generalize (bkAt l j).lv = lv at c1 vB ST hma PL ORD
      replace ST := Lib.hid ST
      replace hma := Lib.hid hma
      replace PT := Lib.hid PT
      replace PL := Lib.hid PL
      have v1 : (lv : Int) < 31 := by omega
      have v0 : (0 : Int) ≤ (lv : Int) := by omega
      have i1 : (j : Int) < (m : Int) := by omega
      have i2 : (0 : Int) ≤ (j : Int) := by omega
      have wc : IntKind.i64.wrap ((cn : Int) + 1) = (cn : Int) + 1 := IntWalk.i64_in _ (by omega)
      clear hi0 jl
      by_cases j0 : j = 0
      · have jp : ¬ (0 : Int) < (j : Int) := by omega
        clear ORD j0
        go_upto_region 9 with (first | (go_at_call 267; with_reducible refine (PT.out _).mono ?_; rintro e w9 ⟨rfl, h9⟩; obtain rfl := h9.symm) | (go_at_call 228; with_reducible refine (PL.out _).mono ?_; rintro e w9 ⟨rfl, h9⟩; obtain rfl := h9.symm))
        have B : Row (wr.alloc (.cells #[.int .i64 tj, .int .i64 (lv : Nat)] 318)) wr.heap.size 318 #[.int .i64 tj, .int .i64 (lv : Nat)] := row_new rfl
        replace R := row_alloc R (.cells #[.int .i64 tj, .int .i64 (lv : Nat)] 318)
        replace o := o.alloc o.size (.cells #[.int .i64 tj, .int .i64 (lv : Nat)] 318)
        generalize wr.alloc (.cells #[.int .i64 tj, .int .i64 (lv : Nat)] 318) = w1 at R B o ⊢
        generalize wr.heap.size = bb at B ⊢
        have jb : ¬ 0 < j := by omega
        go_quiet (fail)
        replace R : Row (w1.drewN nq) w.heap.size 361 (manyA l j) := R
        replace B : Row (w1.drewN nq) bb 318 #[.int .i64 tj, .int .i64 (lv : Nat)] := B
        replace o : Below w.heap.size w (w1.drewN nq) := o.trans ⟨rfl, rfl, rfl, Nat.le_refl _, fun _ _ => rfl⟩
        generalize w1.drewN nq = w2 at R B o ⊢
        have hat := (row_cell R lv).trans hma.out
        have hfr := row_free R lv
        obtain ⟨B0, B1, _, _⟩ := row_two B
        go_wp2
        go_roundw
        case rel => exact ⟨j + 1, by omega, by go_num, by rw [← ST.out]; exact row_set R _ _, o.setCell (p := ⟨w.heap.size, lv, none⟩) (Nat.le_refl _) _⟩
        case measure => simp [intOf]; omega
      · have jp : (0 : Int) < (j : Int) := by omega
        obtain ⟨p, hp⟩ : ∃ p : Nat, j = p + 1 := ⟨j - 1, by omega⟩
        obtain ⟨ad', ea, _, ht1⟩ := HR.out.reads.bk (i := p) (by omega)
        obtain rfl : ad = ad' := by injection ea
        obtain ⟨g0, g1⟩ := ORD p (by omega)
        obtain ⟨x, hx⟩ : ∃ x, bkAt l p = x := ⟨_, rfl⟩
        rw [hx] at ht1 g0 g1
        obtain ⟨tp, lp⟩ := x
        dsimp only at g0 g1
        have g2 : ¬ (lp : Int) < (lv : Int) := by omega
        have g3 : ¬ tj < tp := by omega
        have wj : IntKind.i64.wrap ((j : Int) - 1) = (p : Int) := by rw [IntWalk.i64_in _ (by omega)]; omega
        have p1 : (p : Int) < (m : Int) := by omega
        have p0 : (0 : Int) ≤ (p : Int) := by omega
        have e1 := (Below.refl w.heap.size w)
        clear e1 ORD j0 ea hp hx
        go_upto_region 9 with (first | (go_at_call 267; with_reducible refine (PT.out _).mono ?_; rintro e w9 ⟨rfl, h9⟩; obtain rfl := h9.symm) | (go_at_call 228; with_reducible refine (PL.out _).mono ?_; rintro e w9 ⟨rfl, h9⟩; obtain rfl := h9.symm))
        have B : Row (wr.alloc (.cells #[.int .i64 tj, .int .i64 (lv : Nat)] 318)) wr.heap.size 318 #[.int .i64 tj, .int .i64 (lv : Nat)] := row_new rfl
        replace R := row_alloc R (.cells #[.int .i64 tj, .int .i64 (lv : Nat)] 318)
        replace o := o.alloc o.size (.cells #[.int .i64 tj, .int .i64 (lv : Nat)] 318)
        generalize wr.alloc (.cells #[.int .i64 tj, .int .i64 (lv : Nat)] 318) = w1 at R B o ⊢
        generalize wr.heap.size = bb at B ⊢
        have jb : 0 < j := by omega
        have gb3 : decide (tj < tp) = false := decide_eq_false (by omega)
        have gb2 : decide ((lp : Int) < (lv : Int)) = false := decide_eq_false (by omega)
        obtain ⟨q0, q1⟩ := ht1.below o (by rw [block_of_add]; exact hadb)
        dsimp only at q0 q1
        obtain ⟨B0, B1, _, _⟩ := row_two B
        go_quiet (fail)
        replace R : Row (w1.drewN nq) w.heap.size 361 (manyA l j) := R
        replace B : Row (w1.drewN nq) bb 318 #[.int .i64 tj, .int .i64 (lv : Nat)] := B
        replace o : Below w.heap.size w (w1.drewN nq) := o.trans ⟨rfl, rfl, rfl, Nat.le_refl _, fun _ _ => rfl⟩
        clear q0 q1 B0 B1
        generalize w1.drewN nq = w2 at R B o ⊢
        have hat := (row_cell R lv).trans hma.out
        have hfr := row_free R lv
        obtain ⟨B0, B1, _, _⟩ := row_two B
        go_wp2
        go_roundw
        case rel => exact ⟨j + 1, by omega, by go_num, by rw [← ST.out]; exact row_set R _ _, o.setCell (p := ⟨w.heap.size, lv, none⟩) (Nat.le_refl _) _⟩
        case measure => simp [intOf]; omega
    · have i1 : ¬ (j : Int) < (m : Int) := by omega
      obtain rfl : j = m := by omega
      have hle := HL.out
      by_cases m0 : j = 0
      · have m0b : ((j : Int) == 0) = true := by simp; omega
        clear R hle
        go_wp2
        go_ret
        exact ⟨rfl, o⟩
      · have m0b : ((j : Int) == 0) = false := by simp; omega
        obtain ⟨ad, rfl, hadb, hi0⟩ := HR.out.reads.bk (i := 0) (by omega)
        have hi0 : BkCells w ad (bkAt l 0) := hi0
        obtain ⟨c0, c1⟩ := hi0.below o hadb
        have vB := HV.out.lev _ (bk_mem (l := l) (i := 0) (by omega))
        have HMO := Lib.hid HV.out.most
        have HLE := HV.out.least
        unfold topL at HLE
        generalize (bkAt l 0).lv = tp at c1 vB HLE
        replace HLE := Lib.hid HLE
        have MA : RowKit.Hid (∀ x, x ≤ 30 → (manyA l j)[x]? = some (.int .i64 (cnt l x : Nat))) := Lib.hid (fun x hx => by
          rw [many_at _ _ _ hx, List.take_of_length_le (by omega)])
        have i0 : (0 : Int) < (j : Int) := by omega
        clear c0 hi0 hle
        go_upto_region 16 with (fail)
        clear c1
        go_wp2
        go_loopw [9] (fun i wr => ∃ x : Nat, x ≤ tp + 1 ∧ i = .int .i64 (x : Nat) ∧ Row wr w.heap.size 361 (manyA l j) ∧ Below w.heap.size w wr) (fun i _ => tp + 1 - (intOf i).toNat)
        case atStart => exact ⟨0, Nat.zero_le _, rfl, R, o⟩
        case round =>
          clear R o
          obtain ⟨x, hx, rfl, R, o⟩ := hrel
          by_cases hlt : x ≤ tp
          · have q1 : (x : Int) ≤ (tp : Int) := by omega
            have hat := (row_cell R x).trans (MA.out x (by omega))
            have mo := HMO.out x
            have ml : x < tp → k ≤ cnt l x := HLE.out x
            generalize cnt l x = cn at hat mo ml
            have t1 : ¬ (k : Int) + 1 < (cn : Int) := by omega
            have wk : IntKind.i64.wrap ((k : Int) + 1) = (k : Int) + 1 := IntWalk.i64_in _ (by omega)
            have v1 : (x : Int) < 31 := by omega
            have v0 : (0 : Int) ≤ (x : Int) := by omega
            by_cases h2 : x < tp
            · have h2' : (x : Int) < (tp : Int) := by omega
              have t2 : ¬ (cn : Int) < (k : Int) := by have := ml h2; omega
              go_wp2
              go_roundw
              case rel => exact ⟨x + 1, by omega, by go_num, R, o⟩
              case measure => simp [intOf]; omega
            · have h2' : ¬ (x : Int) < (tp : Int) := by omega
              go_wp2
              go_roundw
              case rel => exact ⟨x + 1, by omega, by go_num, R, o⟩
              case measure => simp [intOf]; omega
          · have q1 : ¬ (x : Int) ≤ (tp : Int) := by omega
            go_wp2
            go_ret
            exact ⟨rfl, o⟩
theorem btot_take {l : List Bk} {j : Nat} (h : j < l.length) : btot (l.take (j + 1)) = btot (l.take j) + 2 ^ (bkAt l j).lv := by
  rw [take_bk h, tot_append]
  rfl
theorem btot_take_le (l : List Bk) (j : Nat) : btot (l.take j) ≤ btot l := by
  have := tot_append (l.take j) (l.drop j)
  rw [List.take_append_drop] at this
  omega
set_option maxRecDepth 100000 in
set_option maxHeartbeats 2000000 in
theorem pbtotal (A : Option Addr) (m c : Nat) (l : List Bk) (w : World) (hin : BIn A m c l w) (hv : ∀ b ∈ l, b.lv ≤ 30) (hT : btot l ≤ 1073741824) :
    Calls Tryz.prog 210 #[.slice A m c] w fun e w' => e = .returned (.int .i64 (btot l : Nat)) ∧ Below w.heap.size w w' := by
  have HR := Lib.hid hin
  have HL := Lib.hid hin.len
  have HV := Lib.hid hv
  have hmB : m ≤ 9223372036854775807 := by have := hin.mc; have := hin.cB; unfold maxLen at *; omega
  clear hin hv
  have hT2 := fun j => Nat.le_trans (btot_take_le l j) hT
  replace hT2 := Lib.hid hT2
  generalize hN : btot l = N
  replace hN := Lib.hid hN
  clear hT
  go_enter Tryz.func210, Tryz.ntmps210
  go_wp2
  go_loopw [3, 5, 8] (fun n u5 i wr => ∃ j : Nat, j ≤ m ∧ i = .int .i64 (j : Nat) ∧ n = .int .i64 (btot (l.take j) : Nat) ∧ Below w.heap.size w wr) (fun _ _ i _ => m - (intOf i).toNat)
  case atStart => exact ⟨0, Nat.zero_le _, rfl, rfl, Below.refl _ _⟩
  case round =>
    obtain ⟨j, hj, rfl, rfl, o⟩ := hrel
    by_cases hlt : j < m
    · obtain ⟨ad, rfl, hadb, hi0⟩ := HR.out.reads.bk hlt
      obtain ⟨c0, c1⟩ := hi0.below o (by rw [block_of_add]; exact hadb)
      have jl : j < l.length := by rw [HL.out]; exact hlt
      have vB := HV.out _ (bk_mem jl)
      have PL := fun w => pblevel ((bkAt l j).lv : Nat) w (by omega) (by omega)
      have b1 := hT2.out j
      have b2 := hT2.out (j + 1)
      have ST := btot_take jl
      obtain ⟨N1, hN1⟩ : ∃ x, btot (l.take (j + 1)) = x := ⟨_, rfl⟩
      rw [hN1] at ST b2
      generalize btot (l.take j) = N0 at ST b1 ⊢
      generalize (bkAt l j).t = tj at c0
      generalize (bkAt l j).lv = lv at c1 vB PL ST
      replace PL := Lib.hid PL
      have SE : RowKit.Hid (RowKit.wrap64 ((N0 : Int) + RowKit.wrap64 (2 ^ lv)) = ((N1 : Nat) : Int)) := Lib.hid (by
        have e : ((2 : Int) ^ lv) = ((2 ^ lv : Nat) : Int) := by simp
        rw [e]
        generalize 2 ^ lv = p at ST ⊢
        rw [IntWalk.wrap64_in (p : Int) (by omega), IntWalk.wrap64_in _ (by omega)]
        omega)
      replace hN1 := Lib.hid hN1
      have i1 : (j : Int) < (m : Int) := by omega
      have i2 : (0 : Int) ≤ (j : Int) := by omega
      have v0 : (0 : Int) ≤ (lv : Int) := by omega
      clear hi0 jl ST b1 b2
      go_wp2_with (go_at_call 228; with_reducible refine (PL.out _).mono ?_; rintro e w9 ⟨rfl, h9⟩; obtain rfl := h9.symm)
      go_roundw
      case rel => exact ⟨j + 1, by omega, by go_num, by rw [hN1.out]; exact congrArg (Value.int .i64) SE.out, o.alloc o.size _⟩
      case measure => simp [intOf]; omega
    · have i1 : ¬ (j : Int) < (m : Int) := by omega
      obtain rfl : j = m := by omega
      rw [List.take_of_length_le (by rw [HL.out]; exact Nat.le_refl _), hN.out]
      go_wp2
      go_ret
      exact ⟨rfl, o⟩
end Go.Proofs.YtdipoojjlddohaaGreat
end
section
/- Lists of buckets: a unit item is inserted, walked. -/
set_option linter.unusedVariables false
set_option linter.unusedSimpArgs false
set_option linter.unusedSectionVars false
set_option linter.unnecessarySimpa false
namespace Go.Proofs.YtdipoojjlddohaaGreat
open Go.RowKit
theorem pbmay (A : Option Addr) (m c : Nat) (l : List Bk) (t : Int) (w : World) (hin : BIn A m c l w) (t0 : 0 ≤ t) (t1 : t ≤ 16777216) (ht : ∀ b ∈ l, b.t ≤ t) :
    Calls Tryz.prog 259 #[.slice A m c, .int .i64 t] w fun e w' => e = .returned (.bool true) ∧ Below w.heap.size w w' := by
  have PT := Lib.hid (fun w => pbtick t w t0 t1)
  have hmB : m ≤ 9223372036854775807 := by have := hin.mc; have := hin.cB; unfold maxLen at *; omega
  by_cases m0 : m = 0
  · have m0b : ((m : Int) == 0) = true := by simp; omega
    clear hin ht m0
    go_enter Tryz.func259, Tryz.ntmps259
    go_wp2_with (go_at_call 267; with_reducible refine (PT.out _).mono ?_; rintro e w9 ⟨rfl, h9⟩; obtain rfl := h9.symm)
    go_ret
    exact ⟨by first | rfl | exact ret_bool (by simp; omega) | exact ret_bool (by simp [*]), Below.refl _ _⟩
  · have m0b : ((m : Int) == 0) = false := by simp; omega
    obtain ⟨p, hp⟩ : ∃ p : Nat, m = p + 1 := ⟨m - 1, by omega⟩
    obtain ⟨ad, rfl, hadb, hi0⟩ := hin.reads.bk (i := p) (by omega)
    have hb := ht _ (bk_mem (l := l) (i := p) (by rw [hin.len]; omega))
    obtain ⟨c0, _⟩ := hi0
    generalize (bkAt l p).t = tp at c0 hb
    have wj : IntKind.i64.wrap ((m : Int) - 1) = (p : Int) := by rw [IntWalk.i64_in _ (by omega)]; omega
    have p1 : (p : Int) < (m : Int) := by omega
    have p0 : (0 : Int) ≤ (p : Int) := by omega
    clear hin ht m0 hp
    go_enter Tryz.func259, Tryz.ntmps259
    go_wp2_with (go_at_call 267; with_reducible refine (PT.out _).mono ?_; rintro e w9 ⟨rfl, h9⟩; obtain rfl := h9.symm)
    go_ret
    exact ⟨by first | rfl | exact ret_bool (by simp; omega) | exact ret_bool (by simp [*]), Below.refl _ _⟩
def lenB : Value → Nat
  | .slice _ n _ => n
  | _ => 0
theorem bkcells_own {w : World} {g n c : Nat} {l : List Bk} (h : Own w 318 2 g n c (bcells l)) {i : Nat} (hi : i < n) : w.cell? ⟨g, i * 2, none⟩ = some (.int .i64 (bkAt l i).t) ∧ w.cell? ⟨g, i * 2 + 1, none⟩ = some (.int .i64 ((bkAt l i).lv : Nat)) := by
  have hl := h.len
  rw [bcells_len] at hl
  have ht := bcells_at l i (by omega)
  exact ⟨(h.cell (by omega)).trans ht.1, (h.cell (by omega)).trans ht.2⟩
theorem own_bklen {w : World} {g n c : Nat} {l : List Bk} (h : Own w 318 2 g n c (bcells l)) : l.length = n := by
  have hl := h.len
  rw [bcells_len] at hl
  omega
theorem set_cut {cur : List Bk} {b : Nat} {m : Bk} (h : b + 2 ≤ cur.length) : (cur.set b m).take (b + 1) ++ (cur.set b m).drop (b + 2) = cur.take b ++ m :: cur.drop (b + 2) := by
  rw [List.drop_set_of_lt (by omega), List.set_eq_take_append_cons_drop, if_pos (by omega), List.take_append, List.take_of_length_le (by rw [List.length_take]; omega)]
  rw [List.length_take, Nat.min_eq_left (by omega), show b + 1 - b = 1 by omega, List.take_succ_cons, List.take_zero, List.append_assoc]
  rfl
theorem orow_pos {w : World} {base n size : Nat} {e : TypeId} {v : Value} {xs : List Value} (h : w.ownsRow base e size v n xs) (hn : 0 < n) : ∃ g c, v = .slice (some ⟨g, 0, none⟩) n c ∧ Own w e size g n c xs ∧ base ≤ g := by
  rcases h.2 with ⟨_, h0⟩ | ⟨g, c, cur, rfl, _⟩
  · omega
  · obtain ⟨o1, o2⟩ := own_of_row h
    exact ⟨g, c, rfl, o1, o2⟩
/-- What an insertion leaves: a row of the call's own. -/
def InsRet (base k : Nat) (l : List Bk) (t : Int) (n : Nat) (w : World) (e : Ending) (w' : World) : Prop :=
  ∃ v' n' l', e = .returned v' ∧ w'.ownsRow base 318 2 v' n' (bcells l') ∧ Ins k l t n l' ∧ Below base w w'
theorem InsRet.mk' {base k : Nat} {l l' : List Bk} {t : Int} {n n' : Nat} {w w' : World} {v' : Value} (h1 : w'.ownsRow base 318 2 v' n' (bcells l')) (h2 : Ins k l t n l') (h3 : Below base w w') : InsRet base k l t n w (.returned v') w' := ⟨v', n', l', rfl, h1, h2, h3⟩
theorem reads_drop {w : World} {g n c j : Nat} {xs : List Value} {e : TypeId} (h : Own w e 2 g n c xs) (hj : j ≤ n) : Reads w w.heap.size 2 (some ⟨g, j * 2, none⟩) (n - j) (xs.drop (j * 2)) := by
  have hl := h.len
  refine ⟨by rw [List.length_drop, hl, Nat.sub_mul], fun hn => ⟨_, rfl, h.lt, fun i u hu => ?_⟩⟩
  rw [List.getElem?_drop] at hu
  have hi : j * 2 + i < n * 2 := by
    have := (List.getElem?_eq_some_iff.1 hu).1
    omega
  have e1 : (⟨g, j * 2, none⟩ : Addr).add i = ⟨g, j * 2 + i, none⟩ := by unfold Addr.add; split <;> simp_all
  rw [e1, h.cell hi]
  exact hu
set_option maxRecDepth 100000 in
set_option maxHeartbeats 8000000 in
theorem pbinsert (base : Nat) (v : Value) (n : Nat) (l : List Bk) (k : Nat) (t : Int) (w : World) (hown : w.ownsRow base 318 2 v n (bcells l)) (hbase : base ≤ w.heap.size) (hv : BV k l) (k1 : 1 ≤ k) (k2 : k ≤ 128) (t0 : 0 ≤ t) (t1 : t ≤ 16777216) (ht : ∀ b ∈ l, b.t ≤ t) (hT : btot l + 1 ≤ 1073741824) :
    Calls Tryz.prog 260 #[v, .int .i64 (k : Nat), .int .i64 t] w (InsRet base k l t 1 w) := by
  obtain ⟨ib, hib, iz0, iz1, iz2⟩ := info_parts info_bk
  have hln : l.length = n := by have := hown.1; rw [bcells_len] at this; omega
  have hnT := tot_len l
  have ST := Lib.hid (InsR.start hv ⟨t0, t1⟩ ht)
  clear hv ht
  go_enter Tryz.func260, Tryz.ntmps260
  go_upto_region 2 with (at_builtin; refine wpList_push rfl _ _ 30 rfl 318 ib (.agg #[.int .i64 0, .int .i64 0]) 2 16 Tryz.underlying30 hib iz0 iz1 iz2 rfl (by decide) base v n (bcells l) rfl hown #[.int .i64 t, .int .i64 0] rfl rfl (by simp [Value.oneCell']) (by unfold maxLen; omega) (by omega) hbase ?_; intro g c1 w1 own hbg hat1 hg1)
  have o : Below base w w1 := below_grown ((Below.refl base w).alloc hbase (.cells #[.int .i64 t, .int .i64 0] 318)) hg1 (fun q hq => (hown.lt q hq).1) (by simp; omega)
  have own : Own w1 318 2 g (n + 1) c1 (bcells (l ++ [Bk.mk t 0])) := by rw [bcells_append]; exact own
  clear hat1 hg1 hown
  go_wp2
  go_loopw [0, 7, 8, 9] (fun u0 u7 u8 u9 wr => ∃ (g c' nn : Nat) (cur : List Bk) (e L : Nat), u0 = .slice (some ⟨g, 0, none⟩) nn c' ∧ u7 = .int .i64 (e : Nat) ∧ u8 = .int .i64 (L : Nat) ∧ Own wr 318 2 g nn c' (bcells cur) ∧ base ≤ g ∧ RowKit.Hid (InsR k l t cur e L) ∧ Below base w wr) (fun u0 _ _ _ _ => lenB u0)
  case atStart =>
    refine ⟨g, c1, n + 1, l ++ [Bk.mk t 0], l.length + 1, 0, rfl, by rw [hln]; go_num, rfl, own, hbg, Lib.hid ST.out, o⟩
  case round =>
    clear own o hbg
    obtain ⟨g, c', nn, cur, e, L, rfl, rfl, rfl, own, hbg, HJ, o⟩ := hrel
    have hnn := own_bklen own
    have hel := HJ.out.el
    rw [hnn] at hel
    have hcl : cur.length ≤ 1073741825 := by have := tot_len cur; have := HJ.out.tot; omega
    go_wp2
    go_loopw [9] (fun u9 wi => ∃ b : Nat, b ≤ e ∧ u9 = .int .i64 (b : Nat) ∧ RowKit.Hid (∀ i, b ≤ i → i < e → (bkAt cur i).lv = L) ∧ wi = wr) (fun u9 _ => (intOf u9).toNat)
    case atStart => exact ⟨e, Nat.le_refl _, rfl, Lib.hid (fun i h1 h2 => by omega), rfl⟩
    case round =>
      obtain ⟨b, hbe, rfl, HB, rfl⟩ := hrel
      by_cases b0 : b = 0
      · have j0 : ¬ (0 : Int) < (b : Int) := by omega
        have j1 : ¬ 0 < b := by omega
        have H2 : RowKit.Hid (b = 0 ∨ (bkAt cur (b - 1)).lv ≠ L) := Lib.hid (.inl b0)
        clear b0
        by_cases hc : e - b < k + 2
        · have hc' : (e : Int) - (b : Int) < (k : Int) + 2 := by omega
          have HF := Lib.hid (HJ.out.done hbe HB.out H2.out hc hT)
          clear HB
          go_wp2
          go_ret
          exact InsRet.mk' (own.row hbg) HF.out o
        · have hc' : ¬ (e : Int) - (b : Int) < (k : Int) + 2 := by omega
          have HS := HJ.out.step k1 hbe HB.out H2.out hc
          have LB : L ≤ 1073741824 := by
            have h0 := HB.out b (Nat.le_refl _) (by omega)
            have h1 := tot_mem (bk_mem (l := cur) (i := b) (by omega))
            have h2 := two_pow_le (x := (bkAt cur b).lv) (by have := HJ.out.tot; omega)
            omega
          have wL : IntKind.i64.wrap ((L : Int) + 1) = ((L + 1 : Nat) : Int) := by rw [IntWalk.i64_in _ (by omega)]; omega
          have l0 : (b : Int) < (nn : Int) := by omega
          have l1 : (b : Int) + 1 < (nn : Int) := by omega
          have l2 : (b : Int) + 2 ≤ (nn : Int) := by omega
          have z0 : (0 : Int) ≤ (b : Int) := by omega
          have cc := own.cap.1
          have l3 : (b : Int) + 1 ≤ (c' : Int) := by omega
          have l4 : (nn : Int) ≤ (c' : Int) := by omega
          have q1 := (bkcells_own own (i := b + 1) (by omega)).1
          generalize hm1 : (bkAt cur (b + 1)).t = t1 at HS q1
          obtain ⟨p0, p1⟩ := bkcells_own own (i := b) (by omega)
          have f0 := own.free (b * 2)
          have f1 := own.free (b * 2 + 1)
          go_upto_region 11 with (fail)
          replace own := (own.set (b * 2) (.int .i64 t1)).set (b * 2 + 1) (.int .i64 ((L : Int) + 1))
          have hbs : ((bcells cur).set (b * 2) (.int .i64 t1)).set (b * 2 + 1) (.int .i64 ((L : Int) + 1)) = bcells (cur.set b ⟨t1, L + 1⟩) := by
            have := bcells_set cur b (by omega) ⟨t1, L + 1⟩
            simpa using this
          rw [hbs] at own
          have hsc := set_cut (cur := cur) (b := b) (m := ⟨t1, L + 1⟩) (by omega)
          replace o := (o.setCell (p := ⟨g, b * 2, none⟩) hbg (.int .i64 t1)).setCell (p := ⟨g, b * 2 + 1, none⟩) hbg (.int .i64 ((L : Int) + 1))
          generalize (wr.setCell ⟨g, b * 2, none⟩ (.int .i64 t1)).setCell ⟨g, b * 2 + 1, none⟩ (.int .i64 ((L : Int) + 1)) = w3 at own o ⊢
          clear p0 p1 f0 f1 q1 hbs HJ HB
          have x1 : (0 : Int) ≤ (b : Int) + 1 := by omega
          have x2 : (0 : Int) ≤ (b : Int) + 2 := by omega
          have y1 : IntKind.i64.wrap ((b : Int) + 1) = (b : Int) + 1 := IntWalk.i64_in _ (by omega)
          have y2 : IntKind.i64.wrap ((b : Int) + 2) = (b : Int) + 2 := IntWalk.i64_in _ (by omega)
          have y3 : ((b : Int) + 1).toNat = b + 1 := by omega
          have y4 : ((b : Int) + 2).toNat = b + 2 := by omega
          generalize hAD : (if c' = b + 2 then some (⟨g, 0, none⟩ : Addr) else some ⟨g, (b + 2) * 2, none⟩) = AD
          refine wp_region_free0 [0, 1, 2, 4, 5, 6, 3, 7] [] [0, 1, 2, 3, 4, 5, 6, 7] 8 (fun w' => Below w3.heap.size w3 w') (by kernel_rfl) (by kernel_rfl) (fun _ _ d _ _ h => by cases d <;> exact h) ?_ ?_
          · exact (Below.refl _ _).drew
          (refine plan_pure ?_ rfl rfl (fun w' => ?_) ?_; rotate_left; (go_simp; try with_reducible rfl); simp only [Act.put, List.setIfInBounds_toArray, List.set_cons_zero, List.set_cons_succ])
          (refine plan_pure ?_ rfl rfl (fun w' => ?_) ?_; rotate_left; (go_simp; try with_reducible rfl); simp only [Act.put, List.setIfInBounds_toArray, List.set_cons_zero, List.set_cons_succ])
          (refine plan_pure ?_ rfl rfl (fun w' => ?_) ?_; rotate_left; (go_simp; try with_reducible rfl); simp only [Act.put, List.setIfInBounds_toArray, List.set_cons_zero, List.set_cons_succ])
          (refine plan_pure ?_ rfl rfl (fun w' => ?_) ?_; rotate_left; (go_simp; try with_reducible rfl); simp only [Act.put, List.setIfInBounds_toArray, List.set_cons_zero, List.set_cons_succ])
          (refine plan_pure ?_ rfl rfl (fun w' => ?_) ?_; rotate_left; (go_simp; try with_reducible rfl); simp only [Act.put, List.setIfInBounds_toArray, List.set_cons_zero, List.set_cons_succ])
          (refine plan_pure ?_ rfl rfl (fun w' => ?_) ?_; rotate_left; (go_simp; try with_reducible rfl); simp only [Act.put, List.setIfInBounds_toArray, List.set_cons_zero, List.set_cons_succ])
          (refine plan_pure ?_ rfl rfl (fun w' => ?_) ?_; rotate_left; (go_simp; try with_reducible rfl); simp only [Act.put, List.setIfInBounds_toArray, List.set_cons_zero, List.set_cons_succ])
          (refine plan_pure ?_ rfl rfl (fun w' => ?_) ?_; rotate_left; (go_simp; try with_reducible rfl); simp only [Act.put, List.setIfInBounds_toArray, List.set_cons_zero, List.set_cons_succ])
          refine plan_nil ?_
          intro w4 L4
          simp only [List.drop_succ_cons, List.drop_zero]
          try simp only [Act.put, List.setIfInBounds_toArray, List.set_cons_zero, List.set_cons_succ]
          replace own := own.call L4
          replace o := o.trans (L4.mono (by have := o.size; omega))
          clear L4
          generalize cur.set b ⟨t1, L + 1⟩ = cS at own hsc
          have OC := (own.cut (k := b + 1) (by omega)).row hbg
          rw [bcells_take] at OC
          have RD : Reads w4 w4.heap.size 2 AD (nn - (b + 2)) (bcells (cS.drop (b + 2))) := by
            have RD := reads_drop own (j := b + 2) (by omega)
            rw [bcells_drop] at RD
            by_cases hcb : c' = b + 2
            · exact ⟨RD.1, fun hn => by have := own.cap.1; omega⟩
            · rw [if_neg hcb] at hAD
              rw [← hAD]
              exact RD
          have zs := o.size
          go_upto_region 12 with (at_builtin; refine wpList_append_any _ rfl _ _ 30 rfl base 318 ib (.agg #[.int .i64 0, .int .i64 0]) 2 16 Tryz.underlying30 hib iz0 iz1 iz2 rfl (by decide) (.slice (some ⟨g, 0, none⟩) (b + 1) c') (b + 1) (bcells (cS.take (b + 1))) rfl OC w4.heap.size AD (nn - (b + 2)) (c' - (b + 2)) (bcells (cS.drop (b + 2))) rfl RD (bcells_one _) (by unfold maxLen; omega) (by omega) (by omega) ?_; intro v6 w6 own6 hg6 hat6)
          rw [← bcells_append, hsc, show b + 1 + (nn - (b + 2)) = nn - 1 by omega] at own6
          replace o := below_grown o hg6 (fun q hq => by have e9 : g = q := Option.some.inj hq; omega) (by omega)
          obtain ⟨g6, c6, rfl, own7, hb6⟩ := orow_pos own6 (by omega)
          replace HS := Lib.hid HS
          clear own6 own OC RD hsc hg6 hat6
          go_wp2
          go_roundw
          case rel => exact ⟨g6, c6, nn - 1, _, b + 1, L + 1, rfl, by go_num, by go_num, own7, hb6, HS, o⟩
          case measure => simp [lenB]; omega
      · have j0 : (0 : Int) < (b : Int) := by omega
        have j1 : 0 < b := by omega
        obtain ⟨p, hp⟩ : ∃ p : Nat, b = p + 1 := ⟨b - 1, by omega⟩
        have wj : IntKind.i64.wrap ((b : Int) - 1) = (p : Int) := by rw [IntWalk.i64_in _ (by omega)]; omega
        have y1 : (p : Int) < (nn : Int) := by omega
        have y0 : (0 : Int) ≤ (p : Int) := by omega
        have pc := (bkcells_own own (i := p) (by omega)).2
        have hpb : b - 1 = p := by omega
        clear b0
        by_cases hlv : (bkAt cur p).lv = L
        · have HB2 : RowKit.Hid (∀ i, p ≤ i → i < e → (bkAt cur i).lv = L) := Lib.hid (fun i h1 h2 => by
            by_cases hi : i = p
            · rw [hi]; exact hlv
            · exact HB.out i (by omega) h2)
          rw [hlv] at pc
          have lq : ((L : Int) == (L : Int)) = true := by simp
          have hpe : p ≤ e := by omega
          have hpl : p < b := by omega
          clear hlv HB hp hpb
          go_wp2
          go_roundw
          case rel => exact ⟨p, hpe, by go_num, HB2, by trivial⟩
          case measure => simp [intOf]; omega
        · have H2 : RowKit.Hid (b = 0 ∨ (bkAt cur (b - 1)).lv ≠ L) := Lib.hid (.inr (by rw [hpb]; exact hlv))
          have lq : (((bkAt cur p).lv : Int) == (L : Int)) = false := by simp; omega
          generalize (bkAt cur p).lv = lp at pc lq
          clear hlv hp hpb
          by_cases hc : e - b < k + 2
          · have hc' : (e : Int) - (b : Int) < (k : Int) + 2 := by omega
            have HF := Lib.hid (HJ.out.done hbe HB.out H2.out hc hT)
            clear HB
            go_wp2
            go_ret
            exact InsRet.mk' (own.row hbg) HF.out o
          · have hc' : ¬ (e : Int) - (b : Int) < (k : Int) + 2 := by omega
            have HS := HJ.out.step k1 hbe HB.out H2.out hc
            have LB : L ≤ 1073741824 := by
              have h0 := HB.out b (Nat.le_refl _) (by omega)
              have h1 := tot_mem (bk_mem (l := cur) (i := b) (by omega))
              have h2 := two_pow_le (x := (bkAt cur b).lv) (by have := HJ.out.tot; omega)
              omega
            have wL : IntKind.i64.wrap ((L : Int) + 1) = ((L + 1 : Nat) : Int) := by rw [IntWalk.i64_in _ (by omega)]; omega
            have l0 : (b : Int) < (nn : Int) := by omega
            have l1 : (b : Int) + 1 < (nn : Int) := by omega
            have l2 : (b : Int) + 2 ≤ (nn : Int) := by omega
            have z0 : (0 : Int) ≤ (b : Int) := by omega
            have cc := own.cap.1
            have l3 : (b : Int) + 1 ≤ (c' : Int) := by omega
            have l4 : (nn : Int) ≤ (c' : Int) := by omega
            have q1 := (bkcells_own own (i := b + 1) (by omega)).1
            generalize hm1 : (bkAt cur (b + 1)).t = t1 at HS q1
            obtain ⟨p0, p1⟩ := bkcells_own own (i := b) (by omega)
            have f0 := own.free (b * 2)
            have f1 := own.free (b * 2 + 1)
            go_upto_region 11 with (fail)
            replace own := (own.set (b * 2) (.int .i64 t1)).set (b * 2 + 1) (.int .i64 ((L : Int) + 1))
            have hbs : ((bcells cur).set (b * 2) (.int .i64 t1)).set (b * 2 + 1) (.int .i64 ((L : Int) + 1)) = bcells (cur.set b ⟨t1, L + 1⟩) := by
              have := bcells_set cur b (by omega) ⟨t1, L + 1⟩
              simpa using this
            rw [hbs] at own
            have hsc := set_cut (cur := cur) (b := b) (m := ⟨t1, L + 1⟩) (by omega)
            replace o := (o.setCell (p := ⟨g, b * 2, none⟩) hbg (.int .i64 t1)).setCell (p := ⟨g, b * 2 + 1, none⟩) hbg (.int .i64 ((L : Int) + 1))
            generalize (wr.setCell ⟨g, b * 2, none⟩ (.int .i64 t1)).setCell ⟨g, b * 2 + 1, none⟩ (.int .i64 ((L : Int) + 1)) = w3 at own o ⊢
            clear p0 p1 f0 f1 q1 hbs HJ HB
            have x1 : (0 : Int) ≤ (b : Int) + 1 := by omega
            have x2 : (0 : Int) ≤ (b : Int) + 2 := by omega
            have y1 : IntKind.i64.wrap ((b : Int) + 1) = (b : Int) + 1 := IntWalk.i64_in _ (by omega)
            have y2 : IntKind.i64.wrap ((b : Int) + 2) = (b : Int) + 2 := IntWalk.i64_in _ (by omega)
            have y3 : ((b : Int) + 1).toNat = b + 1 := by omega
            have y4 : ((b : Int) + 2).toNat = b + 2 := by omega
            generalize hAD : (if c' = b + 2 then some (⟨g, 0, none⟩ : Addr) else some ⟨g, (b + 2) * 2, none⟩) = AD
            refine wp_region_free0 [0, 1, 2, 4, 5, 6, 3, 7] [] [0, 1, 2, 3, 4, 5, 6, 7] 8 (fun w' => Below w3.heap.size w3 w') (by kernel_rfl) (by kernel_rfl) (fun _ _ d _ _ h => by cases d <;> exact h) ?_ ?_
            · exact (Below.refl _ _).drew
            (refine plan_pure ?_ rfl rfl (fun w' => ?_) ?_; rotate_left; (go_simp; try with_reducible rfl); simp only [Act.put, List.setIfInBounds_toArray, List.set_cons_zero, List.set_cons_succ])
            (refine plan_pure ?_ rfl rfl (fun w' => ?_) ?_; rotate_left; (go_simp; try with_reducible rfl); simp only [Act.put, List.setIfInBounds_toArray, List.set_cons_zero, List.set_cons_succ])
            (refine plan_pure ?_ rfl rfl (fun w' => ?_) ?_; rotate_left; (go_simp; try with_reducible rfl); simp only [Act.put, List.setIfInBounds_toArray, List.set_cons_zero, List.set_cons_succ])
            (refine plan_pure ?_ rfl rfl (fun w' => ?_) ?_; rotate_left; (go_simp; try with_reducible rfl); simp only [Act.put, List.setIfInBounds_toArray, List.set_cons_zero, List.set_cons_succ])
            (refine plan_pure ?_ rfl rfl (fun w' => ?_) ?_; rotate_left; (go_simp; try with_reducible rfl); simp only [Act.put, List.setIfInBounds_toArray, List.set_cons_zero, List.set_cons_succ])
            (refine plan_pure ?_ rfl rfl (fun w' => ?_) ?_; rotate_left; (go_simp; try with_reducible rfl); simp only [Act.put, List.setIfInBounds_toArray, List.set_cons_zero, List.set_cons_succ])
            (refine plan_pure ?_ rfl rfl (fun w' => ?_) ?_; rotate_left; (go_simp; try with_reducible rfl); simp only [Act.put, List.setIfInBounds_toArray, List.set_cons_zero, List.set_cons_succ])
            (refine plan_pure ?_ rfl rfl (fun w' => ?_) ?_; rotate_left; (go_simp; try with_reducible rfl); simp only [Act.put, List.setIfInBounds_toArray, List.set_cons_zero, List.set_cons_succ])
            refine plan_nil ?_
            intro w4 L4
            simp only [List.drop_succ_cons, List.drop_zero]
            try simp only [Act.put, List.setIfInBounds_toArray, List.set_cons_zero, List.set_cons_succ]
            replace own := own.call L4
            replace o := o.trans (L4.mono (by have := o.size; omega))
            clear L4
            generalize cur.set b ⟨t1, L + 1⟩ = cS at own hsc
            have OC := (own.cut (k := b + 1) (by omega)).row hbg
            rw [bcells_take] at OC
            have RD : Reads w4 w4.heap.size 2 AD (nn - (b + 2)) (bcells (cS.drop (b + 2))) := by
              have RD := reads_drop own (j := b + 2) (by omega)
              rw [bcells_drop] at RD
              by_cases hcb : c' = b + 2
              · exact ⟨RD.1, fun hn => by have := own.cap.1; omega⟩
              · rw [if_neg hcb] at hAD
                rw [← hAD]
                exact RD
            have zs := o.size
            go_upto_region 12 with (at_builtin; refine wpList_append_any _ rfl _ _ 30 rfl base 318 ib (.agg #[.int .i64 0, .int .i64 0]) 2 16 Tryz.underlying30 hib iz0 iz1 iz2 rfl (by decide) (.slice (some ⟨g, 0, none⟩) (b + 1) c') (b + 1) (bcells (cS.take (b + 1))) rfl OC w4.heap.size AD (nn - (b + 2)) (c' - (b + 2)) (bcells (cS.drop (b + 2))) rfl RD (bcells_one _) (by unfold maxLen; omega) (by omega) (by omega) ?_; intro v6 w6 own6 hg6 hat6)
            rw [← bcells_append, hsc, show b + 1 + (nn - (b + 2)) = nn - 1 by omega] at own6
            replace o := below_grown o hg6 (fun q hq => by have e9 : g = q := Option.some.inj hq; omega) (by omega)
            obtain ⟨g6, c6, rfl, own7, hb6⟩ := orow_pos own6 (by omega)
            replace HS := Lib.hid HS
            clear own6 own OC RD hsc hg6 hat6
            go_wp2
            go_roundw
            case rel => exact ⟨g6, c6, nn - 1, _, b + 1, L + 1, rfl, by go_num, by go_num, own7, hb6, HS, o⟩
            case measure => simp [lenB]; omega
end Go.Proofs.YtdipoojjlddohaaGreat
end
section
/- Lists of buckets: insertions, expiry, the question, walked. -/
set_option linter.unusedVariables false
set_option linter.unusedSimpArgs false
set_option linter.unusedSectionVars false
set_option linter.unnecessarySimpa false
namespace Go.Proofs.YtdipoojjlddohaaGreat
open Go.RowKit
set_option maxRecDepth 100000 in
theorem pbIns (A : Option Addr) (m c : Nat) (l : List Bk) (k : Nat) (t : Int) (w : World) (hin : BIn A m c l w) (hv : BV k l) (k1 : 1 ≤ k) (k2 : k ≤ 128) (hm : m ≤ 1000000) (t0 : 0 ≤ t) (t1 : t ≤ 16777216) (ht : ∀ b ∈ l, b.t ≤ t) (hT : btot l + 1 ≤ 1073741824) :
    Calls Tryz.prog 211 #[.slice A m c, .int .i64 (k : Nat), .int .i64 t] w (BRet (Ins k l t 1) w) := by
  obtain ⟨ib, hib, iz0, iz1, iz2⟩ := info_parts info_bk
  have PV := Lib.hid (fun w' (hb : Below w.heap.size w w') => pbvalidL A m c l k w' (hin.below hb) hv ⟨k1, k2⟩ hm)
  have PM := Lib.hid (fun w' (hb : Below w.heap.size w w') => pbmay A m c l t w' (hin.below hb) t0 t1 ht)
  have PT := Lib.hid (fun w' (hb : Below w.heap.size w w') => pbtotal A m c l w' (hin.below hb) hv.lev (by omega))
  have PI := Lib.hid (fun w' g c2 (h : Own w' 318 2 g m c2 (bcells l)) (hg : w.heap.size ≤ g) (hw : w.heap.size ≤ w'.heap.size) => pbinsert w.heap.size (.slice (some ⟨g, 0, none⟩) m c2) m l k t w' (h.row hg) hw hv k1 k2 t0 t1 ht hT)
  have hT2 : decide ((1073741824 : Int) ≤ (btot l : Int)) = false := decide_eq_false (by omega)
  have RD0 := hin.reads
  generalize btot l = N at PT hT2
  clear hT hv ht hin
  go_enter Tryz.func211, Tryz.ntmps211
  go_wp2_with fail
  refine (PV.out _ (Below.refl _ _)).mono ?_
  rintro e w1 ⟨rfl, o⟩
  go_wp2_with fail
  refine (PM.out _ o).mono ?_
  rintro e w2 ⟨rfl, hb⟩
  replace o := o.trans (hb.mono o.size)
  clear hb
  go_wp2_with fail
  refine (PT.out _ o).mono ?_
  rintro e w3 ⟨rfl, hb⟩
  replace o := o.trans (hb.mono o.size)
  clear hb
  have RD := RD0.below o
  go_wp2_with (at_builtin; refine wpList_clone rfl _ _ 30 rfl 318 ib (.agg #[.int .i64 0, .int .i64 0]) 2 16 Tryz.underlying30 hib iz0 iz1 iz2 rfl (by decide) rfl w.heap.size A m c (bcells l) rfl RD o.size (bcells_one _) (by unfold maxLen; omega) (by omega) ?_; intro g c2 w4 own4 hg4 hb4 hz4)
  refine (PI.out _ _ _ own4 (by have := o.size; omega) (by have := o.size; omega)).mono ?_
  rintro e w5 ⟨v5, n5, l5, rfl, own5, hI, hb5⟩
  obtain ⟨A5, c5, rfl, rd5, h1, h2, h3⟩ := orow_forms own5
  replace o := (o.trans (hb4.mono o.size)).trans hb5
  replace hI := Lib.hid hI
  go_wp2
  go_ret
  exact ⟨A5, n5, c5, l5, rfl, ⟨rd5, h1, h2⟩, hI.out, o, fun a e => (h3 a e).1⟩
end Go.Proofs.YtdipoojjlddohaaGreat
end
section
/- Lists of buckets: expiry, the question, walked. -/
set_option linter.unusedVariables false
set_option linter.unusedSimpArgs false
set_option linter.unusedSectionVars false
set_option linter.unnecessarySimpa false
namespace Go.Proofs.YtdipoojjlddohaaGreat
open Go.RowKit
theorem BIn.none_at {A : Option Addr} {c : Nat} {w : World} (hc : c ≤ maxLen) : BIn A 0 c [] w := ⟨⟨rfl, fun h => by omega⟩, Nat.zero_le _, hc⟩
def lenE : Value → Nat
  | .slice _ n _ => n
  | _ => 0
/-- What an expiry leaves. -/
def ExpP (l : List Bk) (fst : Int) (l' : List Bk) : Prop := ∃ j, l' = l.drop j ∧ (∀ b ∈ l.take j, b.t < fst) ∧ ∀ b ∈ l.drop j, fst ≤ b.t
set_option maxRecDepth 100000 in
set_option maxHeartbeats 4000000 in
theorem pbExpire (A : Option Addr) (m c : Nat) (l : List Bk) (fst : Int) (w : World) (hin : BIn A m c l w) (ho : l.Pairwise ordR) (hm : m ≤ 1000000) :
    Calls Tryz.prog 159 #[.slice A m c, .int .i64 fst] w (BRet (ExpP l fst) w) := by
  obtain ⟨ib, hib, iz0, iz1, iz2⟩ := info_parts info_bk
  have HO := Lib.hid ho
  have hln := Lib.hid hin.len
  clear ho
  go_enter Tryz.func159, Tryz.ntmps159
  go_wp2
  go_loopw [0] (fun s wr => ∃ (A' : Option Addr) (m' c' j : Nat), s = .slice A' m' c' ∧ RowKit.Hid (BIn A' m' c' (l.drop j) w) ∧ m' + j = m ∧ RowKit.Hid (∀ b ∈ l.take j, b.t < fst) ∧ w = wr) (fun s _ => lenE s)
  case atStart => exact ⟨A, m, c, 0, rfl, Lib.hid hin, rfl, Lib.hid (by simp), rfl⟩
  case round =>
    clear hin
    obtain ⟨A', m', c', j, rfl, HI, hmj, HD, rfl⟩ := hrel
    have hcm := HI.out.mc
    have hcB := HI.out.cB
    by_cases m0 : m' = 0
    · have i0 : ¬ (0 : Int) < (m' : Int) := by omega
      have i1 : ¬ 0 < m' := by omega
      have HF : RowKit.Hid (∀ b ∈ l.drop j, fst ≤ b.t) := Lib.hid (fun b hb => by
        rw [List.drop_of_length_le (by rw [hln.out]; omega)] at hb
        cases hb)
      clear m0
      go_wp2_with (at_builtin; refine wpList_clone rfl _ _ 30 rfl 318 ib (.agg #[.int .i64 0, .int .i64 0]) 2 16 Tryz.underlying30 hib iz0 iz1 iz2 rfl (by decide) rfl w.heap.size A' m' c' (bcells (l.drop j)) rfl HI.out.reads (Nat.le_refl _) (bcells_one _) (by unfold maxLen; omega) (by omega) ?_; intro g c2 w4 own4 hg4 hb4 hz4)
      go_ret
      exact ⟨_, m', c2, l.drop j, rfl, BIn.of_own own4, ⟨j, rfl, HD.out, HF.out⟩, hb4, fun a e => by cases e; exact hg4⟩
    · have i0 : (0 : Int) < (m' : Int) := by omega
      have i1 : 0 < m' := by omega
      obtain ⟨ad, rfl, hadb, hi0⟩ := HI.out.reads.bk (i := 0) (by omega)
      have hi0 : BkCells w ad (bkAt (l.drop j) 0) := hi0
      have hjl : j < l.length := by rw [hln.out]; omega
      have hd := drop_bk hjl
      rw [hd] at hi0
      have hi0 : BkCells w ad (bkAt l j) := hi0
      obtain ⟨c0, _⟩ := hi0
      by_cases hlt : (bkAt l j).t < fst
      · have HD2 : RowKit.Hid (∀ b ∈ l.take (j + 1), b.t < fst) := Lib.hid (fun b hb => by
          rw [take_bk hjl] at hb
          rcases List.mem_append.1 hb with hb | hb
          · exact HD.out b hb
          · rw [List.mem_singleton.1 hb]; exact hlt)
        generalize (bkAt l j).t = tj at c0 hlt
        have i2 : (1 : Int) ≤ (m' : Int) := by omega
        have i3 : (m' : Int) ≤ (c' : Int) := by omega
        have i4 : (1 : Int) ≤ (c' : Int) := by omega
        by_cases c1 : c' = 1
        · subst c1
          obtain rfl : m' = 1 := by omega
          have HI2 : RowKit.Hid (BIn (some ad) 0 0 (l.drop (j + 1)) w) := Lib.hid (by
            rw [List.drop_of_length_le (by rw [hln.out]; omega)]
            exact BIn.none_at (by omega))
          clear HD HI m0 i0 i1 i2 i3 i4 hcm hcB
          go_wp2
          go_roundw
          case rel => exact ⟨some ad, 0, 0, j + 1, rfl, HI2, by omega, HD2, by trivial⟩
          case measure => simp [lenE]
        · have HI2 : RowKit.Hid (BIn (some ⟨ad.block, ad.off + 2, none⟩) (m' - 1) (c' - 1) (l.drop (j + 1)) w) := Lib.hid (by
            have := HI.out
            rw [hd] at this
            exact this.tail)
          have c1' : ((c' : Int) == 1) = false := by simp; omega
          clear HD HI m0
          go_wp2
          go_roundw
          case rel => exact ⟨_, m' - 1, c' - 1, j + 1, rfl, HI2, by omega, HD2, by trivial⟩
          case measure => simp [lenE]; omega
      · have HF : RowKit.Hid (∀ b ∈ l.drop j, fst ≤ b.t) := Lib.hid (fun b hb => by
          rw [hd] at hb
          have ho := HO.out
          rw [← List.take_append_drop j l, hd] at ho
          have ho := (List.pairwise_cons.1 (List.pairwise_append.1 ho).2.1).1
          rcases List.mem_cons.1 hb with rfl | hb
          · omega
          · have := (ho b hb).1
            omega)
        generalize (bkAt l j).t = tj at c0 hlt
        clear m0
        go_wp2_with (at_builtin; refine wpList_clone rfl _ _ 30 rfl 318 ib (.agg #[.int .i64 0, .int .i64 0]) 2 16 Tryz.underlying30 hib iz0 iz1 iz2 rfl (by decide) rfl w.heap.size (some ad) m' c' (bcells (l.drop j)) rfl HI.out.reads (Nat.le_refl _) (bcells_one _) (by unfold maxLen; omega) (by omega) ?_; intro g c2 w4 own4 hg4 hb4 hz4)
        go_ret
        exact ⟨_, m', c2, l.drop j, rfl, BIn.of_own own4, ⟨j, rfl, HD.out, HF.out⟩, hb4, fun a e => by cases e; exact hg4⟩
/-- The least and the greatest number of live items. -/
def qLo (l : List Bk) : Nat := if l = [] then 0 else btot l - 2 ^ topL l + 1
def qV (lo hi : Nat) : Value := .agg #[.int .i64 (lo : Nat), .int .i64 1, .int .i64 ((lo + hi) / 2 : Nat), .int .i64 1, .int .i64 (hi : Nat), .int .i64 1]
set_option maxRecDepth 100000 in
set_option maxHeartbeats 4000000 in
theorem pbQuery (A : Option Addr) (m c : Nat) (l : List Bk) (w : World) (hin : BIn A m c l w) (hv : ∀ b ∈ l, b.lv ≤ 30) (hT : btot l ≤ 1073741824) :
    Calls Tryz.prog 134 #[.slice A m c] w fun e w' => e = .returned (qV (qLo l) (btot l)) ∧ Below w.heap.size w w' := by
  have hln := hin.len
  by_cases m0 : m = 0
  · obtain rfl : l = [] := List.eq_nil_of_length_eq_zero (by omega)
    have m0b : ((m : Int) == 0) = true := by simp; omega
    have P1 := Lib.hid (fun w => pratio 0 w)
    have P2 := Lib.hid (fun w => pexactR 0 1 w (by decide) (by decide) (by decide) (by decide))
    clear hin hv hT hln m0
    rw [show qV (qLo []) (btot []) = .agg #[.int .i64 0, .int .i64 1, .int .i64 0, .int .i64 1, .int .i64 0, .int .i64 1] from rfl]
    go_enter Tryz.func134, Tryz.ntmps134
    go_upto_region 1 with (fail)
    have R : Row (w.alloc (.cells #[.int .i64 0, .int .i64 0, .int .i64 0, .int .i64 0, .int .i64 0, .int .i64 0] 64)) w.heap.size 64 #[.int .i64 0, .int .i64 0, .int .i64 0, .int .i64 0, .int .i64 0, .int .i64 0] := row_new rfl
    have o : Below w.heap.size w (w.alloc (.cells #[.int .i64 0, .int .i64 0, .int .i64 0, .int .i64 0, .int .i64 0, .int .i64 0] 64)) := by (repeat (first | exact Below.refl _ _ | refine Below.setCell ?_ (by first | (simp; done) | (simp; omega) | omega) _ | refine Below.alloc ?_ (by first | (simp; done) | (simp; omega) | omega) _ | refine Below.drew ?_ | refine Below.trans ?_ (Below.mono (by assumption) (by first | (simp; done) | (simp; omega) | omega))))
    generalize w.alloc (.cells #[.int .i64 0, .int .i64 0, .int .i64 0, .int .i64 0, .int .i64 0, .int .i64 0] 64) = w1 at R o ⊢
    go_wp2_with fail
    refine (P1.out _).mono ?_
    rintro e w2 ⟨rfl, hb⟩
    replace R := row_call R hb
    replace o := o.trans (hb.mono o.size)
    clear hb
    go_wp2_with fail
    refine (P2.out _).mono ?_
    rintro e w3 ⟨rfl, hb⟩
    replace R := row_call R hb
    replace o := o.trans (hb.mono o.size)
    clear hb
    obtain ⟨R0, R1, R2, R3, R4, R5, Rf0, Rf1, Rf2, Rf3, Rf4, Rf5⟩ := row_six R
    go_wp2
    have S := row_six_of (row_set (row_set (row_set (row_set (row_set (row_set R 0 (.int .i64 0)) 1 (.int .i64 1)) 2 (.int .i64 0)) 3 (.int .i64 1)) 4 (.int .i64 0)) 5 (.int .i64 1))
    obtain ⟨S0, S1, S2, S3, S4, S5⟩ := S
    exact bodyPost_ret (v := .agg #[.int .i64 0, .int .i64 1, .int .i64 0, .int .i64 1, .int .i64 0, .int .i64 1]) (by simp [results, Tryz.results134, go_sem, S0, S1, S2, S3, S4, S5]) rfl ⟨rfl, below_six o (Nat.le_refl _) _ _ _ _ _ _⟩
  · obtain ⟨ad, rfl, hadb, hi0⟩ := hin.reads.bk (i := 0) (by omega)
    have hi0 : BkCells w ad (bkAt l 0) := hi0
    have hne : l ≠ [] := fun e => by subst e; simp at hln; omega
    have m0b : ((m : Int) == 0) = false := by simp; omega
    have vB := hv _ (bk_mem (l := l) (i := 0) (by omega))
    have hle := tot_mem (bk_mem (l := l) (i := 0) (by omega))
    have PT := Lib.hid (fun w' (hb : Below w.heap.size w w') => pbtotal (some ad) m c l w' (hin.below hb) hv hT)
    have hq : qV (qLo l) (btot l) = qV (btot l - 2 ^ (bkAt l 0).lv + 1) (btot l) := by unfold qLo topL; rw [if_neg hne]
    rw [hq]
    have PL := fun w => pblevel ((bkAt l 0).lv : Nat) w (by omega) (by omega)
    obtain ⟨c0, c1⟩ := hi0
    generalize btot l = N at PT hle hT ⊢
    generalize (bkAt l 0).lv = tp at c1 vB hle PL ⊢
    replace PL := Lib.hid PL
    have p1 := Nat.one_le_two_pow (n := tp)
    have sw : RowKit.Hid (RowKit.wrap64 (2 ^ tp) = ((2 ^ tp : Nat) : Int)) := Lib.hid (by
      have e : ((2 : Int) ^ tp) = ((2 ^ tp : Nat) : Int) := by simp
      rw [e]
      exact IntWalk.wrap64_in _ (by omega))
    have PW := fun w => pwhole (N - 2 ^ tp + 1) N (by omega) (by omega) w
    unfold qV
    have i0 : (0 : Int) < (m : Int) := by omega
    have v0 : (0 : Int) ≤ (tp : Int) := by omega
    clear c0 hin hv hq hne m0 hln
    generalize hP : 2 ^ tp = P at sw p1 hle PW ⊢
    have LO : RowKit.Hid (((N - P + 1 : Nat) : Int) = (N : Int) - (P : Int) + 1) := Lib.hid (by omega)
    generalize (N - P + 1 + N) / 2 = md at PW ⊢
    generalize N - P + 1 = lo at PW LO ⊢
    replace PW := Lib.hid PW
    clear hP
    have o := Below.refl w.heap.size w
    go_enter Tryz.func134, Tryz.ntmps134
    go_upto_region 1 with (fail)
    have R : Row (w.alloc (.cells #[.int .i64 0, .int .i64 0, .int .i64 0, .int .i64 0, .int .i64 0, .int .i64 0] 64)) w.heap.size 64 #[.int .i64 0, .int .i64 0, .int .i64 0, .int .i64 0, .int .i64 0, .int .i64 0] := row_new rfl
    replace o := o.alloc o.size (.cells #[.int .i64 0, .int .i64 0, .int .i64 0, .int .i64 0, .int .i64 0, .int .i64 0] 64)
    generalize w.alloc (.cells #[.int .i64 0, .int .i64 0, .int .i64 0, .int .i64 0, .int .i64 0, .int .i64 0] 64) = w1 at R o ⊢
    go_wp2_with fail
    refine (PT.out _ o).mono ?_
    rintro e w2 ⟨rfl, hb⟩
    replace R := row_call R hb
    replace o := o.trans (hb.mono o.size)
    clear hb PT
    replace c1 := (o.cell (p := ⟨ad.block, ad.off + 1, none⟩) hadb).trans c1
    go_upto_region 6 with (go_at_call 228; with_reducible refine (PL.out _).mono ?_; rintro e w9 ⟨rfl, h9⟩; obtain rfl := h9.symm)
    rw [sw.out]
    clear PL sw c1
    go_wp2_with fail
    rw [← LO.out]
    refine (PW.out _).mono ?_
    rintro e w3 ⟨rfl, hb⟩
    replace R := row_call R hb
    replace o := o.trans (hb.mono o.size)
    clear hb PW
    go_upto_region 7 with (fail)
    have B : Row (w3.alloc (.cells #[.int .i64 (lo : Nat), .int .i64 1, .int .i64 (md : Nat), .int .i64 1, .int .i64 (N : Nat), .int .i64 1] 64)) w3.heap.size 64 #[.int .i64 (lo : Nat), .int .i64 1, .int .i64 (md : Nat), .int .i64 1, .int .i64 (N : Nat), .int .i64 1] := row_new rfl
    replace R := row_alloc R (.cells #[.int .i64 (lo : Nat), .int .i64 1, .int .i64 (md : Nat), .int .i64 1, .int .i64 (N : Nat), .int .i64 1] 64)
    replace o := o.alloc o.size (.cells #[.int .i64 (lo : Nat), .int .i64 1, .int .i64 (md : Nat), .int .i64 1, .int .i64 (N : Nat), .int .i64 1] 64)
    generalize w3.alloc (.cells #[.int .i64 (lo : Nat), .int .i64 1, .int .i64 (md : Nat), .int .i64 1, .int .i64 (N : Nat), .int .i64 1] 64) = w4 at R B o ⊢
    generalize w3.heap.size = bb at B ⊢
    obtain ⟨R0, R1, R2, R3, R4, R5, Rf0, Rf1, Rf2, Rf3, Rf4, Rf5⟩ := row_six R
    obtain ⟨B0, B1, B2, B3, B4, B5, Bf0, Bf1, Bf2, Bf3, Bf4, Bf5⟩ := row_six B
    go_wp2
    have S := row_six_of (row_set (row_set (row_set (row_set (row_set (row_set R 0 (.int .i64 (lo : Nat))) 1 (.int .i64 1)) 2 (.int .i64 (md : Nat))) 3 (.int .i64 1)) 4 (.int .i64 (N : Nat))) 5 (.int .i64 1))
    obtain ⟨S0, S1, S2, S3, S4, S5⟩ := S
    exact bodyPost_ret (v := .agg #[.int .i64 (lo : Nat), .int .i64 1, .int .i64 (md : Nat), .int .i64 1, .int .i64 (N : Nat), .int .i64 1]) (by simp [results, Tryz.results134, go_sem, S0, S1, S2, S3, S4, S5]) rfl ⟨rfl, below_six o (Nat.le_refl _) _ _ _ _ _ _⟩
end Go.Proofs.YtdipoojjlddohaaGreat
end
