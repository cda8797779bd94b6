/- Valid lists of marks stay valid by a tick and by a value more; plain. -/
import Derived.Test.YtaiepjcnncajcaaMathMk
set_option linter.unusedVariables false
set_option linter.unusedSimpArgs false
set_option linter.unusedSectionVars false
set_option linter.unnecessarySimpa false
namespace Go.Proofs.Ytaiepjcnncajcaa
theorem sq_nonneg (x : Int) : 0 ≤ x * x := by
  rcases Int.le_total 0 x with h | h
  · exact Int.mul_nonneg h h
  · exact Int.mul_nonneg_of_nonpos_of_nonpos h h
theorem le_of_sq {x y : Int} (hy : 0 ≤ y) (h : x * x ≤ y * y) : x ≤ y := by
  rcases Int.lt_or_le y x with g | g
  · have h1 : y * y ≤ y * x := Int.mul_le_mul_of_nonneg_left (by omega) hy
    have h2 : y * x < x * x := Int.mul_lt_mul_of_pos_right g (by omega)
    omega
  · exact g
/-- Of two parts together. -/
theorem cauchy {n1 q1 s1 n2 q2 s2 : Int} (hn1 : 0 ≤ n1) (hq1 : 0 ≤ q1) (hn2 : 0 ≤ n2) (hq2 : 0 ≤ q2) (h1 : s1 * s1 ≤ n1 * q1) (h2 : s2 * s2 ≤ n2 * q2) : (s1 + s2) * (s1 + s2) ≤ (n1 + n2) * (q1 + q2) := by
  have a0 : 0 ≤ n1 * q2 := Int.mul_nonneg hn1 hq2
  have a1 : 0 ≤ n2 * q1 := Int.mul_nonneg hn2 hq1
  have a2 : 0 ≤ n1 * q1 := Int.mul_nonneg hn1 hq1
  have key : 2 * (s1 * s2) ≤ n1 * q2 + n2 * q1 := by
    refine le_of_sq (by omega) ?_
    have b1 : (s1 * s1) * (s2 * s2) ≤ (n1 * q1) * (n2 * q2) := Int.mul_le_mul h1 h2 (sq_nonneg _) a2
    have b2 := sq_nonneg (n1 * q2 - n2 * q1)
    have e1 : 2 * (s1 * s2) * (2 * (s1 * s2)) = 4 * ((s1 * s1) * (s2 * s2)) := by grind
    have e2 : (n1 * q2 + n2 * q1) * (n1 * q2 + n2 * q1) = (n1 * q2 - n2 * q1) * (n1 * q2 - n2 * q1) + 4 * ((n1 * q1) * (n2 * q2)) := by grind
    omega
  have e3 : (s1 + s2) * (s1 + s2) = s1 * s1 + s2 * s2 + 2 * (s1 * s2) := by grind
  have e4 : (n1 + n2) * (q1 + q2) = n1 * q1 + n2 * q2 + (n1 * q2 + n2 * q1) := by grind
  omega
theorem part_wide {n lo hi s q lo' hi' : Int} (hn : 0 ≤ n) (h : partP n lo hi s q) (hl : lo' ≤ lo) (hh : hi ≤ hi') : partP n lo' hi' s q := by
  obtain ⟨h1, h2, h3, h4, h5⟩ := h
  exact ⟨Int.le_trans (Int.mul_le_mul_of_nonneg_left hl hn) h1, Int.le_trans h2 (Int.mul_le_mul_of_nonneg_left hh hn), h3, h4, h5⟩
theorem part_add {n1 n2 lo hi s1 s2 q1 q2 : Int} (hn1 : 0 ≤ n1) (hn2 : 0 ≤ n2) (h1 : partP n1 lo hi s1 q1) (h2 : partP n2 lo hi s2 q2) : partP (n1 + n2) lo hi (s1 + s2) (q1 + q2) := by
  obtain ⟨a1, a2, a3, a4, a5⟩ := h1
  obtain ⟨b1, b2, b3, b4, b5⟩ := h2
  refine ⟨?_, ?_, by omega, ?_, cauchy hn1 a3 hn2 b3 a5 b5⟩
  · rw [Int.add_mul]; omega
  · rw [Int.add_mul]; omega
  · rw [Int.add_mul, Int.add_mul]; omega
theorem vv_small {v : Int} (h0 : -4096 ≤ v) (h1 : v ≤ 4096) : 0 ≤ v * v ∧ v * v ≤ 16777216 := by
  have := sq_bound (s := v) (B := 4096) (by omega) (by omega)
  exact this
theorem part_one {v lo hi : Int} (h0 : -4096 ≤ v) (h1 : v ≤ 4096) (hl : lo ≤ v) (hh : v ≤ hi) : partP 1 lo hi v (v * v) := by
  have := vv_small h0 h1
  exact ⟨by omega, by omega, this.1, by omega, by omega⟩
theorem two_trans {seq cap now w least : Int} {a b c : Mk} (ha : oneP seq cap now w least a) (hb : oneP seq cap now w least b) (hc : oneP seq cap now w least c) (h1 : twoP a b) (h2 : twoP b c) : twoP a c := by
  obtain ⟨p1, p2, p3, p4, p5⟩ := h1
  obtain ⟨q1, q2, q3, q4, q5⟩ := h2
  have na : a.n = seq - a.seq + 1 := ha.2.2.1
  have nb : b.n = seq - b.seq + 1 := hb.2.2.1
  have nc : c.n = seq - c.seq + 1 := hc.2.2.1
  refine ⟨by omega, by omega, by omega, by omega, ?_⟩
  have := part_add (by omega) (by omega) p5 (part_wide (by omega) q5 p3 p4)
  rw [show a.n - b.n + (b.n - c.n) = a.n - c.n by omega, show a.s - b.s + (b.s - c.s) = a.s - c.s by omega, show a.q - b.q + (b.q - c.q) = a.q - c.q by omega] at this
  exact this
/-- Valid lists, said of lists. -/
structure VL (l : List Mk) (seq cap now w least : Int) : Prop where
  one : ∀ m ∈ l, oneP seq cap now w least m
  two : l.Pairwise twoP
  live : ∀ m ∈ l.tail, now - w < m.t
  alone : ∀ a, l = [a] → now - w < a.t
  last : l ≠ [] → lastP seq (mkAt l (l.length - 1))
theorem mem_at {l : List Mk} {m : Mk} (h : m ∈ l) : ∃ i, i < l.length ∧ mkAt l i = m := by
  obtain ⟨i, hi, e⟩ := List.getElem_of_mem h
  refine ⟨i, hi, ?_⟩
  unfold mkAt
  rw [List.getD_eq_getElem?_getD, List.getElem?_eq_getElem hi]
  exact e
theorem pairwise_of_next {seq cap now w least : Int} : ∀ {l : List Mk}, (∀ m ∈ l, oneP seq cap now w least m) → (∀ i, i + 1 < l.length → twoP (mkAt l i) (mkAt l (i + 1))) → l.Pairwise twoP
  | [], _, _ => List.Pairwise.nil
  | [a], _, _ => List.pairwise_singleton _ _
  | a :: b :: r, h1, h2 => by
    have ih := pairwise_of_next (l := b :: r) (fun m hm => h1 m (List.mem_cons_of_mem _ hm)) (fun i hi => by have := h2 (i + 1) (by simpa using hi); simpa [mkAt_succ] using this)
    have hab : twoP a b := h2 0 (by simp)
    refine List.Pairwise.cons (fun c hc => ?_) ih
    rcases List.mem_cons.1 hc with rfl | hc'
    · exact hab
    · exact two_trans (h1 a (by simp)) (h1 b (by simp)) (h1 c (by simp [hc'])) hab (List.rel_of_pairwise_cons ih hc')
theorem pairwise_at {l : List Mk} (h : l.Pairwise twoP) {i j : Nat} (hij : i < j) (hj : j < l.length) : twoP (mkAt l i) (mkAt l j) := by
  have := List.pairwise_iff_getElem.1 h i j (by omega) hj hij
  unfold mkAt
  rw [List.getD_eq_getElem?_getD, List.getD_eq_getElem?_getD, List.getElem?_eq_getElem (by omega), List.getElem?_eq_getElem hj]
  exact this
theorem mvalid_iff {l : List Mk} {seq cap now w least : Int} : mvalid l seq cap now w least ↔ (0 ≤ seq ∧ seq ≤ 1099511627776) ∧ VL l seq cap now w least := by
  constructor
  · rintro ⟨h1, h2, h3, h4⟩
    have o : ∀ m ∈ l, oneP seq cap now w least m := fun m hm => by
      obtain ⟨i, hi, rfl⟩ := mem_at hm
      exact (h3 i hi).1
    refine ⟨⟨h1, h2⟩, o, pairwise_of_next o (fun i hi => by have := (h3 (i + 1) hi).2.2 (by omega); simpa using this), fun m hm => ?_, fun a e => ?_, fun h => h4 (by simpa using h)⟩
    · cases l with
      | nil => simp at hm
      | cons a r =>
        obtain ⟨i, hi, rfl⟩ := mem_at hm
        have := (h3 (i + 1) (by simpa using hi)).2.1 (.inl (by omega))
        exact this
    · subst e
      exact (h3 0 (by simp)).2.1 (.inr rfl)
  · rintro ⟨⟨h1, h2⟩, h⟩
    refine ⟨h1, h2, fun i hi => ⟨h.one _ (mkAt_mem hi), fun hh => ?_, fun hh => ?_⟩, fun hn => h.last (by simpa using hn)⟩
    · cases l with
      | nil => simp at hi
      | cons a r =>
        cases i with
        | zero =>
          have : r = [] := by
            rcases hh with hh | hh
            · omega
            · simpa using hh
          subst this
          exact h.alone a rfl
        | succ i => exact h.live _ (by simpa [mkAt_succ] using mkAt_mem (l := r) (i := i) (by simpa using hi))
    · exact pairwise_at h.two (by omega) hi
theorem mkAt_last_suffix {l s : List Mk} (h : s <:+ l) (hs : s ≠ []) : mkAt s (s.length - 1) = mkAt l (l.length - 1) := by
  obtain ⟨t, rfl⟩ := h
  have : 0 < s.length := List.length_pos_iff.2 hs
  rw [mkAt_append_right (by simp; omega), List.length_append]
  congr 1
  omega
/-- A tick: what is left is a rear part, of which but for the first all is live. -/
theorem dropM_spec (now w : Int) : ∀ l : List Mk, dropM now w l <:+ l ∧ (∀ a, dropM now w l = [a] → now - w < a.t) ∧ ∀ a b r, dropM now w l = a :: b :: r → now - w < b.t
  | [] => by rw [dropM_nil]; exact ⟨List.suffix_refl _, fun _ h => by simp at h, fun _ _ _ h => by simp at h⟩
  | [a] => by
    rw [dropM_one]
    split
    · rename_i h
      exact ⟨List.suffix_refl _, fun _ e => by simp at e; subst e; exact h, fun _ _ _ e => by simp at e⟩
    · exact ⟨List.nil_suffix, fun _ h => by simp at h, fun _ _ _ h => by simp at h⟩
  | a :: b :: r => by
    rw [dropM_two]
    split
    · rename_i h
      exact ⟨List.suffix_refl _, fun _ e => by simp at e, fun _ _ _ e => by simp at e; obtain ⟨_, rfl, _⟩ := e; exact h⟩
    · obtain ⟨h1, h2, h3⟩ := dropM_spec now w (b :: r)
      exact ⟨h1.trans (List.suffix_cons _ _), h2, h3⟩
theorem one_later {seq cap now now' w least : Int} {m : Mk} (h : oneP seq cap now w least m) (hn : now ≤ now') : oneP seq cap now' w least m := by
  obtain ⟨h1, h2, h3, h4, h5, h6, h7⟩ := h
  exact ⟨h1, h2, h3, h4, h5, by omega, h7⟩
theorem VL.tick {l : List Mk} {seq cap now now' w least : Int} (h : VL l seq cap now w least) (hn : now ≤ now') : VL (dropM now' w l) seq cap now' w least := by
  obtain ⟨s1, s2, s3⟩ := dropM_spec now' w l
  have two := h.two.sublist s1.sublist
  refine ⟨fun m hm => one_later (h.one m (s1.subset hm)) hn, two, fun m hm => ?_, s2, fun hne => ?_⟩
  · cases hd : dropM now' w l with
    | nil => rw [hd] at hm; simp at hm
    | cons a r =>
      cases r with
      | nil => rw [hd] at hm; simp at hm
      | cons b r =>
        rw [hd] at hm two
        have hb := s3 a b r hd
        simp only [List.tail_cons] at hm
        rcases List.mem_cons.1 hm with rfl | hm
        · exact hb
        · have := (List.rel_of_pairwise_cons (List.Pairwise.of_cons two) hm).2.1
          omega
  · rw [mkAt_last_suffix s1 hne]
    exact h.last (fun e => by subst e; exact hne (by rw [dropM_nil]))
theorem inc_one {seq cap now w least v : Int} {m : Mk} (h : oneP seq cap now w least m) (hc : m.n < cap) (hl : least ≤ v) (hv : -4096 ≤ v) (hv' : v ≤ 4096) : oneP (seq + 1) cap now w least (inc v m) := by
  obtain ⟨h1, h2, h3, h4, h5, h6, h7, h8, h9, h10⟩ := h
  have hn : 0 ≤ m.n := by omega
  refine ⟨h1, by show m.seq ≤ _; omega, by show m.n + 1 = seq + 1 - m.seq + 1; omega, by show m.n + 1 ≤ cap; omega, h5, h6, by show least ≤ min m.lo v; omega, by show max m.hi v ≤ 4096; omega, by show min m.lo v ≤ max m.hi v; omega, ?_⟩
  exact part_add hn (by omega) (part_wide hn h10 (show min m.lo v ≤ m.lo by omega) (show m.hi ≤ max m.hi v by omega)) (part_one hv hv' (show min m.lo v ≤ v by omega) (show v ≤ max m.hi v by omega))
theorem inc_two {seq cap now w least v : Int} {a b : Mk} (ha : oneP seq cap now w least a) (hb : oneP seq cap now w least b) (h : twoP a b) : twoP (inc v a) (inc v b) := by
  obtain ⟨h1, h2, h3, h4, h5⟩ := h
  have na : a.n = seq - a.seq + 1 := ha.2.2.1
  have nb : b.n = seq - b.seq + 1 := hb.2.2.1
  refine ⟨h1, h2, by show min a.lo v ≤ min b.lo v; omega, by show max b.hi v ≤ max a.hi v; omega, ?_⟩
  have := part_wide (lo' := min a.lo v) (hi' := max a.hi v) (by omega) h5 (by omega) (by omega)
  show partP (a.n + 1 - (b.n + 1)) _ _ (a.s + v - (b.s + v)) (a.q + v * v - (b.q + v * v))
  rw [show a.n + 1 - (b.n + 1) = a.n - b.n by omega, show a.s + v - (b.s + v) = a.s - b.s by omega, show a.q + v * v - (b.q + v * v) = a.q - b.q by omega]
  exact this
theorem new_two {seq cap now w least v : Int} {a : Mk} (ha : oneP seq cap now w least a) (hv : -4096 ≤ v) (hv' : v ≤ 4096) : twoP (inc v a) (newMk (seq + 1) now v) := by
  obtain ⟨h1, h2, h3, h4, h5, h6, h7, h8, h9, h10⟩ := ha
  have hn : 0 ≤ a.n := by omega
  refine ⟨by show a.seq < seq + 1; omega, h6, by show min a.lo v ≤ v; omega, by show v ≤ max a.hi v; omega, ?_⟩
  show partP (a.n + 1 - 1) (min a.lo v) (max a.hi v) (a.s + v - v) (a.q + v * v - v * v)
  rw [show a.n + 1 - 1 = a.n by omega, show a.s + v - v = a.s by omega, show a.q + v * v - v * v = a.q by omega]
  exact part_wide hn h10 (by omega) (by omega)
theorem VL.incl {l : List Mk} {seq cap now w least v : Int} (h : VL l seq cap now w least) (hs : 0 ≤ seq) (hc : ∀ m ∈ l, m.n < cap) (hcap : 1 ≤ cap) (hnow : 0 ≤ now) (hw : 1 ≤ w) (hl : least ≤ v) (hv : -4096 ≤ v) (hv' : v ≤ 4096) :
    VL (incl l (seq + 1) now v) (seq + 1) cap now w least := by
  unfold Proofs.Ytaiepjcnncajcaa.incl
  have on : oneP (seq + 1) cap now w least (newMk (seq + 1) now v) :=
    ⟨by show 1 ≤ seq + 1; omega, Int.le_refl _, by show (1 : Int) = _; show (1 : Int) = seq + 1 - (seq + 1) + 1; omega, hcap, hnow, Int.le_refl _, hl, hv', Int.le_refl _, part_one hv hv' (Int.le_refl _) (Int.le_refl _)⟩
  refine ⟨fun m hm => ?_, ?_, fun m hm => ?_, fun a e => ?_, fun _ => ?_⟩
  · rcases List.mem_append.1 hm with hm | hm
    · obtain ⟨m, hm2, rfl⟩ := List.mem_map.1 hm
      exact inc_one (h.one m hm2) (hc m hm2) hl hv hv'
    · obtain rfl : m = newMk (seq + 1) now v := by simpa using hm
      exact on
  · rw [List.pairwise_append]
    refine ⟨?_, List.pairwise_singleton _ _, fun a ha b hb => ?_⟩
    · rw [List.pairwise_map]
      exact List.Pairwise.imp_of_mem (fun ha hb hab => inc_two (h.one _ ha) (h.one _ hb) hab) h.two
    · obtain ⟨m, hm, rfl⟩ := List.mem_map.1 ha
      obtain rfl : b = newMk (seq + 1) now v := by simpa using hb
      exact new_two (h.one m hm) hv hv'
  · cases l with
    | nil => simp at hm
    | cons a r =>
      simp only [List.map_cons, List.cons_append, List.tail_cons] at hm
      rcases List.mem_append.1 hm with hm | hm
      · obtain ⟨m, hm2, rfl⟩ := List.mem_map.1 hm
        exact h.live m hm2
      · obtain rfl : m = newMk (seq + 1) now v := by simpa using hm
        show now - w < now
        omega
  · cases l with
    | nil =>
      simp at e
      rw [← e]
      show now - w < now
      omega
    | cons b r => simp at e
  · rw [mkAt_append_right (by simp)]
    simp only [List.length_append, List.length_map, List.length_cons, List.length_nil]
    rw [show l.length + (0 + 1) - 1 - l.length = 0 by omega]
    exact ⟨rfl, rfl, rfl, rfl⟩
theorem prune_sub (near : Mk → Mk → Bool) : ∀ (k : Nat) (l : List Mk), l.length ≤ k → (prune near l).Sublist l
  | 0, l, h => by
    have : l = [] := by cases l <;> simp_all
    subst this
    rw [prune_nil]
    exact List.Sublist.refl _
  | k + 1, [], _ => by rw [prune_nil]; exact List.Sublist.refl _
  | k + 1, a :: r, h => by
    rw [prune_cons]
    exact ((prune_sub near k _ (by simp at h ⊢; omega)).trans (List.drop_sublist _ _)).cons_cons a
theorem prune_last (near : Mk → Mk → Bool) : ∀ (k : Nat) (l : List Mk), l.length ≤ k → l ≠ [] → prune near l ≠ [] ∧ mkAt (prune near l) ((prune near l).length - 1) = mkAt l (l.length - 1)
  | 0, l, h, hn => by
    have : l = [] := by cases l <;> simp_all
    exact absurd this hn
  | k + 1, [], _, hn => absurd rfl hn
  | k + 1, a :: r, h, _ => by
    rw [prune_cons]
    refine ⟨by simp, ?_⟩
    cases r with
    | nil => rw [List.drop_nil, prune_nil]
    | cons b r =>
      have hp := lastN_le (near a) (b :: r) (by simp)
      have hd : (b :: r).drop (lastN (near a) (b :: r)) ≠ [] := by
        intro e
        have := congrArg List.length e
        rw [List.length_drop, List.length_nil] at this
        omega
      obtain ⟨h1, h2⟩ := prune_last near k _ (by simp at h ⊢; omega) hd
      have h3 := mkAt_last_suffix (List.drop_suffix (lastN (near a) (b :: r)) (b :: r)) hd
      generalize hg : prune near (List.drop (lastN (near a) (b :: r)) (b :: r)) = g at h1 h2
      have gl : 0 < g.length := List.length_pos_iff.2 h1
      obtain ⟨g0, hg0⟩ : ∃ g0, g.length = g0 + 1 := ⟨g.length - 1, by omega⟩
      rw [h3] at h2
      simp only [List.length_cons, Nat.add_sub_cancel, hg0] at h2 ⊢
      rw [mkAt_succ, mkAt_succ]
      exact h2
theorem VL.prune {l : List Mk} {seq cap now w least : Int} (h : VL l seq cap now w least) (near : Mk → Mk → Bool) : VL (prune near l) seq cap now w least := by
  have sb := prune_sub near _ l (Nat.le_refl _)
  refine ⟨fun m hm => h.one m (sb.subset hm), h.two.sublist sb, fun m hm => ?_, fun a e => ?_, fun hn => ?_⟩
  · cases l with
    | nil => rw [prune_nil] at hm; simp at hm
    | cons a r =>
      rw [prune_cons] at hm
      refine h.live m ?_
      simp only [List.tail_cons] at hm ⊢
      exact ((prune_sub near _ _ (Nat.le_refl _)).trans (List.drop_sublist _ _)).subset hm
  · cases l with
    | nil => rw [prune_nil] at e; simp at e
    | cons b r =>
      have hl := (prune_last near _ (b :: r) (Nat.le_refl _) (by simp)).2
      rw [e] at hl
      have eb : b = a := by rw [prune_cons] at e; simp at e; exact e.1
      cases r with
      | nil => subst eb; exact h.alone _ rfl
      | cons c r =>
        have h1 : mkAt (b :: c :: r) ((b :: c :: r).length - 1) ∈ (c :: r) := by
          simp only [List.length_cons, Nat.add_sub_cancel]
          rw [mkAt_succ]
          exact mkAt_mem (by simp)
        have := h.live _ h1
        rw [← hl] at this
        exact this
  · have hne : l ≠ [] := fun e => by subst e; exact hn (by rw [prune_nil])
    rw [(prune_last near _ l (Nat.le_refl _) hne).2]
    exact h.last hne
end Go.Proofs.Ytaiepjcnncajcaa
