/- Smooth histograms: the aggregate of a mark, which states are valid, and what becomes of them; plain. -/
import Derived.Test.YtaiepjcnncajcaaMathMk2
set_option linter.unusedVariables false
set_option linter.unusedSimpArgs false
set_option linter.unusedSectionVars false
set_option linter.unnecessarySimpa false
namespace Go.Proofs.Ytaiepjcnncajcaa
/-- The aggregate of a mark. -/
def ofV (agg : Int) (m : Mk) : Int :=
  if agg = 1 then m.n else if agg = 2 then m.s else if agg = 3 then m.q else if agg = 4 then (if -9223372036854775808 ≤ m.hi - m.lo ∧ m.hi - m.lo ≤ 9223372036854775807 then m.hi - m.lo else 0) else 0
/-- One mark is close to another. -/
def nearP (agg k : Int) (a b : Mk) : Prop := k * ofV agg a ≤ (k + 1) * ofV agg b
instance (agg k : Int) (a b : Mk) : Decidable (nearP agg k a b) := by unfold nearP; infer_instance
def nearB (agg k : Int) (a b : Mk) : Bool := decide (nearP agg k a b)
/-- The least value. -/
def leastV (agg : Int) : Int := if agg = 2 ∨ agg = 3 then 0 else -4096
def smGood (agg wd k cap now : Int) : Prop := (1 ≤ agg ∧ agg ≤ 4) ∧ 1 ≤ wd ∧ wd ≤ 1048576 ∧ 1 ≤ k ∧ k ≤ 64 ∧ 1 ≤ cap ∧ cap ≤ 65536 ∧ 0 ≤ now ∧ now ≤ 16777216
instance (agg wd k cap now : Int) : Decidable (smGood agg wd k cap now) := by unfold smGood; infer_instance
/-- What a place asks of the marks ahead of it. -/
def smAt (agg k : Int) (l : List Mk) (i : Nat) : Prop :=
  (2 ≤ i → ¬ nearP agg k (mkAt l (i - 2)) (mkAt l i)) ∧ (1 ≤ i → 1 < (mkAt l i).seq - (mkAt l (i - 1)).seq → nearP agg k (mkAt l (i - 1)) (mkAt l i))
instance (agg k : Int) (l : List Mk) (i : Nat) : Decidable (smAt agg k l i) := by unfold smAt; infer_instance
def smValid (agg wd k cap now seq : Int) (l : List Mk) : Prop := smGood agg wd k cap now ∧ mvalid l seq cap now wd (leastV agg) ∧ ∀ i, i < l.length → smAt agg k l i
instance (agg wd k cap now seq : Int) (l : List Mk) : Decidable (smValid agg wd k cap now seq l) := by unfold smValid; infer_instance
def smvalE (agg wd k cap now seq : Int) (l : List Mk) : Int := if smValid agg wd k cap now seq l then 0 else 2
theorem smvalE_yes {agg wd k cap now seq : Int} {l : List Mk} (h : smValid agg wd k cap now seq l) : smvalE agg wd k cap now seq l = 0 := by unfold smvalE; rw [if_pos h]
theorem smvalE_no {agg wd k cap now seq : Int} {l : List Mk} (h : ¬ smValid agg wd k cap now seq l) : smvalE agg wd k cap now seq l = 2 := by unfold smvalE; rw [if_neg h]
theorem of_smvalE {agg wd k cap now seq : Int} {l : List Mk} (h : smvalE agg wd k cap now seq l = 0) : smValid agg wd k cap now seq l := by
  unfold smvalE at h
  split at h
  · assumption
  · cases h
theorem smvalE_two {agg wd k cap now seq : Int} {l : List Mk} : smvalE agg wd k cap now seq l = 0 ∨ smvalE agg wd k cap now seq l = 2 := by
  unfold smvalE
  split
  · exact .inl rfl
  · exact .inr rfl
/-- What a call that answers a state leaves. -/
structure SmOut where
  agg : Int
  wd : Int
  k : Int
  cap : Int
  now : Int
  seq : Int
  ms : List Mk
  f : Int
def smZero (f : Int) : SmOut := ⟨0, 0, 0, 0, 0, 0, [], f⟩
def smNew (agg wd k cap now : Int) : SmOut := if smGood agg wd k cap now then ⟨agg, wd, k, cap, now, 0, [], 0⟩ else smZero 1
def smTick (agg wd k cap now seq : Int) (l : List Mk) (to : Int) : SmOut :=
  if smvalE agg wd k cap now seq l = 0 then (if to < now ∨ 16777216 < to then smZero 3 else ⟨agg, wd, k, cap, to, seq, dropM to wd l, 0⟩) else smZero 2
def smFull (cap seq : Int) (l : List Mk) : Prop := (l ≠ [] ∧ (mkAt l 0).n = cap) ∨ seq = 1099511627776
instance (cap seq : Int) (l : List Mk) : Decidable (smFull cap seq l) := by unfold smFull; infer_instance
def smAdd (agg wd k cap now seq : Int) (l : List Mk) (v : Int) : SmOut :=
  if smvalE agg wd k cap now seq l = 0 then (if v < leastV agg ∨ 4096 < v then smZero 4 else if smFull cap seq l then smZero 5 else ⟨agg, wd, k, cap, now, seq + 1, prune (nearB agg k) (incl l (seq + 1) now v), 0⟩) else smZero 2
theorem leastV_ge (agg : Int) : -4096 ≤ leastV agg := by unfold leastV; split <;> omega
theorem leastV_le (agg : Int) : leastV agg ≤ 0 := by unfold leastV; split <;> omega
/-- The aggregates of a valid mark are small. -/
theorem ofV_bound {agg seq cap now w : Int} {m : Mk} (h : oneP seq cap now w (leastV agg) m) (hc : cap ≤ 65536) : 0 ≤ ofV agg m ∧ ofV agg m ≤ 1099511627776 := by
  obtain ⟨h1, h2, h3, h4, h5, h6, h7, h8, h9, p1, p2, p3, p4, p5⟩ := h
  have hn : 0 ≤ m.n := by omega
  have lg := leastV_ge agg
  have b1 : m.n * m.hi ≤ 65536 * 4096 := by
    rcases Int.le_total 0 m.hi with g | g
    · exact Int.mul_le_mul (by omega) h8 g (by omega)
    · have : m.n * m.hi ≤ 0 := Int.mul_nonpos_of_nonneg_of_nonpos hn g
      omega
  unfold ofV
  split
  · omega
  · split
    · rename_i _ ha
      have hl : leastV agg = 0 := by unfold leastV; rw [if_pos (.inl ha)]
      have : 0 ≤ m.n * m.lo := Int.mul_nonneg hn (by omega)
      omega
    · split
      · omega
      · split
        · rw [if_pos (by omega)]
          omega
        · omega
/-- Values that an aggregate takes. -/
theorem ofV_inc {agg seq cap now w v : Int} {a b : Mk} (ha : oneP seq cap now w (leastV agg) a) (hb : oneP seq cap now w (leastV agg) b) (h : twoP a b) (hl : leastV agg ≤ v) (hv : v ≤ 4096) (hagg : 1 ≤ agg ∧ agg ≤ 4) :
    0 ≤ ofV agg (inc v b) - ofV agg b ∧ ofV agg (inc v a) - ofV agg a ≤ ofV agg (inc v b) - ofV agg b := by
  obtain ⟨_, _, _, _, _, _, a7, a8, a9, _⟩ := ha
  obtain ⟨_, _, _, _, _, _, b7, b8, b9, _⟩ := hb
  obtain ⟨_, _, t3, t4, _⟩ := h
  have lg := leastV_ge agg
  have vv := sq_nonneg v
  by_cases c1 : agg = 1
  · subst c1
    simp only [ofV, inc]
    simp
    omega
  · by_cases c2 : agg = 2
    · subst c2
      have hl0 : leastV 2 = 0 := by decide
      simp only [ofV, inc]
      simp
      omega
    · by_cases c3 : agg = 3
      · subst c3
        simp only [ofV, inc]
        simp
        omega
      · have c4 : agg = 4 := by omega
        subst c4
        have r1 : ofV 4 (inc v a) = max a.hi v - min a.lo v := by simp only [ofV, inc]; simp; omega
        have r2 : ofV 4 (inc v b) = max b.hi v - min b.lo v := by simp only [ofV, inc]; simp; omega
        have r3 : ofV 4 a = a.hi - a.lo := by simp only [ofV]; simp; omega
        have r4 : ofV 4 b = b.hi - b.lo := by simp only [ofV]; simp; omega
        rw [r1, r2, r3, r4]
        omega
theorem near_inc {agg k seq cap now w v : Int} {a b : Mk} (ha : oneP seq cap now w (leastV agg) a) (hb : oneP seq cap now w (leastV agg) b) (h : twoP a b) (hl : leastV agg ≤ v) (hv : v ≤ 4096) (hagg : 1 ≤ agg ∧ agg ≤ 4) (hk : 1 ≤ k) (hn : nearP agg k a b) : nearP agg k (inc v a) (inc v b) := by
  obtain ⟨h1, h2⟩ := ofV_inc ha hb h hl hv hagg
  unfold nearP at hn ⊢
  generalize ofV agg (inc v a) = x' at *
  generalize ofV agg (inc v b) = y' at *
  generalize ofV agg a = x at *
  generalize ofV agg b = y at *
  have e1 : k * (x' - x) ≤ k * (y' - y) := Int.mul_le_mul_of_nonneg_left h2 (by omega)
  rw [Int.mul_sub, Int.mul_sub] at e1
  have e2 : (k + 1) * y' = k * y' + y' := by rw [Int.add_mul, Int.one_mul]
  have e3 : (k + 1) * y = k * y + y := by rw [Int.add_mul, Int.one_mul]
  omega
/-- Neighbours with a gap between them are close. -/
def Gap (near : Mk → Mk → Prop) (l : List Mk) : Prop := ∀ i, i + 1 < l.length → 1 < (mkAt l (i + 1)).seq - (mkAt l i).seq → near (mkAt l i) (mkAt l (i + 1))
/-- A mark is not close to the next but one. -/
def Far (near : Mk → Mk → Prop) (l : List Mk) : Prop := ∀ i, i + 2 < l.length → ¬ near (mkAt l i) (mkAt l (i + 2))
theorem smAt_iff {agg k : Int} {l : List Mk} : (∀ i, i < l.length → smAt agg k l i) ↔ Far (nearP agg k) l ∧ Gap (nearP agg k) l := by
  constructor
  · intro h
    exact ⟨fun i hi => by have := (h (i + 2) hi).1 (by omega); simpa using this, fun i hi hg => by have := (h (i + 1) hi).2 (by omega); simp only [Nat.add_sub_cancel] at this; exact this hg⟩
  · rintro ⟨h1, h2⟩ i hi
    refine ⟨fun h => ?_, fun h hg => ?_⟩
    · obtain ⟨j, rfl⟩ : ∃ j, i = j + 2 := ⟨i - 2, by omega⟩
      simpa using h1 j hi
    · obtain ⟨j, rfl⟩ : ∃ j, i = j + 1 := ⟨i - 1, by omega⟩
      simp only [Nat.add_sub_cancel] at hg ⊢
      exact h2 j hi hg
theorem Far.drop {near : Mk → Mk → Prop} {l : List Mk} (h : Far near l) (k : Nat) : Far near (l.drop k) := fun i hi => by
  rw [mkAt_drop, mkAt_drop]
  have := h (k + i) (by simp at hi; omega)
  rwa [Nat.add_assoc] at this
theorem Gap.drop {near : Mk → Mk → Prop} {l : List Mk} (h : Gap near l) (k : Nat) : Gap near (l.drop k) := fun i hi hg => by
  rw [mkAt_drop, mkAt_drop] at hg ⊢
  have := h (k + i) (by simp at hi; omega)
  rw [Nat.add_assoc] at this
  exact this hg
theorem Gap.tail {near : Mk → Mk → Prop} {a : Mk} {l : List Mk} (h : Gap near (a :: l)) : Gap near l := fun i hi hg => h (i + 1) (by simpa using hi) hg
/-- Behind the marks that fall away. -/
theorem prune_far {near : Mk → Mk → Prop} {nb : Mk → Mk → Bool} (hnb : ∀ a b, nb a b = true ↔ near a b) : ∀ (k : Nat) (l : List Mk), l.length ≤ k → Gap near l → Far near (prune nb l) ∧ Gap near (prune nb l)
  | 0, l, h, _ => by
    have : l = [] := by cases l <;> simp_all
    subst this
    rw [prune_nil]
    exact ⟨fun i hi => by simp at hi, fun i hi => by simp at hi⟩
  | k + 1, [], _, _ => by
    rw [prune_nil]
    exact ⟨fun i hi => by simp at hi, fun i hi => by simp at hi⟩
  | k + 1, a :: r, h, hg => by
    rw [prune_cons]
    have hr : r.length ≤ k := by simpa using h
    obtain ⟨f1, g1⟩ := prune_far hnb k (r.drop (lastN (nb a) r)) (by simp; omega) (hg.tail.drop _)
    have hs := lastN_spec (nb a) r
    generalize hp : lastN (nb a) r = p at *
    cases hd : r.drop p with
    | nil =>
      rw [prune_nil]
      exact ⟨fun i hi => by simp at hi, fun i hi => by simp at hi⟩
    | cons b r' =>
      rw [hd] at f1 g1
      rw [prune_cons] at f1 g1 ⊢
      have hpl : p < r.length := by
        have := congrArg List.length hd
        simp at this
        omega
      have hb : b = mkAt r p := by
        have := drop_mk hpl
        rw [hd] at this
        simpa using (List.cons.inj this).1
      have sub : ∀ c ∈ prune nb (r'.drop (lastN (nb b) r')), ¬ near a c := by
        intro c hc
        have hc := ((prune_sub nb _ _ (Nat.le_refl _)).trans (List.drop_sublist _ _)).subset hc
        obtain ⟨j, hj, rfl⟩ := mem_at hc
        have e : mkAt r' j = mkAt r (p + 1 + j) := by
          have h1 := drop_mk hpl
          rw [hd] at h1
          have h2 := (List.cons.inj h1).2
          rw [h2, mkAt_drop]
        have hj2 : p + 1 + j < r.length := by
          have := congrArg List.length hd
          simp at this
          omega
        have hf : nb a (mkAt r (p + 1 + j)) = false := by
          rcases hs with hs | hs
          · exact hs _ hj2
          · exact hs.2.2 _ (by omega) hj2
        rw [e]
        intro hn
        rw [(hnb _ _).2 hn] at hf
        cases hf
      refine ⟨fun i hi => ?_, fun i hi hgp => ?_⟩
      · cases i with
        | zero =>
          rw [mkAt_zero, mkAt_succ, mkAt_succ]
          exact sub _ (mkAt_mem (by simpa using hi))
        | succ i => exact f1 i (by simp at hi ⊢; omega)
      · cases i with
        | zero =>
          rw [mkAt_zero, mkAt_succ, mkAt_zero] at hgp ⊢
          rcases hs with hs | hs
          · have p0 : p = 0 := by rw [← hp]; exact lastN_none hs
            subst p0
            rw [hb] at hgp ⊢
            exact hg 0 (by simpa using hpl) hgp
          · rw [hb]
            exact (hnb _ _).1 hs.2.1
        | succ i => exact g1 i (by simp at hi ⊢; omega) hgp
theorem gap_incl {agg k seq cap now w v : Int} {l : List Mk} (hV : VL l seq cap now w (leastV agg)) (hg : Gap (nearP agg k) l) (hl : leastV agg ≤ v) (hv : v ≤ 4096) (hagg : 1 ≤ agg ∧ agg ≤ 4) (hk : 1 ≤ k) : Gap (nearP agg k) (incl l (seq + 1) now v) := by
  intro i hi hgp
  rw [incl_len] at hi
  unfold incl at hgp ⊢
  by_cases h : i + 1 < l.length
  · have e1 : mkAt (l.map (inc v) ++ [newMk (seq + 1) now v]) (i + 1) = inc v (mkAt l (i + 1)) := by
      rw [mkAt_append_left (by simpa using h), mkAt_map h]
    have e0 : mkAt (l.map (inc v) ++ [newMk (seq + 1) now v]) i = inc v (mkAt l i) := by
      rw [mkAt_append_left (by simp; omega), mkAt_map (by omega)]
    rw [e1, e0] at hgp ⊢
    exact near_inc (hV.one _ (mkAt_mem (by omega))) (hV.one _ (mkAt_mem h)) (pairwise_at hV.two (by omega) h) hl hv hagg hk (hg i h hgp)
  · exfalso
    have hil : i + 1 = l.length := by omega
    have e1 : mkAt (l.map (inc v) ++ [newMk (seq + 1) now v]) (i + 1) = newMk (seq + 1) now v := by
      rw [mkAt_append_right (by simp; omega)]
      simp only [List.length_map]
      rw [show i + 1 - l.length = 0 by omega]
      rfl
    have e0 : mkAt (l.map (inc v) ++ [newMk (seq + 1) now v]) i = inc v (mkAt l i) := by
      rw [mkAt_append_left (by simp; omega), mkAt_map (by omega)]
    rw [e1, e0] at hgp
    have hne : l ≠ [] := fun e => by subst e; simp at hil
    have := (hV.last hne).1
    rw [show l.length - 1 = i by omega] at this
    have e3 : (inc v (mkAt l i)).seq = (mkAt l i).seq := rfl
    have e4 : (newMk (seq + 1) now v).seq = seq + 1 := rfl
    rw [e3, e4] at hgp
    omega
/-- All marks are of fewer items than the first. -/
theorem VL.n_lt {l : List Mk} {seq cap now w least : Int} (h : VL l seq cap now w least) (h0 : ¬ (l ≠ [] ∧ (mkAt l 0).n = cap)) : ∀ m ∈ l, m.n < cap := by
  intro m hm
  cases l with
  | nil => simp at hm
  | cons a r =>
    have ha := h.one a (by simp)
    have hac : a.n ≠ cap := fun e => h0 ⟨by simp, e⟩
    rcases List.mem_cons.1 hm with rfl | hm'
    · have := ha.2.2.2.1
      omega
    · have hb := h.one m hm
      have t := (List.rel_of_pairwise_cons h.two hm').1
      have e1 := ha.2.2.1
      have e2 := hb.2.2.1
      have e3 := ha.2.2.2.1
      omega
theorem smTick_valid {agg wd k cap now seq to : Int} {l : List Mk} (h : smValid agg wd k cap now seq l) (h0 : ¬ (to < now ∨ 16777216 < to)) : smValid agg wd k cap to seq (dropM to wd l) := by
  obtain ⟨⟨h1, h2, h3, h4, h5, h6, h7, h8, h9⟩, hm, hs⟩ := h
  obtain ⟨hq, hV⟩ := mvalid_iff.1 hm
  refine ⟨⟨h1, h2, h3, h4, h5, h6, h7, by omega, by omega⟩, mvalid_iff.2 ⟨hq, hV.tick (by omega)⟩, ?_⟩
  obtain ⟨f, g⟩ := smAt_iff.1 hs
  obtain ⟨j, _, e⟩ := dropM_suffix to wd l
  rw [e]
  exact smAt_iff.2 ⟨f.drop j, g.drop j⟩
theorem smAdd_valid {agg wd k cap now seq v : Int} {l : List Mk} (h : smValid agg wd k cap now seq l) (h0 : ¬ (v < leastV agg ∨ 4096 < v)) (h1 : ¬ smFull cap seq l) : smValid agg wd k cap now (seq + 1) (prune (nearB agg k) (incl l (seq + 1) now v)) := by
  obtain ⟨hG, hm, hs⟩ := h
  obtain ⟨hq, hV⟩ := mvalid_iff.1 hm
  have hG' := hG
  obtain ⟨g1, g2, g3, g4, g5, g6, g7, g8, g9⟩ := hG
  have hn := hV.n_lt (fun a => h1 (.inl a))
  have hsq : seq ≠ 1099511627776 := fun e => h1 (.inr e)
  have lg := leastV_ge agg
  obtain ⟨f, g⟩ := smAt_iff.1 hs
  have gi := gap_incl hV g (by omega) (by omega) g1 g4 (v := v)
  refine ⟨hG', mvalid_iff.2 ⟨by omega, (hV.incl hq.1 hn g6 g8 g2 (by omega) (by omega) (by omega)).prune _⟩, smAt_iff.2 (prune_far (fun a b => ?_) _ _ (Nat.le_refl _) gi)⟩
  unfold nearB
  exact decide_eq_true_iff
end Go.Proofs.Ytaiepjcnncajcaa
