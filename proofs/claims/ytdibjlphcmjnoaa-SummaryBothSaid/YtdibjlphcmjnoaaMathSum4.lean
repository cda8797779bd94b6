/- Summaries of a stream: a value more, and joining, keep a state valid; plain. -/
import Derived.Test.YtdibjlphcmjnoaaMathSum3
set_option linter.unusedVariables false
set_option linter.unusedSimpArgs false
set_option linter.unusedSectionVars false
set_option linter.unnecessarySimpa false
namespace Go.Proofs.Ytdibjlphcmjnoaa
/-- A tuple by itself is as it must be. -/
def TK (m : Int) (t : Tup) : Prop := -4096 ≤ t.v ∧ t.v ≤ 4096 ∧ 1 ≤ t.g ∧ 0 ≤ t.d ∧ t.g + t.d ≤ m
theorem TK.mono {m m' : Int} {t : Tup} (h : TK m t) (hm : m ≤ m') : TK m' t := by unfold TK at *; omega
def vals (ts : List Tup) : List Int := ts.map (·.v)
def gs (ts : List Tup) : Int := (ts.map (·.g)).sum
def lastD : List Tup → Int
  | [] => 0
  | [t] => t.d
  | _ :: t :: ts => lastD (t :: ts)
def headOK : List Tup → Prop
  | [] => False
  | t :: _ => t.g = 1 ∧ t.d = 0
/-- The tuples of a valid state that is not empty. -/
structure TVL (m n : Int) (ts : List Tup) : Prop where
  each : ∀ t ∈ ts, TK m t
  asc : (vals ts).Pairwise (· ≤ ·)
  sum : gs ts = n
  head : headOK ts
  last : lastD ts = 0
theorem gsum_take (ts : List Tup) : ∀ k, k ≤ ts.length → gsum ts k = gs (ts.take k)
  | 0, _ => rfl
  | k + 1, h => by
    unfold gsum
    rw [gsum_take ts k (by omega), List.take_succ_eq_append_getElem (by omega), tupAt_eq (by omega)]
    unfold gs
    simp
theorem gsum_all (ts : List Tup) : gsum ts ts.length = gs ts := by rw [gsum_take ts _ (Nat.le_refl _), List.take_length]
theorem lastD_at : ∀ ts : List Tup, ts ≠ [] → lastD ts = (tupAt ts (ts.length - 1)).d
  | [], h => absurd rfl h
  | [t], _ => rfl
  | s :: t :: ts, _ => by
    unfold lastD
    rw [lastD_at (t :: ts) (by simp)]
    rfl
theorem headOK_at {ts : List Tup} : headOK ts ↔ ts ≠ [] ∧ (tupAt ts 0).g = 1 ∧ (tupAt ts 0).d = 0 := by
  cases ts with
  | nil => simp [headOK]
  | cons t ts => simp [headOK, tupAt]
theorem asc_pairwise {ts : List Tup} : Asc ts ↔ (vals ts).Pairwise (· ≤ ·) := by
  unfold vals Asc
  rw [List.pairwise_iff_getElem]
  constructor
  · intro h i j hi hj hij
    simp only [List.getElem_map]
    simp only [List.length_map] at hi hj
    have := h i j (by omega) hj
    rw [← tupAt_eq hi, ← tupAt_eq hj] at this
    exact this
  · intro h i j hij hj
    rcases Nat.lt_or_eq_of_le hij with c | c
    · have := h i j (by simp; omega) (by simp; omega) c
      simp only [List.getElem_map] at this
      rw [tupAt_eq (by omega), tupAt_eq hj] at this
      exact this
    · rw [c]; exact Int.le_refl _
theorem tok_iff {m : Int} {ts : List Tup} : (∀ i, i < ts.length → tOK m ts i = true) ↔ (∀ t ∈ ts, TK m t) ∧ (vals ts).Pairwise (· ≤ ·) := by
  constructor
  · intro h
    refine ⟨fun t ht => ?_, asc_pairwise.1 (asc_of h)⟩
    obtain ⟨i, hi, rfl⟩ := List.getElem_of_mem ht
    have a := tOK_of (h i hi)
    rw [tupAt_eq hi]
    unfold TK
    omega
  · rintro ⟨h1, h2⟩ i hi
    have a := h1 _ (List.getElem_mem hi)
    rw [tupAt_eq hi] at a
    unfold TK at a
    refine tOK_mk ⟨a.1, a.2.1, ?_, a.2.2.1, a.2.2.2.1, by omega, by omega⟩
    rcases Nat.eq_zero_or_pos i with c | c
    · exact .inl c
    · exact .inr (asc_pairwise.2 h2 (i - 1) i (by omega) hi)
theorem TVL.ne {m n : Int} {ts : List Tup} (h : TVL m n ts) : ts ≠ [] := (headOK_at.1 h.head).1
theorem tv_of {k cap n : Int} {ts : List Tup} (h : svalE k cap n ts = 0) (hn : n ≠ 0) : TVL (smost n k) n ts := by
  have V := of_svalE h
  obtain ⟨h0, h1, h2, h3, h4, h5⟩ := V.2.2.2.2.2.2.2.2 hn
  have hne : ts ≠ [] := List.length_pos_iff.1 h0
  have q := tok_iff.1 h1
  exact ⟨q.1, q.2, by rw [← gsum_all]; exact h2, headOK_at.2 ⟨hne, h3, h4⟩, by rw [lastD_at _ hne]; exact h5⟩
theorem sval_of {k cap n : Int} {ts : List Tup} (k0 : 1 ≤ k) (k1 : k ≤ 64) (c0 : 2 ≤ cap) (c1 : cap ≤ 65536) (n0 : 0 < n) (n1 : n ≤ 1099511627776) (hl : (ts.length : Int) ≤ cap) (h : TVL (smost n k) n ts) : svalE k cap n ts = 0 := by
  have hne := h.ne
  have hp := headOK_at.1 h.head
  refine svalE_yes ⟨k0, k1, c0, c1, by omega, n1, hl, fun e => by omega, fun _ => ⟨List.length_pos_iff.2 hne, tok_iff.2 ⟨h.each, h.asc⟩, by rw [gsum_all]; exact h.sum, hp.2.1, hp.2.2, ?_⟩⟩
  rw [← lastD_at _ hne]
  exact h.last
/-! Joining. -/
theorem cjoin_each {m : Int} : ∀ {ts : List Tup}, (∀ t ∈ ts, TK m t) → ∀ t ∈ cjoin m ts, TK m t
  | [], _ => by simp [cjoin]
  | t :: ts, h => by
    have ih := cjoin_each (fun x hx => h x (by simp [hx]) : ∀ x ∈ ts, TK m x)
    have ht := h t (by simp)
    unfold cjoin
    split
    · intro x hx
      obtain rfl : x = t := by simpa using hx
      exact ht
    · rename_i u r e
      rw [e] at ih
      have hu := ih u (by simp)
      split
      · rename_i hc
        intro x hx
        rcases List.mem_cons.1 hx with rfl | hx
        · unfold TK at *
          simp only
          omega
        · exact ih x (by simp [hx])
      · intro x hx
        rcases List.mem_cons.1 hx with rfl | hx
        · exact ht
        · exact ih x hx
theorem cjoin_vals (m : Int) : ∀ ts : List Tup, (vals (cjoin m ts)).Sublist (vals ts)
  | [] => by simp [cjoin, vals]
  | t :: ts => by
    have ih := cjoin_vals m ts
    unfold cjoin
    split
    · simp [vals]
    · rename_i u r e
      rw [e] at ih
      split
      · have : (vals ({ u with g := u.g + t.g } :: r)).Sublist (vals ts) := ih
        exact this.trans (by simp [vals])
      · exact List.Sublist.cons_cons _ ih
theorem cjoin_sum (m : Int) : ∀ ts : List Tup, gs (cjoin m ts) = gs ts
  | [] => rfl
  | t :: ts => by
    have ih := cjoin_sum m ts
    unfold cjoin
    split
    · rename_i e
      rw [e] at ih
      unfold gs at *
      simp at ih ⊢
      omega
    · rename_i u r e
      rw [e] at ih
      unfold gs at *
      split
      · simp at ih ⊢
        omega
      · simp at ih ⊢
        omega
theorem lastD_cons {t : Tup} {ts : List Tup} (h : ts ≠ []) : lastD (t :: ts) = lastD ts := by
  cases ts with
  | nil => exact absurd rfl h
  | cons s ts => rfl
theorem cjoin_last (m : Int) : ∀ ts : List Tup, lastD (cjoin m ts) = lastD ts
  | [] => rfl
  | t :: ts => by
    have ih := cjoin_last m ts
    by_cases hts : ts = []
    · subst hts
      simp [cjoin]
    · have hne := cjoin_ne (m := m) hts
      rw [lastD_cons hts, ← ih]
      conv => lhs; unfold cjoin
      split
      · rename_i e
        exact absurd e hne
      · rename_i u r e
        rw [e]
        split
        · cases r with
          | nil => rfl
          | cons s r => rfl
        · exact lastD_cons (by simp)
theorem comp_tv {m n : Int} {ts : List Tup} (h : TVL m n ts) : TVL m n (comp m ts) := by
  obtain ⟨t, ts', rfl⟩ := List.exists_cons_of_ne_nil h.ne
  have h1 := h.each
  refine ⟨?_, ?_, ?_, h.head, ?_⟩
  · intro x hx
    rcases List.mem_cons.1 hx with rfl | hx
    · exact h1 _ (by simp)
    · exact cjoin_each (fun y hy => h1 y (by simp [hy])) x hx
  · exact h.asc.sublist (List.Sublist.cons_cons _ (cjoin_vals m ts'))
  · rw [← h.sum]
    have := cjoin_sum m ts'
    unfold gs at *
    simp [comp]
    omega
  · rw [← h.last]
    by_cases hts : ts' = []
    · subst hts
      rfl
    · show lastD (t :: cjoin m ts') = _
      rw [lastD_cons (cjoin_ne hts), lastD_cons hts, cjoin_last]
/-! A value more. -/
theorem smost_mono {n n' k : Int} (h : n ≤ n') (hk : 1 ≤ k) : smost n k ≤ smost n' k := by
  unfold smost
  have : n / k ≤ n' / k := Int.ediv_le_ediv (by omega) h
  omega
theorem lastD_append {a b : List Tup} (h : b ≠ []) : lastD (a ++ b) = lastD b := by
  induction a with
  | nil => rfl
  | cons t a ih => rw [List.cons_append, lastD_cons (by simp [h]), ih]
theorem gs_append (a b : List Tup) : gs (a ++ b) = gs a + gs b := by unfold gs; simp
theorem gs_cons (t : Tup) (b : List Tup) : gs (t :: b) = t.g + gs b := by unfold gs; simp
theorem sins_tv {k cap n v : Int} {ts : List Tup} (h : svalE k cap n ts = 0) (h0 : -4096 ≤ v) (h1 : v ≤ 4096) : TVL (smost (n + 1) k) (n + 1) (sins v ts) := by
  have V := of_svalE h
  have hk := V.1
  have n0 := V.2.2.2.2.1
  have A := sval_asc h
  have hm : ∀ t ∈ ts, TK (smost n k) t := by
    intro t ht
    by_cases hn : n = 0
    · have := V.2.2.2.2.2.2.2.1 hn
      rw [List.length_eq_zero_iff] at this
      subst this
      cases ht
    · exact (tv_of h hn).each t ht
  have hs : gs ts = n := by
    by_cases hn : n = 0
    · have := V.2.2.2.2.2.2.2.1 hn
      rw [List.length_eq_zero_iff] at this
      subst this
      rw [hn]
      rfl
    · exact (tv_of h hn).sum
  have mo := smost_mono (show n ≤ n + 1 by omega) hk
  have sp := smost_pos (n := n + 1) (k := k)
  have hp := sat_le v ts
  have hg : 0 ≤ sgap v ts ∧ 1 + sgap v ts ≤ smost (n + 1) k := by
    unfold sgap
    split
    · rename_i c
      have a := hm _ (List.getElem_mem c.2)
      rw [tupAt_eq c.2] at a
      unfold TK at a
      omega
    · omega
  refine ⟨?_, ?_, ?_, ?_, ?_⟩
  · intro t ht
    unfold sins at ht
    rcases List.mem_append.1 ht with ht | ht
    · exact (hm t (List.mem_of_mem_take ht)).mono mo
    · rcases List.mem_cons.1 ht with rfl | ht
      · unfold TK
        simp only
        omega
      · exact (hm t (List.mem_of_mem_drop ht)).mono mo
  · have P := asc_pairwise.1 A
    unfold sins vals
    rw [List.map_append, List.map_cons, List.pairwise_append, List.pairwise_cons]
    have hd : ∀ b ∈ (ts.drop (sat v ts)).map (·.v), v ≤ b := by
      intro b hb
      obtain ⟨t, ht, rfl⟩ := List.mem_map.1 hb
      obtain ⟨i, hi, rfl⟩ := List.getElem_of_mem ht
      rw [List.length_drop] at hi
      rw [List.getElem_drop, tupAt_eq (by omega)]
      have a := sat_high (v := v) (ts := ts) (by omega)
      have b := A (sat v ts) (sat v ts + i) (by omega) (by omega)
      omega
    have ht : ∀ a ∈ (ts.take (sat v ts)).map (·.v), a ≤ v := by
      intro b hb
      obtain ⟨t, ht, rfl⟩ := List.mem_map.1 hb
      obtain ⟨i, hi, rfl⟩ := List.getElem_of_mem ht
      rw [List.length_take] at hi
      rw [List.getElem_take, tupAt_eq (by omega)]
      exact sat_low (by omega)
    refine ⟨?_, ⟨hd, ?_⟩, ?_⟩
    · have := P.sublist ((List.take_sublist (sat v ts) ts).map (·.v))
      exact this
    · have := P.sublist ((List.drop_sublist (sat v ts) ts).map (·.v))
      exact this
    · intro a ha b hb
      have a1 := ht a ha
      rcases List.mem_cons.1 hb with rfl | hb
      · exact a1
      · have := hd b hb
        omega
  · unfold sins
    rw [gs_append, gs_cons]
    have := gs_append (ts.take (sat v ts)) (ts.drop (sat v ts))
    rw [List.take_append_drop, hs] at this
    simp only
    omega
  · unfold sins
    rcases Nat.eq_zero_or_pos (sat v ts) with c | c
    · rw [c]
      unfold sgap
      rw [c]
      simp [headOK]
    · have hn : n ≠ 0 := fun e => by have := V.2.2.2.2.2.2.2.1 e; omega
      obtain ⟨t, ts', rfl⟩ := List.exists_cons_of_ne_nil (tv_of h hn).ne
      obtain ⟨p, hp'⟩ : ∃ p, sat v (t :: ts') = p + 1 := ⟨sat v (t :: ts') - 1, by omega⟩
      rw [hp']
      exact (tv_of h hn).head
  · unfold sins
    rw [lastD_append (by simp)]
    rcases Nat.lt_or_ge (sat v ts) ts.length with c | c
    · have hn : n ≠ 0 := fun e => by have := V.2.2.2.2.2.2.2.1 e; omega
      have hne : ts.drop (sat v ts) ≠ [] := fun e => by have := congrArg List.length e; simp at this; omega
      rw [lastD_cons hne]
      have := lastD_append (a := ts.take (sat v ts)) hne
      rw [List.take_append_drop] at this
      rw [← this]
      exact (tv_of h hn).last
    · rw [List.drop_of_length_le c]
      show sgap v ts = 0
      unfold sgap
      rw [if_neg (by omega)]
/-- What a value more leaves: a valid state within the capacity, or the same state, which is full. -/
theorem sinsert_keeps {k cap n v : Int} {ts : List Tup} (h : svalE k cap n ts = 0) (h0 : -4096 ≤ v) (h1 : v ≤ 4096) (hn : n < 1099511627776) :
    (∃ ts', sinsert k cap n ts v = ⟨k, cap, n + 1, ts', 0⟩ ∧ svalE k cap (n + 1) ts' = 0) ∨ (sinsert k cap n ts v = szero 5 ∧ (ts.length : Int) = cap) := by
  have V := of_svalE h
  have T := sins_tv h h0 h1
  rw [sinsert_ok h h0 h1 (by omega)]
  by_cases c1 : ((sins v ts).length : Int) ≤ cap
  · exact .inl ⟨_, sfit_short c1, sval_of V.1 V.2.1 V.2.2.1 V.2.2.2.1 (by omega) (by omega) c1 T⟩
  · by_cases c2 : ((comp (smost (n + 1) k) (sins v ts)).length : Int) ≤ cap
    · exact .inl ⟨_, sfit_comp (by omega) c2, sval_of V.1 V.2.1 V.2.2.1 V.2.2.2.1 (by omega) (by omega) c2 (comp_tv T)⟩
    · refine .inr ⟨sfit_full (by omega) (by omega), ?_⟩
      rw [sins_len] at c1
      have := V.2.2.2.2.2.2.1
      omega
end Go.Proofs.Ytdibjlphcmjnoaa
