/- Summaries of a stream: what a sound summary answers; plain. -/
import Derived.Test.YtdibjlphcmjnoaaMathSum7
set_option linter.unusedVariables false
set_option linter.unusedSimpArgs false
set_option linter.unusedSectionVars false
set_option linter.unnecessarySimpa false
namespace Go.Proofs.Ytdibjlphcmjnoaa
/-- A summary of values: valid, with bounds that hold, and with no more tuples than values. -/
structure Sum (k : Int) (xs : List Int) (cap : Int) (ts : List Tup) : Prop where
  val : svalE k cap (xs.length : Nat) ts = 0
  bnd : Bnd xs 0 ts
  len : ts.length ≤ xs.length
theorem sum_zero {k cap : Int} (k0 : 1 ≤ k) (k1 : k ≤ 64) (c0 : 2 ≤ cap) (c1 : cap ≤ 65536) : Sum k [] cap [] :=
  ⟨svalE_yes ⟨k0, k1, c0, c1, by simp, by simp, by simp; omega, fun _ => rfl, fun h => absurd rfl h⟩, trivial, Nat.le_refl _⟩
theorem sum_ins {k cap v : Int} {xs : List Int} {ts : List Tup} (h : Sum k xs cap ts) (h0 : -4096 ≤ v) (h1 : v ≤ 4096) (hc : (xs.length : Int) < cap) :
    sinsert k cap (xs.length : Nat) ts v = ⟨k, cap, (xs.length : Int) + 1, sins v ts, 0⟩ ∧ Sum k (xs ++ [v]) cap (sins v ts) := by
  have V := of_svalE h.val
  have hl := h.len
  have hsl := sins_len v ts
  have hcl : ((sins v ts).length : Int) ≤ cap := by omega
  have e : (((xs ++ [v]).length : Nat) : Int) = (xs.length : Int) + 1 := by simp
  refine ⟨by rw [sinsert_ok h.val h0 h1 (by omega)]; exact sfit_short hcl, ?_, bnd_sins h.val rfl h.bnd, by rw [hsl]; simp; exact hl⟩
  rw [e]
  exact sval_of V.1 V.2.1 V.2.2.1 V.2.2.2.1 (by omega) (by omega) hcl (sins_tv h.val h0 h1)
theorem sum_comp {k cap : Int} {xs : List Int} {ts : List Tup} (h : Sum k xs cap ts) :
    scomp k cap (xs.length : Nat) ts = ⟨k, cap, (xs.length : Nat), comp (smost (xs.length : Nat) k) ts, 0⟩ ∧ Sum k xs cap (comp (smost (xs.length : Nat) k) ts) := by
  have V := of_svalE h.val
  have cl := comp_len (smost (xs.length : Nat) k) ts
  refine ⟨scomp_ok h.val, ?_, bnd_comp h.bnd, Nat.le_trans cl h.len⟩
  by_cases hn : (xs.length : Int) = 0
  · have := V.2.2.2.2.2.2.2.1 hn
    have e := List.length_eq_zero_iff.1 this
    have hv := h.val
    subst e
    exact hv
  · exact sval_of V.1 V.2.1 V.2.2.1 V.2.2.2.1 (by omega) V.2.2.2.2.2.1 (by omega) (comp_tv (tv_of h.val hn))
section
variable {k cap : Int} {xs : List Int} {ts : List Tup}
theorem Sum.ent (h : Sum k xs cap ts) {i : Nat} (hi : i < ts.length) : ((blI xs (tupAt (ents ts ts.length) i).v : Nat) : Int) + 1 ≤ (tupAt (ents ts ts.length) i).d ∧ (tupAt (ents ts ts.length) i).g ≤ (rkI xs (tupAt (ents ts ts.length) i).v : Nat) ∧ (tupAt (ents ts ts.length) i).v ∈ xs := by
  have b := bnd_at h.bnd i hi
  rw [Int.zero_add] at b
  rw [ents_at hi]
  exact ⟨b.2.1, b.1, b.2.2⟩
theorem Sum.rank (h : Sum k xs cap ts) (v : Int) : rkLo (ents ts ts.length) v ≤ (rkI xs v : Nat) ∧ ((rkI xs v : Nat) : Int) ≤ rkHi (xs.length : Nat) (ents ts ts.length) v ∧ rkHi (xs.length : Nat) (ents ts ts.length) v - rkLo (ents ts ts.length) v ≤ smost (xs.length : Nat) k - 1 := by
  have V := of_svalE h.val
  have HK := ents_ok h.val
  obtain ⟨hk, hi⟩ := HK.idx v
  have hle := ents_len ts ts.length
  have hm := smost_pos (n := (xs.length : Int)) (k := k)
  have hrl := rkI_le xs v
  unfold rkLo rkHi
  generalize rkIdx (ents ts ts.length) v = K at hk hi
  have hlo : loAt (ents ts ts.length) K ≤ (rkI xs v : Nat) := by
    unfold loAt
    split
    · omega
    · have e := h.ent (i := K - 1) (by omega)
      have hv := (hi (K - 1) (by omega)).2 (by omega)
      have := rkI_mono (xs := xs) hv
      omega
  refine ⟨hlo, ?_, ?_⟩
  · unfold hiAt
    split
    · rename_i hK
      have e := h.ent (i := K) (by omega)
      have hv : v < (tupAt (ents ts ts.length) K).v := by
        rcases Int.lt_or_le v (tupAt (ents ts ts.length) K).v with c | c
        · exact c
        · have := (hi K hK).1 c; omega
      have := blI_rkI (xs := xs) hv
      omega
    · omega
  · unfold hiAt
    split
    · rename_i hK
      rw [hle] at hK
      have hne : (xs.length : Int) ≠ 0 := fun e => by have := V.2.2.2.2.2.2.2.1 e; omega
      have hT := tOK_of ((V.2.2.2.2.2.2.2.2 hne).2.1 K hK)
      rw [ents_at hK]
      show gsum ts (K + 1) + (tupAt ts K).d - 1 - loAt (ents ts ts.length) K ≤ _
      have e : gsum ts (K + 1) = gsum ts K + (tupAt ts K).g := rfl
      have hl : loAt (ents ts ts.length) K = gsum ts K := by
        unfold loAt
        split
        · rename_i h0; rw [h0]; rfl
        · rw [ents_at (by omega)]
          show gsum ts (K - 1 + 1) = _
          rw [show K - 1 + 1 = K by omega]
      omega
    · rename_i hK
      obtain rfl : K = (ents ts ts.length).length := by omega
      have := HK.last
      omega
theorem ebest_min (es : List Tup) (r : Int) : ∀ m i, i < m → efar es r (ebest es r m) ≤ efar es r i
  | 0, _, h => absurd h (by omega)
  | m + 1, i, h => by
    unfold ebest
    by_cases c : efar es r m < efar es r (ebest es r m)
    · rw [if_pos c]
      by_cases hi : i = m
      · subst hi; exact Int.le_refl _
      · have := ebest_min es r m i (by omega); omega
    · rw [if_neg c]
      by_cases hi : i = m
      · subst hi; omega
      · exact ebest_min es r m i (by omega)
/-- There is an entry near any rank. -/
theorem Sum.near (h : Sum k xs cap ts) (hne : xs.length ≠ 0) {r : Int} (r0 : 1 ≤ r) (r1 : r ≤ xs.length) : ∃ i, i < ts.length ∧ efar (ents ts ts.length) r i ≤ smost (xs.length : Nat) k / 2 := by
  have V := of_svalE h.val
  have hm := smost_pos (n := (xs.length : Int)) (k := k)
  obtain ⟨l0, hT, hs, g0, d0, dl⟩ := V.2.2.2.2.2.2.2.2 (show ((xs.length : Nat) : Int) ≠ 0 by omega)
  generalize hM : smost (xs.length : Nat) k = M at hm hT ⊢
  by_cases c : (xs.length : Int) ≤ r + M / 2
  · refine ⟨ts.length - 1, by omega, ?_⟩
    unfold efar
    rw [ents_at (by omega)]
    show max (r - gsum ts (ts.length - 1 + 1)) (gsum ts (ts.length - 1 + 1) + (tupAt ts (ts.length - 1)).d - r) ≤ _
    rw [show ts.length - 1 + 1 = ts.length by omega, hs, dl]
    omega
  · have hex : ∀ m, m ≤ ts.length → (∃ i, i < m ∧ 0 < i ∧ r + M / 2 < gsum ts (i + 1) + (tupAt ts i).d ∧ gsum ts i + (tupAt ts (i - 1)).d ≤ r + M / 2) ∨ (∀ i, i < m → gsum ts (i + 1) + (tupAt ts i).d ≤ r + M / 2) := by
      intro m
      induction m with
      | zero => intro _; exact .inr fun i hi => absurd hi (by omega)
      | succ m ih =>
        intro hml
        rcases ih (by omega) with ⟨i, h1, h2⟩ | h2
        · exact .inl ⟨i, by omega, h2⟩
        · by_cases cm : gsum ts (m + 1) + (tupAt ts m).d ≤ r + M / 2
          · refine .inr fun i hi => ?_
            by_cases e : i = m
            · subst e; exact cm
            · exact h2 i (by omega)
          · by_cases m0 : m = 0
            · subst m0
              have e1 : gsum ts (0 + 1) = gsum ts 0 + (tupAt ts 0).g := rfl
              have e2 : gsum ts 0 = 0 := rfl
              omega
            · have := h2 (m - 1) (by omega)
              rw [show m - 1 + 1 = m by omega] at this
              exact .inl ⟨m, by omega, by omega, by omega, this⟩
    rcases hex ts.length (Nat.le_refl _) with ⟨i, h1, h2, h3, h4⟩ | h5
    · refine ⟨i - 1, by omega, ?_⟩
      have hTi := tOK_of (hT i h1)
      have hTp := tOK_of (hT (i - 1) (by omega))
      have e1 : gsum ts (i + 1) = gsum ts i + (tupAt ts i).g := rfl
      unfold efar
      rw [ents_at (by omega)]
      show max (r - gsum ts (i - 1 + 1)) (gsum ts (i - 1 + 1) + (tupAt ts (i - 1)).d - r) ≤ _
      rw [show i - 1 + 1 = i by omega]
      omega
    · have := h5 (ts.length - 1) (by omega)
      rw [show ts.length - 1 + 1 = ts.length by omega, hs, dl] at this
      omega
theorem Sum.quant (h : Sum k xs cap ts) (hne : xs.length ≠ 0) {r : Int} (r0 : 1 ≤ r) (r1 : r ≤ xs.length) {u : Int} (hu : (tupAt (ents ts ts.length) (ebest (ents ts ts.length) r ts.length)).v = u) :
    ((blI xs u : Nat) : Int) + 1 ≤ r + smost (xs.length : Nat) k / 2 ∧ r - smost (xs.length : Nat) k / 2 ≤ (rkI xs u : Nat) ∧ blI xs u < rkI xs u := by
  obtain ⟨i, hi, hf⟩ := h.near hne r0 r1
  have h1 := ebest_min (ents ts ts.length) r ts.length i hi
  have h2 := ebest_lt (ents ts ts.length) r ts.length (by omega)
  obtain ⟨e1, e2, e3⟩ := h.ent h2
  have hf2 : efar (ents ts ts.length) r (ebest (ents ts ts.length) r ts.length) = max (r - (tupAt (ents ts ts.length) (ebest (ents ts ts.length) r ts.length)).g) ((tupAt (ents ts ts.length) (ebest (ents ts ts.length) r ts.length)).d - r) := rfl
  rw [hu] at e1 e2 e3
  exact ⟨by omega, by omega, bl_lt_rk e3⟩
end
end Go.Proofs.Ytdibjlphcmjnoaa
