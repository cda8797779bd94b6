/- Summaries of a stream: entries, ranks and quantiles; plain. -/
import Derived.Test.YtdibjlphcmjnoaaMathSum5
set_option linter.unusedVariables false
set_option linter.unusedSimpArgs false
set_option linter.unusedSectionVars false
set_option linter.unnecessarySimpa false
namespace Go.Proofs.Ytdibjlphcmjnoaa
/-- The entry of a tuple: value, least and greatest rank (in the places of v, g and d). -/
def entAt (ts : List Tup) (i : Nat) : Tup := ⟨(tupAt ts i).v, gsum ts (i + 1), gsum ts (i + 1) + (tupAt ts i).d⟩
def ents (ts : List Tup) (k : Nat) : List Tup := (List.range k).map (entAt ts)
theorem ents_zero (ts : List Tup) : ents ts 0 = [] := rfl
theorem ents_succ (ts : List Tup) (k : Nat) : ents ts (k + 1) = ents ts k ++ [entAt ts k] := by
  unfold ents
  rw [List.range_succ, List.map_append]
  rfl
theorem ents_len (ts : List Tup) (k : Nat) : (ents ts k).length = k := by unfold ents; simp
theorem ents_at {ts : List Tup} {k i : Nat} (h : i < k) : tupAt (ents ts k) i = entAt ts i := by
  unfold tupAt ents
  rw [List.getD_eq_getElem?_getD, List.getElem?_map, List.getElem?_range h]
  rfl
/-- How many entries lie ahead of the first whose value is greater. -/
def rkIdx (es : List Tup) (v : Int) : Nat := (es.takeWhile (fun e => decide (e.v ≤ v))).length
theorem tup_cons_zero (t : Tup) (ts : List Tup) : tupAt (t :: ts) 0 = t := rfl
theorem tup_cons_succ (t : Tup) (ts : List Tup) (i : Nat) : tupAt (t :: ts) (i + 1) = tupAt ts i := rfl
theorem rkIdx_eq {v : Int} : ∀ {es : List Tup} {k : Nat}, k ≤ es.length → (∀ e, e < k → (tupAt es e).v ≤ v) → (k < es.length → v < (tupAt es k).v) → rkIdx es v = k
  | [], k, hk, _, _ => by
    have : k = 0 := by simpa using hk
    subst this
    rfl
  | t :: es, 0, _, _, h => by
    have := h (by simp)
    rw [tup_cons_zero] at this
    unfold rkIdx
    rw [List.takeWhile_cons, if_neg (by simp; omega)]
    rfl
  | t :: es, k + 1, hk, h1, h2 => by
    have h0 := h1 0 (by omega)
    rw [tup_cons_zero] at h0
    have ih := rkIdx_eq (v := v) (es := es) (k := k) (by simpa using hk) (fun e he => by have := h1 (e + 1) (by omega); rw [tup_cons_succ] at this; exact this) (fun hl => by have := h2 (by simpa using hl); rw [tup_cons_succ] at this; exact this)
    unfold rkIdx at ih ⊢
    rw [List.takeWhile_cons, if_pos (by simpa using h0), List.length_cons, ih]
/-- The least rank behind so many entries. -/
def loAt (es : List Tup) (k : Nat) : Int := if k = 0 then 0 else (tupAt es (k - 1)).g
/-- The greatest rank ahead of an entry. -/
def hiAt (n : Int) (es : List Tup) (k : Nat) : Int := if k < es.length then (tupAt es k).d - 1 else n
def rkLo (es : List Tup) (v : Int) : Int := loAt es (rkIdx es v)
def rkHi (n : Int) (es : List Tup) (v : Int) : Int := hiAt n es (rkIdx es v)
theorem loAt_succ (es : List Tup) (k : Nat) : loAt es (k + 1) = (tupAt es k).g := rfl
/-- The error of an entry for a rank. -/
def efar (es : List Tup) (r : Int) (i : Nat) : Int := max (r - (tupAt es i).g) ((tupAt es i).d - r)
/-- The first of the entries with the least error. -/
def ebest (es : List Tup) (r : Int) : Nat → Nat
  | 0 => 0
  | k + 1 => if efar es r k < efar es r (ebest es r k) then k else ebest es r k
theorem ebest_le (es : List Tup) (r : Int) : ∀ k, ebest es r k ≤ k
  | 0 => Nat.le_refl _
  | k + 1 => by
    unfold ebest
    split
    · omega
    · have := ebest_le es r k; omega
theorem ebest_lt (es : List Tup) (r : Int) : ∀ k, 0 < k → ebest es r k < k
  | 0, h => absurd h (by omega)
  | 1, _ => by
    unfold ebest
    rw [if_neg (by simp [ebest])]
    exact Nat.one_pos
  | k + 2, _ => by
    unfold ebest
    split
    · omega
    · have := ebest_lt es r (k + 1) (by omega); omega
/-- The rank max(1, ceil(p n / q)). -/
def tgt (p n q : Nat) : Int := max 1 (((p * n / q + if p * n % q = 0 then 0 else 1 : Nat) : Int))
theorem tgt_bound {p n q : Nat} (hq : 1 ≤ q) (hp : p ≤ q) (hn : 1 ≤ n) : 1 ≤ tgt p n q ∧ tgt p n q ≤ n := by
  have h1 : p * n / q ≤ n := by
    have : p * n ≤ q * n := Nat.mul_le_mul_right n hp
    exact Nat.le_trans (Nat.div_le_div_right this) (by rw [Nat.mul_div_cancel_left n (by omega)]; exact Nat.le_refl _)
  unfold tgt
  split
  · omega
  · rename_i h
    have h2 : p * n / q < n := by
      rcases Nat.lt_or_ge (p * n / q) n with h3 | h3
      · exact h3
      · exfalso
        have e : p * n / q = n := by omega
        have d := Nat.div_add_mod (p * n) q
        rw [e] at d
        have : p * n ≤ q * n := Nat.mul_le_mul_right n hp
        omega
    omega
section
variable {k cap n : Int} {ts : List Tup}
theorem ents_bound (hv : svalE k cap n ts = 0) {i : Nat} (hi : i < ts.length) : 1 ≤ gsum ts (i + 1) ∧ gsum ts (i + 1) ≤ n ∧ 0 ≤ (tupAt ts i).d ∧ (tupAt ts i).d ≤ 1099511627776 ∧ gsum ts (i + 1) = gsum ts i + (tupAt ts i).g ∧ 0 ≤ gsum ts i := by
  obtain ⟨k0, k1, cp0, cp1, n0, n1, mc, hz, hnz⟩ := of_svalE hv
  have hn : n ≠ 0 := fun e => by have := hz e; omega
  obtain ⟨_, hT, hs, _, _, _⟩ := hnz hn
  have hm := smost_le (k := k) n0 k0 hn
  have mono : ∀ a, a ≤ ts.length → gsum ts a ≤ n := by
    intro a ha
    have : ∀ b, a ≤ b → b ≤ ts.length → gsum ts a ≤ gsum ts b := by
      intro b hab
      induction b with
      | zero => intro _; obtain rfl : a = 0 := by omega
                exact Int.le_refl _
      | succ b ih =>
        intro hb
        by_cases e : a = b + 1
        · subst e; exact Int.le_refl _
        · have h1 := ih (by omega) (by omega)
          have h2 := (tOK_of (hT b (by omega))).2.2.2.1
          show gsum ts a ≤ gsum ts b + (tupAt ts b).g
          omega
    rw [← hs]
    exact this ts.length ha (Nat.le_refl _)
  have t := tOK_of (hT i hi)
  have b0 := (gsum_bound (m := smost n k) (i := i) (fun j hj => hT j (by omega))).1
  have b1 := mono (i + 1) (by omega)
  have e : gsum ts (i + 1) = gsum ts i + (tupAt ts i).g := rfl
  refine ⟨by omega, b1, t.2.2.2.2.1, by omega, e, by omega⟩
/-- The entries of a valid state. -/
structure EOK (n : Int) (es : List Tup) : Prop where
  asc : ∀ i j, i ≤ j → j < es.length → (tupAt es i).v ≤ (tupAt es j).v
  b : ∀ i, i < es.length → 1 ≤ (tupAt es i).g ∧ (tupAt es i).g ≤ n ∧ (tupAt es i).g ≤ (tupAt es i).d ∧ (tupAt es i).d ≤ n + 1099511627776
  next : ∀ i, i < es.length → loAt es i < (tupAt es i).d
  last : loAt es es.length = n
theorem ents_ok (hv : svalE k cap n ts = 0) : EOK n (ents ts ts.length) := by
  have B := fun i (hi : i < ts.length) => ents_bound hv hi
  obtain ⟨k0, k1, cp0, cp1, n0, n1, mc, hz, hnz⟩ := of_svalE hv
  refine ⟨fun i j hij hj => ?_, fun i hi => ?_, fun i hi => ?_, ?_⟩
  · rw [ents_len] at hj
    rw [ents_at (by omega), ents_at hj]
    show (tupAt ts i).v ≤ (tupAt ts j).v
    have hn : n ≠ 0 := fun e => by have := hz e; omega
    have hT := (hnz hn).2.1
    induction j with
    | zero => obtain rfl : i = 0 := by omega
              exact Int.le_refl _
    | succ j ih =>
      by_cases e : i = j + 1
      · subst e; exact Int.le_refl _
      · have h1 := ih (by omega) (by omega)
        have h2 := (tOK_of (hT (j + 1) hj)).2.2.1
        rcases h2 with h2 | h2
        · omega
        · rw [show j + 1 - 1 = j from rfl] at h2
          omega
  · rw [ents_len] at hi
    rw [ents_at hi]
    have b := B i hi
    exact ⟨b.1, b.2.1, (by show gsum ts (i + 1) ≤ gsum ts (i + 1) + _; omega), (by show gsum ts (i + 1) + _ ≤ _; omega)⟩
  · rw [ents_len] at hi
    have b := B i hi
    rw [ents_at hi]
    show loAt _ i < gsum ts (i + 1) + _
    unfold loAt
    split
    · omega
    · rw [ents_at (by omega)]
      show gsum ts (i - 1 + 1) < _
      rw [show i - 1 + 1 = i by omega]
      have hn : n ≠ 0 := fun e => by have := hz e; omega
      have h3 := (tOK_of ((hnz hn).2.1 i hi)).2.2.2.1
      omega
  · rw [ents_len]
    unfold loAt
    by_cases hl : ts.length = 0
    · rw [if_pos hl]
      by_cases hn : n = 0
      · exact hn.symm
      · have := (hnz hn).1; omega
    · rw [if_neg hl, ents_at (by omega)]
      show gsum ts (ts.length - 1 + 1) = n
      rw [show ts.length - 1 + 1 = ts.length by omega]
      have hn : n ≠ 0 := fun e => by have := hz e; omega
      exact (hnz hn).2.2.1
end
section
variable {n : Int} {es : List Tup}
theorem EOK.idx (h : EOK n es) (v : Int) : rkIdx es v ≤ es.length ∧ ∀ e, e < es.length → ((tupAt es e).v ≤ v ↔ e < rkIdx es v) := by
  have hex : ∃ k, k ≤ es.length ∧ (∀ e, e < k → (tupAt es e).v ≤ v) ∧ (k < es.length → v < (tupAt es k).v) := by
    have : ∀ m, m ≤ es.length → (∃ k, k ≤ m ∧ (∀ e, e < k → (tupAt es e).v ≤ v) ∧ (k < m → v < (tupAt es k).v)) := by
      intro m
      induction m with
      | zero => intro _; exact ⟨0, Nat.le_refl _, fun e he => absurd he (by omega), fun he => absurd he (by omega)⟩
      | succ m ih =>
        intro hm
        obtain ⟨k, h1, h2, h3⟩ := ih (by omega)
        by_cases hk : k < m
        · exact ⟨k, by omega, h2, fun _ => h3 hk⟩
        · obtain rfl : k = m := by omega
          by_cases hv : (tupAt es k).v ≤ v
          · refine ⟨k + 1, Nat.le_refl _, fun e he => ?_, fun he => absurd he (by omega)⟩
            by_cases c : e < k
            · exact h2 e c
            · obtain rfl : e = k := by omega
              exact hv
          · exact ⟨k, by omega, h2, fun _ => by omega⟩
    exact this es.length (Nat.le_refl _)
  obtain ⟨k, h1, h2, h3⟩ := hex
  rw [rkIdx_eq h1 h2 h3]
  refine ⟨h1, fun e he => ⟨fun hv => ?_, fun hk => h2 e hk⟩⟩
  rcases Nat.lt_or_ge e k with c | c
  · exact c
  · have := h3 (by omega)
    have := h.asc k e c he
    omega
theorem EOK.le (h : EOK n es) (h0 : 0 ≤ n) (v : Int) : 0 ≤ rkLo es v ∧ rkLo es v ≤ rkHi n es v ∧ rkHi n es v ≤ n + 1099511627776 := by
  obtain ⟨h1, _⟩ := h.idx v
  unfold rkLo rkHi hiAt
  generalize rkIdx es v = k at h1
  have hl : 0 ≤ loAt es k ∧ loAt es k ≤ n := by
    unfold loAt
    split
    · exact ⟨Int.le_refl _, h0⟩
    · have := h.b (k - 1) (by omega)
      omega
  split
  · rename_i hk
    have a := h.next k hk
    have b := h.b k hk
    omega
  · obtain rfl : k = es.length := by omega
    have := h.last
    omega
end
end Go.Proofs.Ytdibjlphcmjnoaa
