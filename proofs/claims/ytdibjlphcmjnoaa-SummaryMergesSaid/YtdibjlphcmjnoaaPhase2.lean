/- The law of Phase with pure operations (X) that are taken ahead of all: they may stand behind the last ones. -/
import Derived.Test.YtdibjlphcmjnoaaPhase
namespace Go.Proofs.Ytdibjlphcmjnoaa
open Go.RowKit
section
variable {P : Program} {ops : Array Oper} {md : Region.Mode} {S : World → Prop} {Q : Exit → Act → World → Prop} {n g : Nat} {tail : List Oper} {X : List Nat}
/-- Each operation ahead, but those of X, is waited for by a later one, at the latest by the first of the last ones. -/
def sinkX (md : Region.Mode) (ops : Array Oper) (n : Nat) (X : List Nat) : Bool :=
  (List.range n).all fun i => X.contains i || (List.range (n + 1)).any fun j => decide (i < j) && Region.waitsFor md ops j i
structure PhaseX (md : Region.Mode) (ops : Array Oper) (n : Nat) (X : List Nat) : Prop where
  sel : Region.noSelect ops = true
  sink : sinkX md ops n X = true
  chain : Region.chainB md ops n = true
  lt : n < ops.size
/-- What is listed hangs together, and X is listed. -/
structure InvX (md : Region.Mode) (ops : Array Oper) (n : Nat) (X : List Nat) (listed : Array Bool) : Prop where
  inv : HeadInv md ops n listed
  xs : ∀ x ∈ X, listed.getD x false = true
theorem InvX.set {listed : Array Bool} {i : Nat} (h : InvX md ops n X listed) (hi : i ∈ Region.ready md ops listed) (hin : i < n) : InvX md ops n X (listed.setIfInBounds i true) :=
  ⟨h.inv.set hi hin, fun x hx => getD_set_true (h.xs x hx)⟩
theorem waitsX {listed : Array Bool} (ok : PhaseX md ops n X) (h : InvX md ops n X listed) : ∀ (d i : Nat), n - i = d → i < n → listed.getD i true = false → ∀ t, n ≤ t → t ∉ Region.ready md ops listed := by
  intro d
  induction d using Nat.strongRecOn with
  | _ d ih =>
    intro i hd hi hun t ht hr
    have hnx : X.contains i = false := by
      cases hc : X.contains i with
      | false => rfl
      | true =>
        have := h.xs i (by simpa using hc)
        rw [getD_both hun] at this
        cases this
    obtain ⟨_, ot, hot, hall⟩ := mem_ready.1 hr
    have htl : t < ops.size := (Array.getElem?_eq_some_iff.1 hot).1
    by_cases htn : t = n
    · subst htn
      have h1 := List.all_eq_true.1 ok.sink i (List.mem_range.2 hi)
      rw [hnx, Bool.false_or] at h1
      obtain ⟨j, hj, hj2⟩ := List.any_eq_true.1 h1
      simp only [Bool.and_eq_true, decide_eq_true_eq] at hj2
      have hjt := List.mem_range.1 hj
      obtain ⟨oj, hoj, e, he, hb, hon⟩ := Region.waitsFor_spec hj2.2
      by_cases hjn : j = t
      · subst hjn
        obtain rfl : ot = oj := Option.some.inj (hot.symm.trans hoj)
        have := hall e he hb
        rw [hon, getD_both hun] at this
        cases this
      · have hju : listed.getD j false = false := by
          cases hc : listed.getD j false with
          | false => rfl
          | true =>
            have := h.inv.closed j oj hoj hc e he hb
            rw [hon, getD_both hun] at this
            cases this
        exact ih (t - j) (by omega) j rfl (by omega) (getD_in (by rw [h.inv.size]; omega) hju) t (Nat.le_refl _) hr
    · have hc := List.all_eq_true.1 ok.chain t (List.mem_range.2 htl)
      simp only [Bool.or_eq_true, decide_eq_true_eq] at hc
      rcases hc with hc | hc
      · omega
      · obtain ⟨oj, hoj, e, he, hb, hon⟩ := Region.waitsFor_spec hc
        obtain rfl : ot = oj := Option.some.inj (hot.symm.trans hoj)
        have h2 := hall e he hb
        have h3 := h.inv.tail (t - 1) (by omega) (by omega)
        rw [hon, getD_both h3] at h2
        cases h2
theorem headX_first (ok : PhaseX md ops n X) {i : Nat} {oi : Oper} {v : Value} (hi : ops[i]? = some oi) (hin : i < n) (hQ : ∀ c a w, Q (.panic c) (a.put oi.dst v) w → Q (.panic c) a w) :
    ∀ (f : Nat) (listed : Array Bool) (a : Act) (w : World), InvX md ops n X listed →
      (∀ j oj, ops[j]? = some oj → j ≠ i → listed.getD j true = false → (∀ e ∈ oj.after, Region.binds md e = true → e.on ≠ i) → oi.apart ops oj = true) →
      i ∈ Region.ready md ops listed → YieldsIf P ops S oi v a → S w → HeadW P md ops S Q n g tail f (listed.setIfInBounds i true) (a.put oi.dst v) w → HeadW P md ops S Q n g tail (f + 1) listed a w := by
  have hsel := Region.noSelect_spec ok.sel
  intro f
  induction f with
  | zero =>
    intro listed a w inv _ hr hy hS H
    refine ⟨fun h0 => by rw [h0] at hr; exact absurd hr (by simp), fun j hj => ?_⟩
    have hjn : j < n := Nat.lt_of_not_le fun hle => waitsX ok inv _ i rfl hin (mem_ready.1 hr).1 j hle hj
    by_cases hji : j = i
    · subst hji
      exact ⟨hjn, hy.wpOp hi hS ⟨hS, H⟩⟩
    · exact absurd (seqB_ready H.1 j (ready_mono hj hji)) (by omega)
  | succ f ih =>
    intro listed a w inv hfree hr hy hS H
    refine ⟨fun h0 => by rw [h0] at hr; exact absurd hr (by simp), fun j hj => ?_⟩
    have hun := (mem_ready.1 hr).1
    have hjn : j < n := Nat.lt_of_not_le fun hle => waitsX ok inv _ i rfl hin hun j hle hj
    by_cases hji : j = i
    · subst hji
      exact ⟨hjn, hy.wpOp hi hS ⟨hS, H⟩⟩
    · have h1 := (H.2 j (ready_mono hj hji)).2
      obtain ⟨hjun, oj, hoj, hall⟩ := mem_ready.1 hj
      have hnot : ∀ e ∈ oj.after, Region.binds md e = true → e.on ≠ i := fun e he hb heq => by
        have h1 := hall e he hb
        rw [heq, getD_both hun] at h1
        cases h1
      have h2 := wpOp_putIf hoj (hfree j oj hoj hji hjun hnot) (fun cs b => hsel i oi cs b hi) (fun cs b => hsel j oj cs b hoj) hQ hy h1
      refine ⟨hjn, wpOp_mono (fun a' w' h3 => ⟨h3.2.1, ih (listed.setIfInBounds j true) a' w' (inv.set hj hjn) (fun k ok' hk hki hku hno => ?_) (ready_mono hr (Ne.symm hji)) h3.1 h3.2.1 ?_⟩) h2⟩
      · refine hfree k ok' hk hki ?_ hno
        by_cases hjk : j = k
        · subst hjk
          exact hjun
        · rw [getD_set_ne true hjk] at hku
          exact hku
      · rw [Array.setIfInBounds_comm _ _ hji]
        exact h3.2.2
/-- The same, where what is listed hangs together. -/
def HX (P : Program) (md : Region.Mode) (ops : Array Oper) (X : List Nat) (S : World → Prop) (Q : Exit → Act → World → Prop) (n g : Nat) (tail : List Oper) (f : Nat) (listed : Array Bool) (a : Act) (w : World) : Prop :=
  InvX md ops n X listed → HeadW P md ops S Q n g tail f listed a w
variable {f : Nat} {listed : Array Bool} {a : Act} {w : World}
/-- An operation that gives one value in every world that meets S is taken first. -/
theorem hx_take (ok : PhaseX md ops n X) {i : Nat} {oi : Oper} (v : Value) (hi : ops[i]? = some oi) (hin : i < n) (hf : Region.free md ops listed i = true) (hr : (Region.ready md ops listed).contains i = true)
    (hQ : ∀ c a w, Q (.panic c) (a.put oi.dst v) w → Q (.panic c) a w) (hy : YieldsIf P ops S oi v a) (hS : S w) (h : HX P md ops X S Q n g tail f (listed.setIfInBounds i true) (a.put oi.dst v) w) : HX P md ops X S Q n g tail (f + 1) listed a w := fun inv =>
  have hr' : i ∈ Region.ready md ops listed := by simpa using hr
  headX_first ok hi hin hQ f listed a w inv (Region.free_spec hi hf) hr' hy hS (h (inv.set hr' hin))
/-- One operation alone may come up. -/
theorem hx_one {i : Nat} {oi : Oper} (hi : ops[i]? = some oi) (hin : i < n) (hr : Region.ready md ops listed = [i])
    (h : ∀ K : Act → World → Prop, (∀ a' w', S w' → HX P md ops X S Q n g tail f (listed.setIfInBounds i true) a' w' → K a' w') → if Region.wanted oi (yielded ops a.tmps) = true then Oper.wp P oi a w K Q else K (a.put oi.dst undef) w) : HX P md ops X S Q n g tail (f + 1) listed a w := fun inv => by
  refine ⟨by rw [hr]; simp, fun j hj => ?_⟩
  have hj' := hj
  rw [hr] at hj
  obtain rfl : j = i := by simpa using hj
  refine ⟨hin, ?_⟩
  have := h (fun a' w' => S w' ∧ HeadW P md ops S Q n g tail f (listed.setIfInBounds j true) a' w') (fun a' w' hS hh => ⟨hS, hh (inv.set hj' hin)⟩)
  unfold wpOp
  simp only [hi]
  split at this
  · rename_i hw
    simp only [hw, if_true]
    exact .inl this
  · rename_i hw
    simp only [hw]
    exact this
/-- Two operations may come up. -/
theorem hx_two {i j : Nat} {oi oj : Oper} (hi : ops[i]? = some oi) (hj : ops[j]? = some oj) (hin : i < n) (hjn : j < n) (hr : Region.ready md ops listed = [i, j])
    (h : ∀ K : Act → World → Prop, (∀ a' w', S w' → HX P md ops X S Q n g tail f (listed.setIfInBounds i true) a' w' → K a' w') → if Region.wanted oi (yielded ops a.tmps) = true then Oper.wp P oi a w K Q else K (a.put oi.dst undef) w)
    (h' : ∀ K : Act → World → Prop, (∀ a' w', S w' → HX P md ops X S Q n g tail f (listed.setIfInBounds j true) a' w' → K a' w') → if Region.wanted oj (yielded ops a.tmps) = true then Oper.wp P oj a w K Q else K (a.put oj.dst undef) w) : HX P md ops X S Q n g tail (f + 1) listed a w := fun inv => by
  refine ⟨by rw [hr]; simp, fun k hk => ?_⟩
  have hk' := hk
  rw [hr] at hk
  have hk : k = i ∨ k = j := by simpa using hk
  rcases hk with rfl | rfl
  · refine ⟨hin, ?_⟩
    have := h (fun a' w' => S w' ∧ HeadW P md ops S Q n g tail f (listed.setIfInBounds k true) a' w') (fun a' w' hS hh => ⟨hS, hh (inv.set hk' hin)⟩)
    unfold wpOp
    simp only [hi]
    split at this
    · rename_i hw
      simp only [hw, if_true]
      exact .inl this
    · rename_i hw
      simp only [hw]
      exact this
  · refine ⟨hjn, ?_⟩
    have := h' (fun a' w' => S w' ∧ HeadW P md ops S Q n g tail f (listed.setIfInBounds k true) a' w') (fun a' w' hS hh => ⟨hS, hh (inv.set hk' hjn)⟩)
    unfold wpOp
    simp only [hj]
    split at this
    · rename_i hw
      simp only [hw, if_true]
      exact .inl this
    · rename_i hw
      simp only [hw]
      exact this
theorem hx_done (hB : Region.seqB md ops g n listed = true) (h : wpList P ops Q tail a w) : HX P md ops X S Q n g tail 0 listed a w := fun _ => ⟨hB, h⟩
/-- A pure operation is taken ahead of all. -/
theorem any_float {i : Nat} {oi : Oper} (v : Value) (hi : ops[i]? = some oi) (hsel : Region.noSelect ops = true) (hf : Region.free md ops listed i = true) (hr : (Region.ready md ops listed).contains i = true)
    (hQ : ∀ c a w, Q (.panic c) (a.put oi.dst v) w → Q (.panic c) a w) (hg : oi.guard = none) (hy : ∀ w, (execOp a.eval oi).run P w = .ok (.value v) w) (h : wpAny P md ops Q f (listed.setIfInBounds i true) (a.put oi.dst v) w) : wpAny P md ops Q (f + 1) listed a w :=
  wpAny_first hi (Region.noSelect_spec hsel) hQ f listed a w (Region.free_spec hi hf) (by simpa using hr) (.inl ⟨by simp [Region.wanted, hg], hy⟩) h
/-- What is left of the statement, behind the pure operations. -/
theorem any_phase {l : List Oper} (n : Nat) (X : List Nat) (q : Nat) (S : World → Prop) (hsel : Region.noSelect l.toArray = true) (hs : sinkX md l.toArray n X = true) (hc : Region.chainB md l.toArray n = true) (hn : decide (n < l.toArray.size) = true)
    (hi : InvX md l.toArray n X listed) (hf : f = q + (l.drop n).length) (h : PhaseX md l.toArray n X → HX P md l.toArray X S Q n (l.drop n).length (l.drop n) q listed a w) : wpAny P md l.toArray Q f listed a w := by
  subst hf
  exact headW_any (P := P) (S := S) (Q := Q) (md := md) (ops := l.toArray) (n := n) (tail := l.drop n) rfl (fun j => by simp [List.getElem?_drop]) q _ a _ (h ⟨hsel, hs, hc, of_decide_eq_true hn⟩ hi)
theorem inv_start (hx : X = []) : InvX md ops n X (Array.replicate ops.size false) := by
  subst hx
  exact ⟨⟨by simp, fun j oj _ hl => (by rw [getD_replicate_false] at hl; cases hl), fun t _ ht => getD_in (by simpa using ht) (getD_replicate_false _ _)⟩, fun x hx => by cases hx⟩
theorem InvX.more {i : Nat} (h : InvX md ops n X listed) (hr : (Region.ready md ops listed).contains i = true) (hin : decide (i < n) = true) : InvX md ops n (i :: X) (listed.setIfInBounds i true) := by
  have hi : i ∈ Region.ready md ops listed := by simpa using hr
  have hlt : i < listed.size := by
    have := (mem_ready.1 hi).1
    rcases Nat.lt_or_ge i listed.size with h | h
    · exact h
    · simp [Array.getElem?_eq_none h] at this
  refine ⟨h.inv.set hi (of_decide_eq_true hin), fun x hx => ?_⟩
  rcases List.mem_cons.1 hx with rfl | hx
  · simp [hlt]
  · exact getD_set_true (h.xs x hx)
end
end Go.Proofs.Ytdibjlphcmjnoaa
