/- Summaries of a stream: the summary of the values of two is sound; plain. -/
import Derived.Test.YtdibjlphcmjnoaaMathSum8
set_option linter.unusedVariables false
set_option linter.unusedSimpArgs false
set_option linter.unusedSectionVars false
set_option linter.unnecessarySimpa false
namespace Go.Proofs.Ytdibjlphcmjnoaa
/-- Two summaries made into one, step by step. -/
def mrg2 : List Tup → List Tup → List Tup
  | [], y => y
  | x, [] => x
  | x :: xs, y :: ys => if x.v ≤ y.v then ⟨x.v, x.g, x.d + (y.g + y.d - 1)⟩ :: mrg2 xs (y :: ys) else ⟨y.v, y.g, y.d + (x.g + x.d - 1)⟩ :: mrg2 (x :: xs) ys
termination_by x y => x.length + y.length
theorem mrg2_nil (x : List Tup) : mrg2 x [] = x := by cases x <;> simp [mrg2]
theorem nil_mrg2 (y : List Tup) : mrg2 [] y = y := by simp [mrg2]
theorem mrg2_x {x y : Tup} {xs ys : List Tup} (h : x.v ≤ y.v) : mrg2 (x :: xs) (y :: ys) = ⟨x.v, x.g, x.d + (y.g + y.d - 1)⟩ :: mrg2 xs (y :: ys) := by rw [mrg2, if_pos h]
theorem mrg2_y {x y : Tup} {xs ys : List Tup} (h : ¬ x.v ≤ y.v) : mrg2 (x :: xs) (y :: ys) = ⟨y.v, y.g, y.d + (x.g + x.d - 1)⟩ :: mrg2 (x :: xs) ys := by rw [mrg2, if_neg h]
theorem tup_eta (t : Tup) : (⟨t.v, t.g, t.d⟩ : Tup) = t := rfl
theorem sat_mrg {ts ts' : List Tup} (a : Asc ts) (a' : Asc ts') : ∀ (d i j : Nat) (l : List Tup), ts.length + ts'.length = d + i + j → i ≤ ts.length → j ≤ ts'.length → SAt ts ts' i j l → smrg (swids ts' true ts) (swids ts false ts') = l ++ mrg2 (ts.drop i) (ts'.drop j)
  | 0, i, j, l, hd, hi, hj, h => by
    rw [sat_end h (by omega) (by omega), List.drop_of_length_le (by omega), nil_mrg2, List.drop_of_length_le (by omega), List.append_nil]
  | d + 1, i, j, l, hd, hi, hj, h => by
    by_cases ci : i < ts.length
    · by_cases cj : j < ts'.length
      · rw [drop_tup ci, drop_tup cj]
        by_cases c : (tupAt ts i).v ≤ (tupAt ts' j).v
        · have := sat_mrg a a' d (i + 1) j _ (by omega) (by omega) hj (sat_x a h ci cj c)
          rw [this, mrg2_x c, ← drop_tup cj, List.append_assoc]
          rfl
        · have := sat_mrg a a' d i (j + 1) _ (by omega) hi (by omega) (sat_y a' h ci cj (by omega))
          rw [this, mrg2_y c, ← drop_tup ci, List.append_assoc]
          rfl
      · obtain rfl : j = ts'.length := by omega
        have := sat_mrg a a' d (i + 1) ts'.length _ (by omega) (by omega) hj (sat_xe a h ci)
        rw [this, drop_tup ci, List.drop_length, mrg2_nil, mrg2_nil, List.append_assoc]
        rfl
    · obtain rfl : i = ts.length := by omega
      have cj : j < ts'.length := by omega
      have := sat_mrg a a' d ts.length (j + 1) _ (by omega) hi (by omega) (sat_ye a' h cj)
      rw [this, drop_tup cj, List.drop_length, nil_mrg2, nil_mrg2, List.append_assoc]
      rfl
theorem smrg_is {ts ts' : List Tup} (a : Asc ts) (a' : Asc ts') : smrg (swids ts' true ts) (swids ts false ts') = mrg2 ts ts' :=
  sat_mrg a a' _ 0 0 [] (by simp; rfl) (Nat.zero_le _) (Nat.zero_le _) sat_start
theorem mrg2_len : ∀ x y : List Tup, (mrg2 x y).length = x.length + y.length
  | [], y => by rw [nil_mrg2]; simp
  | x :: xs, [] => by rw [mrg2_nil]; simp
  | x :: xs, y :: ys => by
    by_cases c : x.v ≤ y.v
    · rw [mrg2_x c, List.length_cons, mrg2_len xs (y :: ys)]; simp; omega
    · rw [mrg2_y c, List.length_cons, mrg2_len (x :: xs) ys]; simp; omega
termination_by x y => x.length + y.length
theorem mrg2_gs : ∀ x y : List Tup, gs (mrg2 x y) = gs x + gs y
  | [], y => by rw [nil_mrg2, gs_nil, Int.zero_add]
  | x :: xs, [] => by rw [mrg2_nil, gs_nil, Int.add_zero]
  | x :: xs, y :: ys => by
    by_cases c : x.v ≤ y.v
    · rw [mrg2_x c, gs_cons, mrg2_gs xs (y :: ys), gs_cons x]; show x.g + _ = _; omega
    · rw [mrg2_y c, gs_cons, mrg2_gs (x :: xs) ys, gs_cons y]; show y.g + _ = _; omega
termination_by x y => x.length + y.length
theorem mrg2_low {b : Int} : ∀ x y : List Tup, (∀ t ∈ x, b ≤ t.v) → (∀ t ∈ y, b ≤ t.v) → ∀ t ∈ mrg2 x y, b ≤ t.v
  | [], y, _, h => by rw [nil_mrg2]; exact h
  | x :: xs, [], h, _ => by rw [mrg2_nil]; exact h
  | x :: xs, y :: ys, h, h' => by
    by_cases c : x.v ≤ y.v
    · rw [mrg2_x c]
      intro t ht
      rcases List.mem_cons.1 ht with rfl | ht
      · exact h x (by simp)
      · exact mrg2_low xs (y :: ys) (fun u hu => h u (by simp [hu])) h' t ht
    · rw [mrg2_y c]
      intro t ht
      rcases List.mem_cons.1 ht with rfl | ht
      · exact h' y (by simp)
      · exact mrg2_low (x :: xs) ys h (fun u hu => h' u (by simp [hu])) t ht
termination_by x y => x.length + y.length
theorem vals_cons (t : Tup) (ts : List Tup) : vals (t :: ts) = t.v :: vals ts := rfl
theorem asc_head {t : Tup} {ts : List Tup} (h : (vals (t :: ts)).Pairwise (· ≤ ·)) : (∀ u ∈ t :: ts, t.v ≤ u.v) ∧ (vals ts).Pairwise (· ≤ ·) := by
  rw [vals_cons, List.pairwise_cons] at h
  refine ⟨fun u hu => ?_, h.2⟩
  rcases List.mem_cons.1 hu with rfl | hu
  · exact Int.le_refl _
  · exact h.1 _ (List.mem_map_of_mem hu)
theorem mrg2_asc : ∀ x y : List Tup, (vals x).Pairwise (· ≤ ·) → (vals y).Pairwise (· ≤ ·) → (vals (mrg2 x y)).Pairwise (· ≤ ·)
  | [], y, _, h => by rw [nil_mrg2]; exact h
  | x :: xs, [], h, _ => by rw [mrg2_nil]; exact h
  | x :: xs, y :: ys, h, h' => by
    have a := asc_head h
    have a' := asc_head h'
    by_cases c : x.v ≤ y.v
    · rw [mrg2_x c, vals_cons, List.pairwise_cons]
      refine ⟨fun u hu => ?_, mrg2_asc xs (y :: ys) a.2 h'⟩
      obtain ⟨t, ht, rfl⟩ := List.mem_map.1 hu
      exact mrg2_low xs (y :: ys) (fun u hu => a.1 u (by simp [hu])) (fun u hu => by have := a'.1 u hu; show x.v ≤ u.v; omega) t ht
    · rw [mrg2_y c, vals_cons, List.pairwise_cons]
      refine ⟨fun u hu => ?_, mrg2_asc (x :: xs) ys h a'.2⟩
      obtain ⟨t, ht, rfl⟩ := List.mem_map.1 hu
      exact mrg2_low (x :: xs) ys (fun u hu => by have := a.1 u hu; show y.v ≤ u.v; omega) (fun u hu => a'.1 u (by simp [hu])) t ht
termination_by x y => x.length + y.length
theorem mrg2_each {M M' : Int} (m1 : 1 ≤ M) (m2 : 1 ≤ M') : ∀ x y : List Tup, (∀ t ∈ x, TK M t) → (∀ t ∈ y, TK M' t) → ∀ t ∈ mrg2 x y, TK (M + M' - 1) t
  | [], y, _, h => by rw [nil_mrg2]; exact fun t ht => (h t ht).mono (by omega)
  | x :: xs, [], h, _ => by rw [mrg2_nil]; exact fun t ht => (h t ht).mono (by omega)
  | x :: xs, y :: ys, h, h' => by
    have hx := h x (by simp)
    have hy := h' y (by simp)
    unfold TK at hx hy
    by_cases c : x.v ≤ y.v
    · rw [mrg2_x c]
      intro t ht
      rcases List.mem_cons.1 ht with rfl | ht
      · unfold TK; dsimp only; omega
      · exact mrg2_each m1 m2 xs (y :: ys) (fun u hu => h u (by simp [hu])) h' t ht
    · rw [mrg2_y c]
      intro t ht
      rcases List.mem_cons.1 ht with rfl | ht
      · unfold TK; dsimp only; omega
      · exact mrg2_each m1 m2 (x :: xs) ys h (fun u hu => h' u (by simp [hu])) t ht
termination_by x y => x.length + y.length
theorem mrg2_head {x y : List Tup} (h : headOK x) (h' : headOK y) : headOK (mrg2 x y) := by
  cases x with
  | nil => exact h.elim
  | cons t ts =>
    cases y with
    | nil => exact h'.elim
    | cons u us =>
      obtain ⟨h1, h2⟩ := h
      obtain ⟨h3, h4⟩ := h'
      by_cases c : t.v ≤ u.v
      · rw [mrg2_x c]; exact ⟨h1, by show t.d + (u.g + u.d - 1) = 0; omega⟩
      · rw [mrg2_y c]; exact ⟨h3, by show u.d + (t.g + t.d - 1) = 0; omega⟩
theorem mrg2_ne {x y : List Tup} (h : y ≠ [] ∨ x ≠ []) : mrg2 x y ≠ [] := by
  intro e
  have := mrg2_len x y
  rw [e] at this
  simp at this
  rcases h with h | h
  · exact h (List.length_eq_zero_iff.1 (by omega))
  · exact h (List.length_eq_zero_iff.1 (by omega))
theorem lastD_tail {t : Tup} {ts : List Tup} (h : lastD (t :: ts) = 0) : lastD ts = 0 := by
  cases ts with
  | nil => rfl
  | cons u us => exact h
theorem mrg2_last : ∀ x y : List Tup, lastD x = 0 → lastD y = 0 → lastD (mrg2 x y) = 0
  | [], y, _, h => by rw [nil_mrg2]; exact h
  | x :: xs, [], h, _ => by rw [mrg2_nil]; exact h
  | x :: xs, y :: ys, h, h' => by
    by_cases c : x.v ≤ y.v
    · rw [mrg2_x c, lastD_cons (mrg2_ne (.inl (by simp)))]
      exact mrg2_last xs (y :: ys) (lastD_tail h) h'
    · rw [mrg2_y c, lastD_cons (mrg2_ne (.inr (by simp)))]
      exact mrg2_last (x :: xs) ys h (lastD_tail h')
termination_by x y => x.length + y.length
theorem bnd_right {xs ys : List Int} : ∀ {s : Int} {b : List Tup}, (∀ t ∈ b, (xs.length : Int) ≤ rkI xs t.v) → Bnd ys s b → Bnd (xs ++ ys) (xs.length + s) b
  | _, [], _, _ => trivial
  | s, t :: b, h, ⟨h1, h2, h3, h4⟩ => by
    have hv := h t (by simp)
    have hb := blI_le xs t.v
    refine ⟨?_, ?_, List.mem_append_right _ h3, ?_⟩
    · rw [rkI_append]; omega
    · rw [blI_append]; omega
    · rw [Int.add_assoc]
      exact bnd_right (fun u hu => h u (by simp [hu])) h4
theorem bnd_left {xs ys : List Int} : ∀ {s : Int} {b : List Tup}, (∀ t ∈ b, (ys.length : Int) ≤ rkI ys t.v) → Bnd xs s b → Bnd (xs ++ ys) (s + ys.length) b
  | _, [], _, _ => trivial
  | s, t :: b, h, ⟨h1, h2, h3, h4⟩ => by
    have hv := h t (by simp)
    have hb := blI_le ys t.v
    refine ⟨?_, ?_, List.mem_append_left _ h3, ?_⟩
    · rw [rkI_append]; omega
    · rw [blI_append]; omega
    · rw [show s + (ys.length : Int) + t.g = s + t.g + ys.length by omega]
      exact bnd_left (fun u hu => h u (by simp [hu])) h4
theorem mrg2_bnd {xs ys : List Int} : ∀ (x y : List Tup) (s s' : Int), (vals x).Pairwise (· ≤ ·) → (vals y).Pairwise (· ≤ ·) → Bnd xs s x → Bnd ys s' y → (∀ t ∈ y, s ≤ rkI xs t.v) → (∀ t ∈ x, s' ≤ rkI ys t.v) → s + gs x = xs.length → s' + gs y = ys.length → Bnd (xs ++ ys) (s + s') (mrg2 x y)
  | [], y, s, s', _, _, _, h', g, _, e, _ => by
    rw [gs_nil, Int.add_zero] at e
    subst e
    rw [nil_mrg2]
    exact bnd_right g h'
  | x :: xs', [], s, s', _, _, h, _, _, g', _, e' => by
    rw [gs_nil, Int.add_zero] at e'
    subst e'
    rw [mrg2_nil]
    exact bnd_left g' h
  | x :: xs', y :: ys', s, s', a, a', h, h', g, g', e, e' => by
    have ax := asc_head a
    have ay := asc_head a'
    have h0 := h
    have h0' := h'
    obtain ⟨b1, b2, b3, b4⟩ := h
    obtain ⟨c1, c2, c3, c4⟩ := h'
    rw [gs_cons] at e e'
    by_cases c : x.v ≤ y.v
    · rw [mrg2_x c]
      have gx := g' x (by simp)
      have bl := blI_mono (xs := ys) c
      refine ⟨?_, ?_, List.mem_append_left _ b3, ?_⟩
      · show s + s' + x.g ≤ ((rkI (xs ++ ys) x.v : Nat) : Int)
        rw [rkI_append]; omega
      · show ((blI (xs ++ ys) x.v : Nat) : Int) + 1 ≤ s + s' + x.g + (x.d + (y.g + y.d - 1))
        rw [blI_append]; omega
      · show Bnd (xs ++ ys) (s + s' + x.g) _
        rw [show s + s' + x.g = s + x.g + s' by omega]
        refine mrg2_bnd xs' (y :: ys') (s + x.g) s' ax.2 a' b4 h0' (fun t ht => ?_) (fun t ht => g' t (by simp [ht])) (by omega) (by rw [gs_cons]; exact e')
        have := ay.1 t ht
        have := rkI_mono (xs := xs) (show x.v ≤ t.v by omega)
        omega
    · rw [mrg2_y c]
      have gy := g y (by simp)
      have bl := blI_mono (xs := xs) (show y.v ≤ x.v by omega)
      refine ⟨?_, ?_, List.mem_append_right _ c3, ?_⟩
      · show s + s' + y.g ≤ ((rkI (xs ++ ys) y.v : Nat) : Int)
        rw [rkI_append]; omega
      · show ((blI (xs ++ ys) y.v : Nat) : Int) + 1 ≤ s + s' + y.g + (y.d + (x.g + x.d - 1))
        rw [blI_append]; omega
      · show Bnd (xs ++ ys) (s + s' + y.g) _
        rw [show s + s' + y.g = s + (s' + y.g) by omega]
        refine mrg2_bnd (x :: xs') ys' s (s' + y.g) a ay.2 h0 c4 (fun t ht => g t (by simp [ht])) (fun t ht => ?_) (by rw [gs_cons]; exact e) (by omega)
        have := ax.1 t ht
        have := rkI_mono (xs := ys) (show y.v ≤ t.v by omega)
        omega
termination_by x y => x.length + y.length
theorem smost_add {n n' k : Int} (h : 0 ≤ n) (h' : 0 ≤ n') (hk : 1 ≤ k) : smost n k + smost n' k - 1 ≤ smost (n + n') k := by
  unfold smost
  have a := Int.mul_ediv_add_emod n k
  have a' := Int.mul_ediv_add_emod n' k
  have b := Int.emod_nonneg n (show k ≠ 0 by omega)
  have b' := Int.emod_nonneg n' (show k ≠ 0 by omega)
  have c : n / k + n' / k ≤ (n + n') / k := by
    rw [Int.le_ediv_iff_mul_le (by omega), Int.add_mul, Int.mul_comm (n / k), Int.mul_comm (n' / k)]
    omega
  have d := Int.ediv_nonneg h (show 0 ≤ k by omega)
  have d' := Int.ediv_nonneg h' (show 0 ≤ k by omega)
  omega
theorem Sum.gs {k cap : Int} {xs : List Int} {ts : List Tup} (h : Sum k xs cap ts) : gs ts = xs.length := by
  by_cases hn : ((xs.length : Nat) : Int) = 0
  · have := (of_svalE h.val).2.2.2.2.2.2.2.1 hn
    rw [List.length_eq_zero_iff.1 this]
    exact hn.symm
  · exact (tv_of h.val hn).sum
theorem sum_merge {k cap : Int} {xs ys : List Int} {ts ts' : List Tup} (h : Sum k xs cap ts) (h' : Sum k ys cap ts') (hc : (xs.length : Int) + ys.length ≤ cap) :
    smerge k cap (xs.length : Nat) ts k cap (ys.length : Nat) ts' = ⟨k, cap, ((xs.length : Nat) : Int) + (ys.length : Nat), mrg2 ts ts', 0⟩ ∧ Sum k (xs ++ ys) cap (mrg2 ts ts') := by
  have V := of_svalE h.val
  have V' := of_svalE h'.val
  have l1 := h.len
  have l2 := h'.len
  have hl := mrg2_len ts ts'
  have A := sval_asc h.val
  have A' := sval_asc h'.val
  have e : (((xs ++ ys).length : Nat) : Int) = (xs.length : Int) + ys.length := by simp
  refine ⟨by rw [smerge_ok h.val h'.val rfl (by omega), smrg_is A A', show max cap cap = cap by omega]; exact sfit_short (by omega), ?_, ?_, by rw [hl]; simp; omega⟩
  · rw [e]
    by_cases z : ((xs.length : Nat) : Int) = 0
    · have := V.2.2.2.2.2.2.2.1 z
      rw [List.length_eq_zero_iff.1 this, nil_mrg2, z, Int.zero_add]
      exact h'.val
    · by_cases z' : ((ys.length : Nat) : Int) = 0
      · have := V'.2.2.2.2.2.2.2.1 z'
        rw [List.length_eq_zero_iff.1 this, mrg2_nil, z', Int.add_zero]
        exact h.val
      · have T := tv_of h.val z
        have T' := tv_of h'.val z'
        have sa := smost_add (n := (xs.length : Int)) (n' := (ys.length : Int)) (k := k) (by omega) (by omega) V.1
        exact sval_of V.1 V.2.1 V.2.2.1 V.2.2.2.1 (by omega) (by omega) (by omega)
          ⟨fun t ht => (mrg2_each smost_pos smost_pos ts ts' T.each T'.each t ht).mono sa, mrg2_asc ts ts' T.asc T'.asc, by rw [mrg2_gs, T.sum, T'.sum], mrg2_head T.head T'.head, mrg2_last ts ts' T.last T'.last⟩
  · have := mrg2_bnd (xs := xs) (ys := ys) ts ts' 0 0 (asc_pairwise.1 A) (asc_pairwise.1 A') h.bnd h'.bnd (fun _ _ => by omega) (fun _ _ => by omega) (by rw [Int.zero_add]; exact h.gs) (by rw [Int.zero_add]; exact h'.gs)
    rw [Int.zero_add] at this
    exact this
end Go.Proofs.Ytdibjlphcmjnoaa
