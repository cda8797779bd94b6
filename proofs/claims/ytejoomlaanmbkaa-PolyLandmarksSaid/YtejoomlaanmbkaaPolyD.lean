/- Counters with polynomial decay: adding a value by the reference, walked. -/
import Derived.Test.YtejoomlaanmbkaaPolyC
namespace Go.Proofs.Ytejoomlaanmbkaa
open Go.RowKit Go.Shelf
theorem sum_congr {xs ys : List Nat} {f : Nat → Nat} {n : Nat} (h : ∀ j, j < n → sumT xs ys j = f j) : upto (sumT xs ys) n = upto f n ∧ fitB (sumT xs ys) n = fitB f n := by
  refine ⟨upto_congr h, ?_⟩
  unfold fitB
  congr 1
  apply propext
  constructor
  · intro a j hj
    rw [← h j hj]
    exact a j hj
  · intro a j hj
    rw [h j hj]
    exact a j hj
set_option maxHeartbeats 4000000 in
theorem rplus_ok (A : Option Addr) (n c : Nat) (xs : List Nat) (A' : Option Addr) (c' : Nat) (ys : List Nat) (w : World) (hx : Reads w w.heap.size 2 A n (wcells xs)) (hy : Reads w w.heap.size 2 A' n (wcells ys)) (bx : ∀ i, momAt xs i < big) (by_ : ∀ i, momAt ys i < big) (hn : n ≤ 1000)
    (hf : fitB (sumT xs ys) n = true) : Calls Try.prog 44 #[.slice A n c, .slice A' n c'] w (fun e w' => ∃ v, e = .returned (.tuple #[v, .bool true]) ∧ w'.ownsRow w.heap.size 35 2 v n (wcells (upto (sumT xs ys) n)) ∧ Below w.heap.size w w') := by
  have HR := Lib.hid hx
  have HR' := Lib.hid hy
  have HB := Lib.hid bx
  have HB' := Lib.hid by_
  have HF := Lib.hid hf
  obtain ⟨i0, hi0, iz0, iz1, iz2⟩ := info_parts info_wide
  clear hx hy bx by_ hf
  go_enter Try.func44, Try.ntmps44
  go_wp2
  go_loopw [6, 12] (fun v i wr => ∃ j : Nat, j ≤ n ∧ i = .int .i64 (j : Nat) ∧ RowKit.Hid (∀ e, e < j → sumT xs ys e < big) ∧ wr.ownsRow w.heap.size 35 2 v j (wcells (upto (sumT xs ys) j)) ∧ Below w.heap.size w wr) (fun _ i _ => n - (intOf i).toNat)
  case atStart => exact ⟨0, by omega, rfl, Lib.hid (fun e he => absurd he (by omega)), World.ownsRow_nil _ _ _ _, Below.refl _ _⟩
  case round =>
    obtain ⟨j, hj, rfl, HA, own, o⟩ := hrel
    by_cases hlt : j < n
    · have i1 : (j : Int) < (n : Int) := by omega
      have i2 : (0 : Int) ≤ (j : Int) := by omega
      obtain ⟨ad, rfl, hadb, mx⟩ := HR.out.mom (i := j) hlt
      obtain ⟨ad', rfl, hadb', my⟩ := HR'.out.mom (i := j) hlt
      have xb := HB.out j
      have yb := HB'.out j
      have hT : sumT xs ys j = momAt xs j + momAt ys j := rfl
      generalize momAt xs j = x at mx xb hT
      generalize momAt ys j = y at my yb hT
      have MX := Lib.hid mx
      have MY := Lib.hid my
      have HT := Lib.hid hT
      have HAB : RowKit.Hid ((ad.add (j * 2)).block < w.heap.size) := Lib.hid (by rw [block_of_add]; exact hadb)
      have HAB' : RowKit.Hid ((ad'.add (j * 2)).block < w.heap.size) := Lib.hid (by rw [block_of_add]; exact hadb')
      clear mx my hT
      · have hs : x + y < big := by have := of_fitB HF.out hlt; rw [HT.out] at this; exact this
        have PA := fun w => radd_fits x y xb yb hs w
        generalize hsu : x + y = s at PA hs
        have PA := Lib.hid PA
        have HS : RowKit.Hid (sumT xs ys j = s) := Lib.hid (by rw [HT.out]; exact hsu)
        have HC := Lib.hid (fun e (he : e < j + 1) => by
          rcases Nat.lt_or_ge e j with q | q
          · exact HA.out e q
          · rw [show e = j by omega, HS.out]; exact hs)
        clear hsu
        go_upto_region 5 with (fail)
        refine wp_region_free1 [0, 1, 2, 3, 4, 5, 6, 7, 8, 9, 11, 10] [11] [0, 1, 2, 3, 4, 5, 6, 7, 8, 9, 10, 12] (12, 35, #[.int .u64 0, .int .u64 0]) 8 13 (fun w' => Below wr.heap.size wr w') (by kernel_rfl) (by kernel_rfl) ⟨_, _, rfl, rfl, rfl, fun ρ w' => by go_simp⟩ rfl (by simp) (fun _ h => h.alloc h.size _) (fun _ _ d _ _ h => by cases d <;> exact h) ?_ ?_
        · exact (Below.refl _ _).drew
        (refine plan_pure ?_ rfl rfl (fun w' => ?_) ?_; rotate_left; (go_simp; try with_reducible rfl); simp only [Act.put, List.setIfInBounds_toArray, List.set_cons_zero, List.set_cons_succ])
        (refine plan_pure ?_ rfl rfl (fun w' => ?_) ?_; rotate_left; (go_simp; try with_reducible rfl); simp only [Act.put, List.setIfInBounds_toArray, List.set_cons_zero, List.set_cons_succ])
        (refine plan_pure ?_ rfl rfl (fun w' => ?_) ?_; rotate_left; (go_simp; try with_reducible rfl); simp only [Act.put, List.setIfInBounds_toArray, List.set_cons_zero, List.set_cons_succ])
        (refine plan_val ?_ rfl rfl rfl (fun w' hS => ?_) ?_; rotate_left; (obtain ⟨p0, p1⟩ := MX.out.below (o.trans (hS.mono o.size)) HAB.out; obtain ⟨q0, q1⟩ := MY.out.below (o.trans (hS.mono o.size)) HAB'.out; go_simp; try with_reducible rfl); simp only [Act.put, List.setIfInBounds_toArray, List.set_cons_zero, List.set_cons_succ])
        (refine plan_pure ?_ rfl rfl (fun w' => ?_) ?_; rotate_left; (go_simp; try with_reducible rfl); simp only [Act.put, List.setIfInBounds_toArray, List.set_cons_zero, List.set_cons_succ])
        (refine plan_pure ?_ rfl rfl (fun w' => ?_) ?_; rotate_left; (go_simp; try with_reducible rfl); simp only [Act.put, List.setIfInBounds_toArray, List.set_cons_zero, List.set_cons_succ])
        (refine plan_pure ?_ rfl rfl (fun w' => ?_) ?_; rotate_left; (go_simp; try with_reducible rfl); simp only [Act.put, List.setIfInBounds_toArray, List.set_cons_zero, List.set_cons_succ])
        (refine plan_val ?_ rfl rfl rfl (fun w' hS => ?_) ?_; rotate_left; (obtain ⟨p0, p1⟩ := MX.out.below (o.trans (hS.mono o.size)) HAB.out; obtain ⟨q0, q1⟩ := MY.out.below (o.trans (hS.mono o.size)) HAB'.out; go_simp; try with_reducible rfl); simp only [Act.put, List.setIfInBounds_toArray, List.set_cons_zero, List.set_cons_succ])
        refine plan_call (.tuple #[W s, .bool true]) 48 #[W x, W y] rfl rfl rfl (fun _ _ h hb => h.trans (hb.mono h.size)) (fun w' hS => by obtain ⟨p0, p1⟩ := MX.out.below (o.trans (hS.mono o.size)) HAB.out; obtain ⟨q0, q1⟩ := MY.out.below (o.trans (hS.mono o.size)) HAB'.out; go_simp) (fun w' hS => PA.out w') ?_
        simp only [Act.put, List.setIfInBounds_toArray, List.set_cons_zero, List.set_cons_succ]
        (refine plan_pure ?_ rfl rfl (fun w' => ?_) ?_; rotate_left; (go_simp; try with_reducible rfl); simp only [Act.put, List.setIfInBounds_toArray, List.set_cons_zero, List.set_cons_succ])
        (refine plan_pure ?_ rfl rfl (fun w' => ?_) ?_; rotate_left; (go_simp; try with_reducible rfl); simp only [Act.put, List.setIfInBounds_toArray, List.set_cons_zero, List.set_cons_succ])
        (refine plan_pure ?_ rfl rfl (fun w' => ?_) ?_; rotate_left; (go_simp; try with_reducible rfl); simp only [Act.put, List.setIfInBounds_toArray, List.set_cons_zero, List.set_cons_succ])
        refine plan_nil ?_
        intro g8 w3 L3 hr8 hg8
        simp only [List.drop_succ_cons, List.drop_zero]
        try simp only [Act.put, List.setIfInBounds_toArray, List.set_cons_zero, List.set_cons_succ]
        have hbl := own.lt
        have zo := o.size
        replace own := orow_keep own (fun g e => L3.block g (own.lt g e).2)
        replace o := o.trans (L3.mono o.size)
        clear L3
        obtain ⟨Q0, Q1, Qf0, Qf1⟩ := row_two hr8
        go_upto_region 6 with (fail)
        clear Q0 Q1 Qf0 Qf1
        replace own := orow_other (p := ⟨g8, 0, none⟩) own (fun e => by have := (hbl g8 e).2; omega) (.int .u64 (hi s))
        replace o := o.setCell (p := ⟨g8, 0, none⟩) (by show w.heap.size ≤ g8; omega) (.int .u64 (hi s))
        replace own := orow_other (p := ⟨g8, 1, none⟩) own (fun e => by have := (hbl g8 e).2; omega) (.int .u64 (lo s))
        replace o := o.setCell (p := ⟨g8, 1, none⟩) (by show w.heap.size ≤ g8; omega) (.int .u64 (lo s))
        have k2 := row_two_set (u := .int .u64 (hi s)) (v := .int .u64 (lo s)) hr8
        generalize ((w3.setCell ⟨g8, 0, none⟩ (.int .u64 (hi s))).setCell ⟨g8, 1, none⟩ (.int .u64 (lo s))) = w6 at own o k2 ⊢
        clear hr8
        obtain ⟨Q0, Q1, Qf0, Qf1⟩ := row_two k2
        have hbl := own.lt
        have OWN := Lib.hid own
        have zo := o.size
        clear own
        go_wp2_with (at_builtin; refine wpList_push rfl _ _ 22 rfl 35 i0 (.agg #[.int .u64 0, .int .u64 0]) 2 16 Try.underlying22 hi0 iz0 iz1 iz2 rfl (by decide) (w.heap.size) u6 j (wcells (upto (sumT xs ys) j)) rfl OWN.out #[.int .u64 (hi s), .int .u64 (lo s)] rfl rfl (by simp [Value.oneCell']) (by unfold maxLen; omega) (by omega) (by omega) ?_; intro g' c4 w9 own9 hg9 hat9 hgr9)
        have own : w9.ownsRow w.heap.size 35 2 (.slice (some ⟨g', 0, none⟩) (j + 1) c4) (j + 1) (wcells (upto (sumT xs ys) (j + 1))) := by
          rw [upto_succ, wcells_append, HS.out]
          exact own9.row hg9
        replace o := below_grown (o.alloc o.size (.cells #[.int .u64 (hi s), .int .u64 (lo s)] 35)) hgr9 (fun b e => by have := (hbl b e).1; omega) (by simp; omega)
        clear own9 hgr9 hat9 OWN k2
        go_wp2
        go_roundw
        case rel => exact ⟨j + 1, by omega, by go_num, HC, own, o⟩
        case measure => simp [intOf]; omega
    · have i1 : ¬ (j : Int) < (n : Int) := by omega
      obtain rfl : j = n := by omega
      go_wp2
      go_ret2
      exact ⟨_, rfl, own, o⟩
set_option maxHeartbeats 4000000 in
theorem rplus_no (A : Option Addr) (n c : Nat) (xs : List Nat) (A' : Option Addr) (c' : Nat) (ys : List Nat) (w : World) (hx : Reads w w.heap.size 2 A n (wcells xs)) (hy : Reads w w.heap.size 2 A' n (wcells ys)) (bx : ∀ i, momAt xs i < big) (by_ : ∀ i, momAt ys i < big) (hn : n ≤ 1000)
    (hf : fitB (sumT xs ys) n = false) : Calls Try.prog 44 #[.slice A n c, .slice A' n c'] w (fun e w' => e = .returned (.tuple #[.slice none 0 0, .bool false]) ∧ Below w.heap.size w w') := by
  have HR := Lib.hid hx
  have HR' := Lib.hid hy
  have HB := Lib.hid bx
  have HB' := Lib.hid by_
  have HF := Lib.hid hf
  obtain ⟨i0, hi0, iz0, iz1, iz2⟩ := info_parts info_wide
  clear hx hy bx by_ hf
  go_enter Try.func44, Try.ntmps44
  go_wp2
  go_loopw [6, 12] (fun v i wr => ∃ j : Nat, j ≤ n ∧ i = .int .i64 (j : Nat) ∧ RowKit.Hid (∀ e, e < j → sumT xs ys e < big) ∧ wr.ownsRow w.heap.size 35 2 v j (wcells (upto (sumT xs ys) j)) ∧ Below w.heap.size w wr) (fun _ i _ => n - (intOf i).toNat)
  case atStart => exact ⟨0, by omega, rfl, Lib.hid (fun e he => absurd he (by omega)), World.ownsRow_nil _ _ _ _, Below.refl _ _⟩
  case round =>
    obtain ⟨j, hj, rfl, HA, own, o⟩ := hrel
    by_cases hlt : j < n
    · have i1 : (j : Int) < (n : Int) := by omega
      have i2 : (0 : Int) ≤ (j : Int) := by omega
      obtain ⟨ad, rfl, hadb, mx⟩ := HR.out.mom (i := j) hlt
      obtain ⟨ad', rfl, hadb', my⟩ := HR'.out.mom (i := j) hlt
      have xb := HB.out j
      have yb := HB'.out j
      have hT : sumT xs ys j = momAt xs j + momAt ys j := rfl
      generalize momAt xs j = x at mx xb hT
      generalize momAt ys j = y at my yb hT
      have MX := Lib.hid mx
      have MY := Lib.hid my
      have HT := Lib.hid hT
      have HAB : RowKit.Hid ((ad.add (j * 2)).block < w.heap.size) := Lib.hid (by rw [block_of_add]; exact hadb)
      have HAB' : RowKit.Hid ((ad'.add (j * 2)).block < w.heap.size) := Lib.hid (by rw [block_of_add]; exact hadb')
      clear mx my hT
      by_cases hs : x + y < big
      · skip
        have PA := fun w => radd_fits x y xb yb hs w
        generalize hsu : x + y = s at PA hs
        have PA := Lib.hid PA
        have HS : RowKit.Hid (sumT xs ys j = s) := Lib.hid (by rw [HT.out]; exact hsu)
        have HC := Lib.hid (fun e (he : e < j + 1) => by
          rcases Nat.lt_or_ge e j with q | q
          · exact HA.out e q
          · rw [show e = j by omega, HS.out]; exact hs)
        clear hsu
        go_upto_region 5 with (fail)
        refine wp_region_free1 [0, 1, 2, 3, 4, 5, 6, 7, 8, 9, 11, 10] [11] [0, 1, 2, 3, 4, 5, 6, 7, 8, 9, 10, 12] (12, 35, #[.int .u64 0, .int .u64 0]) 8 13 (fun w' => Below wr.heap.size wr w') (by kernel_rfl) (by kernel_rfl) ⟨_, _, rfl, rfl, rfl, fun ρ w' => by go_simp⟩ rfl (by simp) (fun _ h => h.alloc h.size _) (fun _ _ d _ _ h => by cases d <;> exact h) ?_ ?_
        · exact (Below.refl _ _).drew
        (refine plan_pure ?_ rfl rfl (fun w' => ?_) ?_; rotate_left; (go_simp; try with_reducible rfl); simp only [Act.put, List.setIfInBounds_toArray, List.set_cons_zero, List.set_cons_succ])
        (refine plan_pure ?_ rfl rfl (fun w' => ?_) ?_; rotate_left; (go_simp; try with_reducible rfl); simp only [Act.put, List.setIfInBounds_toArray, List.set_cons_zero, List.set_cons_succ])
        (refine plan_pure ?_ rfl rfl (fun w' => ?_) ?_; rotate_left; (go_simp; try with_reducible rfl); simp only [Act.put, List.setIfInBounds_toArray, List.set_cons_zero, List.set_cons_succ])
        (refine plan_val ?_ rfl rfl rfl (fun w' hS => ?_) ?_; rotate_left; (obtain ⟨p0, p1⟩ := MX.out.below (o.trans (hS.mono o.size)) HAB.out; obtain ⟨q0, q1⟩ := MY.out.below (o.trans (hS.mono o.size)) HAB'.out; go_simp; try with_reducible rfl); simp only [Act.put, List.setIfInBounds_toArray, List.set_cons_zero, List.set_cons_succ])
        (refine plan_pure ?_ rfl rfl (fun w' => ?_) ?_; rotate_left; (go_simp; try with_reducible rfl); simp only [Act.put, List.setIfInBounds_toArray, List.set_cons_zero, List.set_cons_succ])
        (refine plan_pure ?_ rfl rfl (fun w' => ?_) ?_; rotate_left; (go_simp; try with_reducible rfl); simp only [Act.put, List.setIfInBounds_toArray, List.set_cons_zero, List.set_cons_succ])
        (refine plan_pure ?_ rfl rfl (fun w' => ?_) ?_; rotate_left; (go_simp; try with_reducible rfl); simp only [Act.put, List.setIfInBounds_toArray, List.set_cons_zero, List.set_cons_succ])
        (refine plan_val ?_ rfl rfl rfl (fun w' hS => ?_) ?_; rotate_left; (obtain ⟨p0, p1⟩ := MX.out.below (o.trans (hS.mono o.size)) HAB.out; obtain ⟨q0, q1⟩ := MY.out.below (o.trans (hS.mono o.size)) HAB'.out; go_simp; try with_reducible rfl); simp only [Act.put, List.setIfInBounds_toArray, List.set_cons_zero, List.set_cons_succ])
        refine plan_call (.tuple #[W s, .bool true]) 48 #[W x, W y] rfl rfl rfl (fun _ _ h hb => h.trans (hb.mono h.size)) (fun w' hS => by obtain ⟨p0, p1⟩ := MX.out.below (o.trans (hS.mono o.size)) HAB.out; obtain ⟨q0, q1⟩ := MY.out.below (o.trans (hS.mono o.size)) HAB'.out; go_simp) (fun w' hS => PA.out w') ?_
        simp only [Act.put, List.setIfInBounds_toArray, List.set_cons_zero, List.set_cons_succ]
        (refine plan_pure ?_ rfl rfl (fun w' => ?_) ?_; rotate_left; (go_simp; try with_reducible rfl); simp only [Act.put, List.setIfInBounds_toArray, List.set_cons_zero, List.set_cons_succ])
        (refine plan_pure ?_ rfl rfl (fun w' => ?_) ?_; rotate_left; (go_simp; try with_reducible rfl); simp only [Act.put, List.setIfInBounds_toArray, List.set_cons_zero, List.set_cons_succ])
        (refine plan_pure ?_ rfl rfl (fun w' => ?_) ?_; rotate_left; (go_simp; try with_reducible rfl); simp only [Act.put, List.setIfInBounds_toArray, List.set_cons_zero, List.set_cons_succ])
        refine plan_nil ?_
        intro g8 w3 L3 hr8 hg8
        simp only [List.drop_succ_cons, List.drop_zero]
        try simp only [Act.put, List.setIfInBounds_toArray, List.set_cons_zero, List.set_cons_succ]
        have hbl := own.lt
        have zo := o.size
        replace own := orow_keep own (fun g e => L3.block g (own.lt g e).2)
        replace o := o.trans (L3.mono o.size)
        clear L3
        obtain ⟨Q0, Q1, Qf0, Qf1⟩ := row_two hr8
        go_upto_region 6 with (fail)
        clear Q0 Q1 Qf0 Qf1
        replace own := orow_other (p := ⟨g8, 0, none⟩) own (fun e => by have := (hbl g8 e).2; omega) (.int .u64 (hi s))
        replace o := o.setCell (p := ⟨g8, 0, none⟩) (by show w.heap.size ≤ g8; omega) (.int .u64 (hi s))
        replace own := orow_other (p := ⟨g8, 1, none⟩) own (fun e => by have := (hbl g8 e).2; omega) (.int .u64 (lo s))
        replace o := o.setCell (p := ⟨g8, 1, none⟩) (by show w.heap.size ≤ g8; omega) (.int .u64 (lo s))
        have k2 := row_two_set (u := .int .u64 (hi s)) (v := .int .u64 (lo s)) hr8
        generalize ((w3.setCell ⟨g8, 0, none⟩ (.int .u64 (hi s))).setCell ⟨g8, 1, none⟩ (.int .u64 (lo s))) = w6 at own o k2 ⊢
        clear hr8
        obtain ⟨Q0, Q1, Qf0, Qf1⟩ := row_two k2
        have hbl := own.lt
        have OWN := Lib.hid own
        have zo := o.size
        clear own
        go_wp2_with (at_builtin; refine wpList_push rfl _ _ 22 rfl 35 i0 (.agg #[.int .u64 0, .int .u64 0]) 2 16 Try.underlying22 hi0 iz0 iz1 iz2 rfl (by decide) (w.heap.size) u6 j (wcells (upto (sumT xs ys) j)) rfl OWN.out #[.int .u64 (hi s), .int .u64 (lo s)] rfl rfl (by simp [Value.oneCell']) (by unfold maxLen; omega) (by omega) (by omega) ?_; intro g' c4 w9 own9 hg9 hat9 hgr9)
        have own : w9.ownsRow w.heap.size 35 2 (.slice (some ⟨g', 0, none⟩) (j + 1) c4) (j + 1) (wcells (upto (sumT xs ys) (j + 1))) := by
          rw [upto_succ, wcells_append, HS.out]
          exact own9.row hg9
        replace o := below_grown (o.alloc o.size (.cells #[.int .u64 (hi s), .int .u64 (lo s)] 35)) hgr9 (fun b e => by have := (hbl b e).1; omega) (by simp; omega)
        clear own9 hgr9 hat9 OWN k2
        go_wp2
        go_roundw
        case rel => exact ⟨j + 1, by omega, by go_num, HC, own, o⟩
        case measure => simp [intOf]; omega
      · skip
        have PA := Lib.hid (fun w => radd_over x y xb yb hs w)
        go_upto_region 5 with (fail)
        refine wp_region_free1 [0, 1, 2, 3, 4, 5, 6, 7, 8, 9, 11, 10] [11] [0, 1, 2, 3, 4, 5, 6, 7, 8, 9, 10, 12] (12, 35, #[.int .u64 0, .int .u64 0]) 8 13 (fun w' => Below wr.heap.size wr w') (by kernel_rfl) (by kernel_rfl) ⟨_, _, rfl, rfl, rfl, fun ρ w' => by go_simp⟩ rfl (by simp) (fun _ h => h.alloc h.size _) (fun _ _ d _ _ h => by cases d <;> exact h) ?_ ?_
        · exact (Below.refl _ _).drew
        (refine plan_pure ?_ rfl rfl (fun w' => ?_) ?_; rotate_left; (go_simp; try with_reducible rfl); simp only [Act.put, List.setIfInBounds_toArray, List.set_cons_zero, List.set_cons_succ])
        (refine plan_pure ?_ rfl rfl (fun w' => ?_) ?_; rotate_left; (go_simp; try with_reducible rfl); simp only [Act.put, List.setIfInBounds_toArray, List.set_cons_zero, List.set_cons_succ])
        (refine plan_pure ?_ rfl rfl (fun w' => ?_) ?_; rotate_left; (go_simp; try with_reducible rfl); simp only [Act.put, List.setIfInBounds_toArray, List.set_cons_zero, List.set_cons_succ])
        (refine plan_val ?_ rfl rfl rfl (fun w' hS => ?_) ?_; rotate_left; (obtain ⟨p0, p1⟩ := MX.out.below (o.trans (hS.mono o.size)) HAB.out; obtain ⟨q0, q1⟩ := MY.out.below (o.trans (hS.mono o.size)) HAB'.out; go_simp; try with_reducible rfl); simp only [Act.put, List.setIfInBounds_toArray, List.set_cons_zero, List.set_cons_succ])
        (refine plan_pure ?_ rfl rfl (fun w' => ?_) ?_; rotate_left; (go_simp; try with_reducible rfl); simp only [Act.put, List.setIfInBounds_toArray, List.set_cons_zero, List.set_cons_succ])
        (refine plan_pure ?_ rfl rfl (fun w' => ?_) ?_; rotate_left; (go_simp; try with_reducible rfl); simp only [Act.put, List.setIfInBounds_toArray, List.set_cons_zero, List.set_cons_succ])
        (refine plan_pure ?_ rfl rfl (fun w' => ?_) ?_; rotate_left; (go_simp; try with_reducible rfl); simp only [Act.put, List.setIfInBounds_toArray, List.set_cons_zero, List.set_cons_succ])
        (refine plan_val ?_ rfl rfl rfl (fun w' hS => ?_) ?_; rotate_left; (obtain ⟨p0, p1⟩ := MX.out.below (o.trans (hS.mono o.size)) HAB.out; obtain ⟨q0, q1⟩ := MY.out.below (o.trans (hS.mono o.size)) HAB'.out; go_simp; try with_reducible rfl); simp only [Act.put, List.setIfInBounds_toArray, List.set_cons_zero, List.set_cons_succ])
        refine plan_call (.tuple #[W 0, .bool false]) 48 #[W x, W y] rfl rfl rfl (fun _ _ h hb => h.trans (hb.mono h.size)) (fun w' hS => by obtain ⟨p0, p1⟩ := MX.out.below (o.trans (hS.mono o.size)) HAB.out; obtain ⟨q0, q1⟩ := MY.out.below (o.trans (hS.mono o.size)) HAB'.out; go_simp) (fun w' hS => PA.out w') ?_
        simp only [Act.put, List.setIfInBounds_toArray, List.set_cons_zero, List.set_cons_succ]
        (refine plan_pure ?_ rfl rfl (fun w' => ?_) ?_; rotate_left; (go_simp; try with_reducible rfl); simp only [Act.put, List.setIfInBounds_toArray, List.set_cons_zero, List.set_cons_succ])
        (refine plan_pure ?_ rfl rfl (fun w' => ?_) ?_; rotate_left; (go_simp; try with_reducible rfl); simp only [Act.put, List.setIfInBounds_toArray, List.set_cons_zero, List.set_cons_succ])
        (refine plan_pure ?_ rfl rfl (fun w' => ?_) ?_; rotate_left; (go_simp; try with_reducible rfl); simp only [Act.put, List.setIfInBounds_toArray, List.set_cons_zero, List.set_cons_succ])
        refine plan_nil ?_
        intro g8 w3 L3 hr8 hg8
        simp only [List.drop_succ_cons, List.drop_zero]
        try simp only [Act.put, List.setIfInBounds_toArray, List.set_cons_zero, List.set_cons_succ]
        have hbl := own.lt
        have zo := o.size
        replace own := orow_keep own (fun g e => L3.block g (own.lt g e).2)
        replace o := o.trans (L3.mono o.size)
        clear L3
        obtain ⟨Q0, Q1, Qf0, Qf1⟩ := row_two hr8
        go_upto_region 6 with (fail)
        clear Q0 Q1 Qf0 Qf1
        replace own := orow_other (p := ⟨g8, 0, none⟩) own (fun e => by have := (hbl g8 e).2; omega) (.int .u64 (hi 0))
        replace o := o.setCell (p := ⟨g8, 0, none⟩) (by show w.heap.size ≤ g8; omega) (.int .u64 (hi 0))
        replace own := orow_other (p := ⟨g8, 1, none⟩) own (fun e => by have := (hbl g8 e).2; omega) (.int .u64 (lo 0))
        replace o := o.setCell (p := ⟨g8, 1, none⟩) (by show w.heap.size ≤ g8; omega) (.int .u64 (lo 0))
        have k2 := row_two_set (u := .int .u64 (hi 0)) (v := .int .u64 (lo 0)) hr8
        generalize ((w3.setCell ⟨g8, 0, none⟩ (.int .u64 (hi 0))).setCell ⟨g8, 1, none⟩ (.int .u64 (lo 0))) = w6 at own o k2 ⊢
        clear hr8
        obtain ⟨Q0, Q1, Qf0, Qf1⟩ := row_two k2
        go_wp2
        go_ret2
        exact ⟨rfl, o⟩
    · have i1 : ¬ (j : Int) < (n : Int) := by omega
      obtain rfl : j = n := by omega
      exact absurd (fitB_yes HA.out) (by rw [HF.out]; decide)
set_option maxHeartbeats 4000000 in
set_option maxRecDepth 100000 in
theorem rpadd_main (p land now : Int) (A : Option Addr) (n c : Nat) (ms : List Nat) (v : Int) (w : World) (hin : PIn p land now A n c ms w) (hv : pvalE p land now ms = 0) (h0 : 0 ≤ v) (h1 : v ≤ 4096) : Calls Try.prog 17 #[.agg #[.int .i64 p, .int .i64 land, .int .i64 now, .slice A n c], .int .i64 v] w fun e w' => PRet (qadd p land now ms v) w e w' := by
  have P := fun w1 (hb : Below w.heap.size w w1) => rpval p land now A n c ms w1 (hin.below hb)
  rw [hv] at P
  have P := Lib.hid P
  obtain ⟨v1, v2, v3, v4, v5, v6, v7, _⟩ := of_pvalE hv
  have HV := Lib.hid hv
  have HR := Lib.hid hin
  have hl := hin.len
  have HL := Lib.hid hl
  have hn5 : n ≤ 5 := by omega
  have hn1 : 1 ≤ n := by omega
  obtain ⟨vn, rfl⟩ : ∃ vn : Nat, v = (vn : Int) := ⟨v.toNat, by omega⟩
  have hvn : vn ≤ 4096 := by omega
  obtain ⟨a1, a2⟩ := ageN_bound v5 v6 v4
  have ai := ageN_int v6
  generalize hav : ageN land now = av at a1 a2 ai
  have HAV := Lib.hid hav
  have ab' : av < big := by unfold big; omega
  have wa : IntKind.i64.wrap (now - land) = now - land := IntWalk.i64_in _ (by omega)
  have wb : IntKind.i64.wrap (now - land + 1) = now - land + 1 := IntWalk.i64_in _ (by omega)
  have wc : IntKind.u64.wrap (now - land + 1) = (av : Int) := by rw [IntWalk.u64_in _ (by omega)]; omega
  have wv : IntKind.u64.wrap (vn : Int) = (vn : Int) := IntWalk.u64_in _ (by omega)
  have PO := Lib.hid (fun w => rof vn (by omega) w)
  have nv : ¬ (vn : Int) < 0 := by omega
  obtain ⟨i0, hi0, iz0, iz1, iz2⟩ := info_parts info_wide
  clear hv hin hl ai hav
  go_enter Try.func17, Try.ntmps17
  go_wp2_with (first | (go_at_call 21; with_reducible refine (P.out _ (by (repeat (first | exact Below.refl _ _ | refine Below.setCell ?_ (by first | (simp; done) | (simp; omega) | omega) _ | refine Below.alloc ?_ (by first | (simp; done) | (simp; omega) | omega) _ | refine Below.drew ?_ | refine Below.trans ?_ (Below.mono (by assumption) (by first | (simp; done) | (simp; omega) | omega)))))).mono ?_; rintro e w1 ⟨rfl, hb1⟩; have hz1 := hb1.size; (try simp at hz1); have o1 : Below w.heap.size w w1 := (by (repeat (first | exact Below.refl _ _ | refine Below.setCell ?_ (by first | (simp; done) | (simp; omega) | omega) _ | refine Below.alloc ?_ (by first | (simp; done) | (simp; omega) | omega) _ | refine Below.drew ?_ | refine Below.trans ?_ (Below.mono (by assumption) (by first | (simp; done) | (simp; omega) | omega))))); have q1_0 : w.heap.size < w1.heap.size := (by omega); have r1_0 : Row w1 (w.heap.size) 24 #[.int .i64 p, .int .i64 land, .int .i64 now, .slice A n c] := row_call (by (repeat (first | assumption | (refine row_new ?_; (first | (simp; done) | omega)) | refine row_alloc ?_ _ | refine row_drew ?_ | refine row_call ?_ (by assumption)))) hb1; obtain ⟨c1_0a, c1_0b, c1_0c, c1_0d, f1_0a, f1_0b, f1_0c, f1_0d⟩ := row_four r1_0; have q1_1 : w.heap.size + 1 < w1.heap.size := (by omega); have r1_1 : Row w1 (w.heap.size + 1) 24 #[.int .i64 0, .int .i64 0, .int .i64 0, .slice none 0 0] := row_call (by (repeat (first | assumption | (refine row_new ?_; (first | (simp; done) | omega)) | refine row_alloc ?_ _ | refine row_drew ?_ | refine row_call ?_ (by assumption)))) hb1; obtain ⟨c1_1a, c1_1b, c1_1c, c1_1d, f1_1a, f1_1b, f1_1c, f1_1d⟩ := row_four r1_1) | (go_at_call 40; refine (rvalue_in _ (by omega) h1 _).mono ?_; rintro e w9 ⟨rfl, h9⟩; obtain rfl := h9.symm))
  have x := r1_0
  have y := r1_1
  have o := o1
  have zz : w.heap.size + 2 ≤ w1.heap.size := by omega
  clear r1_0 r1_1 o1 hb1 c1_0a c1_0b c1_0c c1_0d f1_0a f1_0b f1_0c f1_0d c1_1a c1_1b c1_1c c1_1d f1_1a f1_1b f1_1c f1_1d P
  go_loopw [7, 32] (fun v i wr => ∃ j : Nat, j ≤ n ∧ i = .int .i64 (j : Nat) ∧ wr.ownsRow (w.heap.size + 2) 35 2 v j (wcells (upto (powT av vn) j)) ∧ Row wr (w.heap.size) 24 #[.int .i64 p, .int .i64 land, .int .i64 now, .slice A n c] ∧ Row wr (w.heap.size + 1) 24 #[.int .i64 0, .int .i64 0, .int .i64 0, .slice none 0 0] ∧ Below w.heap.size w wr) (fun _ i _ => n - (intOf i).toNat)
  case atStart => exact ⟨0, by omega, rfl, World.ownsRow_nil _ _ _ _, x, y, o⟩
  case round =>
    clear x y o
    obtain ⟨j, hj, rfl, own, x, y, o⟩ := hrel
    obtain ⟨X0, X1, X2, X3, Xf0, Xf1, Xf2, Xf3⟩ := row_four x
    by_cases hlt : j < n
    · have i1 : (j : Int) < (n : Int) := by omega
      have i2 : (0 : Int) ≤ (j : Int) := by omega
      have PW := fun w => rpow_any av (by omega) (j : Int) (by omega) w
      rw [powIV_nat, powIB_nat, (pow_yes (powN_fits a2 (show j ≤ 4 by omega))).1, (pow_yes (powN_fits a2 (show j ≤ 4 by omega))).2] at PW
      have PM := fun w => rmul vn (powN av j) (by unfold big; omega) (powN_fits a2 (by omega)) w
      have ub := powT_fits a2 (show j ≤ 4 by omega) hvn
      have ub' : vn * powN av j < big := by rw [Nat.mul_comm]; exact ub
      rw [(mulV_yes ub').1, (mulV_yes ub').2, Nat.mul_comm vn] at PM
      have hT : powT av vn j = powN av j * vn := rfl
      generalize powN av j * vn = u at PM ub hT
      generalize powN av j = pj at PW PM
      have PW := Lib.hid PW
      have PM := Lib.hid PM
      have HT := Lib.hid hT
      clear hT ub'
      go_upto_region 11 with (first | (go_at_call 41; with_reducible refine (PW.out _).mono ?_; rintro e w1 ⟨rfl, hb1⟩; have hz1 := hb1.size; (try simp at hz1)))
      clear X0 X1 X2 X3 Xf0 Xf1 Xf2 Xf3
      replace own := orow_keep own (fun g e => hb1.block g (own.lt g e).2)
      replace x := row_call x hb1
      replace y := row_call y hb1
      replace o := o.trans (hb1.mono o.size)
      replace own := own.alloc (.cells #[.int .u64 (hi pj), .int .u64 (lo pj)] 35)
      replace x := row_alloc x (.cells #[.int .u64 (hi pj), .int .u64 (lo pj)] 35)
      replace y := row_alloc y (.cells #[.int .u64 (hi pj), .int .u64 (lo pj)] 35)
      replace o := o.alloc o.size (.cells #[.int .u64 (hi pj), .int .u64 (lo pj)] 35)
      have k1 : Row (w1.alloc (.cells #[.int .u64 (hi pj), .int .u64 (lo pj)] 35)) w1.heap.size 35 #[.int .u64 (hi pj), .int .u64 (lo pj)] := row_new rfl
      generalize w1.alloc (.cells #[.int .u64 (hi pj), .int .u64 (lo pj)] 35) = w2 at own x y o k1 ⊢
      generalize w1.heap.size = b1 at k1 hz1 ⊢
      clear hb1
      refine wp_region_free1 [0, 1, 2, 3, 4, 5, 7, 6] [7] [0, 1, 2, 3, 4, 5, 6, 8] (8, 35, #[.int .u64 0, .int .u64 0]) 11 9 (fun w' => Below w2.heap.size w2 w') (by kernel_rfl) (by kernel_rfl) ⟨_, _, rfl, rfl, rfl, fun ρ w' => by go_simp⟩ rfl (by simp) (fun _ h => h.alloc h.size _) (fun _ _ d _ _ h => by cases d <;> exact h) ?_ ?_
      · exact (Below.refl _ _).drew
      (refine plan_pure ?_ rfl rfl (fun w' => ?_) ?_; rotate_left; (go_simp; try with_reducible rfl); simp only [Act.put, List.setIfInBounds_toArray, List.set_cons_zero, List.set_cons_succ])
      (refine plan_pure ?_ rfl rfl (fun w' => ?_) ?_; rotate_left; (go_simp; try with_reducible rfl); simp only [Act.put, List.setIfInBounds_toArray, List.set_cons_zero, List.set_cons_succ])
      refine plan_call (W vn) 43 #[.int .u64 (vn : Nat)] rfl rfl rfl (fun _ _ h hb => h.trans (hb.mono h.size)) (fun w' hS => by obtain ⟨Q0, Q1, Qf0, Qf1⟩ := row_two (row_call k1 hS); go_simp) (fun w' hS => PO.out w') ?_
      simp only [Act.put, List.setIfInBounds_toArray, List.set_cons_zero, List.set_cons_succ]
      (refine plan_val ?_ rfl rfl rfl (fun w' hS => ?_) ?_; rotate_left; (obtain ⟨Q0, Q1, Qf0, Qf1⟩ := row_two (row_call k1 hS); go_simp; try with_reducible rfl); simp only [Act.put, List.setIfInBounds_toArray, List.set_cons_zero, List.set_cons_succ])
      refine plan_call (.tuple #[W u, .bool true]) 42 #[W vn, W pj] rfl rfl rfl (fun _ _ h hb => h.trans (hb.mono h.size)) (fun w' hS => by obtain ⟨Q0, Q1, Qf0, Qf1⟩ := row_two (row_call k1 hS); go_simp) (fun w' hS => PM.out w') ?_
      simp only [Act.put, List.setIfInBounds_toArray, List.set_cons_zero, List.set_cons_succ]
      (refine plan_pure ?_ rfl rfl (fun w' => ?_) ?_; rotate_left; (go_simp; try with_reducible rfl); simp only [Act.put, List.setIfInBounds_toArray, List.set_cons_zero, List.set_cons_succ])
      (refine plan_pure ?_ rfl rfl (fun w' => ?_) ?_; rotate_left; (go_simp; try with_reducible rfl); simp only [Act.put, List.setIfInBounds_toArray, List.set_cons_zero, List.set_cons_succ])
      (refine plan_pure ?_ rfl rfl (fun w' => ?_) ?_; rotate_left; (go_simp; try with_reducible rfl); simp only [Act.put, List.setIfInBounds_toArray, List.set_cons_zero, List.set_cons_succ])
      refine plan_nil ?_
      intro g8 w3 L3 hr8 hg8
      simp only [List.drop_succ_cons, List.drop_zero]
      try simp only [Act.put, List.setIfInBounds_toArray, List.set_cons_zero, List.set_cons_succ]
      have hbl := own.lt
      have zk1 := row_lt k1
      have zx := row_lt x
      have zy := row_lt y
      have zo := o.size
      replace own := orow_keep own (fun g e => L3.block g (own.lt g e).2)
      replace x := row_call x L3
      replace y := row_call y L3
      replace o := o.trans (L3.mono o.size)
      clear k1 L3
      obtain ⟨Q0, Q1, Qf0, Qf1⟩ := row_two hr8
      go_upto_region 12 with (fail)
      clear Q0 Q1 Qf0 Qf1
      replace own := orow_other (p := ⟨g8, 0, none⟩) own (fun e => by have := (hbl g8 e).2; omega) (.int .u64 (hi u))
      replace x := row_other (p := ⟨g8, 0, none⟩) x (by show w.heap.size ≠ g8; omega) (.int .u64 (hi u))
      replace y := row_other (p := ⟨g8, 0, none⟩) y (by show w.heap.size + 1 ≠ g8; omega) (.int .u64 (hi u))
      replace o := o.setCell (p := ⟨g8, 0, none⟩) (by show w.heap.size ≤ g8; omega) (.int .u64 (hi u))
      replace own := orow_other (p := ⟨g8, 1, none⟩) own (fun e => by have := (hbl g8 e).2; omega) (.int .u64 (lo u))
      replace x := row_other (p := ⟨g8, 1, none⟩) x (by show w.heap.size ≠ g8; omega) (.int .u64 (lo u))
      replace y := row_other (p := ⟨g8, 1, none⟩) y (by show w.heap.size + 1 ≠ g8; omega) (.int .u64 (lo u))
      replace o := o.setCell (p := ⟨g8, 1, none⟩) (by show w.heap.size ≤ g8; omega) (.int .u64 (lo u))
      have k2 := row_two_set (u := .int .u64 (hi u)) (v := .int .u64 (lo u)) hr8
      generalize ((w3.setCell ⟨g8, 0, none⟩ (.int .u64 (hi u))).setCell ⟨g8, 1, none⟩ (.int .u64 (lo u))) = w6 at own x y o k2 ⊢
      clear hr8 zk1 zx zy zo hbl
      obtain ⟨Q0, Q1, Qf0, Qf1⟩ := row_two k2
      have hbl := own.lt
      have OWN := Lib.hid own
      have zo := o.size
      have zy := row_lt y
      clear own
      go_wp2_with (at_builtin; refine wpList_push rfl _ _ 22 rfl 35 i0 (.agg #[.int .u64 0, .int .u64 0]) 2 16 Try.underlying22 hi0 iz0 iz1 iz2 rfl (by decide) (w.heap.size + 2) u7 j (wcells (upto (powT av vn) j)) rfl OWN.out #[.int .u64 (hi u), .int .u64 (lo u)] rfl rfl (by simp [Value.oneCell']) (by unfold maxLen; omega) (by omega) (by omega) ?_; intro g' c4 w9 own9 hg9 hat9 hgr9)
      have own : w9.ownsRow (w.heap.size + 2) 35 2 (.slice (some ⟨g', 0, none⟩) (j + 1) c4) (j + 1) (wcells (upto (powT av vn) (j + 1))) := by
        rw [upto_succ, wcells_append, HT.out]
        exact own9.row hg9
      replace x := row_grown (row_alloc x (.cells #[.int .u64 (hi u), .int .u64 (lo u)] 35)) hgr9 (fun e => by have := (hbl _ e).1; omega)
      replace y := row_grown (row_alloc y (.cells #[.int .u64 (hi u), .int .u64 (lo u)] 35)) hgr9 (fun e => by have := (hbl _ e).1; omega)
      replace o := below_grown (o.alloc o.size (.cells #[.int .u64 (hi u), .int .u64 (lo u)] 35)) hgr9 (fun b e => by have := (hbl b e).1; omega) (by simp; omega)
      clear own9 hgr9 hat9 OWN k2 zo zy
      go_wp2
      go_roundw
      case rel => exact ⟨j + 1, by omega, by go_num, own, x, y, o⟩
      case measure => simp [intOf]; omega
    · have i1 : ¬ (j : Int) < (n : Int) := by omega
      obtain rfl : j = n := by omega
      have SC := sum_congr (xs := ms) (ys := upto (powT av vn) j) (f := padT av vn ms) (n := j) (fun e he => by unfold sumT padT; rw [upto_at he])
      have BP : ∀ i, momAt (upto (powT av vn) j) i < big := upto_big (fun e he => powT_fits a2 (by omega) hvn)
      obtain ⟨A2, c2, rfl, rd2, nc2, cm2, fr2⟩ := orow_forms own
      have rdx := (HR.out.reads.below o).more o.size
      rcases fitB_two (padT av vn ms) j with hs | hs
      · have E := Lib.hid (qadd_ok HV.out h0 h1 (by rw [Int.toNat_natCast, HAV.out, HL.out]; exact hs))
        have PP := rplus_ok A j c ms A2 c2 (upto (powT av vn) j) wr rdx rd2 HR.out.mB BP (by omega) (by rw [SC.2]; exact hs)
        rw [SC.1] at PP
        have PP := Lib.hid PP
        have HS := Lib.hid hs
        clear own rd2 rdx hs SC BP
        go_wp2_with (go_at_call 44; refine PP.out.mono ?_; rintro e w3 ⟨v3, rfl, own3, hb3⟩; obtain ⟨A3, c3, rfl, rd3, nc3, cm3, fr3⟩ := orow_forms own3; have x3 := row_call x hb3; have y3 := row_call y hb3; have o3 := o.trans (hb3.mono o.size); obtain ⟨R0, R1, R2, R3, Rf0, Rf1, Rf2, Rf3⟩ := row_four x3; obtain ⟨Y0, Y1, Y2, Y3, Yf0, Yf1, Yf2, Yf3⟩ := row_four y3)
        have zr := row_lt y
        have pi : PIn p land now A3 j c3 (upto (padT av vn ms) j) w3 := ⟨rd3, by omega, by omega, by omega, upto_big (fun e he => of_fitB HS.out he), nc3, cm3⟩
        have fa : ∀ a, A3 = some a → w.heap.size + 2 ≤ a.block ∧ a.block < w3.heap.size := fun a e => by have := fr3 a e; omega
        have pi := (pi.other (q := ⟨w.heap.size, 3, none⟩) (fun a e => by have := fa a e; show a.block ≠ w.heap.size; omega) (.slice A3 j c3)).row (b := w.heap.size + 1) (fun a e => by have := fa a e; omega) (.int .i64 p) (.int .i64 land) (.int .i64 now) (.slice A3 j c3)
        have ob := below_four (b := w.heap.size + 1) (o3.setCell (p := ⟨w.heap.size, 3, none⟩) (by simp) (.slice A3 j c3)) (by omega) (.int .i64 p) (.int .i64 land) (.int .i64 now) (.slice A3 j c3)
        exact bodyPost_ret (v := .tuple #[.agg #[.int .i64 p, .int .i64 land, .int .i64 now, .slice A3 j c3], .int .i64 0]) (by simp [results, Try.results17, go_sem, Y0, Y1, Y2, Y3]) rfl (by rw [E.out, Int.toNat_natCast, HAV.out, HL.out]; exact ⟨A3, j, c3, rfl, pi, ob, fun a e => by have := fa a e; exact ⟨by omega, by simp; omega⟩⟩)
      · have E := Lib.hid (qadd_over HV.out h0 h1 (by rw [Int.toNat_natCast, HAV.out, HL.out]; exact hs))
        have PP := Lib.hid (rplus_no A j c ms A2 c2 (upto (powT av vn) j) wr rdx rd2 HR.out.mB BP (by omega) (by rw [SC.2]; exact hs))
        clear own rd2 rdx hs SC BP
        go_wp2_with (go_at_call 44; refine PP.out.mono ?_; rintro e w3 ⟨rfl, hb3⟩; have x3 := row_call x hb3; have y3 := row_call y hb3; have o3 := o.trans (hb3.mono o.size); obtain ⟨R0, R1, R2, R3, Rf0, Rf1, Rf2, Rf3⟩ := row_four x3; obtain ⟨Y0, Y1, Y2, Y3, Yf0, Yf1, Yf2, Yf3⟩ := row_four y3)
        exact bodyPost_ret (v := .tuple #[.agg #[.int .i64 0, .int .i64 0, .int .i64 0, .slice none 0 0], .int .i64 6]) (by simp [results, Try.results17, go_sem, Y0, Y1, Y2, Y3]) rfl (by rw [E.out]; exact pret_zero (by (repeat (first | exact Below.refl _ _ | refine Below.setCell ?_ (by first | (simp; done) | (simp; omega) | omega) _ | refine Below.alloc ?_ (by first | (simp; done) | (simp; omega) | omega) _ | refine Below.drew ?_ | refine Below.trans ?_ (Below.mono (by assumption) (by first | (simp; done) | (simp; omega) | omega))))))
theorem rpadd (p land now : Int) (A : Option Addr) (n c : Nat) (ms : List Nat) (v : Int) (w : World) (hin : PIn p land now A n c ms w) : Calls Try.prog 17 #[.agg #[.int .i64 p, .int .i64 land, .int .i64 now, .slice A n c], .int .i64 v] w fun e w' => PRet (qadd p land now ms v) w e w' := by
  rcases pvalE_two (p := p) (land := land) (now := now) (ms := ms) with hv | hv
  · by_cases h0 : v < 0
    · exact rpadd_low p land now A n c ms v w hin hv h0
    · by_cases h1 : 4096 < v
      · exact rpadd_high p land now A n c ms v w hin hv h1
      · exact rpadd_main p land now A n c ms v w hin hv (by omega) (by omega)
  · exact rpadd_bad p land now A n c ms v w hin hv
end Go.Proofs.Ytejoomlaanmbkaa
