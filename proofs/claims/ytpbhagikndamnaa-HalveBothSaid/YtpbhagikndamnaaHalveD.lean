/- Counters that halve: the empty counter, two counters compared, the counter of the items of two, walked. -/
import Derived.Test.YtpbhagikndamnaaHalveC
import Derived.Test.YtpbhagikndamnaaMathHalve3
namespace Go.Proofs.Ytpbhagikndamnaa
open Go.RowKit Go.Shelf
theorem phnew_a0 (a now : Int) (w : World) (h0 : a < 1) : Calls Try.prog 9 #[.int .i64 a, .int .i64 now] w fun e w' => HRet (hnew a now) w e w' := by
  rw [hnew_no (by omega)]
  go_enter Try.func9, Try.ntmps9
  go_wp2_with fail
  exact bodyPost_ret (v := .tuple #[.agg #[.int .i64 0, .slice none 0 0], .int .i64 1]) (by simp [results, Try.results9, go_sem, List.getElem?_toArray]) rfl (hret_zero (by (repeat (first | exact Below.refl _ _ | refine Below.setCell ?_ (by first | (simp; done) | (simp; omega) | omega) _ | refine Below.alloc ?_ (by first | (simp; done) | (simp; omega) | omega) _ | refine Below.drew ?_ | refine Below.trans ?_ (Below.mono (by assumption) (by first | (simp; done) | (simp; omega) | omega))))))
theorem phnew_a1 (a now : Int) (w : World) (h0 : 1 ≤ a) (h1 : 64 < a) : Calls Try.prog 9 #[.int .i64 a, .int .i64 now] w fun e w' => HRet (hnew a now) w e w' := by
  rw [hnew_no (by omega)]
  go_enter Try.func9, Try.ntmps9
  go_wp2_with fail
  exact bodyPost_ret (v := .tuple #[.agg #[.int .i64 0, .slice none 0 0], .int .i64 1]) (by simp [results, Try.results9, go_sem, List.getElem?_toArray]) rfl (hret_zero (by (repeat (first | exact Below.refl _ _ | refine Below.setCell ?_ (by first | (simp; done) | (simp; omega) | omega) _ | refine Below.alloc ?_ (by first | (simp; done) | (simp; omega) | omega) _ | refine Below.drew ?_ | refine Below.trans ?_ (Below.mono (by assumption) (by first | (simp; done) | (simp; omega) | omega))))))
theorem phnew_n0 (a now : Int) (w : World) (h0 : 1 ≤ a) (h1 : a ≤ 64) (h2 : now < 0) : Calls Try.prog 9 #[.int .i64 a, .int .i64 now] w fun e w' => HRet (hnew a now) w e w' := by
  rw [hnew_no (by omega)]
  go_enter Try.func9, Try.ntmps9
  go_wp2_with fail
  exact bodyPost_ret (v := .tuple #[.agg #[.int .i64 0, .slice none 0 0], .int .i64 1]) (by simp [results, Try.results9, go_sem, List.getElem?_toArray]) rfl (hret_zero (by (repeat (first | exact Below.refl _ _ | refine Below.setCell ?_ (by first | (simp; done) | (simp; omega) | omega) _ | refine Below.alloc ?_ (by first | (simp; done) | (simp; omega) | omega) _ | refine Below.drew ?_ | refine Below.trans ?_ (Below.mono (by assumption) (by first | (simp; done) | (simp; omega) | omega))))))
theorem phnew_n1 (a now : Int) (w : World) (h0 : 1 ≤ a) (h1 : a ≤ 64) (h2 : 16777216 < now) : Calls Try.prog 9 #[.int .i64 a, .int .i64 now] w fun e w' => HRet (hnew a now) w e w' := by
  rw [hnew_no (by omega)]
  have h3 : 0 ≤ now := by omega
  go_enter Try.func9, Try.ntmps9
  go_wp2_with fail
  exact bodyPost_ret (v := .tuple #[.agg #[.int .i64 0, .slice none 0 0], .int .i64 1]) (by simp [results, Try.results9, go_sem, List.getElem?_toArray]) rfl (hret_zero (by (repeat (first | exact Below.refl _ _ | refine Below.setCell ?_ (by first | (simp; done) | (simp; omega) | omega) _ | refine Below.alloc ?_ (by first | (simp; done) | (simp; omega) | omega) _ | refine Below.drew ?_ | refine Below.trans ?_ (Below.mono (by assumption) (by first | (simp; done) | (simp; omega) | omega))))))
theorem phnew_ok (a now : Int) (w : World) (h0 : 1 ≤ a) (h1 : a ≤ 64) (h2 : 0 ≤ now) (h3 : now ≤ 16777216) : Calls Try.prog 9 #[.int .i64 a, .int .i64 now] w fun e w' => HRet (hnew a now) w e w' := by
  rw [hnew_yes h0 h1 h2 h3]
  obtain ⟨n, rfl⟩ : ∃ n : Nat, a = (n : Int) := ⟨a.toNat, by omega⟩
  obtain ⟨i0, hi, iz0, iz1, iz2⟩ := info_parts info_i64
  obtain ⟨w2, hmk, own2, hb2⟩ := make_vec (w.alloc (.cells #[.int .i64 0, .slice none 0 0] 24)) Try.underlying22 hi iz0 iz1 iz2 rfl .i64 .i64 n (by omega) (by unfold maxLen; omega)
  have hz2 := hb2.size
  simp at hz2
  have o2 : Below w.heap.size w w2 := ((Below.refl _ _).alloc (Nat.le_refl _) _).trans (hb2.mono (by simp))
  have r2 : Row w2 w.heap.size 24 #[.int .i64 0, .slice none 0 0] := row_call (row_new rfl) hb2
  obtain ⟨X0, X1, X2, X3⟩ := row_two r2
  have n1 : (1 : Int) ≤ (n : Int) := h0
  have n2 : n ≤ 64 := by omega
  have OW := Lib.hid own2
  clear own2 h0
  go_enter Try.func9, Try.ntmps9
  go_wp2_with fail
  have ow := (OW.out.other (by simp) (.int .i64 now) (p := ⟨w.heap.size, 0, none⟩)).other (by simp) (.slice (some ⟨w.heap.size + 1, 0, none⟩) n n) (p := ⟨w.heap.size, 1, none⟩)
  rw [World.size_alloc] at ow
  rw [show List.replicate n (Value.int .i64 0) = (List.replicate (n : Int).toNat (0 : Int)).map (Value.int .i64) from by simp] at ow
  exact bodyPost_ret (v := .tuple #[.agg #[.int .i64 now, .slice (some ⟨w.heap.size + 1, 0, none⟩) n n], .int .i64 0]) (by simp [results, Try.results9, go_sem, X0, X1]) rfl (hret_own ow ⟨by omega, by omega⟩ (fun k => by simp only [List.getD_eq_getElem?_getD, List.getElem?_replicate]; split <;> exact ⟨by decide, by decide⟩) (by (repeat (first | exact Below.refl _ _ | refine Below.setCell ?_ (by first | (simp; done) | (simp; omega) | omega) _ | refine Below.alloc ?_ (by first | (simp; done) | (simp; omega) | omega) _ | refine Below.drew ?_ | refine Below.trans ?_ (Below.mono (by assumption) (by first | (simp; done) | (simp; omega) | omega))))) (by first | omega | (simp; done) | (simp; omega)))
theorem phnew (a now : Int) (w : World) : Calls Try.prog 9 #[.int .i64 a, .int .i64 now] w fun e w' => HRet (hnew a now) w e w' := by
  by_cases h0 : a < 1
  · exact phnew_a0 a now w h0
  · by_cases h1 : 64 < a
    · exact phnew_a1 a now w (by omega) h1
    · by_cases h2 : now < 0
      · exact phnew_n0 a now w (by omega) (by omega) h2
      · by_cases h3 : 16777216 < now
        · exact phnew_n1 a now w (by omega) (by omega) h3
        · exact phnew_ok a now w (by omega) (by omega) (by omega) (by omega)
theorem rhnew_a0 (a now : Int) (w : World) (h0 : a < 1) : Calls Try.prog 10 #[.int .i64 a, .int .i64 now] w fun e w' => HRet (hnew a now) w e w' := by
  rw [hnew_no (by omega)]
  go_enter Try.func10, Try.ntmps10
  go_wp2_with fail
  exact bodyPost_ret (v := .tuple #[.agg #[.int .i64 0, .slice none 0 0], .int .i64 1]) (by simp [results, Try.results10, go_sem, List.getElem?_toArray]) rfl (hret_zero (by (repeat (first | exact Below.refl _ _ | refine Below.setCell ?_ (by first | (simp; done) | (simp; omega) | omega) _ | refine Below.alloc ?_ (by first | (simp; done) | (simp; omega) | omega) _ | refine Below.drew ?_ | refine Below.trans ?_ (Below.mono (by assumption) (by first | (simp; done) | (simp; omega) | omega))))))
theorem rhnew_a1 (a now : Int) (w : World) (h0 : 1 ≤ a) (h1 : 64 < a) : Calls Try.prog 10 #[.int .i64 a, .int .i64 now] w fun e w' => HRet (hnew a now) w e w' := by
  rw [hnew_no (by omega)]
  go_enter Try.func10, Try.ntmps10
  go_wp2_with fail
  exact bodyPost_ret (v := .tuple #[.agg #[.int .i64 0, .slice none 0 0], .int .i64 1]) (by simp [results, Try.results10, go_sem, List.getElem?_toArray]) rfl (hret_zero (by (repeat (first | exact Below.refl _ _ | refine Below.setCell ?_ (by first | (simp; done) | (simp; omega) | omega) _ | refine Below.alloc ?_ (by first | (simp; done) | (simp; omega) | omega) _ | refine Below.drew ?_ | refine Below.trans ?_ (Below.mono (by assumption) (by first | (simp; done) | (simp; omega) | omega))))))
theorem rhnew_n0 (a now : Int) (w : World) (h0 : 1 ≤ a) (h1 : a ≤ 64) (h2 : now < 0) : Calls Try.prog 10 #[.int .i64 a, .int .i64 now] w fun e w' => HRet (hnew a now) w e w' := by
  rw [hnew_no (by omega)]
  go_enter Try.func10, Try.ntmps10
  go_wp2_with (go_at_call 29; refine (rtick_neg _ h2 _).mono ?_; rintro e w9 ⟨rfl, rfl⟩)
  exact bodyPost_ret (v := .tuple #[.agg #[.int .i64 0, .slice none 0 0], .int .i64 1]) (by simp [results, Try.results10, go_sem, List.getElem?_toArray]) rfl (hret_zero (by (repeat (first | exact Below.refl _ _ | refine Below.setCell ?_ (by first | (simp; done) | (simp; omega) | omega) _ | refine Below.alloc ?_ (by first | (simp; done) | (simp; omega) | omega) _ | refine Below.drew ?_ | refine Below.trans ?_ (Below.mono (by assumption) (by first | (simp; done) | (simp; omega) | omega))))))
theorem rhnew_n1 (a now : Int) (w : World) (h0 : 1 ≤ a) (h1 : a ≤ 64) (h2 : 16777216 < now) : Calls Try.prog 10 #[.int .i64 a, .int .i64 now] w fun e w' => HRet (hnew a now) w e w' := by
  rw [hnew_no (by omega)]
  have h3 : 0 ≤ now := by omega
  go_enter Try.func10, Try.ntmps10
  go_wp2_with (go_at_call 29; refine (rtick_late _ h2 _).mono ?_; rintro e w9 ⟨rfl, rfl⟩)
  exact bodyPost_ret (v := .tuple #[.agg #[.int .i64 0, .slice none 0 0], .int .i64 1]) (by simp [results, Try.results10, go_sem, List.getElem?_toArray]) rfl (hret_zero (by (repeat (first | exact Below.refl _ _ | refine Below.setCell ?_ (by first | (simp; done) | (simp; omega) | omega) _ | refine Below.alloc ?_ (by first | (simp; done) | (simp; omega) | omega) _ | refine Below.drew ?_ | refine Below.trans ?_ (Below.mono (by assumption) (by first | (simp; done) | (simp; omega) | omega))))))
theorem rhnew_ok (a now : Int) (w : World) (h0 : 1 ≤ a) (h1 : a ≤ 64) (h2 : 0 ≤ now) (h3 : now ≤ 16777216) : Calls Try.prog 10 #[.int .i64 a, .int .i64 now] w fun e w' => HRet (hnew a now) w e w' := by
  rw [hnew_yes h0 h1 h2 h3]
  obtain ⟨n, rfl⟩ : ∃ n : Nat, a = (n : Int) := ⟨a.toNat, by omega⟩
  obtain ⟨i0, hi, iz0, iz1, iz2⟩ := info_parts info_i64
  obtain ⟨w2, hmk, own2, hb2⟩ := make_vec (w.alloc (.cells #[.int .i64 0, .slice none 0 0] 24)) Try.underlying22 hi iz0 iz1 iz2 rfl .i64 .i64 n (by omega) (by unfold maxLen; omega)
  have hz2 := hb2.size
  simp at hz2
  have o2 : Below w.heap.size w w2 := ((Below.refl _ _).alloc (Nat.le_refl _) _).trans (hb2.mono (by simp))
  have r2 : Row w2 w.heap.size 24 #[.int .i64 0, .slice none 0 0] := row_call (row_new rfl) hb2
  obtain ⟨X0, X1, X2, X3⟩ := row_two r2
  have n1 : (1 : Int) ≤ (n : Int) := h0
  have n2 : n ≤ 64 := by omega
  have OW := Lib.hid own2
  clear own2 h0
  go_enter Try.func10, Try.ntmps10
  go_wp2_with (go_at_call 29; refine (rtick_yes _ h2 h3 _).mono ?_; rintro e w9 ⟨rfl, rfl⟩)
  have ow := (OW.out.other (by simp) (.int .i64 now) (p := ⟨w.heap.size, 0, none⟩)).other (by simp) (.slice (some ⟨w.heap.size + 1, 0, none⟩) n n) (p := ⟨w.heap.size, 1, none⟩)
  rw [World.size_alloc] at ow
  rw [show List.replicate n (Value.int .i64 0) = (List.replicate (n : Int).toNat (0 : Int)).map (Value.int .i64) from by simp] at ow
  exact bodyPost_ret (v := .tuple #[.agg #[.int .i64 now, .slice (some ⟨w.heap.size + 1, 0, none⟩) n n], .int .i64 0]) (by simp [results, Try.results10, go_sem, X0, X1]) rfl (hret_own ow ⟨by omega, by omega⟩ (fun k => by simp only [List.getD_eq_getElem?_getD, List.getElem?_replicate]; split <;> exact ⟨by decide, by decide⟩) (by (repeat (first | exact Below.refl _ _ | refine Below.setCell ?_ (by first | (simp; done) | (simp; omega) | omega) _ | refine Below.alloc ?_ (by first | (simp; done) | (simp; omega) | omega) _ | refine Below.drew ?_ | refine Below.trans ?_ (Below.mono (by assumption) (by first | (simp; done) | (simp; omega) | omega))))) (by first | omega | (simp; done) | (simp; omega)))
theorem rhnew (a now : Int) (w : World) : Calls Try.prog 10 #[.int .i64 a, .int .i64 now] w fun e w' => HRet (hnew a now) w e w' := by
  by_cases h0 : a < 1
  · exact rhnew_a0 a now w h0
  · by_cases h1 : 64 < a
    · exact rhnew_a1 a now w (by omega) h1
    · by_cases h2 : now < 0
      · exact rhnew_n0 a now w (by omega) (by omega) h2
      · by_cases h3 : 16777216 < now
        · exact rhnew_n1 a now w (by omega) (by omega) h3
        · exact rhnew_ok a now w (by omega) (by omega) (by omega) (by omega)
set_option maxHeartbeats 1000000 in
theorem rsamenum (A A' : Option Addr) (n c c' : Nat) (zs : List Int) (w : World) (hr : Reads w w.heap.size 1 A n (zs.map (Value.int .i64))) (hr' : Reads w w.heap.size 1 A' n (zs.map (Value.int .i64))) (hn : n ≤ 9223372036854775807) :
    Calls Try.prog 30 #[.slice A n c, .slice A' n c'] w fun e w' => e = .returned (.bool true) ∧ Below w.heap.size w w' := by
  have HR := Lib.hid hr
  have HR' := Lib.hid hr'
  clear hr hr'
  go_enter Try.func30, Try.ntmps30
  go_wp2
  go_loopw [13] (fun i wr => ∃ k : Nat, k ≤ n ∧ i = .int .i64 (k : Nat) ∧ Below w.heap.size w wr) (fun i _ => n - (intOf i).toNat)
  case atStart => exact ⟨0, by omega, rfl, Below.refl _ _⟩
  case round =>
    obtain ⟨k, hk, rfl, hb⟩ := hrel
    by_cases hlt : k < n
    · obtain ⟨ad, rfl, hadb, hc⟩ := HR.out.num hlt
      obtain ⟨ad', rfl, hadb', hc'⟩ := HR'.out.num hlt
      have g1 := (hb.cell (by rw [block_of_add]; exact hadb)).trans hc
      have g2 := (hb.cell (by rw [block_of_add]; exact hadb')).trans hc'
      generalize zs.getD k 0 = z at hc hc' g1 g2
      have i1 : (k : Int) < (n : Int) := by omega
      have i2 : (0 : Int) ≤ (k : Int) := by omega
      go_upto_region 6 with (fail)
      have L : wr.cell? (ad.add k) = some (.int .i64 z) ∧ wr.cell? (ad'.add k) = some (.int .i64 z) ∧ Below w.heap.size w wr := ⟨g1, g2, hb⟩
      clear g1 g2 hc hc'
      refine wp_region_free0 [0, 1, 2, 4, 5, 6, 3, 7] [] [0, 1, 2, 3, 4, 5, 6, 7] 8 (fun w' => w'.cell? (ad.add k) = some (.int .i64 z) ∧ w'.cell? (ad'.add k) = some (.int .i64 z) ∧ Below w.heap.size w w') (by kernel_rfl) (by kernel_rfl) (fun _ _ d _ _ h => by cases d <;> exact h) ?_ ?_
      · exact ⟨L.1, L.2.1, L.2.2.drew⟩
      (refine plan_pure ?_ rfl rfl (fun w' => ?_) ?_; rotate_left; (go_simp; try with_reducible rfl); simp only [Act.put, List.setIfInBounds_toArray, List.set_cons_zero, List.set_cons_succ])
      (refine plan_pure ?_ rfl rfl (fun w' => ?_) ?_; rotate_left; (go_simp; try with_reducible rfl); simp only [Act.put, List.setIfInBounds_toArray, List.set_cons_zero, List.set_cons_succ])
      (refine plan_pure ?_ rfl rfl (fun w' => ?_) ?_; rotate_left; (go_simp; try with_reducible rfl); simp only [Act.put, List.setIfInBounds_toArray, List.set_cons_zero, List.set_cons_succ])
      (refine plan_pure ?_ rfl rfl (fun w' => ?_) ?_; rotate_left; (go_simp; try with_reducible rfl); simp only [Act.put, List.setIfInBounds_toArray, List.set_cons_zero, List.set_cons_succ])
      (refine plan_pure ?_ rfl rfl (fun w' => ?_) ?_; rotate_left; (go_simp; try with_reducible rfl); simp only [Act.put, List.setIfInBounds_toArray, List.set_cons_zero, List.set_cons_succ])
      (refine plan_pure ?_ rfl rfl (fun w' => ?_) ?_; rotate_left; (go_simp; try with_reducible rfl); simp only [Act.put, List.setIfInBounds_toArray, List.set_cons_zero, List.set_cons_succ])
      (refine plan_val ?_ rfl rfl rfl (fun w' hS => ?_) ?_; rotate_left; (obtain ⟨g1, g2, _⟩ := hS; go_simp; try with_reducible rfl); simp only [Act.put, List.setIfInBounds_toArray, List.set_cons_zero, List.set_cons_succ])
      (refine plan_val ?_ rfl rfl rfl (fun w' hS => ?_) ?_; rotate_left; (obtain ⟨g1, g2, _⟩ := hS; go_simp; try with_reducible rfl); simp only [Act.put, List.setIfInBounds_toArray, List.set_cons_zero, List.set_cons_succ])
      refine plan_nil ?_
      intro w3 L3
      simp only [List.drop_succ_cons, List.drop_zero]
      try simp only [Act.put, List.setIfInBounds_toArray, List.set_cons_zero, List.set_cons_succ]

      have o3 := L3.2.2
      clear L3 L hb
      go_wp2
      go_roundw
      case rel => exact ⟨k + 1, by omega, by go_num, o3⟩
      case measure => simp [intOf]; omega
    · have i1 : ¬ (k : Int) < (n : Int) := by omega
      go_wp2
      go_ret
      exact ⟨rfl, hb⟩
theorem rhsame (now : Int) (A A' : Option Addr) (n c n' c' : Nat) (zs : List Int) (w : World) (h : HIn now A n c zs w) (h' : HIn now A' n' c' zs w) :
    Calls Try.prog 11 #[.agg #[.int .i64 now, .slice A n c], .agg #[.int .i64 now, .slice A' n' c']] w fun e w' => e = .returned (.bool true) ∧ Below w.heap.size w w' := by
  obtain rfl : n' = n := h'.len.symm.trans h.len
  have N := Lib.hid (fun w1 (hb : Below w.heap.size w w1) => rsamenum A A' n' c c' zs w1 ((h.reads.below hb).more hb.size) ((h'.reads.below hb).more hb.size) h.nB)
  clear h h'
  go_enter Try.func11, Try.ntmps11
  go_wp2_with (go_at_call 30; refine (N.out _ (by (repeat (first | exact Below.refl _ _ | refine Below.setCell ?_ (by first | (simp; done) | (simp; omega) | omega) _ | refine Below.alloc ?_ (by first | (simp; done) | (simp; omega) | omega) _ | refine Below.drew ?_ | refine Below.trans ?_ (Below.mono (by assumption) (by first | (simp; done) | (simp; omega) | omega)))))).mono ?_; rintro e w1 ⟨rfl, hb1⟩; have hz1 := hb1.size; (try simp at hz1))
  go_ret
  exact ⟨rfl, by (repeat (first | exact Below.refl _ _ | refine Below.setCell ?_ (by first | (simp; done) | (simp; omega) | omega) _ | refine Below.alloc ?_ (by first | (simp; done) | (simp; omega) | omega) _ | refine Below.drew ?_ | refine Below.trans ?_ (Below.mono (by assumption) (by first | (simp; done) | (simp; omega) | omega))))⟩
end Go.Proofs.Ytpbhagikndamnaa
