/- Reading decimal numerals, walked: the program and the reference. -/
import Derived.Test.YtoemccfpinonhaaPow
import Derived.Test.YtoemccfpinonhaaMathParse
import Derived.Laws.Strings
namespace Go.Proofs.Ytoemccfpinonhaa
open Go.RowKit Go.Shelf
theorem Wc_0 : Wc 0 = #[.int .u64 0, .int .u64 0] := by unfold Wc; rw [hi_0, lo_0]
theorem str_empty {s : ByteArray} (h : s.size = 0) : s = { data := #[] } := by
  obtain ⟨d⟩ := s
  have : d = #[] := by simpa [ByteArray.size] using h
  rw [this]
theorem str_full {s : ByteArray} (h : 0 < s.size) : s.toList.isEmpty = false := by
  rw [ByteArray.toList_eq]
  cases hl : s.data.toList with
  | nil =>
    have this : s.data.toList.length = s.size := Array.length_toList
    rw [hl, List.length_nil] at this
    omega
  | cons _ _ => rfl
theorem str_none {s : ByteArray} (h : s.size = 0) : s.toList.isEmpty = true := by
  rw [ByteArray.toList_eq, str_empty h]
  rfl
theorem chr_at {s : ByteArray} {k : Nat} (h : k < s.size) : s.data.toList.getD k 0 = s[k] := by
  have h' : k < s.data.toList.length := by simpa using h
  simp only [List.getD, List.getElem?_eq_getElem h', Option.getD_some]
  rfl
theorem str_len (s : ByteArray) : s.data.toList.length = s.size := Array.length_toList
theorem pparse_empty (s : ByteArray) (h : s.size = 0) (w : World) : Calls Try.prog 33 #[.string s] w fun e w' => e = .returned (.tuple #[W 0, .bool false]) ∧ Below w.heap.size w w' := by
  have e := str_none h
  clear h
  go_enter Try.func33, Try.ntmps33
  go_wp2
  simp [bodyPost, results, Try.results33, go_sem]
  refine ⟨⟨rfl, rfl⟩, ?_⟩
  (repeat (first | exact Below.refl _ _ | refine Below.setCell ?_ (by first | (simp; done) | (simp; omega) | omega) _ | refine Below.alloc ?_ (by first | (simp; done) | (simp; omega) | omega) _ | refine Below.drew ?_ | refine Below.trans ?_ (Below.mono (by assumption) (by first | (simp; done) | (simp; omega) | omega))))
theorem pparse_zero (s : ByteArray) (h1 : 1 < s.size) (h2 : s[0].toNat = 48) (hm : s.size ≤ 9223372036854775807) (w : World) : Calls Try.prog 33 #[.string s] w fun e w' => e = .returned (.tuple #[W 0, .bool false]) ∧ Below w.heap.size w w' := by
  have e := str_full (s := s) (by omega)
  have i1 : (1 : Int) < (s.size : Int) := by omega
  have i2 : ((s[0].toNat : Int) == 48) = true := by simp; omega
  have i3 : 0 < s.size := by omega
  clear h2
  go_enter Try.func33, Try.ntmps33
  go_wp2
  simp [bodyPost, results, Try.results33, go_sem]
  refine ⟨⟨rfl, rfl⟩, ?_⟩
  (repeat (first | exact Below.refl _ _ | refine Below.setCell ?_ (by first | (simp; done) | (simp; omega) | omega) _ | refine Below.alloc ?_ (by first | (simp; done) | (simp; omega) | omega) _ | refine Below.drew ?_ | refine Below.trans ?_ (Below.mono (by assumption) (by first | (simp; done) | (simp; omega) | omega))))
set_option maxHeartbeats 4000000 in
theorem pparse_main (s : ByteArray) (h0 : 0 < s.size) (h1 : ¬ (1 < s.size ∧ s.data.toList.getD 0 0 = 48)) (hm : s.size ≤ 9223372036854775807) (w : World) : Calls Try.prog 33 #[.string s] w fun e w' => e = .returned (.tuple #[W (parseV s.data.toList), .bool (parseOK s.data.toList)]) ∧ Below w.heap.size w w' := by
  have e := str_full (s := s) h0
  have HL := Lib.hid (str_len s)
  have HH := Lib.hid h1
  have i3 : (s.size : Int) ≤ 9223372036854775807 := by omega

  have K : ∀ Q : Prop, ((s.size : Int) ≤ 1 → Q) → ((1 : Int) < (s.size : Int) → ((s[0].toNat : Int) == 48) = false → Q) → Q := by
    intro Q q1 q2
    by_cases c : 1 < s.size
    · refine q2 (by omega) ?_
      have : s.data.toList.getD 0 0 ≠ 48 := fun x => h1 ⟨c, x⟩
      rw [chr_at h0] at this
      simp only [beq_eq_false_iff_ne, ne_eq]
      intro x
      exact this (by rw [← UInt8.toNat_inj]; have h48 : (48 : UInt8).toNat = 48 := rfl; omega)
    · exact q1 (by omega)
  clear h1 hm
  go_enter Try.func33, Try.ntmps33
  refine K _ (fun c => ?_) (fun c c' => ?_)
  all_goals
    clear K
    go_wp2_with fail
    have L : PowS w ((w.alloc (.cells #[.int .u64 0, .int .u64 0] 24)).alloc (.cells #[.int .u64 0, .int .u64 0] 24)) (w.heap.size + 1) 0 := ⟨by (repeat (first | assumption | (refine row_new ?_; (first | (simp; done) | omega)) | refine row_alloc ?_ _ | refine row_drew ?_ | refine row_call ?_ (by assumption))), by rw [Wc_0]; (repeat (first | assumption | (refine row_new ?_; (first | (simp; done) | omega)) | refine row_alloc ?_ _ | refine row_drew ?_ | refine row_call ?_ (by assumption))), by (repeat (first | exact Below.refl _ _ | refine Below.setCell ?_ (by first | (simp; done) | (simp; omega) | omega) _ | refine Below.alloc ?_ (by first | (simp; done) | (simp; omega) | omega) _ | refine Below.drew ?_ | refine Below.trans ?_ (Below.mono (by assumption) (by first | (simp; done) | (simp; omega) | omega))))⟩
    generalize ((w.alloc (.cells #[.int .u64 0, .int .u64 0] 24)).alloc (.cells #[.int .u64 0, .int .u64 0] 24)) = w2 at L ⊢
    clear e c
    try clear c'
    try clear i39
    go_loopw [5] (fun i wr => ∃ k n : Nat, k ≤ s.size ∧ i = .int .i64 (k : Nat) ∧ n < big ∧ PowS w wr (w.heap.size + 1) n ∧ RowKit.Hid (n = pnum (s.data.toList.take k) ∧ ∀ e, e < k → isdig (s.data.toList.getD e 0) = true)) (fun i _ => s.size - (intOf i).toNat)
    case atStart => exact ⟨0, 0, by omega, rfl, zero_big, L, Lib.hid ⟨rfl, fun e h => absurd h (by omega)⟩⟩
    case round =>
      clear L
      obtain ⟨k, n, hk, rfl, hnb, L, HN⟩ := hrel
      obtain ⟨A0, A1, A2, A3⟩ := row_two L.1
      obtain ⟨B0, B1, B2, B3⟩ := row_two L.2.1
      have o0 := L.2.2
      by_cases hlt : k < s.size
      · have i1 : (k : Int) < (s.size : Int) := by omega
        by_cases c1 : (s[k].toNat : Int) < 48
        · have E := Lib.hid (parseOK_bad (bs := s.data.toList) (k := k) (by rw [HL.out]; exact hlt) (by rw [chr_at hlt]; unfold isdig; exact decide_eq_false (by omega)))
          go_wp2_with fail
          have r9 := row_two_set (u := .int .u64 0) (v := .int .u64 0) L.1
          have o9 : Below w.heap.size w ((wr.setCell ⟨w.heap.size, 0, none⟩ (.int .u64 0)).setCell ⟨w.heap.size, 1, none⟩ (.int .u64 0)) := by
            (repeat (first | exact Below.refl _ _ | refine Below.setCell ?_ (by first | (simp; done) | (simp; omega) | omega) _ | refine Below.alloc ?_ (by first | (simp; done) | (simp; omega) | omega) _ | refine Below.drew ?_ | refine Below.trans ?_ (Below.mono (by assumption) (by first | (simp; done) | (simp; omega) | omega))))
          generalize ((wr.setCell ⟨w.heap.size, 0, none⟩ (.int .u64 0)).setCell ⟨w.heap.size, 1, none⟩ (.int .u64 0)) = w9 at r9 o9 ⊢
          obtain ⟨d1, d2, _, _⟩ := row_two r9
          exact bodyPost_ret (v := (.tuple #[W 0, .bool false])) (by simp [results, Try.results33, go_sem, W, d1, d2, hi_0, lo_0]) rfl ⟨by rw [parse_no E.out, E.out], o9⟩
        · by_cases c2 : 57 < (s[k].toNat : Int)
          · have E := Lib.hid (parseOK_bad (bs := s.data.toList) (k := k) (by rw [HL.out]; exact hlt) (by rw [chr_at hlt]; unfold isdig; exact decide_eq_false (by omega)))
            go_wp2_with fail
            have r9 := row_two_set (u := .int .u64 0) (v := .int .u64 0) L.1
            have o9 : Below w.heap.size w ((wr.setCell ⟨w.heap.size, 0, none⟩ (.int .u64 0)).setCell ⟨w.heap.size, 1, none⟩ (.int .u64 0)) := by
              (repeat (first | exact Below.refl _ _ | refine Below.setCell ?_ (by first | (simp; done) | (simp; omega) | omega) _ | refine Below.alloc ?_ (by first | (simp; done) | (simp; omega) | omega) _ | refine Below.drew ?_ | refine Below.trans ?_ (Below.mono (by assumption) (by first | (simp; done) | (simp; omega) | omega))))
            generalize ((wr.setCell ⟨w.heap.size, 0, none⟩ (.int .u64 0)).setCell ⟨w.heap.size, 1, none⟩ (.int .u64 0)) = w9 at r9 o9 ⊢
            obtain ⟨d1, d2, _, _⟩ := row_two r9
            exact bodyPost_ret (v := (.tuple #[W 0, .bool false])) (by simp [results, Try.results33, go_sem, W, d1, d2, hi_0, lo_0]) rfl ⟨by rw [parse_no E.out, E.out], o9⟩
          · obtain ⟨d, hd⟩ : ∃ d : Nat, s[k].toNat = 48 + d := ⟨s[k].toNat - 48, by omega⟩
            have HD := Lib.hid (show (s.data.toList.getD k 0).toNat - 48 = d by rw [chr_at hlt, hd]; omega)
            have HG := Lib.hid (show isdig (s.data.toList.getD k 0) = true by rw [chr_at hlt]; unfold isdig; exact decide_eq_true (by omega))
            have hd9 : d ≤ 9 := by omega
            have hd64 : d < 18446744073709551616 := by omega
            have hdb : d < big := by unfold big; omega
            have e8 : IntKind.u8.wrap ((s[k].toNat : Int) - 48) = (d : Int) := by rw [hd]; simp only [IntKind.wrap_u8]; omega
            have e64 : IntKind.u64.wrap (d : Int) = (d : Int) := by rw [IntKind.wrap_u64]; omega
            have HS := Lib.hid (pnum_step (bs := s.data.toList) (k := k) (by rw [HL.out]; exact hlt))
            clear hd
            by_cases hm : n * 10 < big
            · have HM := Lib.hid (fun w' => pmul n 10 hnb (by decide) w')
              obtain ⟨v1, v2⟩ := mulV_yes hm
              rw [v1, v2] at HM
              have HY := Lib.hid (show n * 10 + d = pnum (s.data.toList.take (k + 1)) by rw [HS.out, HD.out, ← HN.out.1])
              clear v1 v2
              generalize n * 10 = y at hm HM HY
              by_cases ha : y + d < big
              · have HA := Lib.hid (fun w' => padd_fits y d hm hdb ha w')
                generalize y + d = z at ha HA HY
                go_upto_region 9 with (fail)
                have hqr := row_lt L.2.1
                refine wp_region_free1 [0, 1, 2, 3, 5, 4] [5] [0, 1, 2, 3, 4, 6] (6, 24, #[.int .u64 0, .int .u64 0]) 6 7 (fun w' => PowS w w' (w.heap.size + 1) n) (by kernel_rfl) (by kernel_rfl) ⟨_, _, rfl, rfl, rfl, fun ρ w' => by go_simp⟩ rfl (by simp) (fun w' h => h.alloc _) (fun _ _ d _ _ h => by cases d <;> exact h) ?_ ?_
                · exact L.drew
                (refine plan_val ?_ rfl rfl rfl (fun w' hS => ?_) ?_; rotate_left; (obtain ⟨X0, X1, X2, X3⟩ := row_two hS.2.1; go_simp; try with_reducible rfl); simp only [Act.put, List.setIfInBounds_toArray, List.set_cons_zero, List.set_cons_succ])
                refine plan_call (W 10) 30 #[.int .u64 (10 : Nat)] rfl rfl rfl (fun w' w'' h hb => h.call hb) (fun w' hS => by obtain ⟨X0, X1, X2, X3⟩ := row_two hS.2.1; go_simp) (fun w' hS => pof 10 (by decide) w') ?_
                simp only [Act.put, List.setIfInBounds_toArray, List.set_cons_zero, List.set_cons_succ]
                refine plan_call (.tuple #[W y, .bool true]) 26 #[W n, W 10] rfl rfl rfl (fun w' w'' h hb => h.call hb) (fun w' hS => by obtain ⟨X0, X1, X2, X3⟩ := row_two hS.2.1; go_simp) (fun w' hS => HM.out w') ?_
                simp only [Act.put, List.setIfInBounds_toArray, List.set_cons_zero, List.set_cons_succ]
                (refine plan_pure ?_ rfl rfl (fun w' => ?_) ?_; rotate_left; (go_simp; try with_reducible rfl); simp only [Act.put, List.setIfInBounds_toArray, List.set_cons_zero, List.set_cons_succ])
                (refine plan_pure ?_ rfl rfl (fun w' => ?_) ?_; rotate_left; (go_simp; try with_reducible rfl); simp only [Act.put, List.setIfInBounds_toArray, List.set_cons_zero, List.set_cons_succ])
                (refine plan_pure ?_ rfl rfl (fun w' => ?_) ?_; rotate_left; (go_simp; try with_reducible rfl); simp only [Act.put, List.setIfInBounds_toArray, List.set_cons_zero, List.set_cons_succ])
                refine plan_nil ?_
                intro g w3 L3 Rg hg
                simp only [List.drop_succ_cons, List.drop_zero]
                try simp only [Act.put, List.setIfInBounds_toArray, List.set_cons_zero, List.set_cons_succ]
                obtain ⟨G0, G1, G2, G3⟩ := row_two Rg
                clear A0 A1 A2 A3 B0 B1 B2 B3
                go_upto_region 10 with (fail)
                have L5 := L3.other (u := .int .u64 (hi y)) (v := .int .u64 (lo y)) (show w.heap.size < g by omega) (show w.heap.size + 1 ≠ g by omega)
                have R5 := row_two_set (u := .int .u64 (hi y)) (v := .int .u64 (lo y)) Rg
                generalize ((w3.setCell ⟨g, 0, none⟩ (.int .u64 (hi y))).setCell ⟨g, 1, none⟩ (.int .u64 (lo y))) = w5 at L5 R5 ⊢
                clear L3 Rg G0 G1 G2 G3 L
                obtain ⟨G0, G1, G2, G3⟩ := row_two R5
                obtain ⟨A0, A1, A2, A3⟩ := row_two L5.1
                go_upto_region 12 with (fail)
                refine wp_region_free0 [0, 1, 2, 3, 4, 5, 6, 7, 8, 10, 9] [10] [0, 1, 2, 3, 4, 5, 6, 7, 8, 9] 11 (fun w' => PowS w w' (w.heap.size + 1) n ∧ Row w' g 24 (Wc y)) (by kernel_rfl) (by kernel_rfl) (fun _ _ d _ _ h => by cases d <;> exact h) ?_ ?_
                · exact ⟨L5.drew, R5⟩
                (refine plan_val ?_ rfl rfl rfl (fun w' hS => ?_) ?_; rotate_left; (obtain ⟨X0, X1, X2, X3⟩ := row_two hS.1.2.1; obtain ⟨Y0, Y1, Y2, Y3⟩ := row_two hS.2; go_simp; try with_reducible rfl); simp only [Act.put, List.setIfInBounds_toArray, List.set_cons_zero, List.set_cons_succ])
                (refine plan_pure ?_ rfl rfl (fun w' => ?_) ?_; rotate_left; (go_simp; try with_reducible rfl); simp only [Act.put, List.setIfInBounds_toArray, List.set_cons_zero, List.set_cons_succ])
                (refine plan_pure ?_ rfl rfl (fun w' => ?_) ?_; rotate_left; (go_simp; try with_reducible rfl); simp only [Act.put, List.setIfInBounds_toArray, List.set_cons_zero, List.set_cons_succ])
                (refine plan_pure ?_ rfl rfl (fun w' => ?_) ?_; rotate_left; (go_simp; try with_reducible rfl); simp only [Act.put, List.setIfInBounds_toArray, List.set_cons_zero, List.set_cons_succ])
                (refine plan_pure ?_ rfl rfl (fun w' => ?_) ?_; rotate_left; (go_simp; try with_reducible rfl); simp only [Act.put, List.setIfInBounds_toArray, List.set_cons_zero, List.set_cons_succ])
                (refine plan_pure ?_ rfl rfl (fun w' => ?_) ?_; rotate_left; (go_simp; try with_reducible rfl); simp only [Act.put, List.setIfInBounds_toArray, List.set_cons_zero, List.set_cons_succ])
                refine plan_call (W d) 30 #[.int .u64 (d : Nat)] rfl rfl rfl (fun w' w'' h hb => ⟨h.1.call hb, row_call h.2 hb⟩) (fun w' hS => by obtain ⟨X0, X1, X2, X3⟩ := row_two hS.1.2.1; obtain ⟨Y0, Y1, Y2, Y3⟩ := row_two hS.2; go_simp) (fun w' hS => pof d hd64 w') ?_
                simp only [Act.put, List.setIfInBounds_toArray, List.set_cons_zero, List.set_cons_succ]
                refine plan_call (.tuple #[W z, .bool true]) 20 #[W y, W d] rfl rfl rfl (fun w' w'' h hb => ⟨h.1.call hb, row_call h.2 hb⟩) (fun w' hS => by obtain ⟨X0, X1, X2, X3⟩ := row_two hS.1.2.1; obtain ⟨Y0, Y1, Y2, Y3⟩ := row_two hS.2; go_simp) (fun w' hS => HA.out w') ?_
                simp only [Act.put, List.setIfInBounds_toArray, List.set_cons_zero, List.set_cons_succ]
                (refine plan_pure ?_ rfl rfl (fun w' => ?_) ?_; rotate_left; (go_simp; try with_reducible rfl); simp only [Act.put, List.setIfInBounds_toArray, List.set_cons_zero, List.set_cons_succ])
                (refine plan_pure ?_ rfl rfl (fun w' => ?_) ?_; rotate_left; (go_simp; try with_reducible rfl); simp only [Act.put, List.setIfInBounds_toArray, List.set_cons_zero, List.set_cons_succ])
                (refine plan_pure ?_ rfl rfl (fun w' => ?_) ?_; rotate_left; (go_simp; try with_reducible rfl); simp only [Act.put, List.setIfInBounds_toArray, List.set_cons_zero, List.set_cons_succ])
                refine plan_nil ?_
                intro w6 L6
                simp only [List.drop_succ_cons, List.drop_zero]
                try simp only [Act.put, List.setIfInBounds_toArray, List.set_cons_zero, List.set_cons_succ]
                clear A0 A1 A2 A3 L5 R5
                obtain ⟨B0, B1, B2, B3⟩ := row_two L6.1.2.1
                go_upto_region 13 with (fail)
                have L7 := L6.1.set z (show w.heap.size < w.heap.size + 1 by omega)
                generalize ((w6.setCell ⟨(w.heap.size + 1), 0, none⟩ (.int .u64 (hi z))).setCell ⟨(w.heap.size + 1), 1, none⟩ (.int .u64 (lo z))) = w7 at L7 ⊢
                clear L6 B0 B1 B2 B3
                obtain ⟨A0, A1, A2, A3⟩ := row_two L7.1
                have o7 := L7.2.2
                go_wp2_with fail
                go_roundw
                case rel => exact ⟨k + 1, z, by omega, by go_num, ha, L7, Lib.hid ⟨HY.out, fun e he => by
                  rcases Nat.lt_or_ge e k with q | q
                  · exact HN.out.2 e q
                  · rw [show e = k by omega]; exact HG.out⟩⟩
                case measure => simp [intOf]; omega
              · have HA := Lib.hid (fun w' => padd_over y d hm hdb ha w')
                have E := Lib.hid (parseOK_over (bs := s.data.toList) (k := k + 1) (by rw [← HY.out]; exact ha))
                go_upto_region 9 with (fail)
                have hqr := row_lt L.2.1
                refine wp_region_free1 [0, 1, 2, 3, 5, 4] [5] [0, 1, 2, 3, 4, 6] (6, 24, #[.int .u64 0, .int .u64 0]) 6 7 (fun w' => PowS w w' (w.heap.size + 1) n) (by kernel_rfl) (by kernel_rfl) ⟨_, _, rfl, rfl, rfl, fun ρ w' => by go_simp⟩ rfl (by simp) (fun w' h => h.alloc _) (fun _ _ d _ _ h => by cases d <;> exact h) ?_ ?_
                · exact L.drew
                (refine plan_val ?_ rfl rfl rfl (fun w' hS => ?_) ?_; rotate_left; (obtain ⟨X0, X1, X2, X3⟩ := row_two hS.2.1; go_simp; try with_reducible rfl); simp only [Act.put, List.setIfInBounds_toArray, List.set_cons_zero, List.set_cons_succ])
                refine plan_call (W 10) 30 #[.int .u64 (10 : Nat)] rfl rfl rfl (fun w' w'' h hb => h.call hb) (fun w' hS => by obtain ⟨X0, X1, X2, X3⟩ := row_two hS.2.1; go_simp) (fun w' hS => pof 10 (by decide) w') ?_
                simp only [Act.put, List.setIfInBounds_toArray, List.set_cons_zero, List.set_cons_succ]
                refine plan_call (.tuple #[W y, .bool true]) 26 #[W n, W 10] rfl rfl rfl (fun w' w'' h hb => h.call hb) (fun w' hS => by obtain ⟨X0, X1, X2, X3⟩ := row_two hS.2.1; go_simp) (fun w' hS => HM.out w') ?_
                simp only [Act.put, List.setIfInBounds_toArray, List.set_cons_zero, List.set_cons_succ]
                (refine plan_pure ?_ rfl rfl (fun w' => ?_) ?_; rotate_left; (go_simp; try with_reducible rfl); simp only [Act.put, List.setIfInBounds_toArray, List.set_cons_zero, List.set_cons_succ])
                (refine plan_pure ?_ rfl rfl (fun w' => ?_) ?_; rotate_left; (go_simp; try with_reducible rfl); simp only [Act.put, List.setIfInBounds_toArray, List.set_cons_zero, List.set_cons_succ])
                (refine plan_pure ?_ rfl rfl (fun w' => ?_) ?_; rotate_left; (go_simp; try with_reducible rfl); simp only [Act.put, List.setIfInBounds_toArray, List.set_cons_zero, List.set_cons_succ])
                refine plan_nil ?_
                intro g w3 L3 Rg hg
                simp only [List.drop_succ_cons, List.drop_zero]
                try simp only [Act.put, List.setIfInBounds_toArray, List.set_cons_zero, List.set_cons_succ]
                obtain ⟨G0, G1, G2, G3⟩ := row_two Rg
                clear A0 A1 A2 A3 B0 B1 B2 B3
                go_upto_region 10 with (fail)
                have L5 := L3.other (u := .int .u64 (hi y)) (v := .int .u64 (lo y)) (show w.heap.size < g by omega) (show w.heap.size + 1 ≠ g by omega)
                have R5 := row_two_set (u := .int .u64 (hi y)) (v := .int .u64 (lo y)) Rg
                generalize ((w3.setCell ⟨g, 0, none⟩ (.int .u64 (hi y))).setCell ⟨g, 1, none⟩ (.int .u64 (lo y))) = w5 at L5 R5 ⊢
                clear L3 Rg G0 G1 G2 G3 L
                obtain ⟨G0, G1, G2, G3⟩ := row_two R5
                obtain ⟨A0, A1, A2, A3⟩ := row_two L5.1
                go_upto_region 12 with (fail)
                refine wp_region_free0 [0, 1, 2, 3, 4, 5, 6, 7, 8, 10, 9] [10] [0, 1, 2, 3, 4, 5, 6, 7, 8, 9] 11 (fun w' => PowS w w' (w.heap.size + 1) n ∧ Row w' g 24 (Wc y)) (by kernel_rfl) (by kernel_rfl) (fun _ _ d _ _ h => by cases d <;> exact h) ?_ ?_
                · exact ⟨L5.drew, R5⟩
                (refine plan_val ?_ rfl rfl rfl (fun w' hS => ?_) ?_; rotate_left; (obtain ⟨X0, X1, X2, X3⟩ := row_two hS.1.2.1; obtain ⟨Y0, Y1, Y2, Y3⟩ := row_two hS.2; go_simp; try with_reducible rfl); simp only [Act.put, List.setIfInBounds_toArray, List.set_cons_zero, List.set_cons_succ])
                (refine plan_pure ?_ rfl rfl (fun w' => ?_) ?_; rotate_left; (go_simp; try with_reducible rfl); simp only [Act.put, List.setIfInBounds_toArray, List.set_cons_zero, List.set_cons_succ])
                (refine plan_pure ?_ rfl rfl (fun w' => ?_) ?_; rotate_left; (go_simp; try with_reducible rfl); simp only [Act.put, List.setIfInBounds_toArray, List.set_cons_zero, List.set_cons_succ])
                (refine plan_pure ?_ rfl rfl (fun w' => ?_) ?_; rotate_left; (go_simp; try with_reducible rfl); simp only [Act.put, List.setIfInBounds_toArray, List.set_cons_zero, List.set_cons_succ])
                (refine plan_pure ?_ rfl rfl (fun w' => ?_) ?_; rotate_left; (go_simp; try with_reducible rfl); simp only [Act.put, List.setIfInBounds_toArray, List.set_cons_zero, List.set_cons_succ])
                (refine plan_pure ?_ rfl rfl (fun w' => ?_) ?_; rotate_left; (go_simp; try with_reducible rfl); simp only [Act.put, List.setIfInBounds_toArray, List.set_cons_zero, List.set_cons_succ])
                refine plan_call (W d) 30 #[.int .u64 (d : Nat)] rfl rfl rfl (fun w' w'' h hb => ⟨h.1.call hb, row_call h.2 hb⟩) (fun w' hS => by obtain ⟨X0, X1, X2, X3⟩ := row_two hS.1.2.1; obtain ⟨Y0, Y1, Y2, Y3⟩ := row_two hS.2; go_simp) (fun w' hS => pof d hd64 w') ?_
                simp only [Act.put, List.setIfInBounds_toArray, List.set_cons_zero, List.set_cons_succ]
                refine plan_call (.tuple #[W 0, .bool false]) 20 #[W y, W d] rfl rfl rfl (fun w' w'' h hb => ⟨h.1.call hb, row_call h.2 hb⟩) (fun w' hS => by obtain ⟨X0, X1, X2, X3⟩ := row_two hS.1.2.1; obtain ⟨Y0, Y1, Y2, Y3⟩ := row_two hS.2; go_simp) (fun w' hS => HA.out w') ?_
                simp only [Act.put, List.setIfInBounds_toArray, List.set_cons_zero, List.set_cons_succ]
                (refine plan_pure ?_ rfl rfl (fun w' => ?_) ?_; rotate_left; (go_simp; try with_reducible rfl); simp only [Act.put, List.setIfInBounds_toArray, List.set_cons_zero, List.set_cons_succ])
                (refine plan_pure ?_ rfl rfl (fun w' => ?_) ?_; rotate_left; (go_simp; try with_reducible rfl); simp only [Act.put, List.setIfInBounds_toArray, List.set_cons_zero, List.set_cons_succ])
                (refine plan_pure ?_ rfl rfl (fun w' => ?_) ?_; rotate_left; (go_simp; try with_reducible rfl); simp only [Act.put, List.setIfInBounds_toArray, List.set_cons_zero, List.set_cons_succ])
                refine plan_nil ?_
                intro w6 L6
                simp only [List.drop_succ_cons, List.drop_zero]
                try simp only [Act.put, List.setIfInBounds_toArray, List.set_cons_zero, List.set_cons_succ]
                clear A0 A1 A2 A3 L5 R5
                obtain ⟨B0, B1, B2, B3⟩ := row_two L6.1.2.1
                go_upto_region 13 with (fail)
                have L7 := L6.1.set 0 (show w.heap.size < w.heap.size + 1 by omega)
                generalize ((w6.setCell ⟨(w.heap.size + 1), 0, none⟩ (.int .u64 (hi 0))).setCell ⟨(w.heap.size + 1), 1, none⟩ (.int .u64 (lo 0))) = w7 at L7 ⊢
                clear L6 B0 B1 B2 B3
                obtain ⟨A0, A1, A2, A3⟩ := row_two L7.1
                have o7 := L7.2.2
                go_wp2_with fail
                have r9 := row_two_set (u := .int .u64 0) (v := .int .u64 0) L7.1
                have o9 : Below w.heap.size w ((w7.setCell ⟨w.heap.size, 0, none⟩ (.int .u64 0)).setCell ⟨w.heap.size, 1, none⟩ (.int .u64 0)) := by
                  (repeat (first | exact Below.refl _ _ | refine Below.setCell ?_ (by first | (simp; done) | (simp; omega) | omega) _ | refine Below.alloc ?_ (by first | (simp; done) | (simp; omega) | omega) _ | refine Below.drew ?_ | refine Below.trans ?_ (Below.mono (by assumption) (by first | (simp; done) | (simp; omega) | omega))))
                generalize ((w7.setCell ⟨w.heap.size, 0, none⟩ (.int .u64 0)).setCell ⟨w.heap.size, 1, none⟩ (.int .u64 0)) = w9 at r9 o9 ⊢
                obtain ⟨d1, d2, _, _⟩ := row_two r9
                exact bodyPost_ret (v := (.tuple #[W 0, .bool false])) (by simp [results, Try.results33, go_sem, W, d1, d2, hi_0, lo_0]) rfl ⟨by rw [parse_no E.out, E.out], o9⟩
            · have HM := Lib.hid (fun w' => pmul n 10 hnb (by decide) w')
              obtain ⟨v1, v2⟩ := mulV_no hm
              rw [v1, v2] at HM
              have E := Lib.hid (parseOK_over (bs := s.data.toList) (k := k + 1) (by rw [HS.out, ← HN.out.1]; omega))
              clear v1 v2
              go_upto_region 9 with (fail)
              have hqr := row_lt L.2.1
              refine wp_region_free1 [0, 1, 2, 3, 5, 4] [5] [0, 1, 2, 3, 4, 6] (6, 24, #[.int .u64 0, .int .u64 0]) 6 7 (fun w' => PowS w w' (w.heap.size + 1) n) (by kernel_rfl) (by kernel_rfl) ⟨_, _, rfl, rfl, rfl, fun ρ w' => by go_simp⟩ rfl (by simp) (fun w' h => h.alloc _) (fun _ _ d _ _ h => by cases d <;> exact h) ?_ ?_
              · exact L.drew
              (refine plan_val ?_ rfl rfl rfl (fun w' hS => ?_) ?_; rotate_left; (obtain ⟨X0, X1, X2, X3⟩ := row_two hS.2.1; go_simp; try with_reducible rfl); simp only [Act.put, List.setIfInBounds_toArray, List.set_cons_zero, List.set_cons_succ])
              refine plan_call (W 10) 30 #[.int .u64 (10 : Nat)] rfl rfl rfl (fun w' w'' h hb => h.call hb) (fun w' hS => by obtain ⟨X0, X1, X2, X3⟩ := row_two hS.2.1; go_simp) (fun w' hS => pof 10 (by decide) w') ?_
              simp only [Act.put, List.setIfInBounds_toArray, List.set_cons_zero, List.set_cons_succ]
              refine plan_call (.tuple #[W 0, .bool false]) 26 #[W n, W 10] rfl rfl rfl (fun w' w'' h hb => h.call hb) (fun w' hS => by obtain ⟨X0, X1, X2, X3⟩ := row_two hS.2.1; go_simp) (fun w' hS => HM.out w') ?_
              simp only [Act.put, List.setIfInBounds_toArray, List.set_cons_zero, List.set_cons_succ]
              (refine plan_pure ?_ rfl rfl (fun w' => ?_) ?_; rotate_left; (go_simp; try with_reducible rfl); simp only [Act.put, List.setIfInBounds_toArray, List.set_cons_zero, List.set_cons_succ])
              (refine plan_pure ?_ rfl rfl (fun w' => ?_) ?_; rotate_left; (go_simp; try with_reducible rfl); simp only [Act.put, List.setIfInBounds_toArray, List.set_cons_zero, List.set_cons_succ])
              (refine plan_pure ?_ rfl rfl (fun w' => ?_) ?_; rotate_left; (go_simp; try with_reducible rfl); simp only [Act.put, List.setIfInBounds_toArray, List.set_cons_zero, List.set_cons_succ])
              refine plan_nil ?_
              intro g w3 L3 Rg hg
              simp only [List.drop_succ_cons, List.drop_zero]
              try simp only [Act.put, List.setIfInBounds_toArray, List.set_cons_zero, List.set_cons_succ]
              obtain ⟨G0, G1, G2, G3⟩ := row_two Rg
              clear A0 A1 A2 A3 B0 B1 B2 B3
              go_upto_region 10 with (fail)
              have L5 := L3.other (u := .int .u64 (hi 0)) (v := .int .u64 (lo 0)) (show w.heap.size < g by omega) (show w.heap.size + 1 ≠ g by omega)
              have R5 := row_two_set (u := .int .u64 (hi 0)) (v := .int .u64 (lo 0)) Rg
              generalize ((w3.setCell ⟨g, 0, none⟩ (.int .u64 (hi 0))).setCell ⟨g, 1, none⟩ (.int .u64 (lo 0))) = w5 at L5 R5 ⊢
              clear L3 Rg G0 G1 G2 G3 L
              obtain ⟨A0, A1, A2, A3⟩ := row_two L5.1
              have o5 := L5.2.2
              go_wp2_with fail
              have r9 := row_two_set (u := .int .u64 0) (v := .int .u64 0) L5.1
              have o9 : Below w.heap.size w ((w5.setCell ⟨w.heap.size, 0, none⟩ (.int .u64 0)).setCell ⟨w.heap.size, 1, none⟩ (.int .u64 0)) := by
                (repeat (first | exact Below.refl _ _ | refine Below.setCell ?_ (by first | (simp; done) | (simp; omega) | omega) _ | refine Below.alloc ?_ (by first | (simp; done) | (simp; omega) | omega) _ | refine Below.drew ?_ | refine Below.trans ?_ (Below.mono (by assumption) (by first | (simp; done) | (simp; omega) | omega))))
              generalize ((w5.setCell ⟨w.heap.size, 0, none⟩ (.int .u64 0)).setCell ⟨w.heap.size, 1, none⟩ (.int .u64 0)) = w9 at r9 o9 ⊢
              obtain ⟨d1, d2, _, _⟩ := row_two r9
              exact bodyPost_ret (v := (.tuple #[W 0, .bool false])) (by simp [results, Try.results33, go_sem, W, d1, d2, hi_0, lo_0]) rfl ⟨by rw [parse_no E.out, E.out], o9⟩
      · have i1 : ¬ (k : Int) < (s.size : Int) := by omega
        have e : k = s.size := by omega
        have HF := Lib.hid (show n = pnum s.data.toList by rw [HN.out.1, e, ← HL.out, List.take_length])
        have E := Lib.hid (parseOK_all (bs := s.data.toList) (fun x => by have := HL.out; rw [x] at this; simp at this; omega) (by rw [HL.out]; exact HH.out) (fun e' he => HN.out.2 e' (by rw [HL.out] at he; omega)) (by rw [← HF.out]; exact hnb))
        clear e
        go_wp2_with fail
        have r9 := row_two_set (u := .int .u64 (hi n)) (v := .int .u64 (lo n)) L.1
        have o9 : Below w.heap.size w ((wr.setCell ⟨w.heap.size, 0, none⟩ (.int .u64 (hi n))).setCell ⟨w.heap.size, 1, none⟩ (.int .u64 (lo n))) := by
          (repeat (first | exact Below.refl _ _ | refine Below.setCell ?_ (by first | (simp; done) | (simp; omega) | omega) _ | refine Below.alloc ?_ (by first | (simp; done) | (simp; omega) | omega) _ | refine Below.drew ?_ | refine Below.trans ?_ (Below.mono (by assumption) (by first | (simp; done) | (simp; omega) | omega))))
        generalize ((wr.setCell ⟨w.heap.size, 0, none⟩ (.int .u64 (hi n))).setCell ⟨w.heap.size, 1, none⟩ (.int .u64 (lo n))) = w9 at r9 o9 ⊢
        obtain ⟨d1, d2, _, _⟩ := row_two r9
        exact bodyPost_ret (v := (.tuple #[W n, .bool true])) (by simp [results, Try.results33, go_sem, W, d1, d2]) rfl ⟨by rw [parse_yes E.out, E.out, ← HF.out], o9⟩
theorem pparse (s : ByteArray) (hm : s.size ≤ 9223372036854775807) (w : World) : Calls Try.prog 33 #[.string s] w fun e w' => e = .returned (.tuple #[W (parseV s.data.toList), .bool (parseOK s.data.toList)]) ∧ Below w.heap.size w w' := by
  by_cases h0 : s.size = 0
  · have e : s.data.toList = [] := by rw [str_empty h0]
    rw [e, parse_no parseOK_nil, parseOK_nil]
    exact pparse_empty s h0 w
  · by_cases h3 : False
    · exact h3.elim
    · by_cases h1 : 1 < s.size ∧ s.data.toList.getD 0 0 = 48
      · have e := parseOK_zero (bs := s.data.toList) (by rw [str_len]; exact h1.1) h1.2
        rw [parse_no e, e]
        have h2 := h1.2
        rw [chr_at (by omega)] at h2
        exact pparse_zero s h1.1 (by rw [h2]; rfl) hm w
      · exact pparse_main s (by omega) h1 hm w
theorem rparse_empty (s : ByteArray) (h : s.size = 0) (w : World) : Calls Try.prog 35 #[.string s] w fun e w' => e = .returned (.tuple #[W 0, .bool false]) ∧ Below w.heap.size w w' := by
  have e := str_none h
  clear h
  go_enter Try.func35, Try.ntmps35
  go_wp2
  simp [bodyPost, results, Try.results35, go_sem]
  refine ⟨⟨rfl, rfl⟩, ?_⟩
  (repeat (first | exact Below.refl _ _ | refine Below.setCell ?_ (by first | (simp; done) | (simp; omega) | omega) _ | refine Below.alloc ?_ (by first | (simp; done) | (simp; omega) | omega) _ | refine Below.drew ?_ | refine Below.trans ?_ (Below.mono (by assumption) (by first | (simp; done) | (simp; omega) | omega))))
theorem rparse_zero (s : ByteArray) (h1 : 1 < s.size) (h2 : s[0].toNat = 48) (h3 : s.size ≤ 39) (hm : s.size ≤ 9223372036854775807) (w : World) : Calls Try.prog 35 #[.string s] w fun e w' => e = .returned (.tuple #[W 0, .bool false]) ∧ Below w.heap.size w w' := by
  have e := str_full (s := s) (by omega)
  have i1 : (1 : Int) < (s.size : Int) := by omega
  have i2 : ((s[0].toNat : Int) == 48) = true := by simp; omega
  have i3 : 0 < s.size := by omega
  clear h2
  go_enter Try.func35, Try.ntmps35
  go_wp2
  simp [bodyPost, results, Try.results35, go_sem]
  refine ⟨⟨rfl, rfl⟩, ?_⟩
  (repeat (first | exact Below.refl _ _ | refine Below.setCell ?_ (by first | (simp; done) | (simp; omega) | omega) _ | refine Below.alloc ?_ (by first | (simp; done) | (simp; omega) | omega) _ | refine Below.drew ?_ | refine Below.trans ?_ (Below.mono (by assumption) (by first | (simp; done) | (simp; omega) | omega))))
theorem rparse_long (s : ByteArray) (h1 : 39 < s.size) (hm : s.size ≤ 9223372036854775807) (w : World) : Calls Try.prog 35 #[.string s] w fun e w' => e = .returned (.tuple #[W 0, .bool false]) ∧ Below w.heap.size w w' := by
  have e := str_full (s := s) (by omega)
  have i1 : (39 : Int) < (s.size : Int) := by omega
  go_enter Try.func35, Try.ntmps35
  go_wp2
  simp [bodyPost, results, Try.results35, go_sem]
  refine ⟨⟨rfl, rfl⟩, ?_⟩
  (repeat (first | exact Below.refl _ _ | refine Below.setCell ?_ (by first | (simp; done) | (simp; omega) | omega) _ | refine Below.alloc ?_ (by first | (simp; done) | (simp; omega) | omega) _ | refine Below.drew ?_ | refine Below.trans ?_ (Below.mono (by assumption) (by first | (simp; done) | (simp; omega) | omega))))
set_option maxHeartbeats 4000000 in
theorem rparse_main (s : ByteArray) (h0 : 0 < s.size) (h1 : ¬ (1 < s.size ∧ s.data.toList.getD 0 0 = 48)) (h3 : s.size ≤ 39) (hm : s.size ≤ 9223372036854775807) (w : World) : Calls Try.prog 35 #[.string s] w fun e w' => e = .returned (.tuple #[W (parseV s.data.toList), .bool (parseOK s.data.toList)]) ∧ Below w.heap.size w w' := by
  have e := str_full (s := s) h0
  have HL := Lib.hid (str_len s)
  have HH := Lib.hid h1
  have i3 : (s.size : Int) ≤ 9223372036854775807 := by omega
  have i39 : ¬ ((39 : Int) < (s.size : Int)) := by omega
  have K : ∀ Q : Prop, ((s.size : Int) ≤ 1 → Q) → ((1 : Int) < (s.size : Int) → ((s[0].toNat : Int) == 48) = false → Q) → Q := by
    intro Q q1 q2
    by_cases c : 1 < s.size
    · refine q2 (by omega) ?_
      have : s.data.toList.getD 0 0 ≠ 48 := fun x => h1 ⟨c, x⟩
      rw [chr_at h0] at this
      simp only [beq_eq_false_iff_ne, ne_eq]
      intro x
      exact this (by rw [← UInt8.toNat_inj]; have h48 : (48 : UInt8).toNat = 48 := rfl; omega)
    · exact q1 (by omega)
  clear h1 hm
  go_enter Try.func35, Try.ntmps35
  refine K _ (fun c => ?_) (fun c c' => ?_)
  all_goals
    clear K
    go_wp2_with fail
    have L : PowS w ((w.alloc (.cells #[.int .u64 0, .int .u64 0] 24)).alloc (.cells #[.int .u64 0, .int .u64 0] 24)) (w.heap.size + 1) 0 := ⟨by (repeat (first | assumption | (refine row_new ?_; (first | (simp; done) | omega)) | refine row_alloc ?_ _ | refine row_drew ?_ | refine row_call ?_ (by assumption))), by rw [Wc_0]; (repeat (first | assumption | (refine row_new ?_; (first | (simp; done) | omega)) | refine row_alloc ?_ _ | refine row_drew ?_ | refine row_call ?_ (by assumption))), by (repeat (first | exact Below.refl _ _ | refine Below.setCell ?_ (by first | (simp; done) | (simp; omega) | omega) _ | refine Below.alloc ?_ (by first | (simp; done) | (simp; omega) | omega) _ | refine Below.drew ?_ | refine Below.trans ?_ (Below.mono (by assumption) (by first | (simp; done) | (simp; omega) | omega))))⟩
    generalize ((w.alloc (.cells #[.int .u64 0, .int .u64 0] 24)).alloc (.cells #[.int .u64 0, .int .u64 0] 24)) = w2 at L ⊢
    clear e c
    try clear c'
    try clear i39
    go_loopw [5] (fun i wr => ∃ k n : Nat, k ≤ s.size ∧ i = .int .i64 (k : Nat) ∧ n < big ∧ PowS w wr (w.heap.size + 1) n ∧ RowKit.Hid (n = pnum (s.data.toList.take k) ∧ ∀ e, e < k → isdig (s.data.toList.getD e 0) = true)) (fun i _ => s.size - (intOf i).toNat)
    case atStart => exact ⟨0, 0, by omega, rfl, zero_big, L, Lib.hid ⟨rfl, fun e h => absurd h (by omega)⟩⟩
    case round =>
      clear L
      obtain ⟨k, n, hk, rfl, hnb, L, HN⟩ := hrel
      obtain ⟨A0, A1, A2, A3⟩ := row_two L.1
      obtain ⟨B0, B1, B2, B3⟩ := row_two L.2.1
      have o0 := L.2.2
      by_cases hlt : k < s.size
      · have i1 : (k : Int) < (s.size : Int) := by omega
        by_cases c1 : (s[k].toNat : Int) < 48
        · have E := Lib.hid (parseOK_bad (bs := s.data.toList) (k := k) (by rw [HL.out]; exact hlt) (by rw [chr_at hlt]; unfold isdig; exact decide_eq_false (by omega)))
          go_wp2_with fail
          have r9 := row_two_set (u := .int .u64 0) (v := .int .u64 0) L.1
          have o9 : Below w.heap.size w ((wr.setCell ⟨w.heap.size, 0, none⟩ (.int .u64 0)).setCell ⟨w.heap.size, 1, none⟩ (.int .u64 0)) := by
            (repeat (first | exact Below.refl _ _ | refine Below.setCell ?_ (by first | (simp; done) | (simp; omega) | omega) _ | refine Below.alloc ?_ (by first | (simp; done) | (simp; omega) | omega) _ | refine Below.drew ?_ | refine Below.trans ?_ (Below.mono (by assumption) (by first | (simp; done) | (simp; omega) | omega))))
          generalize ((wr.setCell ⟨w.heap.size, 0, none⟩ (.int .u64 0)).setCell ⟨w.heap.size, 1, none⟩ (.int .u64 0)) = w9 at r9 o9 ⊢
          obtain ⟨d1, d2, _, _⟩ := row_two r9
          exact bodyPost_ret (v := (.tuple #[W 0, .bool false])) (by simp [results, Try.results35, go_sem, W, d1, d2, hi_0, lo_0]) rfl ⟨by rw [parse_no E.out, E.out], o9⟩
        · by_cases c2 : 57 < (s[k].toNat : Int)
          · have E := Lib.hid (parseOK_bad (bs := s.data.toList) (k := k) (by rw [HL.out]; exact hlt) (by rw [chr_at hlt]; unfold isdig; exact decide_eq_false (by omega)))
            go_wp2_with fail
            have r9 := row_two_set (u := .int .u64 0) (v := .int .u64 0) L.1
            have o9 : Below w.heap.size w ((wr.setCell ⟨w.heap.size, 0, none⟩ (.int .u64 0)).setCell ⟨w.heap.size, 1, none⟩ (.int .u64 0)) := by
              (repeat (first | exact Below.refl _ _ | refine Below.setCell ?_ (by first | (simp; done) | (simp; omega) | omega) _ | refine Below.alloc ?_ (by first | (simp; done) | (simp; omega) | omega) _ | refine Below.drew ?_ | refine Below.trans ?_ (Below.mono (by assumption) (by first | (simp; done) | (simp; omega) | omega))))
            generalize ((wr.setCell ⟨w.heap.size, 0, none⟩ (.int .u64 0)).setCell ⟨w.heap.size, 1, none⟩ (.int .u64 0)) = w9 at r9 o9 ⊢
            obtain ⟨d1, d2, _, _⟩ := row_two r9
            exact bodyPost_ret (v := (.tuple #[W 0, .bool false])) (by simp [results, Try.results35, go_sem, W, d1, d2, hi_0, lo_0]) rfl ⟨by rw [parse_no E.out, E.out], o9⟩
          · obtain ⟨d, hd⟩ : ∃ d : Nat, s[k].toNat = 48 + d := ⟨s[k].toNat - 48, by omega⟩
            have HD := Lib.hid (show (s.data.toList.getD k 0).toNat - 48 = d by rw [chr_at hlt, hd]; omega)
            have HG := Lib.hid (show isdig (s.data.toList.getD k 0) = true by rw [chr_at hlt]; unfold isdig; exact decide_eq_true (by omega))
            have hd9 : d ≤ 9 := by omega
            have hd64 : d < 18446744073709551616 := by omega
            have hdb : d < big := by unfold big; omega
            have e8 : IntKind.u8.wrap ((s[k].toNat : Int) - 48) = (d : Int) := by rw [hd]; simp only [IntKind.wrap_u8]; omega
            have e64 : IntKind.u64.wrap (d : Int) = (d : Int) := by rw [IntKind.wrap_u64]; omega
            have HS := Lib.hid (pnum_step (bs := s.data.toList) (k := k) (by rw [HL.out]; exact hlt))
            clear hd
            by_cases hm : n * 10 < big
            · have HM := Lib.hid (fun w' => rmul n 10 hnb (by decide) w')
              obtain ⟨v1, v2⟩ := mulV_yes hm
              rw [v1, v2] at HM
              have HY := Lib.hid (show n * 10 + d = pnum (s.data.toList.take (k + 1)) by rw [HS.out, HD.out, ← HN.out.1])
              clear v1 v2
              generalize n * 10 = y at hm HM HY
              by_cases ha : y + d < big
              · have HA := Lib.hid (fun w' => radd_fits y d hm hdb ha w')
                generalize y + d = z at ha HA HY
                go_upto_region 9 with (fail)
                have hqr := row_lt L.2.1
                refine wp_region_free1 [0, 1, 2, 3, 5, 4] [5] [0, 1, 2, 3, 4, 6] (6, 24, #[.int .u64 0, .int .u64 0]) 6 7 (fun w' => PowS w w' (w.heap.size + 1) n) (by kernel_rfl) (by kernel_rfl) ⟨_, _, rfl, rfl, rfl, fun ρ w' => by go_simp⟩ rfl (by simp) (fun w' h => h.alloc _) (fun _ _ d _ _ h => by cases d <;> exact h) ?_ ?_
                · exact L.drew
                (refine plan_val ?_ rfl rfl rfl (fun w' hS => ?_) ?_; rotate_left; (obtain ⟨X0, X1, X2, X3⟩ := row_two hS.2.1; go_simp; try with_reducible rfl); simp only [Act.put, List.setIfInBounds_toArray, List.set_cons_zero, List.set_cons_succ])
                refine plan_call (W 10) 31 #[.int .u64 (10 : Nat)] rfl rfl rfl (fun w' w'' h hb => h.call hb) (fun w' hS => by obtain ⟨X0, X1, X2, X3⟩ := row_two hS.2.1; go_simp) (fun w' hS => rof 10 (by decide) w') ?_
                simp only [Act.put, List.setIfInBounds_toArray, List.set_cons_zero, List.set_cons_succ]
                refine plan_call (.tuple #[W y, .bool true]) 27 #[W n, W 10] rfl rfl rfl (fun w' w'' h hb => h.call hb) (fun w' hS => by obtain ⟨X0, X1, X2, X3⟩ := row_two hS.2.1; go_simp) (fun w' hS => HM.out w') ?_
                simp only [Act.put, List.setIfInBounds_toArray, List.set_cons_zero, List.set_cons_succ]
                (refine plan_pure ?_ rfl rfl (fun w' => ?_) ?_; rotate_left; (go_simp; try with_reducible rfl); simp only [Act.put, List.setIfInBounds_toArray, List.set_cons_zero, List.set_cons_succ])
                (refine plan_pure ?_ rfl rfl (fun w' => ?_) ?_; rotate_left; (go_simp; try with_reducible rfl); simp only [Act.put, List.setIfInBounds_toArray, List.set_cons_zero, List.set_cons_succ])
                (refine plan_pure ?_ rfl rfl (fun w' => ?_) ?_; rotate_left; (go_simp; try with_reducible rfl); simp only [Act.put, List.setIfInBounds_toArray, List.set_cons_zero, List.set_cons_succ])
                refine plan_nil ?_
                intro g w3 L3 Rg hg
                simp only [List.drop_succ_cons, List.drop_zero]
                try simp only [Act.put, List.setIfInBounds_toArray, List.set_cons_zero, List.set_cons_succ]
                obtain ⟨G0, G1, G2, G3⟩ := row_two Rg
                clear A0 A1 A2 A3 B0 B1 B2 B3
                go_upto_region 10 with (fail)
                have L5 := L3.other (u := .int .u64 (hi y)) (v := .int .u64 (lo y)) (show w.heap.size < g by omega) (show w.heap.size + 1 ≠ g by omega)
                have R5 := row_two_set (u := .int .u64 (hi y)) (v := .int .u64 (lo y)) Rg
                generalize ((w3.setCell ⟨g, 0, none⟩ (.int .u64 (hi y))).setCell ⟨g, 1, none⟩ (.int .u64 (lo y))) = w5 at L5 R5 ⊢
                clear L3 Rg G0 G1 G2 G3 L
                obtain ⟨G0, G1, G2, G3⟩ := row_two R5
                obtain ⟨A0, A1, A2, A3⟩ := row_two L5.1
                go_upto_region 12 with (fail)
                refine wp_region_free0 [0, 1, 2, 3, 4, 5, 6, 7, 8, 10, 9] [10] [0, 1, 2, 3, 4, 5, 6, 7, 8, 9] 11 (fun w' => PowS w w' (w.heap.size + 1) n ∧ Row w' g 24 (Wc y)) (by kernel_rfl) (by kernel_rfl) (fun _ _ d _ _ h => by cases d <;> exact h) ?_ ?_
                · exact ⟨L5.drew, R5⟩
                (refine plan_val ?_ rfl rfl rfl (fun w' hS => ?_) ?_; rotate_left; (obtain ⟨X0, X1, X2, X3⟩ := row_two hS.1.2.1; obtain ⟨Y0, Y1, Y2, Y3⟩ := row_two hS.2; go_simp; try with_reducible rfl); simp only [Act.put, List.setIfInBounds_toArray, List.set_cons_zero, List.set_cons_succ])
                (refine plan_pure ?_ rfl rfl (fun w' => ?_) ?_; rotate_left; (go_simp; try with_reducible rfl); simp only [Act.put, List.setIfInBounds_toArray, List.set_cons_zero, List.set_cons_succ])
                (refine plan_pure ?_ rfl rfl (fun w' => ?_) ?_; rotate_left; (go_simp; try with_reducible rfl); simp only [Act.put, List.setIfInBounds_toArray, List.set_cons_zero, List.set_cons_succ])
                (refine plan_pure ?_ rfl rfl (fun w' => ?_) ?_; rotate_left; (go_simp; try with_reducible rfl); simp only [Act.put, List.setIfInBounds_toArray, List.set_cons_zero, List.set_cons_succ])
                (refine plan_pure ?_ rfl rfl (fun w' => ?_) ?_; rotate_left; (go_simp; try with_reducible rfl); simp only [Act.put, List.setIfInBounds_toArray, List.set_cons_zero, List.set_cons_succ])
                (refine plan_pure ?_ rfl rfl (fun w' => ?_) ?_; rotate_left; (go_simp; try with_reducible rfl); simp only [Act.put, List.setIfInBounds_toArray, List.set_cons_zero, List.set_cons_succ])
                refine plan_call (W d) 31 #[.int .u64 (d : Nat)] rfl rfl rfl (fun w' w'' h hb => ⟨h.1.call hb, row_call h.2 hb⟩) (fun w' hS => by obtain ⟨X0, X1, X2, X3⟩ := row_two hS.1.2.1; obtain ⟨Y0, Y1, Y2, Y3⟩ := row_two hS.2; go_simp) (fun w' hS => rof d hd64 w') ?_
                simp only [Act.put, List.setIfInBounds_toArray, List.set_cons_zero, List.set_cons_succ]
                refine plan_call (.tuple #[W z, .bool true]) 21 #[W y, W d] rfl rfl rfl (fun w' w'' h hb => ⟨h.1.call hb, row_call h.2 hb⟩) (fun w' hS => by obtain ⟨X0, X1, X2, X3⟩ := row_two hS.1.2.1; obtain ⟨Y0, Y1, Y2, Y3⟩ := row_two hS.2; go_simp) (fun w' hS => HA.out w') ?_
                simp only [Act.put, List.setIfInBounds_toArray, List.set_cons_zero, List.set_cons_succ]
                (refine plan_pure ?_ rfl rfl (fun w' => ?_) ?_; rotate_left; (go_simp; try with_reducible rfl); simp only [Act.put, List.setIfInBounds_toArray, List.set_cons_zero, List.set_cons_succ])
                (refine plan_pure ?_ rfl rfl (fun w' => ?_) ?_; rotate_left; (go_simp; try with_reducible rfl); simp only [Act.put, List.setIfInBounds_toArray, List.set_cons_zero, List.set_cons_succ])
                (refine plan_pure ?_ rfl rfl (fun w' => ?_) ?_; rotate_left; (go_simp; try with_reducible rfl); simp only [Act.put, List.setIfInBounds_toArray, List.set_cons_zero, List.set_cons_succ])
                refine plan_nil ?_
                intro w6 L6
                simp only [List.drop_succ_cons, List.drop_zero]
                try simp only [Act.put, List.setIfInBounds_toArray, List.set_cons_zero, List.set_cons_succ]
                clear A0 A1 A2 A3 L5 R5
                obtain ⟨B0, B1, B2, B3⟩ := row_two L6.1.2.1
                go_upto_region 13 with (fail)
                have L7 := L6.1.set z (show w.heap.size < w.heap.size + 1 by omega)
                generalize ((w6.setCell ⟨(w.heap.size + 1), 0, none⟩ (.int .u64 (hi z))).setCell ⟨(w.heap.size + 1), 1, none⟩ (.int .u64 (lo z))) = w7 at L7 ⊢
                clear L6 B0 B1 B2 B3
                obtain ⟨A0, A1, A2, A3⟩ := row_two L7.1
                have o7 := L7.2.2
                go_wp2_with fail
                go_roundw
                case rel => exact ⟨k + 1, z, by omega, by go_num, ha, L7, Lib.hid ⟨HY.out, fun e he => by
                  rcases Nat.lt_or_ge e k with q | q
                  · exact HN.out.2 e q
                  · rw [show e = k by omega]; exact HG.out⟩⟩
                case measure => simp [intOf]; omega
              · have HA := Lib.hid (fun w' => radd_over y d hm hdb ha w')
                have E := Lib.hid (parseOK_over (bs := s.data.toList) (k := k + 1) (by rw [← HY.out]; exact ha))
                go_upto_region 9 with (fail)
                have hqr := row_lt L.2.1
                refine wp_region_free1 [0, 1, 2, 3, 5, 4] [5] [0, 1, 2, 3, 4, 6] (6, 24, #[.int .u64 0, .int .u64 0]) 6 7 (fun w' => PowS w w' (w.heap.size + 1) n) (by kernel_rfl) (by kernel_rfl) ⟨_, _, rfl, rfl, rfl, fun ρ w' => by go_simp⟩ rfl (by simp) (fun w' h => h.alloc _) (fun _ _ d _ _ h => by cases d <;> exact h) ?_ ?_
                · exact L.drew
                (refine plan_val ?_ rfl rfl rfl (fun w' hS => ?_) ?_; rotate_left; (obtain ⟨X0, X1, X2, X3⟩ := row_two hS.2.1; go_simp; try with_reducible rfl); simp only [Act.put, List.setIfInBounds_toArray, List.set_cons_zero, List.set_cons_succ])
                refine plan_call (W 10) 31 #[.int .u64 (10 : Nat)] rfl rfl rfl (fun w' w'' h hb => h.call hb) (fun w' hS => by obtain ⟨X0, X1, X2, X3⟩ := row_two hS.2.1; go_simp) (fun w' hS => rof 10 (by decide) w') ?_
                simp only [Act.put, List.setIfInBounds_toArray, List.set_cons_zero, List.set_cons_succ]
                refine plan_call (.tuple #[W y, .bool true]) 27 #[W n, W 10] rfl rfl rfl (fun w' w'' h hb => h.call hb) (fun w' hS => by obtain ⟨X0, X1, X2, X3⟩ := row_two hS.2.1; go_simp) (fun w' hS => HM.out w') ?_
                simp only [Act.put, List.setIfInBounds_toArray, List.set_cons_zero, List.set_cons_succ]
                (refine plan_pure ?_ rfl rfl (fun w' => ?_) ?_; rotate_left; (go_simp; try with_reducible rfl); simp only [Act.put, List.setIfInBounds_toArray, List.set_cons_zero, List.set_cons_succ])
                (refine plan_pure ?_ rfl rfl (fun w' => ?_) ?_; rotate_left; (go_simp; try with_reducible rfl); simp only [Act.put, List.setIfInBounds_toArray, List.set_cons_zero, List.set_cons_succ])
                (refine plan_pure ?_ rfl rfl (fun w' => ?_) ?_; rotate_left; (go_simp; try with_reducible rfl); simp only [Act.put, List.setIfInBounds_toArray, List.set_cons_zero, List.set_cons_succ])
                refine plan_nil ?_
                intro g w3 L3 Rg hg
                simp only [List.drop_succ_cons, List.drop_zero]
                try simp only [Act.put, List.setIfInBounds_toArray, List.set_cons_zero, List.set_cons_succ]
                obtain ⟨G0, G1, G2, G3⟩ := row_two Rg
                clear A0 A1 A2 A3 B0 B1 B2 B3
                go_upto_region 10 with (fail)
                have L5 := L3.other (u := .int .u64 (hi y)) (v := .int .u64 (lo y)) (show w.heap.size < g by omega) (show w.heap.size + 1 ≠ g by omega)
                have R5 := row_two_set (u := .int .u64 (hi y)) (v := .int .u64 (lo y)) Rg
                generalize ((w3.setCell ⟨g, 0, none⟩ (.int .u64 (hi y))).setCell ⟨g, 1, none⟩ (.int .u64 (lo y))) = w5 at L5 R5 ⊢
                clear L3 Rg G0 G1 G2 G3 L
                obtain ⟨G0, G1, G2, G3⟩ := row_two R5
                obtain ⟨A0, A1, A2, A3⟩ := row_two L5.1
                go_upto_region 12 with (fail)
                refine wp_region_free0 [0, 1, 2, 3, 4, 5, 6, 7, 8, 10, 9] [10] [0, 1, 2, 3, 4, 5, 6, 7, 8, 9] 11 (fun w' => PowS w w' (w.heap.size + 1) n ∧ Row w' g 24 (Wc y)) (by kernel_rfl) (by kernel_rfl) (fun _ _ d _ _ h => by cases d <;> exact h) ?_ ?_
                · exact ⟨L5.drew, R5⟩
                (refine plan_val ?_ rfl rfl rfl (fun w' hS => ?_) ?_; rotate_left; (obtain ⟨X0, X1, X2, X3⟩ := row_two hS.1.2.1; obtain ⟨Y0, Y1, Y2, Y3⟩ := row_two hS.2; go_simp; try with_reducible rfl); simp only [Act.put, List.setIfInBounds_toArray, List.set_cons_zero, List.set_cons_succ])
                (refine plan_pure ?_ rfl rfl (fun w' => ?_) ?_; rotate_left; (go_simp; try with_reducible rfl); simp only [Act.put, List.setIfInBounds_toArray, List.set_cons_zero, List.set_cons_succ])
                (refine plan_pure ?_ rfl rfl (fun w' => ?_) ?_; rotate_left; (go_simp; try with_reducible rfl); simp only [Act.put, List.setIfInBounds_toArray, List.set_cons_zero, List.set_cons_succ])
                (refine plan_pure ?_ rfl rfl (fun w' => ?_) ?_; rotate_left; (go_simp; try with_reducible rfl); simp only [Act.put, List.setIfInBounds_toArray, List.set_cons_zero, List.set_cons_succ])
                (refine plan_pure ?_ rfl rfl (fun w' => ?_) ?_; rotate_left; (go_simp; try with_reducible rfl); simp only [Act.put, List.setIfInBounds_toArray, List.set_cons_zero, List.set_cons_succ])
                (refine plan_pure ?_ rfl rfl (fun w' => ?_) ?_; rotate_left; (go_simp; try with_reducible rfl); simp only [Act.put, List.setIfInBounds_toArray, List.set_cons_zero, List.set_cons_succ])
                refine plan_call (W d) 31 #[.int .u64 (d : Nat)] rfl rfl rfl (fun w' w'' h hb => ⟨h.1.call hb, row_call h.2 hb⟩) (fun w' hS => by obtain ⟨X0, X1, X2, X3⟩ := row_two hS.1.2.1; obtain ⟨Y0, Y1, Y2, Y3⟩ := row_two hS.2; go_simp) (fun w' hS => rof d hd64 w') ?_
                simp only [Act.put, List.setIfInBounds_toArray, List.set_cons_zero, List.set_cons_succ]
                refine plan_call (.tuple #[W 0, .bool false]) 21 #[W y, W d] rfl rfl rfl (fun w' w'' h hb => ⟨h.1.call hb, row_call h.2 hb⟩) (fun w' hS => by obtain ⟨X0, X1, X2, X3⟩ := row_two hS.1.2.1; obtain ⟨Y0, Y1, Y2, Y3⟩ := row_two hS.2; go_simp) (fun w' hS => HA.out w') ?_
                simp only [Act.put, List.setIfInBounds_toArray, List.set_cons_zero, List.set_cons_succ]
                (refine plan_pure ?_ rfl rfl (fun w' => ?_) ?_; rotate_left; (go_simp; try with_reducible rfl); simp only [Act.put, List.setIfInBounds_toArray, List.set_cons_zero, List.set_cons_succ])
                (refine plan_pure ?_ rfl rfl (fun w' => ?_) ?_; rotate_left; (go_simp; try with_reducible rfl); simp only [Act.put, List.setIfInBounds_toArray, List.set_cons_zero, List.set_cons_succ])
                (refine plan_pure ?_ rfl rfl (fun w' => ?_) ?_; rotate_left; (go_simp; try with_reducible rfl); simp only [Act.put, List.setIfInBounds_toArray, List.set_cons_zero, List.set_cons_succ])
                refine plan_nil ?_
                intro w6 L6
                simp only [List.drop_succ_cons, List.drop_zero]
                try simp only [Act.put, List.setIfInBounds_toArray, List.set_cons_zero, List.set_cons_succ]
                clear A0 A1 A2 A3 L5 R5
                obtain ⟨B0, B1, B2, B3⟩ := row_two L6.1.2.1
                go_upto_region 13 with (fail)
                have L7 := L6.1.set 0 (show w.heap.size < w.heap.size + 1 by omega)
                generalize ((w6.setCell ⟨(w.heap.size + 1), 0, none⟩ (.int .u64 (hi 0))).setCell ⟨(w.heap.size + 1), 1, none⟩ (.int .u64 (lo 0))) = w7 at L7 ⊢
                clear L6 B0 B1 B2 B3
                obtain ⟨A0, A1, A2, A3⟩ := row_two L7.1
                have o7 := L7.2.2
                go_wp2_with fail
                have r9 := row_two_set (u := .int .u64 0) (v := .int .u64 0) L7.1
                have o9 : Below w.heap.size w ((w7.setCell ⟨w.heap.size, 0, none⟩ (.int .u64 0)).setCell ⟨w.heap.size, 1, none⟩ (.int .u64 0)) := by
                  (repeat (first | exact Below.refl _ _ | refine Below.setCell ?_ (by first | (simp; done) | (simp; omega) | omega) _ | refine Below.alloc ?_ (by first | (simp; done) | (simp; omega) | omega) _ | refine Below.drew ?_ | refine Below.trans ?_ (Below.mono (by assumption) (by first | (simp; done) | (simp; omega) | omega))))
                generalize ((w7.setCell ⟨w.heap.size, 0, none⟩ (.int .u64 0)).setCell ⟨w.heap.size, 1, none⟩ (.int .u64 0)) = w9 at r9 o9 ⊢
                obtain ⟨d1, d2, _, _⟩ := row_two r9
                exact bodyPost_ret (v := (.tuple #[W 0, .bool false])) (by simp [results, Try.results35, go_sem, W, d1, d2, hi_0, lo_0]) rfl ⟨by rw [parse_no E.out, E.out], o9⟩
            · have HM := Lib.hid (fun w' => rmul n 10 hnb (by decide) w')
              obtain ⟨v1, v2⟩ := mulV_no hm
              rw [v1, v2] at HM
              have E := Lib.hid (parseOK_over (bs := s.data.toList) (k := k + 1) (by rw [HS.out, ← HN.out.1]; omega))
              clear v1 v2
              go_upto_region 9 with (fail)
              have hqr := row_lt L.2.1
              refine wp_region_free1 [0, 1, 2, 3, 5, 4] [5] [0, 1, 2, 3, 4, 6] (6, 24, #[.int .u64 0, .int .u64 0]) 6 7 (fun w' => PowS w w' (w.heap.size + 1) n) (by kernel_rfl) (by kernel_rfl) ⟨_, _, rfl, rfl, rfl, fun ρ w' => by go_simp⟩ rfl (by simp) (fun w' h => h.alloc _) (fun _ _ d _ _ h => by cases d <;> exact h) ?_ ?_
              · exact L.drew
              (refine plan_val ?_ rfl rfl rfl (fun w' hS => ?_) ?_; rotate_left; (obtain ⟨X0, X1, X2, X3⟩ := row_two hS.2.1; go_simp; try with_reducible rfl); simp only [Act.put, List.setIfInBounds_toArray, List.set_cons_zero, List.set_cons_succ])
              refine plan_call (W 10) 31 #[.int .u64 (10 : Nat)] rfl rfl rfl (fun w' w'' h hb => h.call hb) (fun w' hS => by obtain ⟨X0, X1, X2, X3⟩ := row_two hS.2.1; go_simp) (fun w' hS => rof 10 (by decide) w') ?_
              simp only [Act.put, List.setIfInBounds_toArray, List.set_cons_zero, List.set_cons_succ]
              refine plan_call (.tuple #[W 0, .bool false]) 27 #[W n, W 10] rfl rfl rfl (fun w' w'' h hb => h.call hb) (fun w' hS => by obtain ⟨X0, X1, X2, X3⟩ := row_two hS.2.1; go_simp) (fun w' hS => HM.out w') ?_
              simp only [Act.put, List.setIfInBounds_toArray, List.set_cons_zero, List.set_cons_succ]
              (refine plan_pure ?_ rfl rfl (fun w' => ?_) ?_; rotate_left; (go_simp; try with_reducible rfl); simp only [Act.put, List.setIfInBounds_toArray, List.set_cons_zero, List.set_cons_succ])
              (refine plan_pure ?_ rfl rfl (fun w' => ?_) ?_; rotate_left; (go_simp; try with_reducible rfl); simp only [Act.put, List.setIfInBounds_toArray, List.set_cons_zero, List.set_cons_succ])
              (refine plan_pure ?_ rfl rfl (fun w' => ?_) ?_; rotate_left; (go_simp; try with_reducible rfl); simp only [Act.put, List.setIfInBounds_toArray, List.set_cons_zero, List.set_cons_succ])
              refine plan_nil ?_
              intro g w3 L3 Rg hg
              simp only [List.drop_succ_cons, List.drop_zero]
              try simp only [Act.put, List.setIfInBounds_toArray, List.set_cons_zero, List.set_cons_succ]
              obtain ⟨G0, G1, G2, G3⟩ := row_two Rg
              clear A0 A1 A2 A3 B0 B1 B2 B3
              go_upto_region 10 with (fail)
              have L5 := L3.other (u := .int .u64 (hi 0)) (v := .int .u64 (lo 0)) (show w.heap.size < g by omega) (show w.heap.size + 1 ≠ g by omega)
              have R5 := row_two_set (u := .int .u64 (hi 0)) (v := .int .u64 (lo 0)) Rg
              generalize ((w3.setCell ⟨g, 0, none⟩ (.int .u64 (hi 0))).setCell ⟨g, 1, none⟩ (.int .u64 (lo 0))) = w5 at L5 R5 ⊢
              clear L3 Rg G0 G1 G2 G3 L
              obtain ⟨A0, A1, A2, A3⟩ := row_two L5.1
              have o5 := L5.2.2
              go_wp2_with fail
              have r9 := row_two_set (u := .int .u64 0) (v := .int .u64 0) L5.1
              have o9 : Below w.heap.size w ((w5.setCell ⟨w.heap.size, 0, none⟩ (.int .u64 0)).setCell ⟨w.heap.size, 1, none⟩ (.int .u64 0)) := by
                (repeat (first | exact Below.refl _ _ | refine Below.setCell ?_ (by first | (simp; done) | (simp; omega) | omega) _ | refine Below.alloc ?_ (by first | (simp; done) | (simp; omega) | omega) _ | refine Below.drew ?_ | refine Below.trans ?_ (Below.mono (by assumption) (by first | (simp; done) | (simp; omega) | omega))))
              generalize ((w5.setCell ⟨w.heap.size, 0, none⟩ (.int .u64 0)).setCell ⟨w.heap.size, 1, none⟩ (.int .u64 0)) = w9 at r9 o9 ⊢
              obtain ⟨d1, d2, _, _⟩ := row_two r9
              exact bodyPost_ret (v := (.tuple #[W 0, .bool false])) (by simp [results, Try.results35, go_sem, W, d1, d2, hi_0, lo_0]) rfl ⟨by rw [parse_no E.out, E.out], o9⟩
      · have i1 : ¬ (k : Int) < (s.size : Int) := by omega
        have e : k = s.size := by omega
        have HF := Lib.hid (show n = pnum s.data.toList by rw [HN.out.1, e, ← HL.out, List.take_length])
        have E := Lib.hid (parseOK_all (bs := s.data.toList) (fun x => by have := HL.out; rw [x] at this; simp at this; omega) (by rw [HL.out]; exact HH.out) (fun e' he => HN.out.2 e' (by rw [HL.out] at he; omega)) (by rw [← HF.out]; exact hnb))
        clear e
        go_wp2_with fail
        have r9 := row_two_set (u := .int .u64 (hi n)) (v := .int .u64 (lo n)) L.1
        have o9 : Below w.heap.size w ((wr.setCell ⟨w.heap.size, 0, none⟩ (.int .u64 (hi n))).setCell ⟨w.heap.size, 1, none⟩ (.int .u64 (lo n))) := by
          (repeat (first | exact Below.refl _ _ | refine Below.setCell ?_ (by first | (simp; done) | (simp; omega) | omega) _ | refine Below.alloc ?_ (by first | (simp; done) | (simp; omega) | omega) _ | refine Below.drew ?_ | refine Below.trans ?_ (Below.mono (by assumption) (by first | (simp; done) | (simp; omega) | omega))))
        generalize ((wr.setCell ⟨w.heap.size, 0, none⟩ (.int .u64 (hi n))).setCell ⟨w.heap.size, 1, none⟩ (.int .u64 (lo n))) = w9 at r9 o9 ⊢
        obtain ⟨d1, d2, _, _⟩ := row_two r9
        exact bodyPost_ret (v := (.tuple #[W n, .bool true])) (by simp [results, Try.results35, go_sem, W, d1, d2]) rfl ⟨by rw [parse_yes E.out, E.out, ← HF.out], o9⟩
theorem rparse (s : ByteArray) (hm : s.size ≤ 9223372036854775807) (w : World) : Calls Try.prog 35 #[.string s] w fun e w' => e = .returned (.tuple #[W (parseV s.data.toList), .bool (parseOK s.data.toList)]) ∧ Below w.heap.size w w' := by
  by_cases h0 : s.size = 0
  · have e : s.data.toList = [] := by rw [str_empty h0]
    rw [e, parse_no parseOK_nil, parseOK_nil]
    exact rparse_empty s h0 w
  · by_cases h3 : 39 < s.size
    · have e := parseOK_long (bs := s.data.toList) (by rw [str_len]; exact h3)
      rw [parse_no e, e]
      exact rparse_long s h3 hm w
    · by_cases h1 : 1 < s.size ∧ s.data.toList.getD 0 0 = 48
      · have e := parseOK_zero (bs := s.data.toList) (by rw [str_len]; exact h1.1) h1.2
        rw [parse_no e, e]
        have h2 := h1.2
        rw [chr_at (by omega)] at h2
        exact rparse_zero s h1.1 (by rw [h2]; rfl) (by omega) hm w
      · exact rparse_main s (by omega) h1 (by omega) hm w
end Go.Proofs.Ytoemccfpinonhaa
