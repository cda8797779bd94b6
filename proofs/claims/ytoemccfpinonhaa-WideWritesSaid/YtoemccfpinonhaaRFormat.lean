/- The decimal numeral of a wide number, walked: the reference. -/
import Derived.Test.YtoemccfpinonhaaFormat
import Derived.Test.YtoemccfpinonhaaGcd
import Derived.Lib.Hide
namespace Go.Proofs.Ytoemccfpinonhaa
open Go.RowKit Go.Shelf
theorem lrev_more : ∀ (f n : Nat), n < 10 ^ f → lrev (f + 1) n = lrev f n
  | 0, n, h => by
    have : n = 0 := by simpa using h
    subst this
    simp [lrev]
  | f + 1, n, h => by
    by_cases hn : n = 0
    · subst hn
      simp [lrev]
    · rw [lrev_step hn, lrev_step hn, lrev_more f (n / 10) (by rw [Nat.pow_succ] at h; omega)]
theorem decN_step {n : Nat} (hb : n < big) (h : n / 10 ≠ 0) : decN n = decN (n / 10) ++ [48 + lo (n % 10)] := by
  have hn : n ≠ 0 := by omega
  have h38 : n / 10 < 10 ^ 38 := by
    have : big ≤ 10 ^ 39 := by decide
    have e : (10 : Nat) ^ 39 = 10 ^ 38 * 10 := Nat.pow_succ ..
    omega
  unfold decN
  rw [if_neg hn, if_neg h, lrev_step hn, ← lrev_more 38 (n / 10) h38, List.reverse_cons, (lo10 n).2.2]
theorem decN_last {n : Nat} (h : n / 10 = 0) : decN n = [48 + lo (n % 10)] := by
  rw [(lo10 n).2.2]
  by_cases hn : n = 0
  · subst hn
    rfl
  · unfold decN
    rw [if_neg hn, lrev_step hn, h, lrev_zero]
    rfl
theorem ret_str {a b : ByteArray} (h : a = b) : Ending.returned (.string a) = .returned (.string b) := by rw [h]
theorem decN_len (a : Nat) : (decN a).length ≤ 39 := by
  unfold decN
  split
  · simp
  · rw [List.length_reverse]; exact lrev_len 39 a
theorem str_cons (x : Int) (ds : List Int) : strOfNums [x] ++ strOfNums ds = strOfNums (x :: ds) := by
  have h : (strOfNums [x] ++ strOfNums ds).data = (strOfNums (x :: ds)).data := by
    simp [strOfNums, ByteArray.data_append]
  generalize strOfNums [x] ++ strOfNums ds = a at h
  generalize strOfNums (x :: ds) = b at h
  cases a
  cases b
  simp at h
  rw [h]
set_option maxHeartbeats 4000000 in
theorem rformat (a : Nat) (ha : a < big) (w : World) :
    Calls Try.prog 34 #[W a] w fun e w' => e = .returned (.string (decStr a)) ∧ Below w.heap.size w w' := by
  have h39 : a < 10 ^ 39 := Nat.lt_trans ha (by decide)
  have es : strOfNums [] = { data := #[] } := rfl
  go_enter Try.func34, Try.ntmps34
  go_upto_region 2 with (fail)
  have ra : Row (w.alloc (.cells (Wc a) 24)) w.heap.size 24 (Wc a) := by (repeat (first | assumption | (refine row_new ?_; (first | (simp; done) | omega)) | refine row_alloc ?_ _ | refine row_drew ?_ | refine row_call ?_ (by assumption)))
  have o1 : Below w.heap.size w (w.alloc (.cells (Wc a) 24)) := by (repeat (first | exact Below.refl _ _ | refine Below.setCell ?_ (by first | (simp; done) | (simp; omega) | omega) _ | refine Below.alloc ?_ (by first | (simp; done) | (simp; omega) | omega) _ | refine Below.drew ?_ | refine Below.trans ?_ (Below.mono (by assumption) (by first | (simp; done) | (simp; omega) | omega))))
  generalize (w.alloc (.cells (Wc a) 24)) = w2 at ra o1 ⊢
  go_loopg [3] 40 (fun k v wr => ∃ (n : Nat) (ds : List Int), n < 10 ^ k ∧ n < big ∧ v = .string (strOfNums ds) ∧ Row wr w.heap.size 24 (Wc n) ∧ Below w.heap.size w wr ∧ RowKit.Hid (decN a = decN n ++ ds))
  case atStart => exact ⟨a, [], Nat.lt_trans h39 (by decide), ha, rfl, ra, o1, Lib.hid (by simp)⟩
  case round =>
    clear ra o1 h39 es
    obtain ⟨n, ds, hnk, hnb, rfl, L, o, HH⟩ := hrel
    obtain ⟨z0, z1, _⟩ := lo10 n
    have HD := Lib.hid (fun w' => rdiv_yes n 10 hnb (by decide) (by decide) w')
    obtain ⟨X0, X1, _, _⟩ := row_two L
    have hsz : (strOfNums ds).size ≤ 39 := by
      rw [strOfNums_size]
      have h1 := decN_len a
      have h2 := congrArg List.length HH.out
      rw [List.length_append] at h2
      omega
    generalize hds : strOfNums ds = sd at hsz
    have HDS := Lib.hid hds
    clear hds
    by_cases hq : n / 10 = 0
    · have E := Lib.hid (show decN a = (48 + lo (n % 10)) :: ds by rw [HH.out, decN_last hq]; rfl)
      generalize n % 10 = r at HD E z0 z1
      generalize n / 10 = q at HD hq
      have HQ := Lib.hid hq
      clear hq HH
      go_upto_region 2 with (fail)
      have hs2 := row_lt L
      refine wp_region_free2 [0, 1, 2, 3, 5, 6, 4] [5, 6] [0, 1, 2, 3, 4, 7, 8] (7, 24, #[.int .u64 0, .int .u64 0]) (8, 24, #[.int .u64 0, .int .u64 0]) 4 5 9 (fun w' => Row w' w.heap.size 24 (Wc n) ∧ Below w.heap.size w w') (by kernel_rfl) (by kernel_rfl) ⟨_, _, rfl, rfl, rfl, fun ρ w' => by go_simp⟩ ⟨_, _, rfl, rfl, rfl, fun ρ w' => by go_simp⟩ rfl rfl (by simp) (by simp) (fun w' h => ⟨row_alloc h.1 _, h.2.alloc h.2.size _⟩) (fun w' h => ⟨row_alloc h.1 _, h.2.alloc h.2.size _⟩) (fun _ _ d _ _ h => by cases d <;> exact h) ?_ ?_
      · exact ⟨L, o.drew⟩
      (refine plan_val ?_ rfl rfl rfl (fun w' hS => ?_) ?_; rotate_left; (obtain ⟨X0, X1, _, _⟩ := row_two hS.1; go_simp; try with_reducible rfl); simp only [Act.put, List.setIfInBounds_toArray, List.set_cons_zero, List.set_cons_succ])
      refine plan_call (W 10) 31 #[.int .u64 (10 : Nat)] rfl rfl rfl (fun w' w'' h hb => ⟨row_call h.1 hb, h.2.trans (hb.mono h.2.size)⟩) (fun w' hS => by obtain ⟨X0, X1, _, _⟩ := row_two hS.1; go_simp) (fun w' hS => rof 10 (by decide) w') ?_
      simp only [Act.put, List.setIfInBounds_toArray, List.set_cons_zero, List.set_cons_succ]
      refine plan_call (.tuple #[W q, W r, .bool true]) 14 #[W n, W 10] rfl rfl rfl (fun w' w'' h hb => ⟨row_call h.1 hb, h.2.trans (hb.mono h.2.size)⟩) (fun w' hS => by obtain ⟨X0, X1, _, _⟩ := row_two hS.1; go_simp) (fun w' hS => HD.out w') ?_
      simp only [Act.put, List.setIfInBounds_toArray, List.set_cons_zero, List.set_cons_succ]
      (refine plan_pure ?_ rfl rfl (fun w' => ?_) ?_; rotate_left; (go_simp; try with_reducible rfl); simp only [Act.put, List.setIfInBounds_toArray, List.set_cons_zero, List.set_cons_succ])
      (refine plan_pure ?_ rfl rfl (fun w' => ?_) ?_; rotate_left; (go_simp; try with_reducible rfl); simp only [Act.put, List.setIfInBounds_toArray, List.set_cons_zero, List.set_cons_succ])
      (refine plan_pure ?_ rfl rfl (fun w' => ?_) ?_; rotate_left; (go_simp; try with_reducible rfl); simp only [Act.put, List.setIfInBounds_toArray, List.set_cons_zero, List.set_cons_succ])
      (refine plan_pure ?_ rfl rfl (fun w' => ?_) ?_; rotate_left; (go_simp; try with_reducible rfl); simp only [Act.put, List.setIfInBounds_toArray, List.set_cons_zero, List.set_cons_succ])
      refine plan_nil ?_
      intro g k w3 L3 Rg Rk hgk hg hk
      simp only [List.drop_succ_cons, List.drop_zero]
      try simp only [Act.put, List.setIfInBounds_toArray, List.set_cons_zero, List.set_cons_succ]
      obtain ⟨G0, G1, G2, G3⟩ := row_two Rg
      obtain ⟨K0, K1, K2, K3⟩ := row_two Rk
      clear X0 X1
      go_upto_region 3 with (fail)
      have L5 := row_two_other (u := .int .u64 (hi r)) (v := .int .u64 (lo r)) (row_two_other (u := .int .u64 (hi q)) (v := .int .u64 (lo q)) L3.1 (show w.heap.size ≠ g by omega)) (show w.heap.size ≠ k by omega)
      have Rg5 := row_two_other (u := .int .u64 (hi r)) (v := .int .u64 (lo r)) (row_two_set (u := .int .u64 (hi q)) (v := .int .u64 (lo q)) Rg) hgk
      have Rk5 := row_two_set (u := .int .u64 (hi r)) (v := .int .u64 (lo r)) (row_two_other (u := .int .u64 (hi q)) (v := .int .u64 (lo q)) Rk (Ne.symm hgk))
      have o5 : Below w.heap.size w ((((w3.setCell ⟨g, 0, none⟩ (.int .u64 (hi q))).setCell ⟨g, 1, none⟩ (.int .u64 (lo q))).setCell ⟨k, 0, none⟩ (.int .u64 (hi r))).setCell ⟨k, 1, none⟩ (.int .u64 (lo r))) := (((L3.2.setCell (by simp; omega) _).setCell (by simp; omega) _).setCell (by simp; omega) _).setCell (by simp; omega) _
      generalize ((((w3.setCell ⟨g, 0, none⟩ (.int .u64 (hi q))).setCell ⟨g, 1, none⟩ (.int .u64 (lo q))).setCell ⟨k, 0, none⟩ (.int .u64 (hi r))).setCell ⟨k, 1, none⟩ (.int .u64 (lo r))) = w5 at L5 Rg5 Rk5 o5 ⊢
      clear L3 Rg Rk G0 G1 G2 G3 K0 K1 K2 K3 L o
      have hcv := run_convert_bytes_arg (P := Try.prog) (w5.alloc (.cells #[.int .u8 (48 + lo r)] 5)) 55 5 Try.underlying55 Try.underlying5 w5.heap.size 0 1 1 [48 + lo r] rfl (fun i hi => by
        match i, hi with
        | 0, _ => exact row_cell (row_new (w := w5) (t := 5) (cs := #[.int .u8 (48 + lo r)]) rfl) 0) 9 Try.underlying9
      have hs1 := strOfNums_size [48 + lo r]
      simp only [List.length_cons, List.length_nil] at hs1
      have L6 := row_alloc L5 (.cells #[.int .u8 (48 + lo r)] 5)
      have Rg6 := row_alloc Rg5 (.cells #[.int .u8 (48 + lo r)] 5)
      have o6 := o5.alloc o5.size (.cells #[.int .u8 (48 + lo r)] 5)
      obtain ⟨_, K1, _, _⟩ := row_two Rk5
      clear L5 Rg5 o5 Rk5
      obtain ⟨G0, G1, G2, G3⟩ := row_two Rg6
      obtain ⟨X0, X1, X2, X3⟩ := row_two L6
      have L7 := row_two_set (u := .int .u64 (hi q)) (v := .int .u64 (lo q)) L6
      have o7 : Below w.heap.size w (((w5.alloc (.cells #[.int .u8 (48 + lo r)] 5)).setCell ⟨w.heap.size, 0, none⟩ (.int .u64 (hi q))).setCell ⟨w.heap.size, 1, none⟩ (.int .u64 (lo q))) := (o6.setCell (by simp) _).setCell (by simp) _
      go_upto_region 5 with (fail)
      clear hcv K1 G0 G1 G2 G3 X0 X1 X2 X3
      generalize (((w5.alloc (.cells #[.int .u8 (48 + lo r)] 5)).setCell ⟨w.heap.size, 0, none⟩ (.int .u64 (hi q))).setCell ⟨w.heap.size, 1, none⟩ (.int .u64 (lo q))) = w7 at L7 o7 ⊢
      clear L6 Rg6 o6
      obtain ⟨X0, X1, X2, X3⟩ := row_two L7
      have hq := HQ.out
      subst hq
      rw [hi_0] at X0
      rw [lo_0] at X1
      go_wp2_with fail
      go_ret
      exact ⟨ret_str (show strOfNums [48 + lo r] ++ sd = decStr a by rw [← HDS.out, str_cons, decStr, E.out]), o7⟩
    · have E := Lib.hid (show decN a = decN (n / 10) ++ (48 + lo (n % 10)) :: ds by rw [HH.out, decN_step hnb hq]; simp)
      obtain ⟨k', rfl⟩ : ∃ k', gk = k' + 1 := ⟨gk - 1, by cases gk with | zero => simp at hnk; omega | succ k => rfl⟩
      have hnq : n / 10 < 10 ^ k' := by rw [Nat.pow_succ] at hnk; omega
      have hqb : n / 10 < big := Nat.lt_of_le_of_lt (Nat.div_le_self n 10) hnb
      generalize n % 10 = r at HD E z0 z1
      generalize n / 10 = q at HD hq E hnq hqb
      have HQ := Lib.hid hq
      clear hq HH
      go_upto_region 2 with (fail)
      have hs2 := row_lt L
      refine wp_region_free2 [0, 1, 2, 3, 5, 6, 4] [5, 6] [0, 1, 2, 3, 4, 7, 8] (7, 24, #[.int .u64 0, .int .u64 0]) (8, 24, #[.int .u64 0, .int .u64 0]) 4 5 9 (fun w' => Row w' w.heap.size 24 (Wc n) ∧ Below w.heap.size w w') (by kernel_rfl) (by kernel_rfl) ⟨_, _, rfl, rfl, rfl, fun ρ w' => by go_simp⟩ ⟨_, _, rfl, rfl, rfl, fun ρ w' => by go_simp⟩ rfl rfl (by simp) (by simp) (fun w' h => ⟨row_alloc h.1 _, h.2.alloc h.2.size _⟩) (fun w' h => ⟨row_alloc h.1 _, h.2.alloc h.2.size _⟩) (fun _ _ d _ _ h => by cases d <;> exact h) ?_ ?_
      · exact ⟨L, o.drew⟩
      (refine plan_val ?_ rfl rfl rfl (fun w' hS => ?_) ?_; rotate_left; (obtain ⟨X0, X1, _, _⟩ := row_two hS.1; go_simp; try with_reducible rfl); simp only [Act.put, List.setIfInBounds_toArray, List.set_cons_zero, List.set_cons_succ])
      refine plan_call (W 10) 31 #[.int .u64 (10 : Nat)] rfl rfl rfl (fun w' w'' h hb => ⟨row_call h.1 hb, h.2.trans (hb.mono h.2.size)⟩) (fun w' hS => by obtain ⟨X0, X1, _, _⟩ := row_two hS.1; go_simp) (fun w' hS => rof 10 (by decide) w') ?_
      simp only [Act.put, List.setIfInBounds_toArray, List.set_cons_zero, List.set_cons_succ]
      refine plan_call (.tuple #[W q, W r, .bool true]) 14 #[W n, W 10] rfl rfl rfl (fun w' w'' h hb => ⟨row_call h.1 hb, h.2.trans (hb.mono h.2.size)⟩) (fun w' hS => by obtain ⟨X0, X1, _, _⟩ := row_two hS.1; go_simp) (fun w' hS => HD.out w') ?_
      simp only [Act.put, List.setIfInBounds_toArray, List.set_cons_zero, List.set_cons_succ]
      (refine plan_pure ?_ rfl rfl (fun w' => ?_) ?_; rotate_left; (go_simp; try with_reducible rfl); simp only [Act.put, List.setIfInBounds_toArray, List.set_cons_zero, List.set_cons_succ])
      (refine plan_pure ?_ rfl rfl (fun w' => ?_) ?_; rotate_left; (go_simp; try with_reducible rfl); simp only [Act.put, List.setIfInBounds_toArray, List.set_cons_zero, List.set_cons_succ])
      (refine plan_pure ?_ rfl rfl (fun w' => ?_) ?_; rotate_left; (go_simp; try with_reducible rfl); simp only [Act.put, List.setIfInBounds_toArray, List.set_cons_zero, List.set_cons_succ])
      (refine plan_pure ?_ rfl rfl (fun w' => ?_) ?_; rotate_left; (go_simp; try with_reducible rfl); simp only [Act.put, List.setIfInBounds_toArray, List.set_cons_zero, List.set_cons_succ])
      refine plan_nil ?_
      intro g k w3 L3 Rg Rk hgk hg hk
      simp only [List.drop_succ_cons, List.drop_zero]
      try simp only [Act.put, List.setIfInBounds_toArray, List.set_cons_zero, List.set_cons_succ]
      obtain ⟨G0, G1, G2, G3⟩ := row_two Rg
      obtain ⟨K0, K1, K2, K3⟩ := row_two Rk
      clear X0 X1
      go_upto_region 3 with (fail)
      have L5 := row_two_other (u := .int .u64 (hi r)) (v := .int .u64 (lo r)) (row_two_other (u := .int .u64 (hi q)) (v := .int .u64 (lo q)) L3.1 (show w.heap.size ≠ g by omega)) (show w.heap.size ≠ k by omega)
      have Rg5 := row_two_other (u := .int .u64 (hi r)) (v := .int .u64 (lo r)) (row_two_set (u := .int .u64 (hi q)) (v := .int .u64 (lo q)) Rg) hgk
      have Rk5 := row_two_set (u := .int .u64 (hi r)) (v := .int .u64 (lo r)) (row_two_other (u := .int .u64 (hi q)) (v := .int .u64 (lo q)) Rk (Ne.symm hgk))
      have o5 : Below w.heap.size w ((((w3.setCell ⟨g, 0, none⟩ (.int .u64 (hi q))).setCell ⟨g, 1, none⟩ (.int .u64 (lo q))).setCell ⟨k, 0, none⟩ (.int .u64 (hi r))).setCell ⟨k, 1, none⟩ (.int .u64 (lo r))) := (((L3.2.setCell (by simp; omega) _).setCell (by simp; omega) _).setCell (by simp; omega) _).setCell (by simp; omega) _
      generalize ((((w3.setCell ⟨g, 0, none⟩ (.int .u64 (hi q))).setCell ⟨g, 1, none⟩ (.int .u64 (lo q))).setCell ⟨k, 0, none⟩ (.int .u64 (hi r))).setCell ⟨k, 1, none⟩ (.int .u64 (lo r))) = w5 at L5 Rg5 Rk5 o5 ⊢
      clear L3 Rg Rk G0 G1 G2 G3 K0 K1 K2 K3 L o
      have hcv := run_convert_bytes_arg (P := Try.prog) (w5.alloc (.cells #[.int .u8 (48 + lo r)] 5)) 55 5 Try.underlying55 Try.underlying5 w5.heap.size 0 1 1 [48 + lo r] rfl (fun i hi => by
        match i, hi with
        | 0, _ => exact row_cell (row_new (w := w5) (t := 5) (cs := #[.int .u8 (48 + lo r)]) rfl) 0) 9 Try.underlying9
      have hs1 := strOfNums_size [48 + lo r]
      simp only [List.length_cons, List.length_nil] at hs1
      have L6 := row_alloc L5 (.cells #[.int .u8 (48 + lo r)] 5)
      have Rg6 := row_alloc Rg5 (.cells #[.int .u8 (48 + lo r)] 5)
      have o6 := o5.alloc o5.size (.cells #[.int .u8 (48 + lo r)] 5)
      obtain ⟨_, K1, _, _⟩ := row_two Rk5
      clear L5 Rg5 o5 Rk5
      obtain ⟨G0, G1, G2, G3⟩ := row_two Rg6
      obtain ⟨X0, X1, X2, X3⟩ := row_two L6
      have L7 := row_two_set (u := .int .u64 (hi q)) (v := .int .u64 (lo q)) L6
      have o7 : Below w.heap.size w (((w5.alloc (.cells #[.int .u8 (48 + lo r)] 5)).setCell ⟨w.heap.size, 0, none⟩ (.int .u64 (hi q))).setCell ⟨w.heap.size, 1, none⟩ (.int .u64 (lo q))) := (o6.setCell (by simp) _).setCell (by simp) _
      go_upto_region 5 with (fail)
      clear hcv K1 G0 G1 G2 G3 X0 X1 X2 X3
      generalize (((w5.alloc (.cells #[.int .u8 (48 + lo r)] 5)).setCell ⟨w.heap.size, 0, none⟩ (.int .u64 (hi q))).setCell ⟨w.heap.size, 1, none⟩ (.int .u64 (lo q))) = w7 at L7 o7 ⊢
      clear L6 Rg6 o6
      obtain ⟨X0, X1, X2, X3⟩ := row_two L7
      have he := run_eql_zero HQ.out
      go_wp2_with fail
      go_roundg k'
      case measure => omega
      case rel => exact ⟨q, (48 + lo r) :: ds, hnq, hqb, by rw [← HDS.out]; exact congrArg Value.string (str_cons _ _), L7, o7, E⟩
end Go.Proofs.Ytoemccfpinonhaa
