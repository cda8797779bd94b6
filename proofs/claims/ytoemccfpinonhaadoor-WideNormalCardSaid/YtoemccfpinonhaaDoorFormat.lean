/- The decimal numeral of a wide number, walked: the program. -/
import Derived.Test.YtoemccfpinonhaaDoorDiv
import Derived.Test.YtoemccfpinonhaaDoorFree
import Derived.Test.YtoemccfpinonhaaDoorMathDec
import Derived.Deep.LoopGhost
import Derived.Laws.OwnMore
import Derived.Deep.AppendLies
import Derived.RegionTactic
import Derived.ChangeAlike
import Derived.Laws.BytesArg
namespace Go.Proofs.YtoemccfpinonhaaDoor
open Go.RowKit Go.Shelf

theorem own_call {w w' : World} {base : Nat} {e : TypeId} {size : Nat} {v : Value} {n : Nat} {xs : List Value} (h : w.ownsRow base e size v n xs) (hb : Below w.heap.size w w') : w'.ownsRow base e size v n xs := by
  obtain ⟨h1, h2⟩ := h
  refine ⟨h1, ?_⟩
  rcases h2 with h2 | ⟨g, cap, cur, hv, hg, hh, r⟩
  · exact .inl h2
  · exact .inr ⟨g, cap, cur, hv, hg, (hb.block g (lt_of_block hh)).trans hh, r⟩
theorem infoU8 : (Tryd.prog.info? 5).map (fun i => (i.zero, i.size, i.bytes)) = some (some (.int .u8 0), 1, 1) := by kernel_rfl
/-- What memory holds while the digits are gathered: the number, and the digits so far, which lie in a row of their own. -/
def FmtS (w w' : World) (n : Nat) (v : Value) (ds : List Int) : Prop :=
  Row w' w.heap.size 24 (Wc n) ∧ w'.ownsRow (w.heap.size + 1) 5 1 v ds.length (ds.map (Value.int .u8)) ∧ Below w.heap.size w w'
theorem FmtS.call {w w' w'' : World} {n : Nat} {v : Value} {ds : List Int} (h : FmtS w w' n v ds) (hb : Below w'.heap.size w' w'') : FmtS w w'' n v ds :=
  ⟨row_call h.1 hb, own_call h.2.1 hb, h.2.2.trans (hb.mono h.2.2.size)⟩
theorem FmtS.alloc {w w' : World} {n : Nat} {v : Value} {ds : List Int} (h : FmtS w w' n v ds) (o : Obj) : FmtS w (w'.alloc o) n v ds :=
  ⟨row_alloc h.1 o, h.2.1.alloc o, h.2.2.alloc h.2.2.size o⟩
theorem FmtS.drew {w w' : World} {n : Nat} {v : Value} {ds : List Int} (h : FmtS w w' n v ds) : FmtS w w'.drew n v ds := ⟨h.1, h.2.1, h.2.2.drew⟩
theorem FmtS.store {w w' : World} {n g : Nat} {v x y : Value} {ds : List Int} (h : FmtS w w' n v ds) (h1 : w.heap.size < g) (h2 : v.ownBlock ≠ some g) : FmtS w ((w'.setCell ⟨g, 0, none⟩ x).setCell ⟨g, 1, none⟩ y) n v ds :=
  ⟨row_two_other h.1 (by omega), ownsRow_setCell_other (ownsRow_setCell_other h.2.1 h2 x) h2 y, (h.2.2.setCell (by simp; omega) _).setCell (by simp; omega) _⟩
theorem FmtS.own {w w' : World} {n g : Nat} {v : Value} {ds : List Int} (h : FmtS w w' n v ds) (hg : w'.heap.size ≤ g) : v.ownBlock ≠ some g := fun e => by
  have := (h.2.1.lt g e).2
  omega
theorem lo10 (n : Nat) : 0 ≤ lo (n % 10) ∧ lo (n % 10) ≤ 9 ∧ 48 + lo (n % 10) = ((48 + n % 10 : Nat) : Int) := by unfold lo; omega
set_option maxHeartbeats 4000000 in
theorem pformat (a : Nat) (ha : a < big) (w : World) :
    Calls Tryd.prog 19 #[W a] w fun e w' => e = .returned (.string (decStr a)) ∧ Below w.heap.size w w' := by
  by_cases h0 : a = 0
  · subst h0
    rw [decStr_zero]
    go_enter Tryd.func19, Tryd.ntmps19
    go_wp2_with (go_at_call 14; refine (pzero 0 _).mono ?_; rintro e w1 ⟨rfl, hb1⟩; obtain ⟨hc1, hf1⟩ := bcell hb1; have hz1 := hb1.size; (try simp at hz1))
    go_ret
    refine ⟨rfl, ?_⟩
    (repeat (first | exact Below.refl _ _ | refine Below.setCell ?_ (by first | (simp; done) | (simp; omega) | omega) _ | refine Below.alloc ?_ (by first | (simp; done) | (simp; omega) | omega) _ | refine Below.drew ?_ | refine Below.trans ?_ (Below.mono (by assumption) (by first | (simp; done) | (simp; omega) | omega))))
  · have hz : decide (a = 0) = false := by simpa using h0
    rw [decStr_pos h0]
    go_enter Tryd.func19, Tryd.ntmps19
    go_upto_region 3 with (go_at_call 14; refine (pzero a _).mono ?_; rintro e w1 ⟨rfl, hb1⟩; obtain ⟨hc1, hf1⟩ := bcell hb1; have hz1 := hb1.size; (try simp at hz1))
    have ra : Row w1 (w.heap.size) 24 (Wc a) := row_call (by (repeat (first | assumption | (refine row_new ?_; (first | (simp; done) | omega)) | refine row_alloc ?_ _ | refine row_drew ?_ | refine row_call ?_ (by assumption)))) hb1
    have o1 : Below w.heap.size w w1 := by (repeat (first | exact Below.refl _ _ | refine Below.setCell ?_ (by first | (simp; done) | (simp; omega) | omega) _ | refine Below.alloc ?_ (by first | (simp; done) | (simp; omega) | omega) _ | refine Below.drew ?_ | refine Below.trans ?_ (Below.mono (by assumption) (by first | (simp; done) | (simp; omega) | omega))))
    have h39 : a < 10 ^ 39 := Nat.lt_trans ha (by decide)
    clear hc1 hf1 hb1 hz1 hz
    go_wp2_with fail
    go_loopg [3] 39 (fun k v wr => ∃ (n : Nat) (ds : List Int), n < big ∧ n < 10 ^ k ∧ ds ++ lrev k n = lrev 39 a ∧ FmtS w wr n v ds)
    case atStart => exact ⟨a, [], ha, h39, rfl, ra, World.ownsRow_nil _ _ _ _, o1⟩
    case round =>
      clear ra o1 h39
      obtain ⟨n, ds, hnb, hnk, hds, L⟩ := hrel
      by_cases hn0 : n = 0
      · subst hn0
        rw [lrev_zero, List.append_nil] at hds
        have hz : decide ((0 : Nat) = 0) = true := rfl
        obtain ⟨X0, X1, _, _⟩ := row_two L.1
        go_upto_region 8 with (go_at_call 14; refine (pzero 0 _).mono ?_; rintro e w2 ⟨rfl, hb2⟩; obtain ⟨hc2, hf2⟩ := bcell hb2; have hz2 := hb2.size; (try simp at hz2))
        have L2 := L.call hb2
        clear hc2 hf2 hb2 hz2 L X0 X1
        have hpos : 0 < ds.length := by
          rw [hds, show (39 : Nat) = 38 + 1 from rfl, lrev_step h0]
          simp
        have hlen : ds.length ≤ 39 := by rw [hds]; exact lrev_len 39 a
        obtain ⟨g, cap, hv, hg, hgw⟩ := L2.2.1.form hpos
        rw [hv]
        rw [hv] at L2
        have own2 := L2.2.1
        have o2 := L2.2.2
        clear hv L2 hnb hnk hz
        have HD := Lib.hid hds
        clear hds
        go_wp2_with fail
        go_loopw [7, 8] (fun i j wr => ∃ k : Nat, 2 * k ≤ ds.length ∧ i = .int .i64 k ∧ j = .int .i64 ((ds.length : Int) - 1 - k) ∧ wr.ownsRow (w.heap.size + 1) 5 1 (.slice (some ⟨g, 0, none⟩) ds.length cap) ds.length ((rv k ds).map (Value.int .u8)) ∧ Below w.heap.size w wr) (fun i j _ => (intOf j - intOf i + 1).toNat)
        case atStart => exact ⟨0, by omega, rfl, by simp, by rw [rv_0]; exact own2, o2⟩
        case round =>
          clear own2 o2 hgw
          obtain ⟨k, hk, rfl, rfl, own, o⟩ := hrel
          by_cases hlt : 2 * k + 1 < ds.length
          · have c1 : wr.cell? ⟨g, k, none⟩ = some (.int .u8 ((rv k ds).getD k 0)) := by
              rw [own.cellAt k (by omega)]
              simp [List.getD, rv_len, show k < ds.length by omega]
            have c2 : wr.cell? ⟨g, ds.length - 1 - k, none⟩ = some (.int .u8 ((rv k ds).getD (ds.length - 1 - k) 0)) := by
              rw [own.cellAt (ds.length - 1 - k) (by omega)]
              simp [List.getD, rv_len, show ds.length - 1 - k < ds.length by omega]
            have f1 := own.frozenAt k
            have f2 := own.frozenAt (ds.length - 1 - k)
            have i1 : (k : Int) < (ds.length : Int) := by omega
            have i2 : 0 ≤ (ds.length : Int) - 1 - k := by omega
            have i3 : (ds.length : Int) - 1 - k < (ds.length : Int) := by omega
            have i4 : (k : Int) < (ds.length : Int) - 1 - k := by omega
            have i5 : ((ds.length : Int) - 1 - k).toNat = ds.length - 1 - k := by omega
            have i6 : ¬ k = ds.length - 1 - k := by omega
            have i7 : ¬ ds.length - 1 - k = k := by omega
            generalize hx : (rv k ds).getD k 0 = x at c1
            generalize hy : (rv k ds).getD (ds.length - 1 - k) 0 = y at c2
            have HX := Lib.hid hx
            have HY := Lib.hid hy
            have own1 := ((own.stored k (.int .u8 y)).1.stored (ds.length - 1 - k) (.int .u8 x)).1
            clear hx hy
            go_wp2
            go_region
            rw [← List.map_set, ← List.map_set] at own1
            have o1 : Below w.heap.size w ((wr.setCell ⟨g, k, none⟩ (.int .u8 y)).setCell ⟨g, ds.length - 1 - k, none⟩ (.int .u8 x)).drew := ((o.setCell (by simp; omega) _).setCell (by simp; omega) _).drew
            have own2 := own1.drew
            generalize ((wr.setCell ⟨g, k, none⟩ (.int .u8 y)).setCell ⟨g, ds.length - 1 - k, none⟩ (.int .u8 x)).drew = w3 at o1 own2 ⊢
            clear own own1 c1 c2 f1 f2 o i5 i6 i7
            go_wp2
            go_roundw
            case rel =>
              refine ⟨k + 1, by omega, by go_num, by go_num, ?_, o1⟩
              rw [← rv_step hlt, HX.out, HY.out]
              exact own2
            case measure => simp [intOf]; omega
          · have hr := rv_end (k := k) (xs := ds) (by omega)
            rw [hr] at own
            have hcv := run_convert_bytes_arg (P := Tryd.prog) wr 39 5 Tryd.underlying39 Tryd.underlying5 g 0 ds.length cap ds.reverse (by simp) (fun i hi => by
              rw [Nat.zero_add, own.cellAt i (by omega)]
              have h2 : ds.length - 1 - i < ds.length := by omega
              simp [List.getD, hi, h2]) 9 Tryd.underlying9
            clear hr own
            go_wp2
            go_ret
            exact ⟨by rw [HD.out]; rfl, o⟩
      · have hz : decide (n = 0) = false := by simpa using hn0
        obtain ⟨k', rfl⟩ : ∃ k', gk = k' + 1 := ⟨gk - 1, by cases gk with | zero => simp at hnk; omega | succ k => rfl⟩
        obtain ⟨X0, X1, _, _⟩ := row_two L.1
        go_upto_region 5 with (go_at_call 14; refine (pzero n _).mono ?_; rintro e w2 ⟨rfl, hb2⟩; obtain ⟨hc2, hf2⟩ := bcell hb2; have hz2 := hb2.size; (try simp at hz2))
        have L2 := L.call hb2
        clear hc2 hf2 hb2 hz2 hz L X0 X1
        have hs2 := row_lt L2.1
        refine wp_region_free2 [0, 1, 2, 3, 5, 6, 4] [5, 6] [0, 1, 2, 3, 4, 7, 8] (7, 24, #[.int .u64 0, .int .u64 0]) (8, 24, #[.int .u64 0, .int .u64 0]) 4 5 9 (fun w' => FmtS w w' n u3 ds) (by kernel_rfl) (by kernel_rfl) ⟨_, _, rfl, rfl, rfl, fun ρ w' => by go_simp⟩ ⟨_, _, rfl, rfl, rfl, fun ρ w' => by go_simp⟩ rfl rfl (by simp) (by simp) (fun w' h => h.alloc _) (fun w' h => h.alloc _) (fun _ _ d _ _ h => by cases d <;> exact h) ?_ ?_
        · exact L2.drew
        (refine plan_val ?_ rfl rfl rfl (fun w' hS => ?_) ?_; rotate_left; (obtain ⟨X0, X1, _, _⟩ := row_two hS.1; go_simp; try with_reducible rfl); simp only [Act.put, List.setIfInBounds_toArray, List.set_cons_zero, List.set_cons_succ])
        refine plan_call (W 10) 21 #[.int .u64 (10 : Nat)] rfl rfl rfl (fun w' w'' h hb => h.call hb) (fun w' hS => by obtain ⟨X0, X1, _, _⟩ := row_two hS.1; go_simp) (fun w' hS => pof 10 (by decide) w') ?_
        simp only [Act.put, List.setIfInBounds_toArray, List.set_cons_zero, List.set_cons_succ]
        refine plan_call (.tuple #[W (n / 10), W (n % 10), .bool true]) 20 #[W n, W 10] rfl rfl rfl (fun w' w'' h hb => h.call hb) (fun w' hS => by obtain ⟨X0, X1, _, _⟩ := row_two hS.1; go_simp) (fun w' hS => pdiv_yes n 10 hnb (by decide) (by decide) w') ?_
        simp only [Act.put, List.setIfInBounds_toArray, List.set_cons_zero, List.set_cons_succ]
        (refine plan_pure ?_ rfl rfl (fun w' => ?_) ?_; rotate_left; (go_simp; try with_reducible rfl); simp only [Act.put, List.setIfInBounds_toArray, List.set_cons_zero, List.set_cons_succ])
        (refine plan_pure ?_ rfl rfl (fun w' => ?_) ?_; rotate_left; (go_simp; try with_reducible rfl); simp only [Act.put, List.setIfInBounds_toArray, List.set_cons_zero, List.set_cons_succ])
        (refine plan_pure ?_ rfl rfl (fun w' => ?_) ?_; rotate_left; (go_simp; try with_reducible rfl); simp only [Act.put, List.setIfInBounds_toArray, List.set_cons_zero, List.set_cons_succ])
        (refine plan_pure ?_ rfl rfl (fun w' => ?_) ?_; rotate_left; (go_simp; try with_reducible rfl); simp only [Act.put, List.setIfInBounds_toArray, List.set_cons_zero, List.set_cons_succ])
        refine plan_nil ?_
        intro g k w3 L3 Rg Rk hgk hg hk
        simp only [List.drop_succ_cons, List.drop_zero]
        try simp only [Act.put, List.setIfInBounds_toArray, List.set_cons_zero, List.set_cons_succ]
        obtain ⟨G0, G1, G2, G3⟩ := row_two Rg
        obtain ⟨K0, K1, K2, K3⟩ := row_two Rk
        go_upto_region 6 with (fail)
        have og := L2.own hg
        have ok := L2.own hk
        have L5 := (L3.store (x := .int .u64 (hi (n / 10))) (y := .int .u64 (lo (n / 10))) (show w.heap.size < g by omega) og).store (x := .int .u64 (hi (n % 10))) (y := .int .u64 (lo (n % 10))) (show w.heap.size < k by omega) ok
        have Rg5 := row_two_other (u := .int .u64 (hi (n % 10))) (v := .int .u64 (lo (n % 10))) (row_two_set (u := .int .u64 (hi (n / 10))) (v := .int .u64 (lo (n / 10))) Rg) hgk
        have Rk5 := row_two_set (u := .int .u64 (hi (n % 10))) (v := .int .u64 (lo (n % 10))) (row_two_other (u := .int .u64 (hi (n / 10))) (v := .int .u64 (lo (n / 10))) Rk (Ne.symm hgk))
        generalize (((w3.setCell ⟨g, 0, none⟩ (.int .u64 (hi (n / 10)))).setCell ⟨g, 1, none⟩ (.int .u64 (lo (n / 10)))).setCell ⟨k, 0, none⟩ (.int .u64 (hi (n % 10)))).setCell ⟨k, 1, none⟩ (.int .u64 (lo (n % 10))) = w5 at L5 Rg5 Rk5 ⊢
        clear L2 L3 Rg Rk G0 G1 G2 G3 K0 K1 K2 K3
        obtain ⟨_, K1, _, _⟩ := row_two Rk5
        obtain ⟨i0, hi0, hz0, hz1, hz2⟩ := info_parts infoU8
        obtain ⟨z0, z1, z2⟩ := lo10 n
        have Z := Lib.hid z2
        have hlen : ds.length ≤ 39 := by
          have e := congrArg List.length hds
          have := lrev_len 39 a
          simp only [List.length_append] at e
          omega
        have hb5 : w.heap.size + 1 ≤ w5.heap.size := by have := row_lt L5.1; omega
        clear z2
        have own5 := L5.2.1
        go_wp2_with (at_builtin; refine wpList_append_own _ rfl _ _ 39 rfl (w.heap.size + 1) 5 i0 (.int .u8 0) 1 1 Tryd.underlying39 hi0 hz0 hz1 hz2 rfl (by decide) _ _ _ rfl (own5.alloc _) ⟨w5.heap.size, 0, none⟩ 1 1 [.int .u8 (48 + lo (n % 10))] rfl rfl ?c1 ?c2 ?c3 ?c4 ?c5 ?_)
        case c1 =>
          intro j u hj
          match j, hj with
          | 0, hj => simp at hj; subst hj; simp [Addr.add]
        case c2 => intro u hu; simp at hu; subst hu; rfl
        case c3 => unfold maxLen; omega
        case c4 => omega
        case c5 => simp; omega
        intro v' w6 own6 hgrow _
        have e1 : u3.ownBlock ≠ some w.heap.size := fun e => by have := (own5.lt _ e).1; omega
        have R6 : Row w6 w.heap.size 24 (Wc n) := row_grown (row_alloc L5.1 _) hgrow e1
        have G6 : Row w6 g 24 (Wc (n / 10)) := row_grown (row_alloc Rg5 _) hgrow og
        have B6 : Below w.heap.size w w6 := (L5.2.2.alloc (by omega) _).grown hgrow (by simp; omega) (fun k hk => by have := (own5.lt k hk).1; omega)
        obtain ⟨G0, G1, _, _⟩ := row_two G6
        obtain ⟨R0, R1, R2, R3⟩ := row_two R6
        clear L5 Rg5 Rk5 K1 own5 hgrow e1 og ok hi0 hz0 hz1 hz2 z0 z1
        go_wp2_with fail
        go_roundg k'
        case measure => omega
        case rel =>
          refine ⟨n / 10, ds ++ [48 + lo (n % 10)], by omega, by rw [Nat.pow_succ] at hnk; omega, ?_, row_two_set R6, ?_, (B6.setCell (by simp) _).setCell (by simp) _⟩
          · rw [Z.out, ← hds, lrev_step hn0]
            simp
          · rw [List.map_append, List.length_append]
            exact ownsRow_setCell_below (ownsRow_setCell_below own6 (by simp) _) (by simp) _
end Go.Proofs.YtoemccfpinonhaaDoor
