/- Marks of smooth histograms: a value more in all marks, walked. -/
import Derived.Test.YtaiepjcnncajcaaMkA
import Derived.Test.YtaiepjcnncajcaaOrow
set_option linter.unusedVariables false
set_option linter.unusedSimpArgs false
set_option linter.unusedSectionVars false
set_option linter.unnecessarySimpa false
namespace Go.Proofs.Ytaiepjcnncajcaa
open Go.RowKit
/-- What a call that answers marks of its own leaves. -/
def MRet (n : Nat) (l : List Mk) (w : World) (e : Ending) (w' : World) : Prop := ∃ v, e = .returned v ∧ w'.ownsRow w.heap.size 33 7 v n (mcells l) ∧ Below w.heap.size w w'
/-- Small numbers. -/
def SmallM (m : Mk) : Prop := (0 ≤ m.n ∧ m.n ≤ 65536) ∧ (-268435456 ≤ m.s ∧ m.s ≤ 268435456) ∧ 0 ≤ m.q ∧ m.q ≤ 1099511627776
theorem mk_take {l : List Mk} {j : Nat} (h : j < l.length) : l.take (j + 1) = l.take j ++ [mkAt l j] := by
  rw [List.take_succ_eq_append_getElem h]
  unfold mkAt
  rw [List.getD_eq_getElem?_getD, List.getElem?_eq_getElem h]
  rfl
theorem SmallM.of_one {seq cap now w least : Int} {m : Mk} (h : oneP seq cap now w least m) (hc : cap ≤ 65536) (hl : -4096 ≤ least) : SmallM m := by
  obtain ⟨h1, h2, h3, h4, h5, h6, h7, h8, h9, p1, p2, p3, p4, p5⟩ := h
  have b1 := mul_small (n := m.n) (x := m.lo) (by omega) (by omega) (by omega) (by omega)
  have b2 := mul_small (n := m.n) (x := m.hi) (by omega) (by omega) (by omega) (by omega)
  exact ⟨by omega, by omega, by omega, by omega⟩
set_option maxRecDepth 100000 in
set_option maxHeartbeats 4000000 in
theorem pmadd (A : Option Addr) (m c : Nat) (l : List Mk) (seq t v : Int) (w : World) (hin : MIn A m c l w) (hm : m ≤ 1000000) (hS : ∀ i, i < m → SmallM (mkAt l i)) (v0 : -4096 ≤ v) (v1 : v ≤ 4096) :
    Calls Try.prog 69 #[.slice A m c, .int .i64 seq, .int .i64 t, .int .i64 v] w fun e w' => MRet (m + 1) (incl l seq t v) w e w' := by
  have HR := Lib.hid hin
  have HL := Lib.hid hin.len
  have HS := Lib.hid hS
  have hvv := vv_small v0 v1
  have wvv : IntKind.i64.wrap (v * v) = v * v := IntWalk.i64_in _ (by omega)
  obtain ⟨i0, hi0, iz0, iz1, iz2⟩ := info_parts info_mk
  clear hin hS
  go_enter Try.func69, Try.ntmps69
  go_wp2
  go_loopw [9, 14] (fun u i wr => ∃ j : Nat, j ≤ m ∧ i = .int .i64 (j : Nat) ∧ wr.ownsRow w.heap.size 33 7 u j (mcells ((l.take j).map (inc v))) ∧ Below w.heap.size w wr) (fun _ i _ => m - (intOf i).toNat)
  case atStart => exact ⟨0, by omega, rfl, World.ownsRow_nil _ _ _ _, Below.refl _ _⟩
  case round =>
    obtain ⟨j, hj, rfl, own, o⟩ := hrel
    by_cases hlt : j < m
    · obtain ⟨ad, rfl, hadb, ht0⟩ := HR.out.reads.mk hlt
      have hS1 := HS.out j hlt
      have HE : RowKit.Hid (mcells ((l.take (j + 1)).map (inc v)) = mcells ((l.take j).map (inc v)) ++ mcells [inc v (mkAt l j)]) := Lib.hid (by rw [mk_take (by rw [HL.out]; exact hlt), List.map_append, mcells_append]; rfl)
      generalize mkAt l j = mj at ht0 hS1 HE
      obtain ⟨sq, tk, n, s, q, lo, hi⟩ := mj
      obtain ⟨p0, p1, p2, p3, p4, p5, p6⟩ := ht0.below o (by rw [block_of_add]; exact hadb)
      obtain ⟨⟨n0, n1⟩, ⟨s0, s1⟩, q0, q1⟩ := hS1
      dsimp only at p0 p1 p2 p3 p4 p5 p6 n0 n1 s0 s1 q0 q1
      have HX : RowKit.Hid (mcells [inc v (⟨sq, tk, n, s, q, lo, hi⟩ : Mk)] = (#[.int .i64 sq, .int .i64 tk, .int .i64 (n + 1), .int .i64 (s + v), .int .i64 (q + v * v), .int .i64 (min lo v), .int .i64 (max hi v)] : Array Value).toList) := Lib.hid rfl
      have wn : IntKind.i64.wrap (n + 1) = n + 1 := IntWalk.i64_in _ (by omega)
      have ws : IntKind.i64.wrap (s + v) = s + v := IntWalk.i64_in _ (by omega)
      have wq : IntKind.i64.wrap (q + v * v) = q + v * v := IntWalk.i64_in _ (by omega)
      clear ht0 n0 n1 s0 s1 q0 q1 hvv
      have i1 : (j : Int) < (m : Int) := by omega
      have i2 : (0 : Int) ≤ (j : Int) := by omega
      go_upto_region 5 with (fail)
      have K : Row (wr.alloc (.cells #[.int .i64 sq, .int .i64 tk, .int .i64 n, .int .i64 s, .int .i64 q, .int .i64 lo, .int .i64 hi] 33)) wr.heap.size 33 #[.int .i64 sq, .int .i64 tk, .int .i64 n, .int .i64 s, .int .i64 q, .int .i64 lo, .int .i64 hi] := row_new rfl
      have zo := o.size
      have kn : u9.ownBlock ≠ some wr.heap.size := orow_new own (Nat.le_refl _)
      replace own := own.alloc (.cells #[.int .i64 sq, .int .i64 tk, .int .i64 n, .int .i64 s, .int .i64 q, .int .i64 lo, .int .i64 hi] 33)
      replace o := o.alloc o.size (.cells #[.int .i64 sq, .int .i64 tk, .int .i64 n, .int .i64 s, .int .i64 q, .int .i64 lo, .int .i64 hi] 33)
      generalize wr.alloc (.cells #[.int .i64 sq, .int .i64 tk, .int .i64 n, .int .i64 s, .int .i64 q, .int .i64 lo, .int .i64 hi] 33) = w3 at own o K ⊢
      generalize wr.heap.size = mb at K kn zo ⊢
      clear p0 p1 p2 p3 p4 p5 p6
      obtain ⟨K0, K1, K2, K3, K4, K5, K6, Kf0, Kf1, Kf2, Kf3, Kf4, Kf5, Kf6⟩ := row_seven K
      have KR := Lib.hid K
      clear K
      go_upto_region 9 with (fail)
      replace own := orow_other (p := ⟨mb, 2, none⟩) own kn (.int .i64 (n + 1))
      replace o := o.setCell (p := ⟨mb, 2, none⟩) (by show w.heap.size ≤ mb; omega) (.int .i64 (n + 1))
      replace own := orow_other (p := ⟨mb, 3, none⟩) own kn (.int .i64 (s + v))
      replace o := o.setCell (p := ⟨mb, 3, none⟩) (by show w.heap.size ≤ mb; omega) (.int .i64 (s + v))
      replace own := orow_other (p := ⟨mb, 4, none⟩) own kn (.int .i64 (q + v * v))
      replace o := o.setCell (p := ⟨mb, 4, none⟩) (by show w.heap.size ≤ mb; omega) (.int .i64 (q + v * v))
      replace own := orow_other (p := ⟨mb, 5, none⟩) own kn (.int .i64 (min lo v))
      replace o := o.setCell (p := ⟨mb, 5, none⟩) (by show w.heap.size ≤ mb; omega) (.int .i64 (min lo v))
      replace own := orow_other (p := ⟨mb, 6, none⟩) own kn (.int .i64 (max hi v))
      replace o := o.setCell (p := ⟨mb, 6, none⟩) (by show w.heap.size ≤ mb; omega) (.int .i64 (max hi v))
      have K : Row (((((w3.setCell ⟨mb, 2, none⟩ (.int .i64 (n + 1))).setCell ⟨mb, 3, none⟩ (.int .i64 (s + v))).setCell ⟨mb, 4, none⟩ (.int .i64 (q + v * v))).setCell ⟨mb, 5, none⟩ (.int .i64 (min lo v))).setCell ⟨mb, 6, none⟩ (.int .i64 (max hi v))) mb 33 #[.int .i64 sq, .int .i64 tk, .int .i64 (n + 1), .int .i64 (s + v), .int .i64 (q + v * v), .int .i64 (min lo v), .int .i64 (max hi v)] := (row_set (row_set (row_set (row_set (row_set KR.out 2 (.int .i64 (n + 1))) 3 (.int .i64 (s + v))) 4 (.int .i64 (q + v * v))) 5 (.int .i64 (min lo v))) 6 (.int .i64 (max hi v)))
      generalize (((((w3.setCell ⟨mb, 2, none⟩ (.int .i64 (n + 1))).setCell ⟨mb, 3, none⟩ (.int .i64 (s + v))).setCell ⟨mb, 4, none⟩ (.int .i64 (q + v * v))).setCell ⟨mb, 5, none⟩ (.int .i64 (min lo v))).setCell ⟨mb, 6, none⟩ (.int .i64 (max hi v))) = w4 at own o K ⊢
      clear K0 K1 K2 K3 K4 K5 K6 Kf0 Kf1 Kf2 Kf3 Kf4 Kf5 Kf6 KR
      obtain ⟨K0, K1, K2, K3, K4, K5, K6, Kf0, Kf1, Kf2, Kf3, Kf4, Kf5, Kf6⟩ := row_seven K
      have hbl := own.lt
      have OWN := Lib.hid own
      have zo := o.size
      clear own
      go_wp2_with (at_builtin; refine wpList_push rfl _ _ 22 rfl 33 i0 (.agg #[.int .i64 0, .int .i64 0, .int .i64 0, .int .i64 0, .int .i64 0, .int .i64 0, .int .i64 0]) 7 56 Try.underlying22 hi0 iz0 iz1 iz2 rfl (by decide) w.heap.size u9 j (mcells ((l.take j).map (inc v))) rfl OWN.out #[.int .i64 sq, .int .i64 tk, .int .i64 (n + 1), .int .i64 (s + v), .int .i64 (q + v * v), .int .i64 (min lo v), .int .i64 (max hi v)] rfl rfl (by simp [Value.oneCell']) (by unfold maxLen; omega) (by omega) (by omega) ?_; intro g' c4 w9 own9 hg9 hat9 hgr9)
      have own : w9.ownsRow w.heap.size 33 7 (.slice (some ⟨g', 0, none⟩) (j + 1) c4) (j + 1) (mcells ((l.take (j + 1)).map (inc v))) := by
        rw [HE.out, HX.out]
        exact own9.row hg9
      replace o := below_grown (o.alloc o.size (.cells #[.int .i64 sq, .int .i64 tk, .int .i64 (n + 1), .int .i64 (s + v), .int .i64 (q + v * v), .int .i64 (min lo v), .int .i64 (max hi v)] 33)) hgr9 (fun b e => (hbl b e).1) (by simp; omega)
      clear own9 hgr9 hat9 OWN zo
      go_wp2
      go_roundw
      case rel => exact ⟨j + 1, by omega, by go_num, own, o⟩
      case measure => simp [intOf]; omega
    · have i1 : ¬ (j : Int) < (m : Int) := by omega
      obtain rfl : j = m := by omega
      have HE : RowKit.Hid (mcells (incl l seq t v) = mcells ((l.take j).map (inc v)) ++ (#[.int .i64 seq, .int .i64 t, .int .i64 1, .int .i64 v, .int .i64 (v * v), .int .i64 v, .int .i64 v] : Array Value).toList) := Lib.hid (by
        unfold incl
        rw [mcells_append, List.take_of_length_le (by rw [HL.out]; exact Nat.le_refl _)]
        rfl)
      have hbl := own.lt
      have OWN := Lib.hid own
      have zo := o.size
      clear own hvv
      go_wp2_with (at_builtin; refine wpList_push rfl _ _ 22 rfl 33 i0 (.agg #[.int .i64 0, .int .i64 0, .int .i64 0, .int .i64 0, .int .i64 0, .int .i64 0, .int .i64 0]) 7 56 Try.underlying22 hi0 iz0 iz1 iz2 rfl (by decide) w.heap.size u9 j (mcells ((l.take j).map (inc v))) rfl OWN.out #[.int .i64 seq, .int .i64 t, .int .i64 1, .int .i64 v, .int .i64 (v * v), .int .i64 v, .int .i64 v] rfl rfl (by simp [Value.oneCell']) (by unfold maxLen; omega) (by omega) (by omega) ?_; intro g' c4 w9 own9 hg9 hat9 hgr9)
      have own : w9.ownsRow w.heap.size 33 7 (.slice (some ⟨g', 0, none⟩) (j + 1) c4) (j + 1) (mcells (incl l seq t v)) := by
        rw [HE.out]
        exact own9.row hg9
      replace o := below_grown (o.alloc o.size (.cells #[.int .i64 seq, .int .i64 t, .int .i64 1, .int .i64 v, .int .i64 (v * v), .int .i64 v, .int .i64 v] 33)) hgr9 (fun b e => (hbl b e).1) (by simp; omega)
      clear own9 hgr9 hat9 OWN zo
      go_wp2
      go_ret
      exact ⟨_, rfl, own, o⟩
set_option maxRecDepth 100000 in
set_option maxHeartbeats 4000000 in
theorem rmadd (A : Option Addr) (m c : Nat) (l : List Mk) (seq t v : Int) (w : World) (hin : MIn A m c l w) (hm : m ≤ 1000000) (hS : ∀ i, i < m → SmallM (mkAt l i)) (v0 : -4096 ≤ v) (v1 : v ≤ 4096) :
    Calls Try.prog 74 #[.slice A m c, .int .i64 seq, .int .i64 t, .int .i64 v] w fun e w' => MRet (m + 1) (incl l seq t v) w e w' := by
  have HR := Lib.hid hin
  have HL := Lib.hid hin.len
  have HS := Lib.hid hS
  have hvv := vv_small v0 v1
  have wvv : IntKind.i64.wrap (v * v) = v * v := IntWalk.i64_in _ (by omega)
  obtain ⟨i0, hi0, iz0, iz1, iz2⟩ := info_parts info_mk
  clear hin hS
  go_enter Try.func74, Try.ntmps74
  go_wp2
  go_loopw [9, 14] (fun u i wr => ∃ j : Nat, j ≤ m ∧ i = .int .i64 (j : Nat) ∧ wr.ownsRow w.heap.size 33 7 u j (mcells ((l.take j).map (inc v))) ∧ Below w.heap.size w wr) (fun _ i _ => m - (intOf i).toNat)
  case atStart => exact ⟨0, by omega, rfl, World.ownsRow_nil _ _ _ _, Below.refl _ _⟩
  case round =>
    obtain ⟨j, hj, rfl, own, o⟩ := hrel
    by_cases hlt : j < m
    · obtain ⟨ad, rfl, hadb, ht0⟩ := HR.out.reads.mk hlt
      have hS1 := HS.out j hlt
      have HE : RowKit.Hid (mcells ((l.take (j + 1)).map (inc v)) = mcells ((l.take j).map (inc v)) ++ mcells [inc v (mkAt l j)]) := Lib.hid (by rw [mk_take (by rw [HL.out]; exact hlt), List.map_append, mcells_append]; rfl)
      generalize mkAt l j = mj at ht0 hS1 HE
      obtain ⟨sq, tk, n, s, q, lo, hi⟩ := mj
      obtain ⟨p0, p1, p2, p3, p4, p5, p6⟩ := ht0.below o (by rw [block_of_add]; exact hadb)
      obtain ⟨⟨n0, n1⟩, ⟨s0, s1⟩, q0, q1⟩ := hS1
      dsimp only at p0 p1 p2 p3 p4 p5 p6 n0 n1 s0 s1 q0 q1
      have HX : RowKit.Hid (mcells [inc v (⟨sq, tk, n, s, q, lo, hi⟩ : Mk)] = (#[.int .i64 sq, .int .i64 tk, .int .i64 (n + 1), .int .i64 (s + v), .int .i64 (q + v * v), .int .i64 (min lo v), .int .i64 (max hi v)] : Array Value).toList) := Lib.hid rfl
      have wn : IntKind.i64.wrap (n + 1) = n + 1 := IntWalk.i64_in _ (by omega)
      have ws : IntKind.i64.wrap (s + v) = s + v := IntWalk.i64_in _ (by omega)
      have wq : IntKind.i64.wrap (q + v * v) = q + v * v := IntWalk.i64_in _ (by omega)
      clear ht0 n0 n1 s0 s1 q0 q1 hvv
      have i1 : (j : Int) < (m : Int) := by omega
      have i2 : (0 : Int) ≤ (j : Int) := by omega
      go_upto_region 5 with (fail)
      have K : Row (wr.alloc (.cells #[.int .i64 sq, .int .i64 tk, .int .i64 n, .int .i64 s, .int .i64 q, .int .i64 lo, .int .i64 hi] 33)) wr.heap.size 33 #[.int .i64 sq, .int .i64 tk, .int .i64 n, .int .i64 s, .int .i64 q, .int .i64 lo, .int .i64 hi] := row_new rfl
      have zo := o.size
      have kn : u9.ownBlock ≠ some wr.heap.size := orow_new own (Nat.le_refl _)
      replace own := own.alloc (.cells #[.int .i64 sq, .int .i64 tk, .int .i64 n, .int .i64 s, .int .i64 q, .int .i64 lo, .int .i64 hi] 33)
      replace o := o.alloc o.size (.cells #[.int .i64 sq, .int .i64 tk, .int .i64 n, .int .i64 s, .int .i64 q, .int .i64 lo, .int .i64 hi] 33)
      generalize wr.alloc (.cells #[.int .i64 sq, .int .i64 tk, .int .i64 n, .int .i64 s, .int .i64 q, .int .i64 lo, .int .i64 hi] 33) = w3 at own o K ⊢
      generalize wr.heap.size = mb at K kn zo ⊢
      clear p0 p1 p2 p3 p4 p5 p6
      obtain ⟨K0, K1, K2, K3, K4, K5, K6, Kf0, Kf1, Kf2, Kf3, Kf4, Kf5, Kf6⟩ := row_seven K
      clear K
      have hbl := own.lt
      have OWN := Lib.hid own
      have zo := o.size
      clear own
      go_wp2_with (at_builtin; refine wpList_push rfl _ _ 22 rfl 33 i0 (.agg #[.int .i64 0, .int .i64 0, .int .i64 0, .int .i64 0, .int .i64 0, .int .i64 0, .int .i64 0]) 7 56 Try.underlying22 hi0 iz0 iz1 iz2 rfl (by decide) w.heap.size u9 j (mcells ((l.take j).map (inc v))) rfl OWN.out #[.int .i64 sq, .int .i64 tk, .int .i64 (n + 1), .int .i64 (s + v), .int .i64 (q + v * v), .int .i64 (min lo v), .int .i64 (max hi v)] rfl rfl (by simp [Value.oneCell']) (by unfold maxLen; omega) (by omega) (by omega) ?_; intro g' c4 w9 own9 hg9 hat9 hgr9)
      have own : w9.ownsRow w.heap.size 33 7 (.slice (some ⟨g', 0, none⟩) (j + 1) c4) (j + 1) (mcells ((l.take (j + 1)).map (inc v))) := by
        rw [HE.out, HX.out]
        exact own9.row hg9
      replace o := below_grown (o.alloc o.size (.cells #[.int .i64 sq, .int .i64 tk, .int .i64 (n + 1), .int .i64 (s + v), .int .i64 (q + v * v), .int .i64 (min lo v), .int .i64 (max hi v)] 33)) hgr9 (fun b e => (hbl b e).1) (by simp; omega)
      clear own9 hgr9 hat9 OWN zo
      go_wp2
      go_roundw
      case rel => exact ⟨j + 1, by omega, by go_num, own, o⟩
      case measure => simp [intOf]; omega
    · have i1 : ¬ (j : Int) < (m : Int) := by omega
      obtain rfl : j = m := by omega
      have HE : RowKit.Hid (mcells (incl l seq t v) = mcells ((l.take j).map (inc v)) ++ (#[.int .i64 seq, .int .i64 t, .int .i64 1, .int .i64 v, .int .i64 (v * v), .int .i64 v, .int .i64 v] : Array Value).toList) := Lib.hid (by
        unfold incl
        rw [mcells_append, List.take_of_length_le (by rw [HL.out]; exact Nat.le_refl _)]
        rfl)
      have hbl := own.lt
      have OWN := Lib.hid own
      have zo := o.size
      clear own hvv
      go_wp2_with (at_builtin; refine wpList_push rfl _ _ 22 rfl 33 i0 (.agg #[.int .i64 0, .int .i64 0, .int .i64 0, .int .i64 0, .int .i64 0, .int .i64 0, .int .i64 0]) 7 56 Try.underlying22 hi0 iz0 iz1 iz2 rfl (by decide) w.heap.size u9 j (mcells ((l.take j).map (inc v))) rfl OWN.out #[.int .i64 seq, .int .i64 t, .int .i64 1, .int .i64 v, .int .i64 (v * v), .int .i64 v, .int .i64 v] rfl rfl (by simp [Value.oneCell']) (by unfold maxLen; omega) (by omega) (by omega) ?_; intro g' c4 w9 own9 hg9 hat9 hgr9)
      have own : w9.ownsRow w.heap.size 33 7 (.slice (some ⟨g', 0, none⟩) (j + 1) c4) (j + 1) (mcells (incl l seq t v)) := by
        rw [HE.out]
        exact own9.row hg9
      replace o := below_grown (o.alloc o.size (.cells #[.int .i64 seq, .int .i64 t, .int .i64 1, .int .i64 v, .int .i64 (v * v), .int .i64 v, .int .i64 v] 33)) hgr9 (fun b e => (hbl b e).1) (by simp; omega)
      clear own9 hgr9 hat9 OWN zo
      go_wp2
      go_ret
      exact ⟨_, rfl, own, o⟩
end Go.Proofs.Ytaiepjcnncajcaa
