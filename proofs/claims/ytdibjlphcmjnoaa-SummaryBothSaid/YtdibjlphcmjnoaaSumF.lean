/- Summaries of a stream: compressing a state, walked. -/
import Derived.Test.YtdibjlphcmjnoaaSumE
import Derived.Test.YtdibjlphcmjnoaaPhase
set_option linter.unusedVariables false
set_option linter.unusedSimpArgs false
set_option linter.unusedSectionVars false
set_option linter.unnecessarySimpa false
namespace Go.Proofs.Ytdibjlphcmjnoaa
open Go.RowKit
theorem smost_small {n k : Int} (h0 : 0 ≤ n) (h1 : n ≤ 1099511627776) (hk : 1 ≤ k) : smost n k ≤ 1099511627776 := by
  unfold smost
  have : n / k ≤ n := Int.ediv_le_self _ h0
  omega
/-- 'append([]T{}, xs...)' inside a region that draws its order. -/
theorem step_clone {P : Program} {w1 : World} {ops : Array Oper} {o : Oper} {a : Act} {K : Act → World → Prop} {Q : Exit → Act → World → Prop} {E : Prop} (hgd : o.guard = none) (s x : Operand) (t : TypeId)
    (ho : o.op = .call { callee := .builtin .append, args := #[s, x], argTypes := #[t, t] })
    (e : TypeId) (i : TypeInfo) (z : Value) (size bytes : Nat) (ht : P.underlying t = some (.slice e)) (hi : P.info? e = some i) (hz : i.zero = some z)
    (hsize : i.size = size) (hby : i.bytes = bytes) (hzs : z.cells.size = size) (hsz : 0 < size)
    (hs : a.eval s = .slice (some ⟨w1.heap.size, 0, none⟩) 0 0)
    (B : Nat) (A : Option Addr) (m c : Nat) (news : List Value) (hx : a.eval x = .slice A m c) (hr : Reads w1 B size A m news) (hB : B ≤ w1.heap.size) (h1 : ∀ u ∈ news, u.oneCell' = true)
    (h63 : m ≤ maxLen) (hbytes : m * bytes ≤ 140737488355328)
    (h : ∀ g c' w', Own w' e size g m c' news → w1.heap.size ≤ g → Below w1.heap.size w1 w' → w1.heap.size + 1 ≤ w'.heap.size → K (a.put o.dst (.slice (some ⟨g, 0, none⟩) m c')) w') :
    if Region.wanted o (yielded ops a.tmps) = true then Oper.wp P o a (w1.alloc (.cells #[] e)).drew K Q else E := by
  refine step_append_any (w1.alloc (.cells #[] e)).drew hgd s x t ho w1.heap.size e i z size bytes ht hi hz hsize hby hzs hsz (.slice (some ⟨w1.heap.size, 0, none⟩) 0 0) 0 [] hs
    ((own_new (n := 0) rfl (by unfold maxLen; omega) (by simp)).drew.row (Nat.le_refl _)) B A m c news hx ((hr.alloc hB _).drew) h1 (by omega) (by simpa using hbytes) (by simp) ?_
  intro v' w' hown hg hat
  rw [Nat.zero_add, List.nil_append] at hown
  have hv : ∃ g c', v' = .slice (some ⟨g, 0, none⟩) m c' := by
    rcases hown.2 with ⟨hv, _⟩ | ⟨g, c', cur, hv, _⟩
    · subst hv
      simp [Value.ownBlock] at hat
    · exact ⟨g, c', hv⟩
  obtain ⟨g, c', rfl⟩ := hv
  obtain ⟨ho', hbg⟩ := own_of_row hown
  refine h g c' w' ho' hbg ?_ ?_
  · exact below_grown ((Below.refl _ _).alloc (Nat.le_refl _) _).drew hg (fun k hk => by simp [Value.ownBlock] at hk; omega) (by simp)
  · have := hg.size
    simpa using this
theorem pscomp_bad (k cap n : Int) (A : Option Addr) (m c : Nat) (ts : List Tup) (w : World) (hin : SIn k cap n A m c ts w) (hv : svalE k cap n ts = 2) : Calls Try.prog 17 #[.agg #[.int .i64 k, .int .i64 cap, .int .i64 n, .slice A m c]] w fun e w' => SRet (scomp k cap n ts) w e w' := by
  rw [scomp_bad hv]
  have P := fun w1 (hb : Below w.heap.size w w1) => psval k cap n A m c ts w1 (hin.below hb)
  rw [hv] at P
  have P := Lib.hid P
  clear hv hin
  go_enter Try.func17, Try.ntmps17
  go_wp2_with (go_at_call 19; with_reducible refine (P.out _ (by (repeat (first | exact Below.refl _ _ | refine Below.setCell ?_ (by first | (simp; done) | (simp; omega) | omega) _ | refine Below.alloc ?_ (by first | (simp; done) | (simp; omega) | omega) _ | refine Below.drew ?_ | refine Below.trans ?_ (Below.mono (by assumption) (by first | (simp; done) | (simp; omega) | omega)))))).mono ?_; rintro e w1 ⟨rfl, hb1⟩; have hz1 := hb1.size; (try simp at hz1); have o1 : Below w.heap.size w w1 := (by (repeat (first | exact Below.refl _ _ | refine Below.setCell ?_ (by first | (simp; done) | (simp; omega) | omega) _ | refine Below.alloc ?_ (by first | (simp; done) | (simp; omega) | omega) _ | refine Below.drew ?_ | refine Below.trans ?_ (Below.mono (by assumption) (by first | (simp; done) | (simp; omega) | omega))))); have q1_0 : w.heap.size < w1.heap.size := (by omega); have r1_0 : Row w1 (w.heap.size) 24 #[.int .i64 k, .int .i64 cap, .int .i64 n, .slice A m c] := row_call (by (repeat (first | assumption | (refine row_new ?_; (first | (simp; done) | omega)) | refine row_alloc ?_ _ | refine row_drew ?_ | refine row_call ?_ (by assumption)))) hb1; obtain ⟨c1_0a, c1_0b, c1_0c, c1_0d, f1_0a, f1_0b, f1_0c, f1_0d⟩ := row_four r1_0; have q1_1 : w.heap.size + 1 < w1.heap.size := (by omega); have r1_1 : Row w1 (w.heap.size + 1) 24 #[.int .i64 0, .int .i64 0, .int .i64 0, .slice none 0 0] := row_call (by (repeat (first | assumption | (refine row_new ?_; (first | (simp; done) | omega)) | refine row_alloc ?_ _ | refine row_drew ?_ | refine row_call ?_ (by assumption)))) hb1; obtain ⟨c1_1a, c1_1b, c1_1c, c1_1d, f1_1a, f1_1b, f1_1c, f1_1d⟩ := row_four r1_1)
  exact bodyPost_ret (v := .tuple #[.agg #[.int .i64 0, .int .i64 0, .int .i64 0, .slice none 0 0], .int .i64 2]) (by simp [results, Try.results17, go_sem, c1_1a, c1_1b, c1_1c, c1_1d]) rfl (sret_zero (by (repeat (first | exact Below.refl _ _ | refine Below.setCell ?_ (by first | (simp; done) | (simp; omega) | omega) _ | refine Below.alloc ?_ (by first | (simp; done) | (simp; omega) | omega) _ | refine Below.drew ?_ | refine Below.trans ?_ (Below.mono (by assumption) (by first | (simp; done) | (simp; omega) | omega))))))
set_option maxHeartbeats 4000000 in
theorem pscomp_ok (k cap n : Int) (A : Option Addr) (m c : Nat) (ts : List Tup) (w : World) (hin : SIn k cap n A m c ts w) (hv : svalE k cap n ts = 0) : Calls Try.prog 17 #[.agg #[.int .i64 k, .int .i64 cap, .int .i64 n, .slice A m c]] w fun e w' => SRet (scomp k cap n ts) w e w' := by
  rw [scomp_ok hv]
  have HR := Lib.hid hin
  have hl := hin.len
  have V := of_svalE hv
  obtain ⟨k0, k1, cp0, cp1, n0, n1, mc, _, _⟩ := V
  rw [hl] at mc
  have P := fun w1 (hb : Below w.heap.size w w1) => psval k cap n A m c ts w1 (hin.below hb)
  rw [hv] at P
  have P := Lib.hid P
  have TBO := fun t ht => (sval_TB hv t ht).mono (show (1099511627776 : Int) ≤ 4398046511104 by decide)
  have mB : m ≤ 65536 := by omega
  have PM := fun w1 => pmost n k n0 n1 k0 w1
  have M1 := smost_pos (n := n) (k := k)
  have M2 := smost_small (n := n) (k := k) n0 n1 k0
  generalize smost n k = M at PM M1 M2 ⊢
  have PC := Lib.hid (fun g0 c0 w1 (ho : Own w1 66 3 g0 m c0 (tcells ts)) => pcompress M g0 m c0 ts w1 ho TBO (by omega) (by omega) (by omega))
  have TBC := Lib.hid (comp_TB (m := M) (by omega) TBO)
  have PM := Lib.hid PM
  obtain ⟨ii, hii, iz0, iz1, iz2⟩ := info_parts info_tup
  clear hin hv hl TBO
  go_enter Try.func17, Try.ntmps17
  go_upto_region 4 with (go_at_call 19; with_reducible refine (P.out _ (by (repeat (first | exact Below.refl _ _ | refine Below.setCell ?_ (by first | (simp; done) | (simp; omega) | omega) _ | refine Below.alloc ?_ (by first | (simp; done) | (simp; omega) | omega) _ | refine Below.drew ?_ | refine Below.trans ?_ (Below.mono (by assumption) (by first | (simp; done) | (simp; omega) | omega)))))).mono ?_; rintro e w1 ⟨rfl, hb1⟩; have hz1 := hb1.size; (try simp at hz1); have o1 : Below w.heap.size w w1 := (by (repeat (first | exact Below.refl _ _ | refine Below.setCell ?_ (by first | (simp; done) | (simp; omega) | omega) _ | refine Below.alloc ?_ (by first | (simp; done) | (simp; omega) | omega) _ | refine Below.drew ?_ | refine Below.trans ?_ (Below.mono (by assumption) (by first | (simp; done) | (simp; omega) | omega))))); have q1_0 : w.heap.size < w1.heap.size := (by omega); have r1_0 : Row w1 (w.heap.size) 24 #[.int .i64 k, .int .i64 cap, .int .i64 n, .slice A m c] := row_call (by (repeat (first | assumption | (refine row_new ?_; (first | (simp; done) | omega)) | refine row_alloc ?_ _ | refine row_drew ?_ | refine row_call ?_ (by assumption)))) hb1; obtain ⟨c1_0a, c1_0b, c1_0c, c1_0d, f1_0a, f1_0b, f1_0c, f1_0d⟩ := row_four r1_0; have q1_1 : w.heap.size + 1 < w1.heap.size := (by omega); have r1_1 : Row w1 (w.heap.size + 1) 24 #[.int .i64 0, .int .i64 0, .int .i64 0, .slice none 0 0] := row_call (by (repeat (first | assumption | (refine row_new ?_; (first | (simp; done) | omega)) | refine row_alloc ?_ _ | refine row_drew ?_ | refine row_call ?_ (by assumption)))) hb1; obtain ⟨c1_1a, c1_1b, c1_1c, c1_1d, f1_1a, f1_1b, f1_1c, f1_1d⟩ := row_four r1_1)
  have rd1 := Lib.hid (HR.out.reads.below o1)
  refine wp_region_phase 10 (fun w' => Row w' (w.heap.size) 24 #[.int .i64 k, .int .i64 cap, .int .i64 n, .slice A m c] ∧ Row w' (w.heap.size + 1) 24 #[.int .i64 0, .int .i64 0, .int .i64 0, .slice none 0 0] ∧ Below w.heap.size w w') (by kernel_rfl) (by kernel_rfl) (by kernel_rfl) (by kernel_rfl) (by kernel_rfl) (fun HOK => ?_)
  have HS := (⟨r1_0, r1_1, o1.drew⟩ : Row w1.drew (w.heap.size) 24 #[.int .i64 k, .int .i64 cap, .int .i64 n, .slice A m c] ∧ Row w1.drew (w.heap.size + 1) 24 #[.int .i64 0, .int .i64 0, .int .i64 0, .slice none 0 0] ∧ Below w.heap.size w w1.drew)
  (refine hw_take HOK (i := 1) ?_ rfl (by decide) (by kernel_rfl) (by kernel_rfl) (by exact fun _ _ _ h => h) (Or.inl ⟨by rfl, fun w' hS => ?_⟩) HS ?_; rotate_left; (go_simp; try with_reducible rfl); simp only [Act.put, List.setIfInBounds_toArray, List.set_cons_zero, List.set_cons_succ])
  (refine hw_take HOK (i := 2) ?_ rfl (by decide) (by kernel_rfl) (by kernel_rfl) (by exact fun _ _ _ h => h) (Or.inl ⟨by rfl, fun w' hS => ?_⟩) HS ?_; rotate_left; (obtain ⟨A0, A1, A2, A3, _, _, _, _⟩ := row_four hS.1; go_simp; try with_reducible rfl); simp only [Act.put, List.setIfInBounds_toArray, List.set_cons_zero, List.set_cons_succ])
  (refine hw_take HOK (i := 4) ?_ rfl (by decide) (by kernel_rfl) (by kernel_rfl) (by exact fun _ _ _ h => h) (Or.inl ⟨by rfl, fun w' hS => ?_⟩) HS ?_; rotate_left; (go_simp; try with_reducible rfl); simp only [Act.put, List.setIfInBounds_toArray, List.set_cons_zero, List.set_cons_succ])
  (refine hw_take HOK (i := 5) ?_ rfl (by decide) (by kernel_rfl) (by kernel_rfl) (by exact fun _ _ _ h => h) (Or.inl ⟨by rfl, fun w' hS => ?_⟩) HS ?_; rotate_left; (obtain ⟨A0, A1, A2, A3, _, _, _, _⟩ := row_four hS.1; go_simp; try with_reducible rfl); simp only [Act.put, List.setIfInBounds_toArray, List.set_cons_zero, List.set_cons_succ])
  (refine hw_take HOK (i := 6) ?_ rfl (by decide) (by kernel_rfl) (by kernel_rfl) (by exact fun _ _ _ h => h) (Or.inl ⟨by rfl, fun w' hS => ?_⟩) HS ?_; rotate_left; (go_simp; try with_reducible rfl); simp only [Act.put, List.setIfInBounds_toArray, List.set_cons_zero, List.set_cons_succ])
  (refine hw_take HOK (i := 7) ?_ rfl (by decide) (by kernel_rfl) (by kernel_rfl) (by exact fun _ _ _ h => h) (Or.inl ⟨by rfl, fun w' hS => ?_⟩) HS ?_; rotate_left; (obtain ⟨A0, A1, A2, A3, _, _, _, _⟩ := row_four hS.1; go_simp; try with_reducible rfl); simp only [Act.put, List.setIfInBounds_toArray, List.set_cons_zero, List.set_cons_succ])
  refine hw_one (i := 0) rfl (by decide) (by kernel_rfl) (fun K hK => ?_)
  go_simp
  refine hK _ _ ⟨row_drew (row_alloc r1_0 _), row_drew (row_alloc r1_1 _), (o1.alloc o1.size _).drew⟩ ?_
  clear hK K HS
  refine hw_one (i := 3) rfl (by decide) (by kernel_rfl) (fun K hK => ?_)
  refine step_clone rfl _ _ 22 rfl 66 ii (.agg #[.int .i64 0, .int .i64 0, .int .i64 0]) 3 24 Try.underlying22 hii iz0 iz1 iz2 rfl (by decide) rfl w.heap.size A m c (tcells ts) rfl rd1.out o1.size (tcells_one _) (by unfold maxLen; omega) (by omega) ?_
  intro g c5 w5 own5 hg5 hb5 hz5
  have U0 := row_call r1_0 hb5
  have U1 := row_call r1_1 hb5
  have gX : w.heap.size < g := by omega
  have gR : w.heap.size + 1 < g := by omega
  have o5 := o1.trans (hb5.mono o1.size)
  refine hK _ _ ⟨U0, U1, o5⟩ ?_
  clear hK K
  try simp only [Act.put, List.setIfInBounds_toArray, List.set_cons_zero, List.set_cons_succ]
  refine hw_one (i := 8) rfl (by decide) (by kernel_rfl) (fun K hK => ?_)
  go_simp
  refine (PM.out _).mono ?_
  rintro e w9 ⟨rfl, h9⟩
  obtain rfl := h9.symm

  refine hK _ _ ⟨U0, U1, o5⟩ ?_
  clear hK K
  try simp only [Act.put, List.setIfInBounds_toArray, List.set_cons_zero, List.set_cons_succ]
  refine hw_one (i := 9) rfl (by decide) (by kernel_rfl) (fun K hK => ?_)
  go_simp
  refine (PC.out g c5 _ own5).mono ?_
  rintro e w6 ⟨g6, L6, c6, rfl, own6, hg6, hb6⟩
  have V0 := row_below U0 hb6 gX
  have V1 := row_below U1 hb6 gR
  have o6 := o5.trans (hb6.mono (by omega))

  refine hK _ _ ⟨V0, V1, o6⟩ ?_
  clear hK K
  try simp only [Act.put, List.setIfInBounds_toArray, List.set_cons_zero, List.set_cons_succ]
  refine hw_done (by kernel_rfl) ?_
  simp only [List.drop_succ_cons, List.drop_zero]
  obtain ⟨A0, A1, A2, A3, A4, A5, A6, A7⟩ := row_four V0
  obtain ⟨B0, B1, B2, B3, B4, B5, B6, B7⟩ := row_four V1
  have ne0 : g6 ≠ w.heap.size := by omega
  have ne1 : g6 ≠ w.heap.size + 1 := by omega
  clear HOK U0 U1 own5 hb5 hb6 r1_0 r1_1
  go_wp2
  have ow : Own ((((((w6).setCell ⟨w.heap.size, 3, none⟩ (.slice (some ⟨g6, 0, none⟩) L6 c6)).setCell ⟨w.heap.size + 1, 0, none⟩ (.int .i64 k)).setCell ⟨w.heap.size + 1, 1, none⟩ (.int .i64 cap)).setCell ⟨w.heap.size + 1, 2, none⟩ (.int .i64 n)).setCell ⟨w.heap.size + 1, 3, none⟩ (.slice (some ⟨g6, 0, none⟩) L6 c6)) 66 3 g6 L6 c6 (tcells (comp M ts)) :=
    ((((own6.other (by simp; omega) _).other (by simp; omega) _).other (by simp; omega) _).other (by simp; omega) _).other (by simp; omega) _
  have ob : Below w.heap.size w ((((((w6).setCell ⟨w.heap.size, 3, none⟩ (.slice (some ⟨g6, 0, none⟩) L6 c6)).setCell ⟨w.heap.size + 1, 0, none⟩ (.int .i64 k)).setCell ⟨w.heap.size + 1, 1, none⟩ (.int .i64 cap)).setCell ⟨w.heap.size + 1, 2, none⟩ (.int .i64 n)).setCell ⟨w.heap.size + 1, 3, none⟩ (.slice (some ⟨g6, 0, none⟩) L6 c6)) := by
    (repeat (first | exact Below.refl _ _ | refine Below.setCell ?_ (by first | (simp; done) | (simp; omega) | omega) _ | refine Below.alloc ?_ (by first | (simp; done) | (simp; omega) | omega) _ | refine Below.drew ?_ | refine Below.trans ?_ (Below.mono (by assumption) (by first | (simp; done) | (simp; omega) | omega))))
  exact bodyPost_ret (v := .tuple #[.agg #[.int .i64 k, .int .i64 cap, .int .i64 n, .slice (some ⟨g6, 0, none⟩) L6 c6], .int .i64 0]) (by simp [results, Try.results17, go_sem, A0, A1, A2, A3, B0, B1, B2, B3]) rfl (sret_own ow (by omega) (by omega) (by omega) TBC.out ob (by omega))
theorem pscomp (k cap n : Int) (A : Option Addr) (m c : Nat) (ts : List Tup) (w : World) (hin : SIn k cap n A m c ts w) : Calls Try.prog 17 #[.agg #[.int .i64 k, .int .i64 cap, .int .i64 n, .slice A m c]] w fun e w' => SRet (scomp k cap n ts) w e w' := by
  rcases svalE_two (k := k) (cap := cap) (n := n) (ts := ts) with hv | hv
  · exact pscomp_ok k cap n A m c ts w hin hv
  · exact pscomp_bad k cap n A m c ts w hin hv
end Go.Proofs.Ytdibjlphcmjnoaa
