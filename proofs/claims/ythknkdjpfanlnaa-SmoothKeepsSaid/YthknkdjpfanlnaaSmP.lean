/- Smooth histograms: a value more by the reference, walked. -/
import Derived.Test.YthknkdjpfanlnaaSmT
import Derived.Test.YthknkdjpfanlnaaPhase
set_option linter.unusedVariables false
set_option linter.unusedSimpArgs false
set_option linter.unusedSectionVars false
set_option linter.unnecessarySimpa false
namespace Go.Proofs.Ythknkdjpfanlnaa
open Go.RowKit
theorem step_clone {P : Program} {w1 : World} {ops : Array Oper} {o : Oper} {a : Act} {K : Act → World → Prop} {Q : Exit → Act → World → Prop} {E : Prop} (hgd : o.guard = none) (s x : Operand) (t : TypeId)
    (ho : o.op = .call { callee := .builtin .append, args := #[s, x], argTypes := #[t, t] })
    (e : TypeId) (i : TypeInfo) (z : Value) (size bytes : Nat) (ht : P.underlying t = some (.slice e)) (hi : P.info? e = some i) (hz : i.zero = some z)
    (hsize : i.size = size) (hby : i.bytes = bytes) (hzs : z.cells.size = size) (hsz : 0 < size)
    (hs : a.eval s = .slice (some ⟨w1.heap.size, 0, none⟩) 0 0)
    (B : Nat) (A : Option Addr) (m c : Nat) (news : List Value) (hx : a.eval x = .slice A m c) (hr : Reads w1 B size A m news) (hB : B ≤ w1.heap.size) (h1 : ∀ u ∈ news, u.oneCell' = true)
    (h63 : m ≤ maxLen) (hbytes : m * bytes ≤ 140737488355328)
    (h : ∀ g c' w', Own w' e size g m c' news → w1.heap.size ≤ g → Below w1.heap.size w1 w' → w1.heap.size + 1 ≤ w'.heap.size → K (a.put o.dst (.slice (some ⟨g, 0, none⟩) m c')) w') :
    if Region.wanted o (yielded ops a.tmps) = true then Oper.wp P o a (w1.alloc (.cells #[] e)).drew K Q else E := by
  refine step_append_any (w1.alloc (.cells #[] e)).drew hgd s x t ho w1.heap.size e i z size bytes ht hi hz hsize hby hzs hsz (.slice (some ⟨w1.heap.size, 0, none⟩) 0 0) 0 [] hs
    ((own_new (n := 0) rfl (by unfold maxLen; omega) (by simp)).drew.row (Nat.le_refl _)) B A m c news hx ((hr.alloc hB _).drew) h1 (by omega) (by simpa using hbytes) (by simp) ?_
  intro v' w' hown hg hat
  rw [Nat.zero_add, List.nil_append] at hown
  have hv : ∃ g c', v' = .slice (some ⟨g, 0, none⟩) m c' := by
    rcases hown.2 with ⟨hv, _⟩ | ⟨g, c', cur, hv, _⟩
    · subst hv
      simp [Value.ownBlock] at hat
    · exact ⟨g, c', hv⟩
  obtain ⟨g, c', rfl⟩ := hv
  obtain ⟨ho', hbg⟩ := own_of_row hown
  refine h g c' w' ho' hbg ?_ ?_
  · exact below_grown ((Below.refl _ _).alloc (Nat.le_refl _) _).drew hg (fun k hk => by simp [Value.ownBlock] at hk; omega) (by simp)
  · have := hg.size
    simpa using this
theorem take_snoc_mk {l : List Mk} {j : Nat} (h : j < l.length) : l.take (j + 1) = l.take j ++ [mkAt l j] := mk_take h
theorem prune_stepA {nr : Mk → Mk → Bool} {L : List Mk} {k : Nat} (hk : k < L.length) (h : ∀ e, k < e → e < L.length → nr (mkAt L k) (mkAt L e) = false) : L.take k ++ prune nr (L.drop k) = L.take (k + 1) ++ prune nr (L.drop (k + 1)) := by
  rw [drop_mk hk, prune_cons, lastN_none (fun i hi => by rw [List.length_drop] at hi; rw [mkAt_drop]; exact h _ (by omega) (by omega)), List.drop_zero, take_snoc_mk hk, List.append_assoc]
  rfl
theorem prune_stepB {nr : Mk → Mk → Bool} {L : List Mk} {k J : Nat} (hk : k < J) (hJ : J < L.length) (h1 : nr (mkAt L k) (mkAt L J) = true) (h : ∀ e, J < e → e < L.length → nr (mkAt L k) (mkAt L e) = false) : L.take k ++ prune nr (L.drop k) = L.take (k + 1) ++ prune nr (L.drop J) := by
  have hk' : k < L.length := by omega
  rw [drop_mk hk', prune_cons, lastN_is (p := J - (k + 1)) (by rw [List.length_drop]; omega) (by rw [mkAt_drop, show k + 1 + (J - (k + 1)) = J by omega]; exact h1) (fun i h2 h3 => by rw [List.length_drop] at h3; rw [mkAt_drop]; exact h _ (by omega) (by omega)), List.drop_drop, show k + 1 + (J - (k + 1)) = J by omega, take_snoc_mk hk', List.append_assoc]
  rfl
def JSpec (nr : Mk → Mk → Bool) (L : List Mk) (k J N : Nat) : Prop := (J = k ∧ ∀ e, k < e → e < N → nr (mkAt L k) (mkAt L e) = false) ∨ (k < J ∧ J < N ∧ nr (mkAt L k) (mkAt L J) = true ∧ ∀ e, J < e → e < N → nr (mkAt L k) (mkAt L e) = false)
theorem JSpec.no {nr : Mk → Mk → Bool} {L : List Mk} {k J N : Nat} (h : JSpec nr L k J N) (hn : nr (mkAt L k) (mkAt L N) = false) : JSpec nr L k J (N + 1) := by
  rcases h with ⟨h1, h2⟩ | ⟨h1, h2, h3, h4⟩
  · refine .inl ⟨h1, fun e g1 g2 => ?_⟩
    rcases Nat.lt_or_ge e N with g | g
    · exact h2 e g1 g
    · rw [show e = N by omega]; exact hn
  · refine .inr ⟨h1, by omega, h3, fun e g1 g2 => ?_⟩
    rcases Nat.lt_or_ge e N with g | g
    · exact h4 e g1 g
    · rw [show e = N by omega]; exact hn
theorem MIn.pre {A : Option Addr} {m c k : Nat} {l : List Mk} {w : World} (h : MIn A m c l w) (hk : k ≤ m) : Reads w w.heap.size 7 A k (mcells (l.take k)) := by
  have hl := h.len
  refine ⟨by rw [mcells_len, List.length_take, hl]; omega, fun hn => ?_⟩
  obtain ⟨ad, e, hb, hc⟩ := h.reads.2 (by omega)
  refine ⟨ad, e, hb, fun j u hu => hc j u ?_⟩
  rw [← mcells_take, List.getElem?_take] at hu
  split at hu
  · exact hu
  · cases hu
theorem MIn.post {ad : Addr} {m c k : Nat} {l : List Mk} {w : World} (h : MIn (some ad) m c l w) (hk : k ≤ m) : Reads w w.heap.size 7 (some (ad.add (k * 7))) (m - k) (mcells (l.drop k)) := by
  have hl := h.len
  refine ⟨by rw [mcells_len, List.length_drop, hl], fun hn => ?_⟩
  obtain ⟨ad', e, hb, hc⟩ := h.reads.2 (by omega)
  obtain rfl : ad = ad' := by injection e
  refine ⟨_, rfl, by rw [block_of_add]; exact hb, fun j u hu => ?_⟩
  rw [add_of_add]
  rw [← mcells_drop, List.getElem?_drop] at hu
  exact hc _ u hu
theorem JSpec.yes {nr : Mk → Mk → Bool} {L : List Mk} {k N : Nat} (hk : k < N) (hn : nr (mkAt L k) (mkAt L N) = true) : JSpec nr L k N (N + 1) := .inr ⟨hk, by omega, hn, fun e g1 g2 => absurd g1 (by omega)⟩
set_option maxRecDepth 100000 in
theorem rsmadd_a (A : Option Addr) (m c : Nat) (l : List Mk) (agg wd k cap now seq : Int) (v : Int) (w : World) (hin : MIn A m c l w) (sB : I64 seq) (hv : smvalE agg wd k cap now seq l = 2) : Calls Try.prog 15 #[.agg #[.int .i64 agg, .int .i64 wd, .int .i64 k, .int .i64 cap, .int .i64 now, .int .i64 seq, .slice A m c], .int .i64 v] w fun e w' => SmRet A (smAdd agg wd k cap now seq l v) w e w' := by
  rw [smAdd_a hv]
  have P := fun w' (hb : Below w.heap.size w w') => rvalS A m c l agg wd k cap now seq w' (hin.below hb) sB
  rw [hv] at P
  replace P := Lib.hid P
  clear hv hin sB
  go_enter Try.func15, Try.ntmps15
  go_wp2_with (first | (go_at_call 13; with_reducible refine (P.out _ (by (repeat (first | exact Below.refl _ _ | refine Below.setCell ?_ (by first | (simp; done) | (simp; omega) | omega) _ | refine Below.alloc ?_ (by first | (simp; done) | (simp; omega) | omega) _ | refine Below.drew ?_ | refine Below.trans ?_ (Below.mono (by assumption) (by first | (simp; done) | (simp; omega) | omega)))))).mono ?_; rintro e w1 ⟨rfl, hb1⟩; have hz1 := hb1.size; (try simp at hz1); have o1 : Below w.heap.size w w1 := (by (repeat (first | exact Below.refl _ _ | refine Below.setCell ?_ (by first | (simp; done) | (simp; omega) | omega) _ | refine Below.alloc ?_ (by first | (simp; done) | (simp; omega) | omega) _ | refine Below.drew ?_ | refine Below.trans ?_ (Below.mono (by assumption) (by first | (simp; done) | (simp; omega) | omega))))); have q1_0 : w.heap.size < w1.heap.size := (by omega); have r1_0 : Row w1 (w.heap.size) 24 #[.int .i64 agg, .int .i64 wd, .int .i64 k, .int .i64 cap, .int .i64 now, .int .i64 seq, .slice A m c] := row_call (by (repeat (first | assumption | (refine row_new ?_; (first | (simp; done) | omega)) | refine row_alloc ?_ _ | refine row_drew ?_ | refine row_call ?_ (by assumption)))) hb1; obtain ⟨c1_0a, c1_0b, c1_0c, c1_0d, c1_0e, c1_0f, c1_0g, f1_0a, f1_0b, f1_0c, f1_0d, f1_0e, f1_0f, f1_0g⟩ := row_seven r1_0; have q1_1 : w.heap.size + 1 < w1.heap.size := (by omega); have r1_1 : Row w1 (w.heap.size + 1) 24 #[.int .i64 0, .int .i64 0, .int .i64 0, .int .i64 0, .int .i64 0, .int .i64 0, .slice none 0 0] := row_call (by (repeat (first | assumption | (refine row_new ?_; (first | (simp; done) | omega)) | refine row_alloc ?_ _ | refine row_drew ?_ | refine row_call ?_ (by assumption)))) hb1; obtain ⟨c1_1a, c1_1b, c1_1c, c1_1d, c1_1e, c1_1f, c1_1g, f1_1a, f1_1b, f1_1c, f1_1d, f1_1e, f1_1f, f1_1g⟩ := row_seven r1_1))
  have hbge : w.heap.size ≤ w.heap.size + 1 := by omega
  have R9 : Row (((((((w1.setCell ⟨w.heap.size + 1, 0, none⟩ (.int .i64 0)).setCell ⟨w.heap.size + 1, 1, none⟩ (.int .i64 0)).setCell ⟨w.heap.size + 1, 2, none⟩ (.int .i64 0)).setCell ⟨w.heap.size + 1, 3, none⟩ (.int .i64 0)).setCell ⟨w.heap.size + 1, 4, none⟩ (.int .i64 0)).setCell ⟨w.heap.size + 1, 5, none⟩ (.int .i64 0)).setCell ⟨w.heap.size + 1, 6, none⟩ (.slice none 0 0)) (w.heap.size + 1) 24 #[.int .i64 0, .int .i64 0, .int .i64 0, .int .i64 0, .int .i64 0, .int .i64 0, .slice none 0 0] := (row_set (row_set (row_set (row_set (row_set (row_set (row_set r1_1 0 (.int .i64 0)) 1 (.int .i64 0)) 2 (.int .i64 0)) 3 (.int .i64 0)) 4 (.int .i64 0)) 5 (.int .i64 0)) 6 (.slice none 0 0))
  have o9 : Below w.heap.size w (((((((w1.setCell ⟨w.heap.size + 1, 0, none⟩ (.int .i64 0)).setCell ⟨w.heap.size + 1, 1, none⟩ (.int .i64 0)).setCell ⟨w.heap.size + 1, 2, none⟩ (.int .i64 0)).setCell ⟨w.heap.size + 1, 3, none⟩ (.int .i64 0)).setCell ⟨w.heap.size + 1, 4, none⟩ (.int .i64 0)).setCell ⟨w.heap.size + 1, 5, none⟩ (.int .i64 0)).setCell ⟨w.heap.size + 1, 6, none⟩ (.slice none 0 0)) := (Below.setCell (p := ⟨w.heap.size + 1, 6, none⟩) (Below.setCell (p := ⟨w.heap.size + 1, 5, none⟩) (Below.setCell (p := ⟨w.heap.size + 1, 4, none⟩) (Below.setCell (p := ⟨w.heap.size + 1, 3, none⟩) (Below.setCell (p := ⟨w.heap.size + 1, 2, none⟩) (Below.setCell (p := ⟨w.heap.size + 1, 1, none⟩) (Below.setCell (p := ⟨w.heap.size + 1, 0, none⟩) o1 hbge (.int .i64 0)) hbge (.int .i64 0)) hbge (.int .i64 0)) hbge (.int .i64 0)) hbge (.int .i64 0)) hbge (.int .i64 0)) hbge (.slice none 0 0))
  generalize (((((((w1.setCell ⟨w.heap.size + 1, 0, none⟩ (.int .i64 0)).setCell ⟨w.heap.size + 1, 1, none⟩ (.int .i64 0)).setCell ⟨w.heap.size + 1, 2, none⟩ (.int .i64 0)).setCell ⟨w.heap.size + 1, 3, none⟩ (.int .i64 0)).setCell ⟨w.heap.size + 1, 4, none⟩ (.int .i64 0)).setCell ⟨w.heap.size + 1, 5, none⟩ (.int .i64 0)).setCell ⟨w.heap.size + 1, 6, none⟩ (.slice none 0 0)) = w9 at R9 o9 ⊢
  obtain ⟨N0, N1, N2, N3, N4, N5, N6, Nf0, Nf1, Nf2, Nf3, Nf4, Nf5, Nf6⟩ := row_seven R9
  exact bodyPost_ret (v := .tuple #[.agg #[.int .i64 0, .int .i64 0, .int .i64 0, .int .i64 0, .int .i64 0, .int .i64 0, .slice none 0 0], .int .i64 2]) (by simp [results, Try.results15, go_sem, List.getElem?_toArray, N0, N1, N2, N3, N4, N5, N6]) rfl (smret_zero o9)
set_option maxRecDepth 100000 in
theorem rsmadd_b (A : Option Addr) (m c : Nat) (l : List Mk) (agg wd k cap now seq : Int) (v : Int) (w : World) (hin : MIn A m c l w) (sB : I64 seq) (hv : smvalE agg wd k cap now seq l = 0) (h1 : v < leastV agg ∨ 4096 < v) : Calls Try.prog 15 #[.agg #[.int .i64 agg, .int .i64 wd, .int .i64 k, .int .i64 cap, .int .i64 now, .int .i64 seq, .slice A m c], .int .i64 v] w fun e w' => SmRet A (smAdd agg wd k cap now seq l v) w e w' := by
  rw [smAdd_b hv h1]
  obtain ⟨⟨⟨a0, a1⟩, _⟩, _, _⟩ := of_smvalE hv
  have PV := fun w => rvalue agg v w a0 a1
  rw [decide_eq_false (by omega)] at PV
  replace PV := Lib.hid PV
  have P := fun w' (hb : Below w.heap.size w w') => rvalS A m c l agg wd k cap now seq w' (hin.below hb) sB
  rw [hv] at P
  replace P := Lib.hid P
  clear hv hin sB h1
  go_enter Try.func15, Try.ntmps15
  go_wp2_with (first | (go_at_call 13; with_reducible refine (P.out _ (by (repeat (first | exact Below.refl _ _ | refine Below.setCell ?_ (by first | (simp; done) | (simp; omega) | omega) _ | refine Below.alloc ?_ (by first | (simp; done) | (simp; omega) | omega) _ | refine Below.drew ?_ | refine Below.trans ?_ (Below.mono (by assumption) (by first | (simp; done) | (simp; omega) | omega)))))).mono ?_; rintro e w1 ⟨rfl, hb1⟩; have hz1 := hb1.size; (try simp at hz1); have o1 : Below w.heap.size w w1 := (by (repeat (first | exact Below.refl _ _ | refine Below.setCell ?_ (by first | (simp; done) | (simp; omega) | omega) _ | refine Below.alloc ?_ (by first | (simp; done) | (simp; omega) | omega) _ | refine Below.drew ?_ | refine Below.trans ?_ (Below.mono (by assumption) (by first | (simp; done) | (simp; omega) | omega))))); have q1_0 : w.heap.size < w1.heap.size := (by omega); have r1_0 : Row w1 (w.heap.size) 24 #[.int .i64 agg, .int .i64 wd, .int .i64 k, .int .i64 cap, .int .i64 now, .int .i64 seq, .slice A m c] := row_call (by (repeat (first | assumption | (refine row_new ?_; (first | (simp; done) | omega)) | refine row_alloc ?_ _ | refine row_drew ?_ | refine row_call ?_ (by assumption)))) hb1; obtain ⟨c1_0a, c1_0b, c1_0c, c1_0d, c1_0e, c1_0f, c1_0g, f1_0a, f1_0b, f1_0c, f1_0d, f1_0e, f1_0f, f1_0g⟩ := row_seven r1_0; have q1_1 : w.heap.size + 1 < w1.heap.size := (by omega); have r1_1 : Row w1 (w.heap.size + 1) 24 #[.int .i64 0, .int .i64 0, .int .i64 0, .int .i64 0, .int .i64 0, .int .i64 0, .slice none 0 0] := row_call (by (repeat (first | assumption | (refine row_new ?_; (first | (simp; done) | omega)) | refine row_alloc ?_ _ | refine row_drew ?_ | refine row_call ?_ (by assumption)))) hb1; obtain ⟨c1_1a, c1_1b, c1_1c, c1_1d, c1_1e, c1_1f, c1_1g, f1_1a, f1_1b, f1_1c, f1_1d, f1_1e, f1_1f, f1_1g⟩ := row_seven r1_1) | (go_at_call 47; with_reducible refine (PV.out _).mono ?_; rintro e w9 ⟨rfl, h9⟩; obtain rfl := h9.symm))
  have hbge : w.heap.size ≤ w.heap.size + 1 := by omega
  have R9 : Row (((((((w1.setCell ⟨w.heap.size + 1, 0, none⟩ (.int .i64 0)).setCell ⟨w.heap.size + 1, 1, none⟩ (.int .i64 0)).setCell ⟨w.heap.size + 1, 2, none⟩ (.int .i64 0)).setCell ⟨w.heap.size + 1, 3, none⟩ (.int .i64 0)).setCell ⟨w.heap.size + 1, 4, none⟩ (.int .i64 0)).setCell ⟨w.heap.size + 1, 5, none⟩ (.int .i64 0)).setCell ⟨w.heap.size + 1, 6, none⟩ (.slice none 0 0)) (w.heap.size + 1) 24 #[.int .i64 0, .int .i64 0, .int .i64 0, .int .i64 0, .int .i64 0, .int .i64 0, .slice none 0 0] := (row_set (row_set (row_set (row_set (row_set (row_set (row_set r1_1 0 (.int .i64 0)) 1 (.int .i64 0)) 2 (.int .i64 0)) 3 (.int .i64 0)) 4 (.int .i64 0)) 5 (.int .i64 0)) 6 (.slice none 0 0))
  have o9 : Below w.heap.size w (((((((w1.setCell ⟨w.heap.size + 1, 0, none⟩ (.int .i64 0)).setCell ⟨w.heap.size + 1, 1, none⟩ (.int .i64 0)).setCell ⟨w.heap.size + 1, 2, none⟩ (.int .i64 0)).setCell ⟨w.heap.size + 1, 3, none⟩ (.int .i64 0)).setCell ⟨w.heap.size + 1, 4, none⟩ (.int .i64 0)).setCell ⟨w.heap.size + 1, 5, none⟩ (.int .i64 0)).setCell ⟨w.heap.size + 1, 6, none⟩ (.slice none 0 0)) := (Below.setCell (p := ⟨w.heap.size + 1, 6, none⟩) (Below.setCell (p := ⟨w.heap.size + 1, 5, none⟩) (Below.setCell (p := ⟨w.heap.size + 1, 4, none⟩) (Below.setCell (p := ⟨w.heap.size + 1, 3, none⟩) (Below.setCell (p := ⟨w.heap.size + 1, 2, none⟩) (Below.setCell (p := ⟨w.heap.size + 1, 1, none⟩) (Below.setCell (p := ⟨w.heap.size + 1, 0, none⟩) o1 hbge (.int .i64 0)) hbge (.int .i64 0)) hbge (.int .i64 0)) hbge (.int .i64 0)) hbge (.int .i64 0)) hbge (.int .i64 0)) hbge (.slice none 0 0))
  generalize (((((((w1.setCell ⟨w.heap.size + 1, 0, none⟩ (.int .i64 0)).setCell ⟨w.heap.size + 1, 1, none⟩ (.int .i64 0)).setCell ⟨w.heap.size + 1, 2, none⟩ (.int .i64 0)).setCell ⟨w.heap.size + 1, 3, none⟩ (.int .i64 0)).setCell ⟨w.heap.size + 1, 4, none⟩ (.int .i64 0)).setCell ⟨w.heap.size + 1, 5, none⟩ (.int .i64 0)).setCell ⟨w.heap.size + 1, 6, none⟩ (.slice none 0 0)) = w9 at R9 o9 ⊢
  obtain ⟨N0, N1, N2, N3, N4, N5, N6, Nf0, Nf1, Nf2, Nf3, Nf4, Nf5, Nf6⟩ := row_seven R9
  exact bodyPost_ret (v := .tuple #[.agg #[.int .i64 0, .int .i64 0, .int .i64 0, .int .i64 0, .int .i64 0, .int .i64 0, .slice none 0 0], .int .i64 4]) (by simp [results, Try.results15, go_sem, List.getElem?_toArray, N0, N1, N2, N3, N4, N5, N6]) rfl (smret_zero o9)
set_option maxRecDepth 100000 in
set_option maxHeartbeats 2000000 in
theorem rsmadd_c1 (A : Option Addr) (m c : Nat) (l : List Mk) (agg wd k cap now seq : Int) (v : Int) (w : World) (hin : MIn A m c l w) (sB : I64 seq) (hv : smvalE agg wd k cap now seq l = 0) (h0 : ¬ v < leastV agg) (h1 : ¬ 4096 < v) (hm0 : 0 < m) (hn : (mkAt l 0).n = cap) (hf : smFull cap seq l) : Calls Try.prog 15 #[.agg #[.int .i64 agg, .int .i64 wd, .int .i64 k, .int .i64 cap, .int .i64 now, .int .i64 seq, .slice A m c], .int .i64 v] w fun e w' => SmRet A (smAdd agg wd k cap now seq l v) w e w' := by
  rw [smAdd_c hv (by omega) hf]
  obtain ⟨⟨⟨a0, a1⟩, _⟩, _, _⟩ := of_smvalE hv
  clear hf
  have PV := fun w => rvalue agg v w a0 a1
  rw [decide_eq_true ⟨Int.not_lt.1 h0, Int.not_lt.1 h1⟩] at PV
  replace PV := Lib.hid PV
  have P := fun w' (hb : Below w.heap.size w w') => rvalS A m c l agg wd k cap now seq w' (hin.below hb) sB
  rw [hv] at P
  replace P := Lib.hid P
  have HR := Lib.hid hin
  have HL := Lib.hid hin.len
  clear hin sB h0 h1
  go_enter Try.func15, Try.ntmps15
  go_upto_region 6 with (first | (go_at_call 13; with_reducible refine (P.out _ (by (repeat (first | exact Below.refl _ _ | refine Below.setCell ?_ (by first | (simp; done) | (simp; omega) | omega) _ | refine Below.alloc ?_ (by first | (simp; done) | (simp; omega) | omega) _ | refine Below.drew ?_ | refine Below.trans ?_ (Below.mono (by assumption) (by first | (simp; done) | (simp; omega) | omega)))))).mono ?_; rintro e w1 ⟨rfl, hb1⟩; have hz1 := hb1.size; (try simp at hz1); have o1 : Below w.heap.size w w1 := (by (repeat (first | exact Below.refl _ _ | refine Below.setCell ?_ (by first | (simp; done) | (simp; omega) | omega) _ | refine Below.alloc ?_ (by first | (simp; done) | (simp; omega) | omega) _ | refine Below.drew ?_ | refine Below.trans ?_ (Below.mono (by assumption) (by first | (simp; done) | (simp; omega) | omega))))); have q1_0 : w.heap.size < w1.heap.size := (by omega); have r1_0 : Row w1 (w.heap.size) 24 #[.int .i64 agg, .int .i64 wd, .int .i64 k, .int .i64 cap, .int .i64 now, .int .i64 seq, .slice A m c] := row_call (by (repeat (first | assumption | (refine row_new ?_; (first | (simp; done) | omega)) | refine row_alloc ?_ _ | refine row_drew ?_ | refine row_call ?_ (by assumption)))) hb1; obtain ⟨c1_0a, c1_0b, c1_0c, c1_0d, c1_0e, c1_0f, c1_0g, f1_0a, f1_0b, f1_0c, f1_0d, f1_0e, f1_0f, f1_0g⟩ := row_seven r1_0; have q1_1 : w.heap.size + 1 < w1.heap.size := (by omega); have r1_1 : Row w1 (w.heap.size + 1) 24 #[.int .i64 0, .int .i64 0, .int .i64 0, .int .i64 0, .int .i64 0, .int .i64 0, .slice none 0 0] := row_call (by (repeat (first | assumption | (refine row_new ?_; (first | (simp; done) | omega)) | refine row_alloc ?_ _ | refine row_drew ?_ | refine row_call ?_ (by assumption)))) hb1; obtain ⟨c1_1a, c1_1b, c1_1c, c1_1d, c1_1e, c1_1f, c1_1g, f1_1a, f1_1b, f1_1c, f1_1d, f1_1e, f1_1f, f1_1g⟩ := row_seven r1_1) | (go_at_call 47; with_reducible refine (PV.out _).mono ?_; rintro e w9 ⟨rfl, h9⟩; obtain rfl := h9.symm))
  clear P PV
  clear hv
  obtain ⟨ad, rfl, hadb, ht0⟩ := HR.out.reads.mk (i := 0) hm0
  have ht0 : MkCells w ad (mkAt l 0) := ht0
  generalize mkAt l 0 = m0 at ht0 hn
  obtain ⟨sq, tk, n, s, q, lo, hi⟩ := m0
  obtain ⟨q0, q1, q2, q3, q4, q5, q6⟩ := ht0.below o1 hadb
  dsimp only at q0 q1 q2 q3 q4 q5 q6 hn
  clear ht0
  have e0 : decide (0 < m) = true := decide_eq_true hm0
  have g0 : (0 : Int) < (m : Int) := by omega
  have e1 : (n == cap) = true := by simpa using hn
  refine wp_region_quiet_lit (by as_aux_lemma => kernel_rfl) (by as_aux_lemma => kernel_rfl) ?_
  repeat (go_big_quiet_step (fail))
  refine wpQuiet_nil ?_
  intro _ hw'
  obtain ⟨nq, hw''⟩ := hw'
  subst hw''
  replace r1_0 : Row (w1.drewN nq) (w.heap.size) 24 #[.int .i64 agg, .int .i64 wd, .int .i64 k, .int .i64 cap, .int .i64 now, .int .i64 seq, .slice (some ad) m c] := r1_0
  replace r1_1 : Row (w1.drewN nq) (w.heap.size + 1) 24 #[.int .i64 0, .int .i64 0, .int .i64 0, .int .i64 0, .int .i64 0, .int .i64 0, .slice none 0 0] := r1_1
  replace o1 := o1.trans (⟨rfl, rfl, rfl, Nat.le_refl _, fun _ _ => rfl⟩ : Below _ w1 (w1.drewN nq))
  generalize w1.drewN nq = w2 at r1_0 r1_1 o1 ⊢
  clear c1_0a c1_0b c1_0c c1_0d c1_0e c1_0f c1_0g f1_0a f1_0b f1_0c f1_0d f1_0e f1_0f f1_0g c1_1a c1_1b c1_1c c1_1d c1_1e c1_1f c1_1g f1_1a f1_1b f1_1c f1_1d f1_1e f1_1f f1_1g
  obtain ⟨Z0, Z1, Z2, Z3, Z4, Z5, Z6, Zf0, Zf1, Zf2, Zf3, Zf4, Zf5, Zf6⟩ := row_seven r1_1
  clear r1_0
  clear q0 q1 q2 q3 q4 q5 q6
  go_wp2
  have hbge : w.heap.size ≤ w.heap.size + 1 := by omega
  have R9 : Row (((((((w2.setCell ⟨w.heap.size + 1, 0, none⟩ (.int .i64 0)).setCell ⟨w.heap.size + 1, 1, none⟩ (.int .i64 0)).setCell ⟨w.heap.size + 1, 2, none⟩ (.int .i64 0)).setCell ⟨w.heap.size + 1, 3, none⟩ (.int .i64 0)).setCell ⟨w.heap.size + 1, 4, none⟩ (.int .i64 0)).setCell ⟨w.heap.size + 1, 5, none⟩ (.int .i64 0)).setCell ⟨w.heap.size + 1, 6, none⟩ (.slice none 0 0)) (w.heap.size + 1) 24 #[.int .i64 0, .int .i64 0, .int .i64 0, .int .i64 0, .int .i64 0, .int .i64 0, .slice none 0 0] := (row_set (row_set (row_set (row_set (row_set (row_set (row_set r1_1 0 (.int .i64 0)) 1 (.int .i64 0)) 2 (.int .i64 0)) 3 (.int .i64 0)) 4 (.int .i64 0)) 5 (.int .i64 0)) 6 (.slice none 0 0))
  have o9 : Below w.heap.size w (((((((w2.setCell ⟨w.heap.size + 1, 0, none⟩ (.int .i64 0)).setCell ⟨w.heap.size + 1, 1, none⟩ (.int .i64 0)).setCell ⟨w.heap.size + 1, 2, none⟩ (.int .i64 0)).setCell ⟨w.heap.size + 1, 3, none⟩ (.int .i64 0)).setCell ⟨w.heap.size + 1, 4, none⟩ (.int .i64 0)).setCell ⟨w.heap.size + 1, 5, none⟩ (.int .i64 0)).setCell ⟨w.heap.size + 1, 6, none⟩ (.slice none 0 0)) := (Below.setCell (p := ⟨w.heap.size + 1, 6, none⟩) (Below.setCell (p := ⟨w.heap.size + 1, 5, none⟩) (Below.setCell (p := ⟨w.heap.size + 1, 4, none⟩) (Below.setCell (p := ⟨w.heap.size + 1, 3, none⟩) (Below.setCell (p := ⟨w.heap.size + 1, 2, none⟩) (Below.setCell (p := ⟨w.heap.size + 1, 1, none⟩) (Below.setCell (p := ⟨w.heap.size + 1, 0, none⟩) o1 hbge (.int .i64 0)) hbge (.int .i64 0)) hbge (.int .i64 0)) hbge (.int .i64 0)) hbge (.int .i64 0)) hbge (.int .i64 0)) hbge (.slice none 0 0))
  generalize (((((((w2.setCell ⟨w.heap.size + 1, 0, none⟩ (.int .i64 0)).setCell ⟨w.heap.size + 1, 1, none⟩ (.int .i64 0)).setCell ⟨w.heap.size + 1, 2, none⟩ (.int .i64 0)).setCell ⟨w.heap.size + 1, 3, none⟩ (.int .i64 0)).setCell ⟨w.heap.size + 1, 4, none⟩ (.int .i64 0)).setCell ⟨w.heap.size + 1, 5, none⟩ (.int .i64 0)).setCell ⟨w.heap.size + 1, 6, none⟩ (.slice none 0 0)) = w9 at R9 o9 ⊢
  obtain ⟨N0, N1, N2, N3, N4, N5, N6, Nf0, Nf1, Nf2, Nf3, Nf4, Nf5, Nf6⟩ := row_seven R9
  exact bodyPost_ret (v := .tuple #[.agg #[.int .i64 0, .int .i64 0, .int .i64 0, .int .i64 0, .int .i64 0, .int .i64 0, .slice none 0 0], .int .i64 5]) (by simp [results, Try.results15, go_sem, List.getElem?_toArray, N0, N1, N2, N3, N4, N5, N6]) rfl (smret_zero o9)
set_option maxRecDepth 100000 in
set_option maxHeartbeats 2000000 in
theorem rsmadd_c2 (A : Option Addr) (m c : Nat) (l : List Mk) (agg wd k cap now seq : Int) (v : Int) (w : World) (hin : MIn A m c l w) (sB : I64 seq) (hv : smvalE agg wd k cap now seq l = 0) (h0 : ¬ v < leastV agg) (h1 : ¬ 4096 < v) (hm0 : 0 < m) (hn : (mkAt l 0).n ≠ cap) (hs : seq = 1099511627776) (hf : smFull cap seq l) : Calls Try.prog 15 #[.agg #[.int .i64 agg, .int .i64 wd, .int .i64 k, .int .i64 cap, .int .i64 now, .int .i64 seq, .slice A m c], .int .i64 v] w fun e w' => SmRet A (smAdd agg wd k cap now seq l v) w e w' := by
  rw [smAdd_c hv (by omega) hf]
  obtain ⟨⟨⟨a0, a1⟩, _⟩, _, _⟩ := of_smvalE hv
  clear hf
  have HSQ := Lib.hid hs
  clear hs
  have PV := fun w => rvalue agg v w a0 a1
  rw [decide_eq_true ⟨Int.not_lt.1 h0, Int.not_lt.1 h1⟩] at PV
  replace PV := Lib.hid PV
  have P := fun w' (hb : Below w.heap.size w w') => rvalS A m c l agg wd k cap now seq w' (hin.below hb) sB
  rw [hv] at P
  replace P := Lib.hid P
  have HR := Lib.hid hin
  have HL := Lib.hid hin.len
  clear hin sB h0 h1
  go_enter Try.func15, Try.ntmps15
  go_upto_region 6 with (first | (go_at_call 13; with_reducible refine (P.out _ (by (repeat (first | exact Below.refl _ _ | refine Below.setCell ?_ (by first | (simp; done) | (simp; omega) | omega) _ | refine Below.alloc ?_ (by first | (simp; done) | (simp; omega) | omega) _ | refine Below.drew ?_ | refine Below.trans ?_ (Below.mono (by assumption) (by first | (simp; done) | (simp; omega) | omega)))))).mono ?_; rintro e w1 ⟨rfl, hb1⟩; have hz1 := hb1.size; (try simp at hz1); have o1 : Below w.heap.size w w1 := (by (repeat (first | exact Below.refl _ _ | refine Below.setCell ?_ (by first | (simp; done) | (simp; omega) | omega) _ | refine Below.alloc ?_ (by first | (simp; done) | (simp; omega) | omega) _ | refine Below.drew ?_ | refine Below.trans ?_ (Below.mono (by assumption) (by first | (simp; done) | (simp; omega) | omega))))); have q1_0 : w.heap.size < w1.heap.size := (by omega); have r1_0 : Row w1 (w.heap.size) 24 #[.int .i64 agg, .int .i64 wd, .int .i64 k, .int .i64 cap, .int .i64 now, .int .i64 seq, .slice A m c] := row_call (by (repeat (first | assumption | (refine row_new ?_; (first | (simp; done) | omega)) | refine row_alloc ?_ _ | refine row_drew ?_ | refine row_call ?_ (by assumption)))) hb1; obtain ⟨c1_0a, c1_0b, c1_0c, c1_0d, c1_0e, c1_0f, c1_0g, f1_0a, f1_0b, f1_0c, f1_0d, f1_0e, f1_0f, f1_0g⟩ := row_seven r1_0; have q1_1 : w.heap.size + 1 < w1.heap.size := (by omega); have r1_1 : Row w1 (w.heap.size + 1) 24 #[.int .i64 0, .int .i64 0, .int .i64 0, .int .i64 0, .int .i64 0, .int .i64 0, .slice none 0 0] := row_call (by (repeat (first | assumption | (refine row_new ?_; (first | (simp; done) | omega)) | refine row_alloc ?_ _ | refine row_drew ?_ | refine row_call ?_ (by assumption)))) hb1; obtain ⟨c1_1a, c1_1b, c1_1c, c1_1d, c1_1e, c1_1f, c1_1g, f1_1a, f1_1b, f1_1c, f1_1d, f1_1e, f1_1f, f1_1g⟩ := row_seven r1_1) | (go_at_call 47; with_reducible refine (PV.out _).mono ?_; rintro e w9 ⟨rfl, h9⟩; obtain rfl := h9.symm))
  clear P PV
  clear hv
  have e2 : (seq == 1099511627776) = true := by simpa using HSQ.out
  obtain ⟨ad, rfl, hadb, ht0⟩ := HR.out.reads.mk (i := 0) hm0
  have ht0 : MkCells w ad (mkAt l 0) := ht0
  generalize mkAt l 0 = m0 at ht0 hn
  obtain ⟨sq, tk, n, s, q, lo, hi⟩ := m0
  obtain ⟨q0, q1, q2, q3, q4, q5, q6⟩ := ht0.below o1 hadb
  dsimp only at q0 q1 q2 q3 q4 q5 q6 hn
  clear ht0
  have e0 : decide (0 < m) = true := decide_eq_true hm0
  have g0 : (0 : Int) < (m : Int) := by omega
  have e1 : (n == cap) = false := by simpa using hn
  refine wp_region_quiet_lit (by as_aux_lemma => kernel_rfl) (by as_aux_lemma => kernel_rfl) ?_
  repeat (go_big_quiet_step (fail))
  refine wpQuiet_nil ?_
  intro _ hw'
  obtain ⟨nq, hw''⟩ := hw'
  subst hw''
  replace r1_0 : Row (w1.drewN nq) (w.heap.size) 24 #[.int .i64 agg, .int .i64 wd, .int .i64 k, .int .i64 cap, .int .i64 now, .int .i64 seq, .slice (some ad) m c] := r1_0
  replace r1_1 : Row (w1.drewN nq) (w.heap.size + 1) 24 #[.int .i64 0, .int .i64 0, .int .i64 0, .int .i64 0, .int .i64 0, .int .i64 0, .slice none 0 0] := r1_1
  replace o1 := o1.trans (⟨rfl, rfl, rfl, Nat.le_refl _, fun _ _ => rfl⟩ : Below _ w1 (w1.drewN nq))
  generalize w1.drewN nq = w2 at r1_0 r1_1 o1 ⊢
  clear c1_0a c1_0b c1_0c c1_0d c1_0e c1_0f c1_0g f1_0a f1_0b f1_0c f1_0d f1_0e f1_0f f1_0g c1_1a c1_1b c1_1c c1_1d c1_1e c1_1f c1_1g f1_1a f1_1b f1_1c f1_1d f1_1e f1_1f f1_1g
  obtain ⟨Z0, Z1, Z2, Z3, Z4, Z5, Z6, Zf0, Zf1, Zf2, Zf3, Zf4, Zf5, Zf6⟩ := row_seven r1_1
  clear r1_0
  clear q0 q1 q2 q3 q4 q5 q6
  go_wp2
  have hbge : w.heap.size ≤ w.heap.size + 1 := by omega
  have R9 : Row (((((((w2.setCell ⟨w.heap.size + 1, 0, none⟩ (.int .i64 0)).setCell ⟨w.heap.size + 1, 1, none⟩ (.int .i64 0)).setCell ⟨w.heap.size + 1, 2, none⟩ (.int .i64 0)).setCell ⟨w.heap.size + 1, 3, none⟩ (.int .i64 0)).setCell ⟨w.heap.size + 1, 4, none⟩ (.int .i64 0)).setCell ⟨w.heap.size + 1, 5, none⟩ (.int .i64 0)).setCell ⟨w.heap.size + 1, 6, none⟩ (.slice none 0 0)) (w.heap.size + 1) 24 #[.int .i64 0, .int .i64 0, .int .i64 0, .int .i64 0, .int .i64 0, .int .i64 0, .slice none 0 0] := (row_set (row_set (row_set (row_set (row_set (row_set (row_set r1_1 0 (.int .i64 0)) 1 (.int .i64 0)) 2 (.int .i64 0)) 3 (.int .i64 0)) 4 (.int .i64 0)) 5 (.int .i64 0)) 6 (.slice none 0 0))
  have o9 : Below w.heap.size w (((((((w2.setCell ⟨w.heap.size + 1, 0, none⟩ (.int .i64 0)).setCell ⟨w.heap.size + 1, 1, none⟩ (.int .i64 0)).setCell ⟨w.heap.size + 1, 2, none⟩ (.int .i64 0)).setCell ⟨w.heap.size + 1, 3, none⟩ (.int .i64 0)).setCell ⟨w.heap.size + 1, 4, none⟩ (.int .i64 0)).setCell ⟨w.heap.size + 1, 5, none⟩ (.int .i64 0)).setCell ⟨w.heap.size + 1, 6, none⟩ (.slice none 0 0)) := (Below.setCell (p := ⟨w.heap.size + 1, 6, none⟩) (Below.setCell (p := ⟨w.heap.size + 1, 5, none⟩) (Below.setCell (p := ⟨w.heap.size + 1, 4, none⟩) (Below.setCell (p := ⟨w.heap.size + 1, 3, none⟩) (Below.setCell (p := ⟨w.heap.size + 1, 2, none⟩) (Below.setCell (p := ⟨w.heap.size + 1, 1, none⟩) (Below.setCell (p := ⟨w.heap.size + 1, 0, none⟩) o1 hbge (.int .i64 0)) hbge (.int .i64 0)) hbge (.int .i64 0)) hbge (.int .i64 0)) hbge (.int .i64 0)) hbge (.int .i64 0)) hbge (.slice none 0 0))
  generalize (((((((w2.setCell ⟨w.heap.size + 1, 0, none⟩ (.int .i64 0)).setCell ⟨w.heap.size + 1, 1, none⟩ (.int .i64 0)).setCell ⟨w.heap.size + 1, 2, none⟩ (.int .i64 0)).setCell ⟨w.heap.size + 1, 3, none⟩ (.int .i64 0)).setCell ⟨w.heap.size + 1, 4, none⟩ (.int .i64 0)).setCell ⟨w.heap.size + 1, 5, none⟩ (.int .i64 0)).setCell ⟨w.heap.size + 1, 6, none⟩ (.slice none 0 0)) = w9 at R9 o9 ⊢
  obtain ⟨N0, N1, N2, N3, N4, N5, N6, Nf0, Nf1, Nf2, Nf3, Nf4, Nf5, Nf6⟩ := row_seven R9
  exact bodyPost_ret (v := .tuple #[.agg #[.int .i64 0, .int .i64 0, .int .i64 0, .int .i64 0, .int .i64 0, .int .i64 0, .slice none 0 0], .int .i64 5]) (by simp [results, Try.results15, go_sem, List.getElem?_toArray, N0, N1, N2, N3, N4, N5, N6]) rfl (smret_zero o9)
set_option maxRecDepth 100000 in
set_option maxHeartbeats 2000000 in
theorem rsmadd_c3 (A : Option Addr) (c : Nat) (l : List Mk) (agg wd k cap now seq : Int) (v : Int) (w : World) (hin : MIn A 0 c l w) (sB : I64 seq) (hv : smvalE agg wd k cap now seq l = 0) (h0 : ¬ v < leastV agg) (h1 : ¬ 4096 < v) (hs : seq = 1099511627776) (hf : smFull cap seq l) : Calls Try.prog 15 #[.agg #[.int .i64 agg, .int .i64 wd, .int .i64 k, .int .i64 cap, .int .i64 now, .int .i64 seq, .slice A 0 c], .int .i64 v] w fun e w' => SmRet A (smAdd agg wd k cap now seq l v) w e w' := by
  rw [smAdd_c hv (by omega) hf]
  obtain ⟨⟨⟨a0, a1⟩, _⟩, _, _⟩ := of_smvalE hv
  clear hf
  have HSQ := Lib.hid hs
  clear hs
  have PV := fun w => rvalue agg v w a0 a1
  rw [decide_eq_true ⟨Int.not_lt.1 h0, Int.not_lt.1 h1⟩] at PV
  replace PV := Lib.hid PV
  have P := fun w' (hb : Below w.heap.size w w') => rvalS A 0 c l agg wd k cap now seq w' (hin.below hb) sB
  rw [hv] at P
  replace P := Lib.hid P
  have HR := Lib.hid hin
  have HL := Lib.hid hin.len
  clear hin sB h0 h1
  go_enter Try.func15, Try.ntmps15
  go_upto_region 6 with (first | (go_at_call 13; with_reducible refine (P.out _ (by (repeat (first | exact Below.refl _ _ | refine Below.setCell ?_ (by first | (simp; done) | (simp; omega) | omega) _ | refine Below.alloc ?_ (by first | (simp; done) | (simp; omega) | omega) _ | refine Below.drew ?_ | refine Below.trans ?_ (Below.mono (by assumption) (by first | (simp; done) | (simp; omega) | omega)))))).mono ?_; rintro e w1 ⟨rfl, hb1⟩; have hz1 := hb1.size; (try simp at hz1); have o1 : Below w.heap.size w w1 := (by (repeat (first | exact Below.refl _ _ | refine Below.setCell ?_ (by first | (simp; done) | (simp; omega) | omega) _ | refine Below.alloc ?_ (by first | (simp; done) | (simp; omega) | omega) _ | refine Below.drew ?_ | refine Below.trans ?_ (Below.mono (by assumption) (by first | (simp; done) | (simp; omega) | omega))))); have q1_0 : w.heap.size < w1.heap.size := (by omega); have r1_0 : Row w1 (w.heap.size) 24 #[.int .i64 agg, .int .i64 wd, .int .i64 k, .int .i64 cap, .int .i64 now, .int .i64 seq, .slice A 0 c] := row_call (by (repeat (first | assumption | (refine row_new ?_; (first | (simp; done) | omega)) | refine row_alloc ?_ _ | refine row_drew ?_ | refine row_call ?_ (by assumption)))) hb1; obtain ⟨c1_0a, c1_0b, c1_0c, c1_0d, c1_0e, c1_0f, c1_0g, f1_0a, f1_0b, f1_0c, f1_0d, f1_0e, f1_0f, f1_0g⟩ := row_seven r1_0; have q1_1 : w.heap.size + 1 < w1.heap.size := (by omega); have r1_1 : Row w1 (w.heap.size + 1) 24 #[.int .i64 0, .int .i64 0, .int .i64 0, .int .i64 0, .int .i64 0, .int .i64 0, .slice none 0 0] := row_call (by (repeat (first | assumption | (refine row_new ?_; (first | (simp; done) | omega)) | refine row_alloc ?_ _ | refine row_drew ?_ | refine row_call ?_ (by assumption)))) hb1; obtain ⟨c1_1a, c1_1b, c1_1c, c1_1d, c1_1e, c1_1f, c1_1g, f1_1a, f1_1b, f1_1c, f1_1d, f1_1e, f1_1f, f1_1g⟩ := row_seven r1_1) | (go_at_call 47; with_reducible refine (PV.out _).mono ?_; rintro e w9 ⟨rfl, h9⟩; obtain rfl := h9.symm))
  clear P PV
  clear hv
  have e2 : (seq == 1099511627776) = true := by simpa using HSQ.out
  refine wp_region_quiet_lit (by as_aux_lemma => kernel_rfl) (by as_aux_lemma => kernel_rfl) ?_
  repeat (go_big_quiet_step (fail))
  refine wpQuiet_nil ?_
  intro _ hw'
  obtain ⟨nq, hw''⟩ := hw'
  subst hw''
  replace r1_0 : Row (w1.drewN nq) (w.heap.size) 24 #[.int .i64 agg, .int .i64 wd, .int .i64 k, .int .i64 cap, .int .i64 now, .int .i64 seq, .slice A 0 c] := r1_0
  replace r1_1 : Row (w1.drewN nq) (w.heap.size + 1) 24 #[.int .i64 0, .int .i64 0, .int .i64 0, .int .i64 0, .int .i64 0, .int .i64 0, .slice none 0 0] := r1_1
  replace o1 := o1.trans (⟨rfl, rfl, rfl, Nat.le_refl _, fun _ _ => rfl⟩ : Below _ w1 (w1.drewN nq))
  generalize w1.drewN nq = w2 at r1_0 r1_1 o1 ⊢
  clear c1_0a c1_0b c1_0c c1_0d c1_0e c1_0f c1_0g f1_0a f1_0b f1_0c f1_0d f1_0e f1_0f f1_0g c1_1a c1_1b c1_1c c1_1d c1_1e c1_1f c1_1g f1_1a f1_1b f1_1c f1_1d f1_1e f1_1f f1_1g
  obtain ⟨Z0, Z1, Z2, Z3, Z4, Z5, Z6, Zf0, Zf1, Zf2, Zf3, Zf4, Zf5, Zf6⟩ := row_seven r1_1
  clear r1_0
  skip
  go_wp2
  have hbge : w.heap.size ≤ w.heap.size + 1 := by omega
  have R9 : Row (((((((w2.setCell ⟨w.heap.size + 1, 0, none⟩ (.int .i64 0)).setCell ⟨w.heap.size + 1, 1, none⟩ (.int .i64 0)).setCell ⟨w.heap.size + 1, 2, none⟩ (.int .i64 0)).setCell ⟨w.heap.size + 1, 3, none⟩ (.int .i64 0)).setCell ⟨w.heap.size + 1, 4, none⟩ (.int .i64 0)).setCell ⟨w.heap.size + 1, 5, none⟩ (.int .i64 0)).setCell ⟨w.heap.size + 1, 6, none⟩ (.slice none 0 0)) (w.heap.size + 1) 24 #[.int .i64 0, .int .i64 0, .int .i64 0, .int .i64 0, .int .i64 0, .int .i64 0, .slice none 0 0] := (row_set (row_set (row_set (row_set (row_set (row_set (row_set r1_1 0 (.int .i64 0)) 1 (.int .i64 0)) 2 (.int .i64 0)) 3 (.int .i64 0)) 4 (.int .i64 0)) 5 (.int .i64 0)) 6 (.slice none 0 0))
  have o9 : Below w.heap.size w (((((((w2.setCell ⟨w.heap.size + 1, 0, none⟩ (.int .i64 0)).setCell ⟨w.heap.size + 1, 1, none⟩ (.int .i64 0)).setCell ⟨w.heap.size + 1, 2, none⟩ (.int .i64 0)).setCell ⟨w.heap.size + 1, 3, none⟩ (.int .i64 0)).setCell ⟨w.heap.size + 1, 4, none⟩ (.int .i64 0)).setCell ⟨w.heap.size + 1, 5, none⟩ (.int .i64 0)).setCell ⟨w.heap.size + 1, 6, none⟩ (.slice none 0 0)) := (Below.setCell (p := ⟨w.heap.size + 1, 6, none⟩) (Below.setCell (p := ⟨w.heap.size + 1, 5, none⟩) (Below.setCell (p := ⟨w.heap.size + 1, 4, none⟩) (Below.setCell (p := ⟨w.heap.size + 1, 3, none⟩) (Below.setCell (p := ⟨w.heap.size + 1, 2, none⟩) (Below.setCell (p := ⟨w.heap.size + 1, 1, none⟩) (Below.setCell (p := ⟨w.heap.size + 1, 0, none⟩) o1 hbge (.int .i64 0)) hbge (.int .i64 0)) hbge (.int .i64 0)) hbge (.int .i64 0)) hbge (.int .i64 0)) hbge (.int .i64 0)) hbge (.slice none 0 0))
  generalize (((((((w2.setCell ⟨w.heap.size + 1, 0, none⟩ (.int .i64 0)).setCell ⟨w.heap.size + 1, 1, none⟩ (.int .i64 0)).setCell ⟨w.heap.size + 1, 2, none⟩ (.int .i64 0)).setCell ⟨w.heap.size + 1, 3, none⟩ (.int .i64 0)).setCell ⟨w.heap.size + 1, 4, none⟩ (.int .i64 0)).setCell ⟨w.heap.size + 1, 5, none⟩ (.int .i64 0)).setCell ⟨w.heap.size + 1, 6, none⟩ (.slice none 0 0)) = w9 at R9 o9 ⊢
  obtain ⟨N0, N1, N2, N3, N4, N5, N6, Nf0, Nf1, Nf2, Nf3, Nf4, Nf5, Nf6⟩ := row_seven R9
  exact bodyPost_ret (v := .tuple #[.agg #[.int .i64 0, .int .i64 0, .int .i64 0, .int .i64 0, .int .i64 0, .int .i64 0, .slice none 0 0], .int .i64 5]) (by simp [results, Try.results15, go_sem, List.getElem?_toArray, N0, N1, N2, N3, N4, N5, N6]) rfl (smret_zero o9)
set_option maxRecDepth 100000 in
set_option maxHeartbeats 8000000 in
theorem rsmadd_d1 (A : Option Addr) (m c : Nat) (l : List Mk) (agg wd k cap now seq : Int) (v : Int) (w : World) (hin : MIn A m c l w) (sB : I64 seq) (hv : smvalE agg wd k cap now seq l = 0) (h0 : ¬ v < leastV agg) (h1 : ¬ 4096 < v) (hmm : m ≤ 100000) (hm0 : 0 < m) (hn : (mkAt l 0).n ≠ cap) (hs : seq ≠ 1099511627776) (hf : ¬ smFull cap seq l) : Calls Try.prog 15 #[.agg #[.int .i64 agg, .int .i64 wd, .int .i64 k, .int .i64 cap, .int .i64 now, .int .i64 seq, .slice A m c], .int .i64 v] w fun e w' => SmRet A (smAdd agg wd k cap now seq l v) w e w' := by
  rw [smAdd_d hv (by omega) hf]
  have hV := of_smvalE hv
  obtain ⟨hG, hMV, _⟩ := hV
  obtain ⟨⟨a0, a1⟩, d0, d1, k0, k1, c0, c1, n0, n1⟩ := hG
  obtain ⟨⟨s0, s1⟩, hVL⟩ := mvalid_iff.1 hMV
  have HVI := Lib.hid (hVL.incl s0 (hVL.n_lt (fun a => hf (.inl a))) c0 n0 d0 (Int.not_lt.1 h0) (by have := leastV_ge agg; omega) (Int.not_lt.1 h1))
  have HSM := Lib.hid (fun i (hi : i < m) => SmallM.of_one (hVL.one _ (mkAt_mem (l := l) (i := i) (by rw [hin.len]; exact hi))) c1 (leastV_ge agg))
  have hv0 : -4096 ≤ v := by have := leastV_ge agg; omega
  have hv1 : v ≤ 4096 := by omega
  have HLE := Lib.hid (leastV_ge agg)
  have HMI := Lib.hid (show ∀ x ∈ incl l (seq + 1) now v, M64 x from fun x hx => M64.of_one (HVI.out.one x hx) (by omega) c1 n1 HLE.out)
  have HOB := Lib.hid (show ∀ x ∈ incl l (seq + 1) now v, 0 ≤ ofV agg x ∧ ofV agg x ≤ 1099511627776 from fun x hx => ofV_bound (HVI.out.one x hx) c1)
  clear hf hMV hVL
  have PV := fun w => rvalue agg v w a0 a1
  rw [decide_eq_true ⟨Int.not_lt.1 h0, Int.not_lt.1 h1⟩] at PV
  replace PV := Lib.hid PV
  have P := fun w' (hb : Below w.heap.size w w') => rvalS A m c l agg wd k cap now seq w' (hin.below hb) sB
  rw [hv] at P
  replace P := Lib.hid P
  have HR := Lib.hid hin
  have HL := Lib.hid hin.len
  clear hin sB h0 h1
  go_enter Try.func15, Try.ntmps15
  go_upto_region 6 with (first | (go_at_call 13; with_reducible refine (P.out _ (by (repeat (first | exact Below.refl _ _ | refine Below.setCell ?_ (by first | (simp; done) | (simp; omega) | omega) _ | refine Below.alloc ?_ (by first | (simp; done) | (simp; omega) | omega) _ | refine Below.drew ?_ | refine Below.trans ?_ (Below.mono (by assumption) (by first | (simp; done) | (simp; omega) | omega)))))).mono ?_; rintro e w1 ⟨rfl, hb1⟩; have hz1 := hb1.size; (try simp at hz1); have o1 : Below w.heap.size w w1 := (by (repeat (first | exact Below.refl _ _ | refine Below.setCell ?_ (by first | (simp; done) | (simp; omega) | omega) _ | refine Below.alloc ?_ (by first | (simp; done) | (simp; omega) | omega) _ | refine Below.drew ?_ | refine Below.trans ?_ (Below.mono (by assumption) (by first | (simp; done) | (simp; omega) | omega))))); have q1_0 : w.heap.size < w1.heap.size := (by omega); have r1_0 : Row w1 (w.heap.size) 24 #[.int .i64 agg, .int .i64 wd, .int .i64 k, .int .i64 cap, .int .i64 now, .int .i64 seq, .slice A m c] := row_call (by (repeat (first | assumption | (refine row_new ?_; (first | (simp; done) | omega)) | refine row_alloc ?_ _ | refine row_drew ?_ | refine row_call ?_ (by assumption)))) hb1; obtain ⟨c1_0a, c1_0b, c1_0c, c1_0d, c1_0e, c1_0f, c1_0g, f1_0a, f1_0b, f1_0c, f1_0d, f1_0e, f1_0f, f1_0g⟩ := row_seven r1_0; have q1_1 : w.heap.size + 1 < w1.heap.size := (by omega); have r1_1 : Row w1 (w.heap.size + 1) 24 #[.int .i64 0, .int .i64 0, .int .i64 0, .int .i64 0, .int .i64 0, .int .i64 0, .slice none 0 0] := row_call (by (repeat (first | assumption | (refine row_new ?_; (first | (simp; done) | omega)) | refine row_alloc ?_ _ | refine row_drew ?_ | refine row_call ?_ (by assumption)))) hb1; obtain ⟨c1_1a, c1_1b, c1_1c, c1_1d, c1_1e, c1_1f, c1_1g, f1_1a, f1_1b, f1_1c, f1_1d, f1_1e, f1_1f, f1_1g⟩ := row_seven r1_1) | (go_at_call 47; with_reducible refine (PV.out _).mono ?_; rintro e w9 ⟨rfl, h9⟩; obtain rfl := h9.symm))
  clear P PV
  clear hv
  obtain ⟨ad, rfl, hadb, ht0⟩ := HR.out.reads.mk (i := 0) hm0
  have ht0 : MkCells w ad (mkAt l 0) := ht0
  generalize mkAt l 0 = m0 at ht0 hn
  obtain ⟨sq, tk, n, s, q, lo, hi⟩ := m0
  obtain ⟨q0, q1, q2, q3, q4, q5, q6⟩ := ht0.below o1 hadb
  dsimp only at q0 q1 q2 q3 q4 q5 q6 hn
  clear ht0
  have e0 : decide (0 < m) = true := decide_eq_true hm0
  have g0 : (0 : Int) < (m : Int) := by omega
  have e1 : (n == cap) = false := by simpa using hn
  have e2 : (seq == 1099511627776) = false := by simpa using hs
  refine wp_region_quiet_lit (by as_aux_lemma => kernel_rfl) (by as_aux_lemma => kernel_rfl) ?_
  repeat (go_big_quiet_step (fail))
  refine wpQuiet_nil ?_
  intro _ hw'
  obtain ⟨nq, hw''⟩ := hw'
  subst hw''
  replace r1_0 : Row (w1.drewN nq) (w.heap.size) 24 #[.int .i64 agg, .int .i64 wd, .int .i64 k, .int .i64 cap, .int .i64 now, .int .i64 seq, .slice (some ad) m c] := r1_0
  replace r1_1 : Row (w1.drewN nq) (w.heap.size + 1) 24 #[.int .i64 0, .int .i64 0, .int .i64 0, .int .i64 0, .int .i64 0, .int .i64 0, .slice none 0 0] := r1_1
  replace o1 := o1.trans (⟨rfl, rfl, rfl, Nat.le_refl _, fun _ _ => rfl⟩ : Below _ w1 (w1.drewN nq))
  generalize w1.drewN nq = w2 at r1_0 r1_1 o1 ⊢
  clear c1_0a c1_0b c1_0c c1_0d c1_0e c1_0f c1_0g f1_0a f1_0b f1_0c f1_0d f1_0e f1_0f f1_0g c1_1a c1_1b c1_1c c1_1d c1_1e c1_1f c1_1g f1_1a f1_1b f1_1c f1_1d f1_1e f1_1f f1_1g
  clear e2 q0 q1 q2 q3 q4 q5 q6 e0 g0 e1 hn
  have wsq : IntKind.i64.wrap (seq + 1) = seq + 1 := IntWalk.i64_in _ (by omega)
  obtain ⟨X0, X1, X2, X3, X4, X5, X6, Xf0, Xf1, Xf2, Xf3, Xf4, Xf5, Xf6⟩ := row_seven r1_0
  have KR := Lib.hid r1_0
  clear r1_0
  go_upto_region 9 with (fail)
  have X : Row (w2.setCell ⟨w.heap.size, 5, none⟩ (.int .i64 (seq + 1))) (w.heap.size) 24 #[.int .i64 agg, .int .i64 wd, .int .i64 k, .int .i64 cap, .int .i64 now, .int .i64 (seq + 1), .slice (some ad) m c] := row_set KR.out 5 _
  have R : Row (w2.setCell ⟨w.heap.size, 5, none⟩ (.int .i64 (seq + 1))) (w.heap.size + 1) 24 #[.int .i64 0, .int .i64 0, .int .i64 0, .int .i64 0, .int .i64 0, .int .i64 0, .slice none 0 0] := row_other (p := ⟨w.heap.size, 5, none⟩) r1_1 (by show w.heap.size + 1 ≠ w.heap.size; omega) _
  have o : Below w.heap.size w (w2.setCell ⟨w.heap.size, 5, none⟩ (.int .i64 (seq + 1))) := o1.setCell (p := ⟨w.heap.size, 5, none⟩) (Nat.le_refl _) _
  generalize w2.setCell ⟨w.heap.size, 5, none⟩ (.int .i64 (seq + 1)) = w3 at X R o ⊢
  clear X0 X1 X2 X3 X4 X5 X6 Xf0 Xf1 Xf2 Xf3 Xf4 Xf5 Xf6 KR o1 r1_1 wsq
  refine wp_region_phase 11 (fun w' => Row w' (w.heap.size) 24 #[.int .i64 agg, .int .i64 wd, .int .i64 k, .int .i64 cap, .int .i64 now, .int .i64 (seq + 1), .slice (some ad) m c] ∧ Row w' (w.heap.size + 1) 24 #[.int .i64 0, .int .i64 0, .int .i64 0, .int .i64 0, .int .i64 0, .int .i64 0, .slice none 0 0] ∧ Below w.heap.size w w') (by kernel_rfl) (by kernel_rfl) (by kernel_rfl) (by kernel_rfl) (by kernel_rfl) (fun HOK => ?_)
  have HS := (⟨X, R, o.drew⟩ : Row w3.drew (w.heap.size) 24 #[.int .i64 agg, .int .i64 wd, .int .i64 k, .int .i64 cap, .int .i64 now, .int .i64 (seq + 1), .slice (some ad) m c] ∧ Row w3.drew (w.heap.size + 1) 24 #[.int .i64 0, .int .i64 0, .int .i64 0, .int .i64 0, .int .i64 0, .int .i64 0, .slice none 0 0] ∧ Below w.heap.size w w3.drew)
  (refine hw_take HOK (i := 0) ?_ rfl (by decide) (by kernel_rfl) (by kernel_rfl) (by exact fun _ _ _ h => h) (Or.inl ⟨by rfl, fun w' hS => ?_⟩) HS ?_; rotate_left; (go_simp; try with_reducible rfl); simp only [Act.put, List.setIfInBounds_toArray, List.set_cons_zero, List.set_cons_succ])
  (refine hw_take HOK (i := 1) ?_ rfl (by decide) (by kernel_rfl) (by kernel_rfl) (by exact fun _ _ _ h => h) (Or.inl ⟨by rfl, fun w' hS => ?_⟩) HS ?_; rotate_left; (obtain ⟨X0, X1, X2, X3, X4, X5, X6, Xf0, Xf1, Xf2, Xf3, Xf4, Xf5, Xf6⟩ := row_seven hS.1; go_simp; try with_reducible rfl); simp only [Act.put, List.setIfInBounds_toArray, List.set_cons_zero, List.set_cons_succ])
  (refine hw_take HOK (i := 2) ?_ rfl (by decide) (by kernel_rfl) (by kernel_rfl) (by exact fun _ _ _ h => h) (Or.inl ⟨by rfl, fun w' hS => ?_⟩) HS ?_; rotate_left; (go_simp; try with_reducible rfl); simp only [Act.put, List.setIfInBounds_toArray, List.set_cons_zero, List.set_cons_succ])
  (refine hw_take HOK (i := 3) ?_ rfl (by decide) (by kernel_rfl) (by kernel_rfl) (by exact fun _ _ _ h => h) (Or.inl ⟨by rfl, fun w' hS => ?_⟩) HS ?_; rotate_left; (obtain ⟨X0, X1, X2, X3, X4, X5, X6, Xf0, Xf1, Xf2, Xf3, Xf4, Xf5, Xf6⟩ := row_seven hS.1; go_simp; try with_reducible rfl); simp only [Act.put, List.setIfInBounds_toArray, List.set_cons_zero, List.set_cons_succ])
  (refine hw_take HOK (i := 4) ?_ rfl (by decide) (by kernel_rfl) (by kernel_rfl) (by exact fun _ _ _ h => h) (Or.inl ⟨by rfl, fun w' hS => ?_⟩) HS ?_; rotate_left; (go_simp; try with_reducible rfl); simp only [Act.put, List.setIfInBounds_toArray, List.set_cons_zero, List.set_cons_succ])
  (refine hw_take HOK (i := 5) ?_ rfl (by decide) (by kernel_rfl) (by kernel_rfl) (by exact fun _ _ _ h => h) (Or.inl ⟨by rfl, fun w' hS => ?_⟩) HS ?_; rotate_left; (obtain ⟨X0, X1, X2, X3, X4, X5, X6, Xf0, Xf1, Xf2, Xf3, Xf4, Xf5, Xf6⟩ := row_seven hS.1; go_simp; try with_reducible rfl); simp only [Act.put, List.setIfInBounds_toArray, List.set_cons_zero, List.set_cons_succ])
  (refine hw_take HOK (i := 6) ?_ rfl (by decide) (by kernel_rfl) (by kernel_rfl) (by exact fun _ _ _ h => h) (Or.inl ⟨by rfl, fun w' hS => ?_⟩) HS ?_; rotate_left; (go_simp; try with_reducible rfl); simp only [Act.put, List.setIfInBounds_toArray, List.set_cons_zero, List.set_cons_succ])
  (refine hw_take HOK (i := 8) ?_ rfl (by decide) (by kernel_rfl) (by kernel_rfl) (by exact fun _ _ _ h => h) (Or.inl ⟨by rfl, fun w' hS => ?_⟩) HS ?_; rotate_left; (go_simp; try with_reducible rfl); simp only [Act.put, List.setIfInBounds_toArray, List.set_cons_zero, List.set_cons_succ])
  (refine hw_take HOK (i := 9) ?_ rfl (by decide) (by kernel_rfl) (by kernel_rfl) (by exact fun _ _ _ h => h) (Or.inl ⟨by rfl, fun w' hS => ?_⟩) HS ?_; rotate_left; (obtain ⟨X0, X1, X2, X3, X4, X5, X6, Xf0, Xf1, Xf2, Xf3, Xf4, Xf5, Xf6⟩ := row_seven hS.1; go_simp; try with_reducible rfl); simp only [Act.put, List.setIfInBounds_toArray, List.set_cons_zero, List.set_cons_succ])
  refine hw_one (i := 7) rfl (by decide) (by kernel_rfl) (fun K hK => ?_)
  go_simp
  refine (rmadd (some ad) m c l (seq + 1) now v _ (HR.out.below o.drew) (by omega) HSM.out hv0 hv1).mono ?_
  rintro e w4 ⟨va, rfl, ownA, hb4⟩
  obtain ⟨A4, c4, rfl, inA, fr4⟩ := MIn.of_row ownA (M64.all HMI.out)
  have hb4' : Below w3.heap.size w3 w4 := (Below.refl _ _).drew.trans (hb4.mono (Nat.le_refl _))
  clear hb4
  have z3 := row_lt R
  replace X := row_call X hb4'
  replace R := row_call R hb4'
  replace o := o.trans (hb4'.mono o.size)
  have fr : ∀ a, A4 = some a → w.heap.size + 1 < a.block ∧ a.block < w4.heap.size := fun a e => by have := fr4 a e; simp at this; omega
  clear hb4' fr4 ownA
  refine hK _ _ ⟨X, R, o⟩ ?_
  clear hK K HS
  try simp only [Act.put, List.setIfInBounds_toArray, List.set_cons_zero, List.set_cons_succ]
  refine hw_one (i := 10) rfl (by decide) (by kernel_rfl) (fun K hK => ?_)
  go_simp
  refine hK _ _ ⟨X, R, o⟩ ?_
  clear hK K
  try simp only [Act.put, List.setIfInBounds_toArray, List.set_cons_zero, List.set_cons_succ]
  refine hw_done (by kernel_rfl) ?_
  simp only [List.drop_succ_cons, List.drop_zero]
  clear HOK
  have INA := Lib.hid inA
  have LI : RowKit.Hid ((incl l (seq + 1) now v).length = m + 1) := Lib.hid (by rw [incl_len, HL.out])
  clear inA
  obtain ⟨X0, X1, X2, X3, X4, X5, X6, Xf0, Xf1, Xf2, Xf3, Xf4, Xf5, Xf6⟩ := row_seven X
  go_wp2
  go_loopw [7, 9] (fun u i wr => ∃ (L : List Mk) (kk : Nat) (A' : Option Addr) (m' c' : Nat), u = .slice A' m' c' ∧ i = .int .i64 (kk : Nat) ∧ MIn A' m' c' L wr ∧ kk ≤ m' ∧ m' ≤ 100001 ∧ RowKit.Hid (L.take kk ++ prune (nearB agg k) (L.drop kk) = prune (nearB agg k) (incl l (seq + 1) now v) ∧ (∀ x ∈ L, x ∈ incl l (seq + 1) now v) ∧ ∀ a, A' = some a → w.heap.size + 1 < a.block ∧ a.block < wr.heap.size) ∧ Row wr (w.heap.size) 24 #[.int .i64 agg, .int .i64 wd, .int .i64 k, .int .i64 cap, .int .i64 now, .int .i64 (seq + 1), .slice (some ad) m c] ∧ Row wr (w.heap.size + 1) 24 #[.int .i64 0, .int .i64 0, .int .i64 0, .int .i64 0, .int .i64 0, .int .i64 0, .slice none 0 0] ∧ Below w.heap.size w wr) (fun u i _ => lenV u - (intOf i).toNat)
  case atStart => exact ⟨incl l (seq + 1) now v, 0, A4, m + 1, c4, rfl, rfl, INA.out, by omega, by omega, Lib.hid ⟨rfl, fun x h => h, fr⟩, X, R, o⟩
  case round =>
    clear X R o X0 X1 X2 X3 X4 X5 X6 Xf0 Xf1 Xf2 Xf3 Xf4 Xf5 Xf6 fr INA LI
    obtain ⟨L, kk, A', m', c', rfl, rfl, hinL, hkk, hm', HP, X, R, o⟩ := hrel
    have HLL := Lib.hid hinL.len
    by_cases hlt : kk < m'
    · have i1 : (kk : Int) < (m' : Int) := by omega
      have i2 : (0 : Int) ≤ (kk : Int) := by omega
      have wk : IntKind.i64.wrap ((kk : Int) + 1) = (kk : Int) + 1 := IntWalk.i64_in _ (by omega)
      go_upto_block 2 with (fail)
      go_cut [10] (fun jv wx => ∃ J : Nat, jv = .int .i64 (J : Nat) ∧ RowKit.Hid (JSpec (nearB agg k) L kk J m') ∧ MIn A' m' c' L wx ∧ Row wx (w.heap.size) 24 #[.int .i64 agg, .int .i64 wd, .int .i64 k, .int .i64 cap, .int .i64 now, .int .i64 (seq + 1), .slice (some ad) m c] ∧ Row wx (w.heap.size + 1) 24 #[.int .i64 0, .int .i64 0, .int .i64 0, .int .i64 0, .int .i64 0, .int .i64 0, .slice none 0 0] ∧ Below w.heap.size w wx ∧ wr.heap.size ≤ wx.heap.size)
      case first =>
        go_wp2_with fail
        go_loopw [10, 11] (fun jv nv wy => ∃ J N : Nat, jv = .int .i64 (J : Nat) ∧ nv = .int .i64 (N : Nat) ∧ kk < N ∧ N ≤ m' ∧ RowKit.Hid (JSpec (nearB agg k) L kk J N) ∧ MIn A' m' c' L wy ∧ Row wy (w.heap.size) 24 #[.int .i64 agg, .int .i64 wd, .int .i64 k, .int .i64 cap, .int .i64 now, .int .i64 (seq + 1), .slice (some ad) m c] ∧ Row wy (w.heap.size + 1) 24 #[.int .i64 0, .int .i64 0, .int .i64 0, .int .i64 0, .int .i64 0, .int .i64 0, .slice none 0 0] ∧ Below w.heap.size w wy ∧ wr.heap.size ≤ wy.heap.size) (fun _ nv _ => m' - (intOf nv).toNat)
        case atStart => exact ⟨kk, kk + 1, rfl, by go_num, by omega, by omega, Lib.hid (.inl ⟨rfl, fun e h1 h2 => absurd h1 (by omega)⟩), hinL, X, R, o, Nat.le_refl _⟩
        case round =>
          clear X R o hinL
          obtain ⟨J, N, rfl, rfl, hkN, hNm, HJ, hinL, X, R, o, hsz⟩ := hrel
          by_cases hN : N < m'
          · obtain ⟨ad1, rfl, hb1, htk⟩ := hinL.reads.mk hlt
            obtain ⟨ad2, ea2, hb2, htN⟩ := hinL.reads.mk hN
            obtain rfl : ad1 = ad2 := by injection ea2
            have mk1 : mkAt L kk ∈ incl l (seq + 1) now v := HP.out.2.1 _ (mkAt_mem (by rw [HLL.out]; exact hlt))
            have mk2 : mkAt L N ∈ incl l (seq + 1) now v := HP.out.2.1 _ (mkAt_mem (by rw [HLL.out]; exact hN))
            have PX := fun w => rofm agg (mkAt L kk) w (HMI.out _ mk1)
            have PY := fun w => rofm agg (mkAt L N) w (HMI.out _ mk2)
            have bx := HOB.out _ mk1
            have byy := HOB.out _ mk2
            have HNR := Lib.hid (show nearB agg k (mkAt L kk) (mkAt L N) = decide (k * ofV agg (mkAt L kk) ≤ (k + 1) * ofV agg (mkAt L N)) from rfl)
            obtain ⟨x, hx⟩ : ∃ x, ofV agg (mkAt L kk) = x := ⟨_, rfl⟩
            obtain ⟨y, hy⟩ : ∃ y, ofV agg (mkAt L N) = y := ⟨_, rfl⟩
            have HNR2 := Lib.hid (show nearB agg k (mkAt L kk) (mkAt L N) = decide (k * x ≤ (k + 1) * y) by rw [HNR.out, hx, hy])
            rw [hx] at PX bx
            rw [hy] at PY byy
            have wx1 : 0 ≤ k * x ∧ k * x ≤ 64 * 1099511627776 := ⟨Int.mul_nonneg (by omega) bx.1, Int.mul_le_mul k1 bx.2 bx.1 (by decide)⟩
            have wy1 : 0 ≤ (k + 1) * y ∧ (k + 1) * y ≤ 65 * 1099511627776 := ⟨Int.mul_nonneg (by omega) byy.1, Int.mul_le_mul (by omega) byy.2 byy.1 (by decide)⟩
            have wkx : IntKind.i64.wrap (k * x) = k * x := IntWalk.i64_in _ (by omega)
            have wky : IntKind.i64.wrap ((k + 1) * y) = (k + 1) * y := IntWalk.i64_in _ (by omega)
            have wk1 : IntKind.i64.wrap (k + 1) = k + 1 := IntWalk.i64_in _ (by omega)
            clear hx hy HNR mk1 mk2 ea2 bx byy wx1 wy1
            generalize hmk : mkAt L kk = ma at htk PX
            generalize hmN : mkAt L N = mb at htN PY
            have HMK := Lib.hid hmk
            have HMN := Lib.hid hmN
            obtain ⟨sq, tk, n, s, q, lo, hi⟩ := ma
            obtain ⟨osq, otk, on, os, oq, olo, ohi⟩ := mb
            dsimp only at PX PY
            replace PX := Lib.hid PX
            replace PY := Lib.hid PY
            have HTK := Lib.hid htk
            have HTN := Lib.hid htN
            have hbk : (ad1.add (kk * 7)).block < wr.heap.size := by rw [block_of_add]; exact hb1
            have hbN : (ad1.add (N * 7)).block < wr.heap.size := by rw [block_of_add]; exact hb1
            have HBK := Lib.hid hbk
            have HBN := Lib.hid hbN
            clear hmk hmN htk htN hbk hbN hb1 hb2
            have j1 : (N : Int) < (m' : Int) := by omega
            have j0 : (0 : Int) ≤ (N : Int) := by omega
            have wN : IntKind.i64.wrap ((N : Int) + 1) = (N : Int) + 1 := IntWalk.i64_in _ (by omega)
            go_upto_region 17 with (fail)
            by_cases nr : k * x ≤ (k + 1) * y
            · have nrd : decide (k * x ≤ (k + 1) * y) = true := decide_eq_true nr
              refine wp_region_free0 [0, 1, 2, 3, 4, 5, 6, 7, 8, 10, 11, 12, 13, 14, 15, 16, 17, 9, 18] [] [0, 1, 2, 3, 4, 5, 6, 7, 8, 9, 10, 11, 12, 13, 14, 15, 16, 17, 18] 19 (fun w' => Below wr.heap.size wr w') (by kernel_rfl) (by kernel_rfl) (fun _ _ d _ _ h => by cases d <;> exact h) ?_ ?_
              · exact (Below.refl _ _).drew
              (refine plan_pure ?_ rfl rfl (fun w' => ?_) ?_; rotate_left; (go_simp; try with_reducible rfl); simp only [Act.put, List.setIfInBounds_toArray, List.set_cons_zero, List.set_cons_succ])
              (refine plan_pure ?_ rfl rfl (fun w' => ?_) ?_; rotate_left; (go_simp; try with_reducible rfl); simp only [Act.put, List.setIfInBounds_toArray, List.set_cons_zero, List.set_cons_succ])
              (refine plan_pure ?_ rfl rfl (fun w' => ?_) ?_; rotate_left; (go_simp; try with_reducible rfl); simp only [Act.put, List.setIfInBounds_toArray, List.set_cons_zero, List.set_cons_succ])
              (refine plan_pure ?_ rfl rfl (fun w' => ?_) ?_; rotate_left; (go_simp; try with_reducible rfl); simp only [Act.put, List.setIfInBounds_toArray, List.set_cons_zero, List.set_cons_succ])
              (refine plan_pure ?_ rfl rfl (fun w' => ?_) ?_; rotate_left; (go_simp; try with_reducible rfl); simp only [Act.put, List.setIfInBounds_toArray, List.set_cons_zero, List.set_cons_succ])
              (refine plan_val ?_ rfl rfl rfl (fun w' hS => ?_) ?_; rotate_left; (obtain ⟨X0, X1, X2, X3, X4, X5, X6, Xf0, Xf1, Xf2, Xf3, Xf4, Xf5, Xf6⟩ := row_seven (row_call X hS); obtain ⟨p0, p1, p2, p3, p4, p5, p6⟩ := HTK.out.below hS HBK.out; dsimp only at p0 p1 p2 p3 p4 p5 p6; obtain ⟨q0, q1, q2, q3, q4, q5, q6⟩ := HTN.out.below hS HBN.out; dsimp only at q0 q1 q2 q3 q4 q5 q6; go_simp; try with_reducible rfl); simp only [Act.put, List.setIfInBounds_toArray, List.set_cons_zero, List.set_cons_succ])
              (refine plan_pure ?_ rfl rfl (fun w' => ?_) ?_; rotate_left; (go_simp; try with_reducible rfl); simp only [Act.put, List.setIfInBounds_toArray, List.set_cons_zero, List.set_cons_succ])
              (refine plan_val ?_ rfl rfl rfl (fun w' hS => ?_) ?_; rotate_left; (obtain ⟨X0, X1, X2, X3, X4, X5, X6, Xf0, Xf1, Xf2, Xf3, Xf4, Xf5, Xf6⟩ := row_seven (row_call X hS); obtain ⟨p0, p1, p2, p3, p4, p5, p6⟩ := HTK.out.below hS HBK.out; dsimp only at p0 p1 p2 p3 p4 p5 p6; obtain ⟨q0, q1, q2, q3, q4, q5, q6⟩ := HTN.out.below hS HBN.out; dsimp only at q0 q1 q2 q3 q4 q5 q6; go_simp; try with_reducible rfl); simp only [Act.put, List.setIfInBounds_toArray, List.set_cons_zero, List.set_cons_succ])
              refine plan_call (.int .i64 y) 25 #[.agg #[.int .i64 osq, .int .i64 otk, .int .i64 on, .int .i64 os, .int .i64 oq, .int .i64 olo, .int .i64 ohi], .int .i64 agg] rfl rfl rfl (fun _ _ h hb => h.trans (hb.mono h.size)) (fun w' hS => by obtain ⟨X0, X1, X2, X3, X4, X5, X6, Xf0, Xf1, Xf2, Xf3, Xf4, Xf5, Xf6⟩ := row_seven (row_call X hS); obtain ⟨p0, p1, p2, p3, p4, p5, p6⟩ := HTK.out.below hS HBK.out; dsimp only at p0 p1 p2 p3 p4 p5 p6; obtain ⟨q0, q1, q2, q3, q4, q5, q6⟩ := HTN.out.below hS HBN.out; dsimp only at q0 q1 q2 q3 q4 q5 q6; go_simp) (fun w' hS => PY.out w') ?_
              simp only [Act.put, List.setIfInBounds_toArray, List.set_cons_zero, List.set_cons_succ]
              (refine plan_pure ?_ rfl rfl (fun w' => ?_) ?_; rotate_left; (go_simp; try with_reducible rfl); simp only [Act.put, List.setIfInBounds_toArray, List.set_cons_zero, List.set_cons_succ])
              (refine plan_pure ?_ rfl rfl (fun w' => ?_) ?_; rotate_left; (go_simp; try with_reducible rfl); simp only [Act.put, List.setIfInBounds_toArray, List.set_cons_zero, List.set_cons_succ])
              (refine plan_pure ?_ rfl rfl (fun w' => ?_) ?_; rotate_left; (go_simp; try with_reducible rfl); simp only [Act.put, List.setIfInBounds_toArray, List.set_cons_zero, List.set_cons_succ])
              (refine plan_pure ?_ rfl rfl (fun w' => ?_) ?_; rotate_left; (go_simp; try with_reducible rfl); simp only [Act.put, List.setIfInBounds_toArray, List.set_cons_zero, List.set_cons_succ])
              (refine plan_val ?_ rfl rfl rfl (fun w' hS => ?_) ?_; rotate_left; (obtain ⟨X0, X1, X2, X3, X4, X5, X6, Xf0, Xf1, Xf2, Xf3, Xf4, Xf5, Xf6⟩ := row_seven (row_call X hS); obtain ⟨p0, p1, p2, p3, p4, p5, p6⟩ := HTK.out.below hS HBK.out; dsimp only at p0 p1 p2 p3 p4 p5 p6; obtain ⟨q0, q1, q2, q3, q4, q5, q6⟩ := HTN.out.below hS HBN.out; dsimp only at q0 q1 q2 q3 q4 q5 q6; go_simp; try with_reducible rfl); simp only [Act.put, List.setIfInBounds_toArray, List.set_cons_zero, List.set_cons_succ])
              (refine plan_pure ?_ rfl rfl (fun w' => ?_) ?_; rotate_left; (go_simp; try with_reducible rfl); simp only [Act.put, List.setIfInBounds_toArray, List.set_cons_zero, List.set_cons_succ])
              (refine plan_val ?_ rfl rfl rfl (fun w' hS => ?_) ?_; rotate_left; (obtain ⟨X0, X1, X2, X3, X4, X5, X6, Xf0, Xf1, Xf2, Xf3, Xf4, Xf5, Xf6⟩ := row_seven (row_call X hS); obtain ⟨p0, p1, p2, p3, p4, p5, p6⟩ := HTK.out.below hS HBK.out; dsimp only at p0 p1 p2 p3 p4 p5 p6; obtain ⟨q0, q1, q2, q3, q4, q5, q6⟩ := HTN.out.below hS HBN.out; dsimp only at q0 q1 q2 q3 q4 q5 q6; go_simp; try with_reducible rfl); simp only [Act.put, List.setIfInBounds_toArray, List.set_cons_zero, List.set_cons_succ])
              refine plan_call (.int .i64 x) 25 #[.agg #[.int .i64 sq, .int .i64 tk, .int .i64 n, .int .i64 s, .int .i64 q, .int .i64 lo, .int .i64 hi], .int .i64 agg] rfl rfl rfl (fun _ _ h hb => h.trans (hb.mono h.size)) (fun w' hS => by obtain ⟨X0, X1, X2, X3, X4, X5, X6, Xf0, Xf1, Xf2, Xf3, Xf4, Xf5, Xf6⟩ := row_seven (row_call X hS); obtain ⟨p0, p1, p2, p3, p4, p5, p6⟩ := HTK.out.below hS HBK.out; dsimp only at p0 p1 p2 p3 p4 p5 p6; obtain ⟨q0, q1, q2, q3, q4, q5, q6⟩ := HTN.out.below hS HBN.out; dsimp only at q0 q1 q2 q3 q4 q5 q6; go_simp) (fun w' hS => PX.out w') ?_
              simp only [Act.put, List.setIfInBounds_toArray, List.set_cons_zero, List.set_cons_succ]
              (refine plan_pure ?_ rfl rfl (fun w' => ?_) ?_; rotate_left; (go_simp; try with_reducible rfl); simp only [Act.put, List.setIfInBounds_toArray, List.set_cons_zero, List.set_cons_succ])
              (refine plan_pure ?_ rfl rfl (fun w' => ?_) ?_; rotate_left; (go_simp; try with_reducible rfl); simp only [Act.put, List.setIfInBounds_toArray, List.set_cons_zero, List.set_cons_succ])
              refine plan_nil ?_
              intro w5 L5
              simp only [List.drop_succ_cons, List.drop_zero]
              try simp only [Act.put, List.setIfInBounds_toArray, List.set_cons_zero, List.set_cons_succ]
              replace X := row_call X L5
              replace R := row_call R L5
              replace o := o.trans (L5.mono o.size)
              replace hinL := hinL.below L5
              have hsz5 := Nat.le_trans hsz L5.size
              clear L5 hsz
              have HJ2 := Lib.hid (JSpec.yes (nr := nearB agg k) (L := L) hkN (by rw [HNR2.out]; exact nrd))
              go_wp2
              go_roundw
              case rel => exact ⟨N, N + 1, rfl, by go_num, by omega, by omega, HJ2, hinL, X, R, o, hsz5⟩
              case measure => simp [intOf]; omega
            · have nrd : decide (k * x ≤ (k + 1) * y) = false := decide_eq_false nr
              refine wp_region_free0 [0, 1, 2, 3, 4, 5, 6, 7, 8, 10, 11, 12, 13, 14, 15, 16, 17, 9, 18] [] [0, 1, 2, 3, 4, 5, 6, 7, 8, 9, 10, 11, 12, 13, 14, 15, 16, 17, 18] 19 (fun w' => Below wr.heap.size wr w') (by kernel_rfl) (by kernel_rfl) (fun _ _ d _ _ h => by cases d <;> exact h) ?_ ?_
              · exact (Below.refl _ _).drew
              (refine plan_pure ?_ rfl rfl (fun w' => ?_) ?_; rotate_left; (go_simp; try with_reducible rfl); simp only [Act.put, List.setIfInBounds_toArray, List.set_cons_zero, List.set_cons_succ])
              (refine plan_pure ?_ rfl rfl (fun w' => ?_) ?_; rotate_left; (go_simp; try with_reducible rfl); simp only [Act.put, List.setIfInBounds_toArray, List.set_cons_zero, List.set_cons_succ])
              (refine plan_pure ?_ rfl rfl (fun w' => ?_) ?_; rotate_left; (go_simp; try with_reducible rfl); simp only [Act.put, List.setIfInBounds_toArray, List.set_cons_zero, List.set_cons_succ])
              (refine plan_pure ?_ rfl rfl (fun w' => ?_) ?_; rotate_left; (go_simp; try with_reducible rfl); simp only [Act.put, List.setIfInBounds_toArray, List.set_cons_zero, List.set_cons_succ])
              (refine plan_pure ?_ rfl rfl (fun w' => ?_) ?_; rotate_left; (go_simp; try with_reducible rfl); simp only [Act.put, List.setIfInBounds_toArray, List.set_cons_zero, List.set_cons_succ])
              (refine plan_val ?_ rfl rfl rfl (fun w' hS => ?_) ?_; rotate_left; (obtain ⟨X0, X1, X2, X3, X4, X5, X6, Xf0, Xf1, Xf2, Xf3, Xf4, Xf5, Xf6⟩ := row_seven (row_call X hS); obtain ⟨p0, p1, p2, p3, p4, p5, p6⟩ := HTK.out.below hS HBK.out; dsimp only at p0 p1 p2 p3 p4 p5 p6; obtain ⟨q0, q1, q2, q3, q4, q5, q6⟩ := HTN.out.below hS HBN.out; dsimp only at q0 q1 q2 q3 q4 q5 q6; go_simp; try with_reducible rfl); simp only [Act.put, List.setIfInBounds_toArray, List.set_cons_zero, List.set_cons_succ])
              (refine plan_pure ?_ rfl rfl (fun w' => ?_) ?_; rotate_left; (go_simp; try with_reducible rfl); simp only [Act.put, List.setIfInBounds_toArray, List.set_cons_zero, List.set_cons_succ])
              (refine plan_val ?_ rfl rfl rfl (fun w' hS => ?_) ?_; rotate_left; (obtain ⟨X0, X1, X2, X3, X4, X5, X6, Xf0, Xf1, Xf2, Xf3, Xf4, Xf5, Xf6⟩ := row_seven (row_call X hS); obtain ⟨p0, p1, p2, p3, p4, p5, p6⟩ := HTK.out.below hS HBK.out; dsimp only at p0 p1 p2 p3 p4 p5 p6; obtain ⟨q0, q1, q2, q3, q4, q5, q6⟩ := HTN.out.below hS HBN.out; dsimp only at q0 q1 q2 q3 q4 q5 q6; go_simp; try with_reducible rfl); simp only [Act.put, List.setIfInBounds_toArray, List.set_cons_zero, List.set_cons_succ])
              refine plan_call (.int .i64 y) 25 #[.agg #[.int .i64 osq, .int .i64 otk, .int .i64 on, .int .i64 os, .int .i64 oq, .int .i64 olo, .int .i64 ohi], .int .i64 agg] rfl rfl rfl (fun _ _ h hb => h.trans (hb.mono h.size)) (fun w' hS => by obtain ⟨X0, X1, X2, X3, X4, X5, X6, Xf0, Xf1, Xf2, Xf3, Xf4, Xf5, Xf6⟩ := row_seven (row_call X hS); obtain ⟨p0, p1, p2, p3, p4, p5, p6⟩ := HTK.out.below hS HBK.out; dsimp only at p0 p1 p2 p3 p4 p5 p6; obtain ⟨q0, q1, q2, q3, q4, q5, q6⟩ := HTN.out.below hS HBN.out; dsimp only at q0 q1 q2 q3 q4 q5 q6; go_simp) (fun w' hS => PY.out w') ?_
              simp only [Act.put, List.setIfInBounds_toArray, List.set_cons_zero, List.set_cons_succ]
              (refine plan_pure ?_ rfl rfl (fun w' => ?_) ?_; rotate_left; (go_simp; try with_reducible rfl); simp only [Act.put, List.setIfInBounds_toArray, List.set_cons_zero, List.set_cons_succ])
              (refine plan_pure ?_ rfl rfl (fun w' => ?_) ?_; rotate_left; (go_simp; try with_reducible rfl); simp only [Act.put, List.setIfInBounds_toArray, List.set_cons_zero, List.set_cons_succ])
              (refine plan_pure ?_ rfl rfl (fun w' => ?_) ?_; rotate_left; (go_simp; try with_reducible rfl); simp only [Act.put, List.setIfInBounds_toArray, List.set_cons_zero, List.set_cons_succ])
              (refine plan_pure ?_ rfl rfl (fun w' => ?_) ?_; rotate_left; (go_simp; try with_reducible rfl); simp only [Act.put, List.setIfInBounds_toArray, List.set_cons_zero, List.set_cons_succ])
              (refine plan_val ?_ rfl rfl rfl (fun w' hS => ?_) ?_; rotate_left; (obtain ⟨X0, X1, X2, X3, X4, X5, X6, Xf0, Xf1, Xf2, Xf3, Xf4, Xf5, Xf6⟩ := row_seven (row_call X hS); obtain ⟨p0, p1, p2, p3, p4, p5, p6⟩ := HTK.out.below hS HBK.out; dsimp only at p0 p1 p2 p3 p4 p5 p6; obtain ⟨q0, q1, q2, q3, q4, q5, q6⟩ := HTN.out.below hS HBN.out; dsimp only at q0 q1 q2 q3 q4 q5 q6; go_simp; try with_reducible rfl); simp only [Act.put, List.setIfInBounds_toArray, List.set_cons_zero, List.set_cons_succ])
              (refine plan_pure ?_ rfl rfl (fun w' => ?_) ?_; rotate_left; (go_simp; try with_reducible rfl); simp only [Act.put, List.setIfInBounds_toArray, List.set_cons_zero, List.set_cons_succ])
              (refine plan_val ?_ rfl rfl rfl (fun w' hS => ?_) ?_; rotate_left; (obtain ⟨X0, X1, X2, X3, X4, X5, X6, Xf0, Xf1, Xf2, Xf3, Xf4, Xf5, Xf6⟩ := row_seven (row_call X hS); obtain ⟨p0, p1, p2, p3, p4, p5, p6⟩ := HTK.out.below hS HBK.out; dsimp only at p0 p1 p2 p3 p4 p5 p6; obtain ⟨q0, q1, q2, q3, q4, q5, q6⟩ := HTN.out.below hS HBN.out; dsimp only at q0 q1 q2 q3 q4 q5 q6; go_simp; try with_reducible rfl); simp only [Act.put, List.setIfInBounds_toArray, List.set_cons_zero, List.set_cons_succ])
              refine plan_call (.int .i64 x) 25 #[.agg #[.int .i64 sq, .int .i64 tk, .int .i64 n, .int .i64 s, .int .i64 q, .int .i64 lo, .int .i64 hi], .int .i64 agg] rfl rfl rfl (fun _ _ h hb => h.trans (hb.mono h.size)) (fun w' hS => by obtain ⟨X0, X1, X2, X3, X4, X5, X6, Xf0, Xf1, Xf2, Xf3, Xf4, Xf5, Xf6⟩ := row_seven (row_call X hS); obtain ⟨p0, p1, p2, p3, p4, p5, p6⟩ := HTK.out.below hS HBK.out; dsimp only at p0 p1 p2 p3 p4 p5 p6; obtain ⟨q0, q1, q2, q3, q4, q5, q6⟩ := HTN.out.below hS HBN.out; dsimp only at q0 q1 q2 q3 q4 q5 q6; go_simp) (fun w' hS => PX.out w') ?_
              simp only [Act.put, List.setIfInBounds_toArray, List.set_cons_zero, List.set_cons_succ]
              (refine plan_pure ?_ rfl rfl (fun w' => ?_) ?_; rotate_left; (go_simp; try with_reducible rfl); simp only [Act.put, List.setIfInBounds_toArray, List.set_cons_zero, List.set_cons_succ])
              (refine plan_pure ?_ rfl rfl (fun w' => ?_) ?_; rotate_left; (go_simp; try with_reducible rfl); simp only [Act.put, List.setIfInBounds_toArray, List.set_cons_zero, List.set_cons_succ])
              refine plan_nil ?_
              intro w5 L5
              simp only [List.drop_succ_cons, List.drop_zero]
              try simp only [Act.put, List.setIfInBounds_toArray, List.set_cons_zero, List.set_cons_succ]
              replace X := row_call X L5
              replace R := row_call R L5
              replace o := o.trans (L5.mono o.size)
              replace hinL := hinL.below L5
              have hsz5 := Nat.le_trans hsz L5.size
              clear L5 hsz
              have HJ2 := Lib.hid (HJ.out.no (by rw [HNR2.out]; exact nrd))
              go_wp2
              go_roundw
              case rel => exact ⟨J, N + 1, rfl, by go_num, by omega, by omega, HJ2, hinL, X, R, o, hsz5⟩
              case measure => simp [intOf]; omega
          · have j1 : ¬ (N : Int) < (m' : Int) := by omega
            obtain rfl : N = m' := by omega
            go_wp2
            go_meet
            exact ⟨J, rfl, HJ, hinL, X, R, o, hsz⟩
      case rest =>
        clear X R o hinL
        obtain ⟨J, rfl, HJ, hinL, X, R, o, hsz⟩ := hcut
        by_cases hJ : J = kk
        · subst hJ
          have HP2 := Lib.hid (show L.take (J + 1) ++ prune (nearB agg k) (L.drop (J + 1)) = prune (nearB agg k) (incl l (seq + 1) now v) from by
            rw [← prune_stepA (by rw [HLL.out]; exact hlt) (fun e h1 h2 => by
              rcases HJ.out with ⟨_, h3⟩ | ⟨h3, _⟩
              · exact h3 e h1 (by rw [HLL.out] at h2; exact h2)
              · omega)]
            exact HP.out.1)
          go_wp2
          go_roundw
          case rel => exact ⟨L, J + 1, A', m', c', rfl, by go_num, hinL, by omega, hm', Lib.hid ⟨HP2.out, HP.out.2.1, fun a e => ⟨(HP.out.2.2 a e).1, Nat.lt_of_lt_of_le (HP.out.2.2 a e).2 hsz⟩⟩, X, R, o⟩
          case measure => simp [lenV, intOf]; omega
        · have hkJ : kk < J := by
            rcases HJ.out with ⟨h3, _⟩ | ⟨h3, _⟩
            · exact absurd h3 hJ
            · exact h3
          have hJm : J < m' := by
            rcases HJ.out with ⟨h3, _⟩ | ⟨_, h3, _⟩
            · exact absurd h3 hJ
            · exact h3
          have HP2 := Lib.hid (show L.take (kk + 1) ++ prune (nearB agg k) (L.drop J) = prune (nearB agg k) (incl l (seq + 1) now v) from by
            rcases HJ.out with ⟨h3, _⟩ | ⟨h3, h4, h5, h6⟩
            · exact absurd h3 hJ
            · rw [← prune_stepB h3 (by rw [HLL.out]; exact h4) h5 (fun e g1 g2 => h6 e g1 (by rw [HLL.out] at g2; exact g2))]
              exact HP.out.1)
          obtain ⟨ad1, rfl, hb1, _⟩ := hinL.reads.mk hlt
          have hmc := hinL.mc
          have hcB := hinL.cB
          have RD1 := Lib.hid (hinL.pre (k := kk + 1) (by omega))
          have RD2 := Lib.hid (hinL.post (k := J) (by omega))
          have HMB := Lib.hid (show ∀ i, M64 (mkAt (L.take (kk + 1) ++ L.drop J) i) from M64.all fun x hx => HMI.out x (HP.out.2.1 x (by
            rcases List.mem_append.1 hx with h | h
            · exact (List.take_subset _ _) h
            · exact (List.drop_subset _ _) h)))
          have g1 : (kk : Int) < (J : Int) := by omega
          have s1 : (kk : Int) + 1 ≤ (c' : Int) := by omega
          have s2 : (0 : Int) ≤ (kk : Int) + 1 := by omega
          have s3 : ((kk : Int) + 1).toNat = kk + 1 := by omega
          have s4 : (J : Int) ≤ (m' : Int) := by omega
          have s5 : (m' : Int) ≤ (c' : Int) := by omega
          have s6 : ¬ c' = J := by omega
          have s7 : (0 : Int) ≤ (J : Int) := by omega
          obtain ⟨i0, hi0, iz0, iz1, iz2⟩ := info_parts info_mk
          go_upto_region 20 with (fail)
          refine wp_region_phase 10 (fun w' => Row w' (w.heap.size) 24 #[.int .i64 agg, .int .i64 wd, .int .i64 k, .int .i64 cap, .int .i64 now, .int .i64 (seq + 1), .slice (some ad) m c] ∧ Row w' (w.heap.size + 1) 24 #[.int .i64 0, .int .i64 0, .int .i64 0, .int .i64 0, .int .i64 0, .int .i64 0, .slice none 0 0] ∧ Below w.heap.size w w') (by kernel_rfl) (by kernel_rfl) (by kernel_rfl) (by kernel_rfl) (by kernel_rfl) (fun HOK => ?_)
          have HS := (⟨X, R, o.drew⟩ : Row wc.drew (w.heap.size) 24 #[.int .i64 agg, .int .i64 wd, .int .i64 k, .int .i64 cap, .int .i64 now, .int .i64 (seq + 1), .slice (some ad) m c] ∧ Row wc.drew (w.heap.size + 1) 24 #[.int .i64 0, .int .i64 0, .int .i64 0, .int .i64 0, .int .i64 0, .int .i64 0, .slice none 0 0] ∧ Below w.heap.size w wc.drew)
          (refine hw_take HOK (i := 1) ?_ rfl (by decide) (by kernel_rfl) (by kernel_rfl) (by exact fun _ _ _ h => h) (Or.inl ⟨by rfl, fun w' hS => ?_⟩) HS ?_; rotate_left; (go_simp; try with_reducible rfl); simp only [Act.put, List.setIfInBounds_toArray, List.set_cons_zero, List.set_cons_succ])
          (refine hw_take HOK (i := 2) ?_ rfl (by decide) (by kernel_rfl) (by kernel_rfl) (by exact fun _ _ _ h => h) (Or.inl ⟨by rfl, fun w' hS => ?_⟩) HS ?_; rotate_left; (go_simp; try with_reducible rfl); simp only [Act.put, List.setIfInBounds_toArray, List.set_cons_zero, List.set_cons_succ])
          (refine hw_take HOK (i := 3) ?_ rfl (by decide) (by kernel_rfl) (by kernel_rfl) (by exact fun _ _ _ h => h) (Or.inl ⟨by rfl, fun w' hS => ?_⟩) HS ?_; rotate_left; (go_simp; try with_reducible rfl); simp only [Act.put, List.setIfInBounds_toArray, List.set_cons_zero, List.set_cons_succ])
          (refine hw_take HOK (i := 4) ?_ rfl (by decide) (by kernel_rfl) (by kernel_rfl) (by exact fun _ _ _ h => h) (Or.inl ⟨by rfl, fun w' hS => ?_⟩) HS ?_; rotate_left; (go_simp; try with_reducible rfl); simp only [Act.put, List.setIfInBounds_toArray, List.set_cons_zero, List.set_cons_succ])
          (refine hw_take HOK (i := 6) ?_ rfl (by decide) (by kernel_rfl) (by kernel_rfl) (by exact fun _ _ _ h => h) (Or.inl ⟨by rfl, fun w' hS => ?_⟩) HS ?_; rotate_left; (go_simp; try with_reducible rfl); simp only [Act.put, List.setIfInBounds_toArray, List.set_cons_zero, List.set_cons_succ])
          (refine hw_take HOK (i := 7) ?_ rfl (by decide) (by kernel_rfl) (by kernel_rfl) (by exact fun _ _ _ h => h) (Or.inl ⟨by rfl, fun w' hS => ?_⟩) HS ?_; rotate_left; (go_simp; try with_reducible rfl); simp only [Act.put, List.setIfInBounds_toArray, List.set_cons_zero, List.set_cons_succ])
          (refine hw_take HOK (i := 8) ?_ rfl (by decide) (by kernel_rfl) (by kernel_rfl) (by exact fun _ _ _ h => h) (Or.inl ⟨by rfl, fun w' hS => ?_⟩) HS ?_; rotate_left; (go_simp; try with_reducible rfl); simp only [Act.put, List.setIfInBounds_toArray, List.set_cons_zero, List.set_cons_succ])
          refine hw_one (i := 0) rfl (by decide) (by kernel_rfl) (fun K hK => ?_)
          go_simp
          refine hK _ _ ⟨row_drew (row_alloc X _), row_drew (row_alloc R _), (o.alloc o.size _).drew⟩ ?_
          clear hK K HS
          refine hw_one (i := 5) rfl (by decide) (by kernel_rfl) (fun K hK => ?_)
          refine step_clone rfl _ _ 22 rfl 43 i0 (.agg #[.int .i64 0, .int .i64 0, .int .i64 0, .int .i64 0, .int .i64 0, .int .i64 0, .int .i64 0]) 7 56 Try.underlying22 hi0 iz0 iz1 iz2 rfl (by decide) rfl wc.heap.size (some ad1) (kk + 1) c' (mcells (L.take (kk + 1))) rfl RD1.out (Nat.le_refl _) (mcells_one _) (by unfold maxLen at *; omega) (by omega) ?_
          intro g c5 w5 own5 hg5 hb5 hz5
          have U0 := row_call X hb5
          have U1 := row_call R hb5
          have o5 := o.trans (hb5.mono o.size)
          have zR := row_lt R
          refine hK _ _ ⟨U0, U1, o5⟩ ?_
          clear hK K
          try simp only [Act.put, List.setIfInBounds_toArray, List.set_cons_zero, List.set_cons_succ]
          refine hw_one (i := 9) rfl (by decide) (by kernel_rfl) (fun K hK => ?_)
          refine step_append_any w5 rfl _ _ 22 rfl wc.heap.size 43 i0 (.agg #[.int .i64 0, .int .i64 0, .int .i64 0, .int .i64 0, .int .i64 0, .int .i64 0, .int .i64 0]) 7 56 Try.underlying22 hi0 iz0 iz1 iz2 rfl (by decide) (.slice (some ⟨g, 0, none⟩) (kk + 1) c5) (kk + 1) (mcells (L.take (kk + 1))) rfl (own5.row hg5) w5.heap.size (some (ad1.add (J * 7))) (m' - J) (c' - J) (mcells (L.drop J)) rfl ((RD2.out.below hb5).more hb5.size) (mcells_one _) (by unfold maxLen at *; omega) (by omega) hb5.size ?_
          intro v6 w6 own6 hg6 hat6
          have zg : w.heap.size + 1 < g := by omega
          have e0 : (Value.slice (some ⟨g, 0, none⟩) (kk + 1) c5).ownBlock = some g := rfl
          rw [e0] at hg6
          have V0 := row_grown U0 hg6 (by intro e; injection e; omega)
          have V1 := row_grown U1 hg6 (by intro e; injection e; omega)
          have o6 := below_grown o5 hg6 (fun b e => by injection e; omega) o5.size
          rw [← mcells_append] at own6
          obtain ⟨A6, c6, rfl, in6, fr6⟩ := MIn.of_row own6 HMB.out
          have fr7 : ∀ a, A6 = some a → w.heap.size + 1 < a.block ∧ a.block < w6.heap.size := fun a e => ⟨by have := (fr6 a e).1; omega, (fr6 a e).2⟩
          refine hK _ _ ⟨V0, V1, o6⟩ ?_
          clear hK K
          try simp only [Act.put, List.setIfInBounds_toArray, List.set_cons_zero, List.set_cons_succ]
          refine hw_done (by kernel_rfl) ?_
          simp only [List.drop_succ_cons, List.drop_zero]
          have hlt2 : (L.take (kk + 1)).length = kk + 1 := by rw [List.length_take, HLL.out]; omega
          have HP3 := Lib.hid (show (L.take (kk + 1) ++ L.drop J).take (kk + 1) ++ prune (nearB agg k) ((L.take (kk + 1) ++ L.drop J).drop (kk + 1)) = prune (nearB agg k) (incl l (seq + 1) now v) ∧ ∀ x ∈ L.take (kk + 1) ++ L.drop J, x ∈ incl l (seq + 1) now v from ⟨by
            rw [List.take_left' hlt2, List.drop_left' hlt2]
            exact HP2.out, fun x hx => HP.out.2.1 x (by
            rcases List.mem_append.1 hx with h | h
            · exact (List.take_subset _ _) h
            · exact (List.drop_subset _ _) h)⟩)
          have hmm2 : kk + 1 + (m' - J) ≤ m' := by omega
          clear HOK U0 U1 own5 hb5 own6 hg6 hat6 RD1 RD2 HMB hlt2 e0 o5 X R o
          go_wp2
          go_roundw
          case rel => exact ⟨L.take (kk + 1) ++ L.drop J, kk + 1, A6, kk + 1 + (m' - J), c6, rfl, by go_num, in6, by omega, by omega, Lib.hid ⟨HP3.out.1, HP3.out.2, fr7⟩, V0, V1, o6⟩
          case measure => simp [lenV, intOf]; omega
    · have i1 : ¬ (kk : Int) < (m' : Int) := by omega
      obtain rfl : kk = m' := by omega
      have HE : RowKit.Hid (L = prune (nearB agg k) (incl l (seq + 1) now v)) := Lib.hid (by
        have h := HP.out.1
        rw [List.take_of_length_le (by rw [HLL.out]; exact Nat.le_refl _), List.drop_of_length_le (by rw [HLL.out]; exact Nat.le_refl _), prune_nil, List.append_nil] at h
        exact h)
      have FR := Lib.hid HP.out.2.2
      have INP := Lib.hid hinL
      clear hinL
      obtain ⟨X0, X1, X2, X3, X4, X5, X6, Xf0, Xf1, Xf2, Xf3, Xf4, Xf5, Xf6⟩ := row_seven X
      obtain ⟨R0, R1, R2, R3, R4, R5, R6, Rf0, Rf1, Rf2, Rf3, Rf4, Rf5, Rf6⟩ := row_seven R
      have XR := Lib.hid X
      have RR := Lib.hid R
      clear X R
      go_upto_region 22 with (fail)
      have X : Row (wr.setCell ⟨w.heap.size, 6, none⟩ (.slice A' kk c')) (w.heap.size) 24 #[.int .i64 agg, .int .i64 wd, .int .i64 k, .int .i64 cap, .int .i64 now, .int .i64 (seq + 1), .slice A' kk c'] := row_set XR.out 6 _
      have R : Row (wr.setCell ⟨w.heap.size, 6, none⟩ (.slice A' kk c')) (w.heap.size + 1) 24 #[.int .i64 0, .int .i64 0, .int .i64 0, .int .i64 0, .int .i64 0, .int .i64 0, .slice none 0 0] := row_other (p := ⟨w.heap.size, 6, none⟩) RR.out (by show w.heap.size + 1 ≠ w.heap.size; omega) _
      have o6 : Below w.heap.size w (wr.setCell ⟨w.heap.size, 6, none⟩ (.slice A' kk c')) := o.setCell (p := ⟨w.heap.size, 6, none⟩) (Nat.le_refl _) _
      have INP6 := Lib.hid (INP.out.keep (w' := wr.setCell ⟨w.heap.size, 6, none⟩ (.slice A' kk c')) (by rw [size_setCell]; exact Nat.le_refl _) (fun a e => Below.heap_setCell _ ⟨w.heap.size, 6, none⟩ _ a.block (by have := FR.out a e; show a.block ≠ w.heap.size; omega)))
      have hs6 : wr.heap.size ≤ (wr.setCell ⟨w.heap.size, 6, none⟩ (.slice A' kk c')).heap.size := by rw [size_setCell]; exact Nat.le_refl _
      generalize wr.setCell ⟨w.heap.size, 6, none⟩ (.slice A' kk c') = w6 at X R o6 INP6 hs6 ⊢
      clear X0 X1 X2 X3 X4 X5 X6 Xf0 Xf1 Xf2 Xf3 Xf4 Xf5 Xf6 R0 R1 R2 R3 R4 R5 R6 Rf0 Rf1 Rf2 Rf3 Rf4 Rf5 Rf6 XR RR INP o
      obtain ⟨X0, X1, X2, X3, X4, X5, X6, Xf0, Xf1, Xf2, Xf3, Xf4, Xf5, Xf6⟩ := row_seven X
      obtain ⟨R0, R1, R2, R3, R4, R5, R6, Rf0, Rf1, Rf2, Rf3, Rf4, Rf5, Rf6⟩ := row_seven R
      go_wp2
      have hbge : w.heap.size ≤ w.heap.size + 1 := by omega
      have hkp : ∀ b', b' ≠ w.heap.size + 1 → ((((((((w6.setCell ⟨w.heap.size + 1, 0, none⟩ (.int .i64 agg)).setCell ⟨w.heap.size + 1, 1, none⟩ (.int .i64 wd)).setCell ⟨w.heap.size + 1, 2, none⟩ (.int .i64 k)).setCell ⟨w.heap.size + 1, 3, none⟩ (.int .i64 cap)).setCell ⟨w.heap.size + 1, 4, none⟩ (.int .i64 now)).setCell ⟨w.heap.size + 1, 5, none⟩ (.int .i64 (seq + 1))).setCell ⟨w.heap.size + 1, 6, none⟩ (.slice A' kk c'))).heap[b']? = w6.heap[b']? := fun b' h' => ((Below.heap_setCell _ ⟨w.heap.size + 1, 6, none⟩ (.slice A' kk c') b' h').trans ((Below.heap_setCell _ ⟨w.heap.size + 1, 5, none⟩ (.int .i64 (seq + 1)) b' h').trans ((Below.heap_setCell _ ⟨w.heap.size + 1, 4, none⟩ (.int .i64 now) b' h').trans ((Below.heap_setCell _ ⟨w.heap.size + 1, 3, none⟩ (.int .i64 cap) b' h').trans ((Below.heap_setCell _ ⟨w.heap.size + 1, 2, none⟩ (.int .i64 k) b' h').trans ((Below.heap_setCell _ ⟨w.heap.size + 1, 1, none⟩ (.int .i64 wd) b' h').trans ((Below.heap_setCell _ ⟨w.heap.size + 1, 0, none⟩ (.int .i64 agg) b' h').trans rfl)))))))
      have hksz : w6.heap.size ≤ ((((((((w6.setCell ⟨w.heap.size + 1, 0, none⟩ (.int .i64 agg)).setCell ⟨w.heap.size + 1, 1, none⟩ (.int .i64 wd)).setCell ⟨w.heap.size + 1, 2, none⟩ (.int .i64 k)).setCell ⟨w.heap.size + 1, 3, none⟩ (.int .i64 cap)).setCell ⟨w.heap.size + 1, 4, none⟩ (.int .i64 now)).setCell ⟨w.heap.size + 1, 5, none⟩ (.int .i64 (seq + 1))).setCell ⟨w.heap.size + 1, 6, none⟩ (.slice A' kk c'))).heap.size := by simp only [size_setCell]; exact Nat.le_refl _
      have R9 : Row (((((((w6.setCell ⟨w.heap.size + 1, 0, none⟩ (.int .i64 agg)).setCell ⟨w.heap.size + 1, 1, none⟩ (.int .i64 wd)).setCell ⟨w.heap.size + 1, 2, none⟩ (.int .i64 k)).setCell ⟨w.heap.size + 1, 3, none⟩ (.int .i64 cap)).setCell ⟨w.heap.size + 1, 4, none⟩ (.int .i64 now)).setCell ⟨w.heap.size + 1, 5, none⟩ (.int .i64 (seq + 1))).setCell ⟨w.heap.size + 1, 6, none⟩ (.slice A' kk c')) (w.heap.size + 1) 24 #[.int .i64 agg, .int .i64 wd, .int .i64 k, .int .i64 cap, .int .i64 now, .int .i64 (seq + 1), .slice A' kk c'] := (row_set (row_set (row_set (row_set (row_set (row_set (row_set R 0 (.int .i64 agg)) 1 (.int .i64 wd)) 2 (.int .i64 k)) 3 (.int .i64 cap)) 4 (.int .i64 now)) 5 (.int .i64 (seq + 1))) 6 (.slice A' kk c'))
      have o9 : Below w.heap.size w (((((((w6.setCell ⟨w.heap.size + 1, 0, none⟩ (.int .i64 agg)).setCell ⟨w.heap.size + 1, 1, none⟩ (.int .i64 wd)).setCell ⟨w.heap.size + 1, 2, none⟩ (.int .i64 k)).setCell ⟨w.heap.size + 1, 3, none⟩ (.int .i64 cap)).setCell ⟨w.heap.size + 1, 4, none⟩ (.int .i64 now)).setCell ⟨w.heap.size + 1, 5, none⟩ (.int .i64 (seq + 1))).setCell ⟨w.heap.size + 1, 6, none⟩ (.slice A' kk c')) := (Below.setCell (p := ⟨w.heap.size + 1, 6, none⟩) (Below.setCell (p := ⟨w.heap.size + 1, 5, none⟩) (Below.setCell (p := ⟨w.heap.size + 1, 4, none⟩) (Below.setCell (p := ⟨w.heap.size + 1, 3, none⟩) (Below.setCell (p := ⟨w.heap.size + 1, 2, none⟩) (Below.setCell (p := ⟨w.heap.size + 1, 1, none⟩) (Below.setCell (p := ⟨w.heap.size + 1, 0, none⟩) o6 hbge (.int .i64 agg)) hbge (.int .i64 wd)) hbge (.int .i64 k)) hbge (.int .i64 cap)) hbge (.int .i64 now)) hbge (.int .i64 (seq + 1))) hbge (.slice A' kk c'))
      generalize (((((((w6.setCell ⟨w.heap.size + 1, 0, none⟩ (.int .i64 agg)).setCell ⟨w.heap.size + 1, 1, none⟩ (.int .i64 wd)).setCell ⟨w.heap.size + 1, 2, none⟩ (.int .i64 k)).setCell ⟨w.heap.size + 1, 3, none⟩ (.int .i64 cap)).setCell ⟨w.heap.size + 1, 4, none⟩ (.int .i64 now)).setCell ⟨w.heap.size + 1, 5, none⟩ (.int .i64 (seq + 1))).setCell ⟨w.heap.size + 1, 6, none⟩ (.slice A' kk c')) = w9 at R9 o9 hkp hksz ⊢
      obtain ⟨N0, N1, N2, N3, N4, N5, N6, Nf0, Nf1, Nf2, Nf3, Nf4, Nf5, Nf6⟩ := row_seven R9
      exact bodyPost_ret (v := .tuple #[.agg #[.int .i64 agg, .int .i64 wd, .int .i64 k, .int .i64 cap, .int .i64 now, .int .i64 (seq + 1), .slice A' kk c'], .int .i64 0]) (by simp [results, Try.results15, go_sem, List.getElem?_toArray, N0, N1, N2, N3, N4, N5, N6]) rfl (smret_ok (HE.out ▸ INP6.out.keep hksz (fun a e => hkp a.block (by have := FR.out a e; omega))) o9 (fun a e => .inl (by have := FR.out a e; omega)))
set_option maxRecDepth 100000 in
set_option maxHeartbeats 8000000 in
theorem rsmadd_d0 (A : Option Addr) (c : Nat) (l : List Mk) (agg wd k cap now seq : Int) (v : Int) (w : World) (hin : MIn A 0 c l w) (sB : I64 seq) (hv : smvalE agg wd k cap now seq l = 0) (h0 : ¬ v < leastV agg) (h1 : ¬ 4096 < v)  (hs : seq ≠ 1099511627776) (hf : ¬ smFull cap seq l) : Calls Try.prog 15 #[.agg #[.int .i64 agg, .int .i64 wd, .int .i64 k, .int .i64 cap, .int .i64 now, .int .i64 seq, .slice A 0 c], .int .i64 v] w fun e w' => SmRet A (smAdd agg wd k cap now seq l v) w e w' := by
  rw [smAdd_d hv (by omega) hf]
  have hV := of_smvalE hv
  obtain ⟨hG, hMV, _⟩ := hV
  obtain ⟨⟨a0, a1⟩, d0, d1, k0, k1, c0, c1, n0, n1⟩ := hG
  obtain ⟨⟨s0, s1⟩, hVL⟩ := mvalid_iff.1 hMV
  have HVI := Lib.hid (hVL.incl s0 (hVL.n_lt (fun a => hf (.inl a))) c0 n0 d0 (Int.not_lt.1 h0) (by have := leastV_ge agg; omega) (Int.not_lt.1 h1))
  have HSM := Lib.hid (fun i (hi : i < 0) => SmallM.of_one (hVL.one _ (mkAt_mem (l := l) (i := i) (by rw [hin.len]; exact hi))) c1 (leastV_ge agg))
  have hv0 : -4096 ≤ v := by have := leastV_ge agg; omega
  have hv1 : v ≤ 4096 := by omega
  have HLE := Lib.hid (leastV_ge agg)
  have HMI := Lib.hid (show ∀ x ∈ incl l (seq + 1) now v, M64 x from fun x hx => M64.of_one (HVI.out.one x hx) (by omega) c1 n1 HLE.out)
  have HOB := Lib.hid (show ∀ x ∈ incl l (seq + 1) now v, 0 ≤ ofV agg x ∧ ofV agg x ≤ 1099511627776 from fun x hx => ofV_bound (HVI.out.one x hx) c1)
  clear hf hMV hVL
  have PV := fun w => rvalue agg v w a0 a1
  rw [decide_eq_true ⟨Int.not_lt.1 h0, Int.not_lt.1 h1⟩] at PV
  replace PV := Lib.hid PV
  have P := fun w' (hb : Below w.heap.size w w') => rvalS A 0 c l agg wd k cap now seq w' (hin.below hb) sB
  rw [hv] at P
  replace P := Lib.hid P
  have HR := Lib.hid hin
  have HL := Lib.hid hin.len
  clear hin sB h0 h1
  go_enter Try.func15, Try.ntmps15
  go_upto_region 6 with (first | (go_at_call 13; with_reducible refine (P.out _ (by (repeat (first | exact Below.refl _ _ | refine Below.setCell ?_ (by first | (simp; done) | (simp; omega) | omega) _ | refine Below.alloc ?_ (by first | (simp; done) | (simp; omega) | omega) _ | refine Below.drew ?_ | refine Below.trans ?_ (Below.mono (by assumption) (by first | (simp; done) | (simp; omega) | omega)))))).mono ?_; rintro e w1 ⟨rfl, hb1⟩; have hz1 := hb1.size; (try simp at hz1); have o1 : Below w.heap.size w w1 := (by (repeat (first | exact Below.refl _ _ | refine Below.setCell ?_ (by first | (simp; done) | (simp; omega) | omega) _ | refine Below.alloc ?_ (by first | (simp; done) | (simp; omega) | omega) _ | refine Below.drew ?_ | refine Below.trans ?_ (Below.mono (by assumption) (by first | (simp; done) | (simp; omega) | omega))))); have q1_0 : w.heap.size < w1.heap.size := (by omega); have r1_0 : Row w1 (w.heap.size) 24 #[.int .i64 agg, .int .i64 wd, .int .i64 k, .int .i64 cap, .int .i64 now, .int .i64 seq, .slice A 0 c] := row_call (by (repeat (first | assumption | (refine row_new ?_; (first | (simp; done) | omega)) | refine row_alloc ?_ _ | refine row_drew ?_ | refine row_call ?_ (by assumption)))) hb1; obtain ⟨c1_0a, c1_0b, c1_0c, c1_0d, c1_0e, c1_0f, c1_0g, f1_0a, f1_0b, f1_0c, f1_0d, f1_0e, f1_0f, f1_0g⟩ := row_seven r1_0; have q1_1 : w.heap.size + 1 < w1.heap.size := (by omega); have r1_1 : Row w1 (w.heap.size + 1) 24 #[.int .i64 0, .int .i64 0, .int .i64 0, .int .i64 0, .int .i64 0, .int .i64 0, .slice none 0 0] := row_call (by (repeat (first | assumption | (refine row_new ?_; (first | (simp; done) | omega)) | refine row_alloc ?_ _ | refine row_drew ?_ | refine row_call ?_ (by assumption)))) hb1; obtain ⟨c1_1a, c1_1b, c1_1c, c1_1d, c1_1e, c1_1f, c1_1g, f1_1a, f1_1b, f1_1c, f1_1d, f1_1e, f1_1f, f1_1g⟩ := row_seven r1_1) | (go_at_call 47; with_reducible refine (PV.out _).mono ?_; rintro e w9 ⟨rfl, h9⟩; obtain rfl := h9.symm))
  clear P PV
  clear hv
  have e2 : (seq == 1099511627776) = false := by simpa using hs
  refine wp_region_quiet_lit (by as_aux_lemma => kernel_rfl) (by as_aux_lemma => kernel_rfl) ?_
  repeat (go_big_quiet_step (fail))
  refine wpQuiet_nil ?_
  intro _ hw'
  obtain ⟨nq, hw''⟩ := hw'
  subst hw''
  replace r1_0 : Row (w1.drewN nq) (w.heap.size) 24 #[.int .i64 agg, .int .i64 wd, .int .i64 k, .int .i64 cap, .int .i64 now, .int .i64 seq, .slice A 0 c] := r1_0
  replace r1_1 : Row (w1.drewN nq) (w.heap.size + 1) 24 #[.int .i64 0, .int .i64 0, .int .i64 0, .int .i64 0, .int .i64 0, .int .i64 0, .slice none 0 0] := r1_1
  replace o1 := o1.trans (⟨rfl, rfl, rfl, Nat.le_refl _, fun _ _ => rfl⟩ : Below _ w1 (w1.drewN nq))
  generalize w1.drewN nq = w2 at r1_0 r1_1 o1 ⊢
  clear c1_0a c1_0b c1_0c c1_0d c1_0e c1_0f c1_0g f1_0a f1_0b f1_0c f1_0d f1_0e f1_0f f1_0g c1_1a c1_1b c1_1c c1_1d c1_1e c1_1f c1_1g f1_1a f1_1b f1_1c f1_1d f1_1e f1_1f f1_1g
  clear e2
  have wsq : IntKind.i64.wrap (seq + 1) = seq + 1 := IntWalk.i64_in _ (by omega)
  obtain ⟨X0, X1, X2, X3, X4, X5, X6, Xf0, Xf1, Xf2, Xf3, Xf4, Xf5, Xf6⟩ := row_seven r1_0
  have KR := Lib.hid r1_0
  clear r1_0
  go_upto_region 9 with (fail)
  have X : Row (w2.setCell ⟨w.heap.size, 5, none⟩ (.int .i64 (seq + 1))) (w.heap.size) 24 #[.int .i64 agg, .int .i64 wd, .int .i64 k, .int .i64 cap, .int .i64 now, .int .i64 (seq + 1), .slice A 0 c] := row_set KR.out 5 _
  have R : Row (w2.setCell ⟨w.heap.size, 5, none⟩ (.int .i64 (seq + 1))) (w.heap.size + 1) 24 #[.int .i64 0, .int .i64 0, .int .i64 0, .int .i64 0, .int .i64 0, .int .i64 0, .slice none 0 0] := row_other (p := ⟨w.heap.size, 5, none⟩) r1_1 (by show w.heap.size + 1 ≠ w.heap.size; omega) _
  have o : Below w.heap.size w (w2.setCell ⟨w.heap.size, 5, none⟩ (.int .i64 (seq + 1))) := o1.setCell (p := ⟨w.heap.size, 5, none⟩) (Nat.le_refl _) _
  generalize w2.setCell ⟨w.heap.size, 5, none⟩ (.int .i64 (seq + 1)) = w3 at X R o ⊢
  clear X0 X1 X2 X3 X4 X5 X6 Xf0 Xf1 Xf2 Xf3 Xf4 Xf5 Xf6 KR o1 r1_1 wsq
  refine wp_region_phase 11 (fun w' => Row w' (w.heap.size) 24 #[.int .i64 agg, .int .i64 wd, .int .i64 k, .int .i64 cap, .int .i64 now, .int .i64 (seq + 1), .slice A 0 c] ∧ Row w' (w.heap.size + 1) 24 #[.int .i64 0, .int .i64 0, .int .i64 0, .int .i64 0, .int .i64 0, .int .i64 0, .slice none 0 0] ∧ Below w.heap.size w w') (by kernel_rfl) (by kernel_rfl) (by kernel_rfl) (by kernel_rfl) (by kernel_rfl) (fun HOK => ?_)
  have HS := (⟨X, R, o.drew⟩ : Row w3.drew (w.heap.size) 24 #[.int .i64 agg, .int .i64 wd, .int .i64 k, .int .i64 cap, .int .i64 now, .int .i64 (seq + 1), .slice A 0 c] ∧ Row w3.drew (w.heap.size + 1) 24 #[.int .i64 0, .int .i64 0, .int .i64 0, .int .i64 0, .int .i64 0, .int .i64 0, .slice none 0 0] ∧ Below w.heap.size w w3.drew)
  (refine hw_take HOK (i := 0) ?_ rfl (by decide) (by kernel_rfl) (by kernel_rfl) (by exact fun _ _ _ h => h) (Or.inl ⟨by rfl, fun w' hS => ?_⟩) HS ?_; rotate_left; (go_simp; try with_reducible rfl); simp only [Act.put, List.setIfInBounds_toArray, List.set_cons_zero, List.set_cons_succ])
  (refine hw_take HOK (i := 1) ?_ rfl (by decide) (by kernel_rfl) (by kernel_rfl) (by exact fun _ _ _ h => h) (Or.inl ⟨by rfl, fun w' hS => ?_⟩) HS ?_; rotate_left; (obtain ⟨X0, X1, X2, X3, X4, X5, X6, Xf0, Xf1, Xf2, Xf3, Xf4, Xf5, Xf6⟩ := row_seven hS.1; go_simp; try with_reducible rfl); simp only [Act.put, List.setIfInBounds_toArray, List.set_cons_zero, List.set_cons_succ])
  (refine hw_take HOK (i := 2) ?_ rfl (by decide) (by kernel_rfl) (by kernel_rfl) (by exact fun _ _ _ h => h) (Or.inl ⟨by rfl, fun w' hS => ?_⟩) HS ?_; rotate_left; (go_simp; try with_reducible rfl); simp only [Act.put, List.setIfInBounds_toArray, List.set_cons_zero, List.set_cons_succ])
  (refine hw_take HOK (i := 3) ?_ rfl (by decide) (by kernel_rfl) (by kernel_rfl) (by exact fun _ _ _ h => h) (Or.inl ⟨by rfl, fun w' hS => ?_⟩) HS ?_; rotate_left; (obtain ⟨X0, X1, X2, X3, X4, X5, X6, Xf0, Xf1, Xf2, Xf3, Xf4, Xf5, Xf6⟩ := row_seven hS.1; go_simp; try with_reducible rfl); simp only [Act.put, List.setIfInBounds_toArray, List.set_cons_zero, List.set_cons_succ])
  (refine hw_take HOK (i := 4) ?_ rfl (by decide) (by kernel_rfl) (by kernel_rfl) (by exact fun _ _ _ h => h) (Or.inl ⟨by rfl, fun w' hS => ?_⟩) HS ?_; rotate_left; (go_simp; try with_reducible rfl); simp only [Act.put, List.setIfInBounds_toArray, List.set_cons_zero, List.set_cons_succ])
  (refine hw_take HOK (i := 5) ?_ rfl (by decide) (by kernel_rfl) (by kernel_rfl) (by exact fun _ _ _ h => h) (Or.inl ⟨by rfl, fun w' hS => ?_⟩) HS ?_; rotate_left; (obtain ⟨X0, X1, X2, X3, X4, X5, X6, Xf0, Xf1, Xf2, Xf3, Xf4, Xf5, Xf6⟩ := row_seven hS.1; go_simp; try with_reducible rfl); simp only [Act.put, List.setIfInBounds_toArray, List.set_cons_zero, List.set_cons_succ])
  (refine hw_take HOK (i := 6) ?_ rfl (by decide) (by kernel_rfl) (by kernel_rfl) (by exact fun _ _ _ h => h) (Or.inl ⟨by rfl, fun w' hS => ?_⟩) HS ?_; rotate_left; (go_simp; try with_reducible rfl); simp only [Act.put, List.setIfInBounds_toArray, List.set_cons_zero, List.set_cons_succ])
  (refine hw_take HOK (i := 8) ?_ rfl (by decide) (by kernel_rfl) (by kernel_rfl) (by exact fun _ _ _ h => h) (Or.inl ⟨by rfl, fun w' hS => ?_⟩) HS ?_; rotate_left; (go_simp; try with_reducible rfl); simp only [Act.put, List.setIfInBounds_toArray, List.set_cons_zero, List.set_cons_succ])
  (refine hw_take HOK (i := 9) ?_ rfl (by decide) (by kernel_rfl) (by kernel_rfl) (by exact fun _ _ _ h => h) (Or.inl ⟨by rfl, fun w' hS => ?_⟩) HS ?_; rotate_left; (obtain ⟨X0, X1, X2, X3, X4, X5, X6, Xf0, Xf1, Xf2, Xf3, Xf4, Xf5, Xf6⟩ := row_seven hS.1; go_simp; try with_reducible rfl); simp only [Act.put, List.setIfInBounds_toArray, List.set_cons_zero, List.set_cons_succ])
  refine hw_one (i := 7) rfl (by decide) (by kernel_rfl) (fun K hK => ?_)
  go_simp
  refine (rmadd A 0 c l (seq + 1) now v _ (HR.out.below o.drew) (by omega) HSM.out hv0 hv1).mono ?_
  rintro e w4 ⟨va, rfl, ownA, hb4⟩
  obtain ⟨A4, c4, rfl, inA, fr4⟩ := MIn.of_row ownA (M64.all HMI.out)
  have hb4' : Below w3.heap.size w3 w4 := (Below.refl _ _).drew.trans (hb4.mono (Nat.le_refl _))
  clear hb4
  have z3 := row_lt R
  replace X := row_call X hb4'
  replace R := row_call R hb4'
  replace o := o.trans (hb4'.mono o.size)
  have fr : ∀ a, A4 = some a → w.heap.size + 1 < a.block ∧ a.block < w4.heap.size := fun a e => by have := fr4 a e; simp at this; omega
  clear hb4' fr4 ownA
  refine hK _ _ ⟨X, R, o⟩ ?_
  clear hK K HS
  try simp only [Act.put, List.setIfInBounds_toArray, List.set_cons_zero, List.set_cons_succ]
  refine hw_one (i := 10) rfl (by decide) (by kernel_rfl) (fun K hK => ?_)
  go_simp
  refine hK _ _ ⟨X, R, o⟩ ?_
  clear hK K
  try simp only [Act.put, List.setIfInBounds_toArray, List.set_cons_zero, List.set_cons_succ]
  refine hw_done (by kernel_rfl) ?_
  simp only [List.drop_succ_cons, List.drop_zero]
  clear HOK
  have INA := Lib.hid inA
  have LI : RowKit.Hid ((incl l (seq + 1) now v).length = 0 + 1) := Lib.hid (by rw [incl_len, HL.out])
  clear inA
  obtain ⟨X0, X1, X2, X3, X4, X5, X6, Xf0, Xf1, Xf2, Xf3, Xf4, Xf5, Xf6⟩ := row_seven X
  go_wp2
  go_loopw [7, 9] (fun u i wr => ∃ (L : List Mk) (kk : Nat) (A' : Option Addr) (m' c' : Nat), u = .slice A' m' c' ∧ i = .int .i64 (kk : Nat) ∧ MIn A' m' c' L wr ∧ kk ≤ m' ∧ m' ≤ 100001 ∧ RowKit.Hid (L.take kk ++ prune (nearB agg k) (L.drop kk) = prune (nearB agg k) (incl l (seq + 1) now v) ∧ (∀ x ∈ L, x ∈ incl l (seq + 1) now v) ∧ ∀ a, A' = some a → w.heap.size + 1 < a.block ∧ a.block < wr.heap.size) ∧ Row wr (w.heap.size) 24 #[.int .i64 agg, .int .i64 wd, .int .i64 k, .int .i64 cap, .int .i64 now, .int .i64 (seq + 1), .slice A 0 c] ∧ Row wr (w.heap.size + 1) 24 #[.int .i64 0, .int .i64 0, .int .i64 0, .int .i64 0, .int .i64 0, .int .i64 0, .slice none 0 0] ∧ Below w.heap.size w wr) (fun u i _ => lenV u - (intOf i).toNat)
  case atStart => exact ⟨incl l (seq + 1) now v, 0, A4, 0 + 1, c4, rfl, rfl, INA.out, by omega, by omega, Lib.hid ⟨rfl, fun x h => h, fr⟩, X, R, o⟩
  case round =>
    clear X R o X0 X1 X2 X3 X4 X5 X6 Xf0 Xf1 Xf2 Xf3 Xf4 Xf5 Xf6 fr INA LI
    obtain ⟨L, kk, A', m', c', rfl, rfl, hinL, hkk, hm', HP, X, R, o⟩ := hrel
    have HLL := Lib.hid hinL.len
    by_cases hlt : kk < m'
    · have i1 : (kk : Int) < (m' : Int) := by omega
      have i2 : (0 : Int) ≤ (kk : Int) := by omega
      have wk : IntKind.i64.wrap ((kk : Int) + 1) = (kk : Int) + 1 := IntWalk.i64_in _ (by omega)
      go_upto_block 2 with (fail)
      go_cut [10] (fun jv wx => ∃ J : Nat, jv = .int .i64 (J : Nat) ∧ RowKit.Hid (JSpec (nearB agg k) L kk J m') ∧ MIn A' m' c' L wx ∧ Row wx (w.heap.size) 24 #[.int .i64 agg, .int .i64 wd, .int .i64 k, .int .i64 cap, .int .i64 now, .int .i64 (seq + 1), .slice A 0 c] ∧ Row wx (w.heap.size + 1) 24 #[.int .i64 0, .int .i64 0, .int .i64 0, .int .i64 0, .int .i64 0, .int .i64 0, .slice none 0 0] ∧ Below w.heap.size w wx ∧ wr.heap.size ≤ wx.heap.size)
      case first =>
        go_wp2_with fail
        go_loopw [10, 11] (fun jv nv wy => ∃ J N : Nat, jv = .int .i64 (J : Nat) ∧ nv = .int .i64 (N : Nat) ∧ kk < N ∧ N ≤ m' ∧ RowKit.Hid (JSpec (nearB agg k) L kk J N) ∧ MIn A' m' c' L wy ∧ Row wy (w.heap.size) 24 #[.int .i64 agg, .int .i64 wd, .int .i64 k, .int .i64 cap, .int .i64 now, .int .i64 (seq + 1), .slice A 0 c] ∧ Row wy (w.heap.size + 1) 24 #[.int .i64 0, .int .i64 0, .int .i64 0, .int .i64 0, .int .i64 0, .int .i64 0, .slice none 0 0] ∧ Below w.heap.size w wy ∧ wr.heap.size ≤ wy.heap.size) (fun _ nv _ => m' - (intOf nv).toNat)
        case atStart => exact ⟨kk, kk + 1, rfl, by go_num, by omega, by omega, Lib.hid (.inl ⟨rfl, fun e h1 h2 => absurd h1 (by omega)⟩), hinL, X, R, o, Nat.le_refl _⟩
        case round =>
          clear X R o hinL
          obtain ⟨J, N, rfl, rfl, hkN, hNm, HJ, hinL, X, R, o, hsz⟩ := hrel
          by_cases hN : N < m'
          · obtain ⟨ad1, rfl, hb1, htk⟩ := hinL.reads.mk hlt
            obtain ⟨ad2, ea2, hb2, htN⟩ := hinL.reads.mk hN
            obtain rfl : ad1 = ad2 := by injection ea2
            have mk1 : mkAt L kk ∈ incl l (seq + 1) now v := HP.out.2.1 _ (mkAt_mem (by rw [HLL.out]; exact hlt))
            have mk2 : mkAt L N ∈ incl l (seq + 1) now v := HP.out.2.1 _ (mkAt_mem (by rw [HLL.out]; exact hN))
            have PX := fun w => rofm agg (mkAt L kk) w (HMI.out _ mk1)
            have PY := fun w => rofm agg (mkAt L N) w (HMI.out _ mk2)
            have bx := HOB.out _ mk1
            have byy := HOB.out _ mk2
            have HNR := Lib.hid (show nearB agg k (mkAt L kk) (mkAt L N) = decide (k * ofV agg (mkAt L kk) ≤ (k + 1) * ofV agg (mkAt L N)) from rfl)
            obtain ⟨x, hx⟩ : ∃ x, ofV agg (mkAt L kk) = x := ⟨_, rfl⟩
            obtain ⟨y, hy⟩ : ∃ y, ofV agg (mkAt L N) = y := ⟨_, rfl⟩
            have HNR2 := Lib.hid (show nearB agg k (mkAt L kk) (mkAt L N) = decide (k * x ≤ (k + 1) * y) by rw [HNR.out, hx, hy])
            rw [hx] at PX bx
            rw [hy] at PY byy
            have wx1 : 0 ≤ k * x ∧ k * x ≤ 64 * 1099511627776 := ⟨Int.mul_nonneg (by omega) bx.1, Int.mul_le_mul k1 bx.2 bx.1 (by decide)⟩
            have wy1 : 0 ≤ (k + 1) * y ∧ (k + 1) * y ≤ 65 * 1099511627776 := ⟨Int.mul_nonneg (by omega) byy.1, Int.mul_le_mul (by omega) byy.2 byy.1 (by decide)⟩
            have wkx : IntKind.i64.wrap (k * x) = k * x := IntWalk.i64_in _ (by omega)
            have wky : IntKind.i64.wrap ((k + 1) * y) = (k + 1) * y := IntWalk.i64_in _ (by omega)
            have wk1 : IntKind.i64.wrap (k + 1) = k + 1 := IntWalk.i64_in _ (by omega)
            clear hx hy HNR mk1 mk2 ea2 bx byy wx1 wy1
            generalize hmk : mkAt L kk = ma at htk PX
            generalize hmN : mkAt L N = mb at htN PY
            have HMK := Lib.hid hmk
            have HMN := Lib.hid hmN
            obtain ⟨sq, tk, n, s, q, lo, hi⟩ := ma
            obtain ⟨osq, otk, on, os, oq, olo, ohi⟩ := mb
            dsimp only at PX PY
            replace PX := Lib.hid PX
            replace PY := Lib.hid PY
            have HTK := Lib.hid htk
            have HTN := Lib.hid htN
            have hbk : (ad1.add (kk * 7)).block < wr.heap.size := by rw [block_of_add]; exact hb1
            have hbN : (ad1.add (N * 7)).block < wr.heap.size := by rw [block_of_add]; exact hb1
            have HBK := Lib.hid hbk
            have HBN := Lib.hid hbN
            clear hmk hmN htk htN hbk hbN hb1 hb2
            have j1 : (N : Int) < (m' : Int) := by omega
            have j0 : (0 : Int) ≤ (N : Int) := by omega
            have wN : IntKind.i64.wrap ((N : Int) + 1) = (N : Int) + 1 := IntWalk.i64_in _ (by omega)
            go_upto_region 17 with (fail)
            by_cases nr : k * x ≤ (k + 1) * y
            · have nrd : decide (k * x ≤ (k + 1) * y) = true := decide_eq_true nr
              refine wp_region_free0 [0, 1, 2, 3, 4, 5, 6, 7, 8, 10, 11, 12, 13, 14, 15, 16, 17, 9, 18] [] [0, 1, 2, 3, 4, 5, 6, 7, 8, 9, 10, 11, 12, 13, 14, 15, 16, 17, 18] 19 (fun w' => Below wr.heap.size wr w') (by kernel_rfl) (by kernel_rfl) (fun _ _ d _ _ h => by cases d <;> exact h) ?_ ?_
              · exact (Below.refl _ _).drew
              (refine plan_pure ?_ rfl rfl (fun w' => ?_) ?_; rotate_left; (go_simp; try with_reducible rfl); simp only [Act.put, List.setIfInBounds_toArray, List.set_cons_zero, List.set_cons_succ])
              (refine plan_pure ?_ rfl rfl (fun w' => ?_) ?_; rotate_left; (go_simp; try with_reducible rfl); simp only [Act.put, List.setIfInBounds_toArray, List.set_cons_zero, List.set_cons_succ])
              (refine plan_pure ?_ rfl rfl (fun w' => ?_) ?_; rotate_left; (go_simp; try with_reducible rfl); simp only [Act.put, List.setIfInBounds_toArray, List.set_cons_zero, List.set_cons_succ])
              (refine plan_pure ?_ rfl rfl (fun w' => ?_) ?_; rotate_left; (go_simp; try with_reducible rfl); simp only [Act.put, List.setIfInBounds_toArray, List.set_cons_zero, List.set_cons_succ])
              (refine plan_pure ?_ rfl rfl (fun w' => ?_) ?_; rotate_left; (go_simp; try with_reducible rfl); simp only [Act.put, List.setIfInBounds_toArray, List.set_cons_zero, List.set_cons_succ])
              (refine plan_val ?_ rfl rfl rfl (fun w' hS => ?_) ?_; rotate_left; (obtain ⟨X0, X1, X2, X3, X4, X5, X6, Xf0, Xf1, Xf2, Xf3, Xf4, Xf5, Xf6⟩ := row_seven (row_call X hS); obtain ⟨p0, p1, p2, p3, p4, p5, p6⟩ := HTK.out.below hS HBK.out; dsimp only at p0 p1 p2 p3 p4 p5 p6; obtain ⟨q0, q1, q2, q3, q4, q5, q6⟩ := HTN.out.below hS HBN.out; dsimp only at q0 q1 q2 q3 q4 q5 q6; go_simp; try with_reducible rfl); simp only [Act.put, List.setIfInBounds_toArray, List.set_cons_zero, List.set_cons_succ])
              (refine plan_pure ?_ rfl rfl (fun w' => ?_) ?_; rotate_left; (go_simp; try with_reducible rfl); simp only [Act.put, List.setIfInBounds_toArray, List.set_cons_zero, List.set_cons_succ])
              (refine plan_val ?_ rfl rfl rfl (fun w' hS => ?_) ?_; rotate_left; (obtain ⟨X0, X1, X2, X3, X4, X5, X6, Xf0, Xf1, Xf2, Xf3, Xf4, Xf5, Xf6⟩ := row_seven (row_call X hS); obtain ⟨p0, p1, p2, p3, p4, p5, p6⟩ := HTK.out.below hS HBK.out; dsimp only at p0 p1 p2 p3 p4 p5 p6; obtain ⟨q0, q1, q2, q3, q4, q5, q6⟩ := HTN.out.below hS HBN.out; dsimp only at q0 q1 q2 q3 q4 q5 q6; go_simp; try with_reducible rfl); simp only [Act.put, List.setIfInBounds_toArray, List.set_cons_zero, List.set_cons_succ])
              refine plan_call (.int .i64 y) 25 #[.agg #[.int .i64 osq, .int .i64 otk, .int .i64 on, .int .i64 os, .int .i64 oq, .int .i64 olo, .int .i64 ohi], .int .i64 agg] rfl rfl rfl (fun _ _ h hb => h.trans (hb.mono h.size)) (fun w' hS => by obtain ⟨X0, X1, X2, X3, X4, X5, X6, Xf0, Xf1, Xf2, Xf3, Xf4, Xf5, Xf6⟩ := row_seven (row_call X hS); obtain ⟨p0, p1, p2, p3, p4, p5, p6⟩ := HTK.out.below hS HBK.out; dsimp only at p0 p1 p2 p3 p4 p5 p6; obtain ⟨q0, q1, q2, q3, q4, q5, q6⟩ := HTN.out.below hS HBN.out; dsimp only at q0 q1 q2 q3 q4 q5 q6; go_simp) (fun w' hS => PY.out w') ?_
              simp only [Act.put, List.setIfInBounds_toArray, List.set_cons_zero, List.set_cons_succ]
              (refine plan_pure ?_ rfl rfl (fun w' => ?_) ?_; rotate_left; (go_simp; try with_reducible rfl); simp only [Act.put, List.setIfInBounds_toArray, List.set_cons_zero, List.set_cons_succ])
              (refine plan_pure ?_ rfl rfl (fun w' => ?_) ?_; rotate_left; (go_simp; try with_reducible rfl); simp only [Act.put, List.setIfInBounds_toArray, List.set_cons_zero, List.set_cons_succ])
              (refine plan_pure ?_ rfl rfl (fun w' => ?_) ?_; rotate_left; (go_simp; try with_reducible rfl); simp only [Act.put, List.setIfInBounds_toArray, List.set_cons_zero, List.set_cons_succ])
              (refine plan_pure ?_ rfl rfl (fun w' => ?_) ?_; rotate_left; (go_simp; try with_reducible rfl); simp only [Act.put, List.setIfInBounds_toArray, List.set_cons_zero, List.set_cons_succ])
              (refine plan_val ?_ rfl rfl rfl (fun w' hS => ?_) ?_; rotate_left; (obtain ⟨X0, X1, X2, X3, X4, X5, X6, Xf0, Xf1, Xf2, Xf3, Xf4, Xf5, Xf6⟩ := row_seven (row_call X hS); obtain ⟨p0, p1, p2, p3, p4, p5, p6⟩ := HTK.out.below hS HBK.out; dsimp only at p0 p1 p2 p3 p4 p5 p6; obtain ⟨q0, q1, q2, q3, q4, q5, q6⟩ := HTN.out.below hS HBN.out; dsimp only at q0 q1 q2 q3 q4 q5 q6; go_simp; try with_reducible rfl); simp only [Act.put, List.setIfInBounds_toArray, List.set_cons_zero, List.set_cons_succ])
              (refine plan_pure ?_ rfl rfl (fun w' => ?_) ?_; rotate_left; (go_simp; try with_reducible rfl); simp only [Act.put, List.setIfInBounds_toArray, List.set_cons_zero, List.set_cons_succ])
              (refine plan_val ?_ rfl rfl rfl (fun w' hS => ?_) ?_; rotate_left; (obtain ⟨X0, X1, X2, X3, X4, X5, X6, Xf0, Xf1, Xf2, Xf3, Xf4, Xf5, Xf6⟩ := row_seven (row_call X hS); obtain ⟨p0, p1, p2, p3, p4, p5, p6⟩ := HTK.out.below hS HBK.out; dsimp only at p0 p1 p2 p3 p4 p5 p6; obtain ⟨q0, q1, q2, q3, q4, q5, q6⟩ := HTN.out.below hS HBN.out; dsimp only at q0 q1 q2 q3 q4 q5 q6; go_simp; try with_reducible rfl); simp only [Act.put, List.setIfInBounds_toArray, List.set_cons_zero, List.set_cons_succ])
              refine plan_call (.int .i64 x) 25 #[.agg #[.int .i64 sq, .int .i64 tk, .int .i64 n, .int .i64 s, .int .i64 q, .int .i64 lo, .int .i64 hi], .int .i64 agg] rfl rfl rfl (fun _ _ h hb => h.trans (hb.mono h.size)) (fun w' hS => by obtain ⟨X0, X1, X2, X3, X4, X5, X6, Xf0, Xf1, Xf2, Xf3, Xf4, Xf5, Xf6⟩ := row_seven (row_call X hS); obtain ⟨p0, p1, p2, p3, p4, p5, p6⟩ := HTK.out.below hS HBK.out; dsimp only at p0 p1 p2 p3 p4 p5 p6; obtain ⟨q0, q1, q2, q3, q4, q5, q6⟩ := HTN.out.below hS HBN.out; dsimp only at q0 q1 q2 q3 q4 q5 q6; go_simp) (fun w' hS => PX.out w') ?_
              simp only [Act.put, List.setIfInBounds_toArray, List.set_cons_zero, List.set_cons_succ]
              (refine plan_pure ?_ rfl rfl (fun w' => ?_) ?_; rotate_left; (go_simp; try with_reducible rfl); simp only [Act.put, List.setIfInBounds_toArray, List.set_cons_zero, List.set_cons_succ])
              (refine plan_pure ?_ rfl rfl (fun w' => ?_) ?_; rotate_left; (go_simp; try with_reducible rfl); simp only [Act.put, List.setIfInBounds_toArray, List.set_cons_zero, List.set_cons_succ])
              refine plan_nil ?_
              intro w5 L5
              simp only [List.drop_succ_cons, List.drop_zero]
              try simp only [Act.put, List.setIfInBounds_toArray, List.set_cons_zero, List.set_cons_succ]
              replace X := row_call X L5
              replace R := row_call R L5
              replace o := o.trans (L5.mono o.size)
              replace hinL := hinL.below L5
              have hsz5 := Nat.le_trans hsz L5.size
              clear L5 hsz
              have HJ2 := Lib.hid (JSpec.yes (nr := nearB agg k) (L := L) hkN (by rw [HNR2.out]; exact nrd))
              go_wp2
              go_roundw
              case rel => exact ⟨N, N + 1, rfl, by go_num, by omega, by omega, HJ2, hinL, X, R, o, hsz5⟩
              case measure => simp [intOf]; omega
            · have nrd : decide (k * x ≤ (k + 1) * y) = false := decide_eq_false nr
              refine wp_region_free0 [0, 1, 2, 3, 4, 5, 6, 7, 8, 10, 11, 12, 13, 14, 15, 16, 17, 9, 18] [] [0, 1, 2, 3, 4, 5, 6, 7, 8, 9, 10, 11, 12, 13, 14, 15, 16, 17, 18] 19 (fun w' => Below wr.heap.size wr w') (by kernel_rfl) (by kernel_rfl) (fun _ _ d _ _ h => by cases d <;> exact h) ?_ ?_
              · exact (Below.refl _ _).drew
              (refine plan_pure ?_ rfl rfl (fun w' => ?_) ?_; rotate_left; (go_simp; try with_reducible rfl); simp only [Act.put, List.setIfInBounds_toArray, List.set_cons_zero, List.set_cons_succ])
              (refine plan_pure ?_ rfl rfl (fun w' => ?_) ?_; rotate_left; (go_simp; try with_reducible rfl); simp only [Act.put, List.setIfInBounds_toArray, List.set_cons_zero, List.set_cons_succ])
              (refine plan_pure ?_ rfl rfl (fun w' => ?_) ?_; rotate_left; (go_simp; try with_reducible rfl); simp only [Act.put, List.setIfInBounds_toArray, List.set_cons_zero, List.set_cons_succ])
              (refine plan_pure ?_ rfl rfl (fun w' => ?_) ?_; rotate_left; (go_simp; try with_reducible rfl); simp only [Act.put, List.setIfInBounds_toArray, List.set_cons_zero, List.set_cons_succ])
              (refine plan_pure ?_ rfl rfl (fun w' => ?_) ?_; rotate_left; (go_simp; try with_reducible rfl); simp only [Act.put, List.setIfInBounds_toArray, List.set_cons_zero, List.set_cons_succ])
              (refine plan_val ?_ rfl rfl rfl (fun w' hS => ?_) ?_; rotate_left; (obtain ⟨X0, X1, X2, X3, X4, X5, X6, Xf0, Xf1, Xf2, Xf3, Xf4, Xf5, Xf6⟩ := row_seven (row_call X hS); obtain ⟨p0, p1, p2, p3, p4, p5, p6⟩ := HTK.out.below hS HBK.out; dsimp only at p0 p1 p2 p3 p4 p5 p6; obtain ⟨q0, q1, q2, q3, q4, q5, q6⟩ := HTN.out.below hS HBN.out; dsimp only at q0 q1 q2 q3 q4 q5 q6; go_simp; try with_reducible rfl); simp only [Act.put, List.setIfInBounds_toArray, List.set_cons_zero, List.set_cons_succ])
              (refine plan_pure ?_ rfl rfl (fun w' => ?_) ?_; rotate_left; (go_simp; try with_reducible rfl); simp only [Act.put, List.setIfInBounds_toArray, List.set_cons_zero, List.set_cons_succ])
              (refine plan_val ?_ rfl rfl rfl (fun w' hS => ?_) ?_; rotate_left; (obtain ⟨X0, X1, X2, X3, X4, X5, X6, Xf0, Xf1, Xf2, Xf3, Xf4, Xf5, Xf6⟩ := row_seven (row_call X hS); obtain ⟨p0, p1, p2, p3, p4, p5, p6⟩ := HTK.out.below hS HBK.out; dsimp only at p0 p1 p2 p3 p4 p5 p6; obtain ⟨q0, q1, q2, q3, q4, q5, q6⟩ := HTN.out.below hS HBN.out; dsimp only at q0 q1 q2 q3 q4 q5 q6; go_simp; try with_reducible rfl); simp only [Act.put, List.setIfInBounds_toArray, List.set_cons_zero, List.set_cons_succ])
              refine plan_call (.int .i64 y) 25 #[.agg #[.int .i64 osq, .int .i64 otk, .int .i64 on, .int .i64 os, .int .i64 oq, .int .i64 olo, .int .i64 ohi], .int .i64 agg] rfl rfl rfl (fun _ _ h hb => h.trans (hb.mono h.size)) (fun w' hS => by obtain ⟨X0, X1, X2, X3, X4, X5, X6, Xf0, Xf1, Xf2, Xf3, Xf4, Xf5, Xf6⟩ := row_seven (row_call X hS); obtain ⟨p0, p1, p2, p3, p4, p5, p6⟩ := HTK.out.below hS HBK.out; dsimp only at p0 p1 p2 p3 p4 p5 p6; obtain ⟨q0, q1, q2, q3, q4, q5, q6⟩ := HTN.out.below hS HBN.out; dsimp only at q0 q1 q2 q3 q4 q5 q6; go_simp) (fun w' hS => PY.out w') ?_
              simp only [Act.put, List.setIfInBounds_toArray, List.set_cons_zero, List.set_cons_succ]
              (refine plan_pure ?_ rfl rfl (fun w' => ?_) ?_; rotate_left; (go_simp; try with_reducible rfl); simp only [Act.put, List.setIfInBounds_toArray, List.set_cons_zero, List.set_cons_succ])
              (refine plan_pure ?_ rfl rfl (fun w' => ?_) ?_; rotate_left; (go_simp; try with_reducible rfl); simp only [Act.put, List.setIfInBounds_toArray, List.set_cons_zero, List.set_cons_succ])
              (refine plan_pure ?_ rfl rfl (fun w' => ?_) ?_; rotate_left; (go_simp; try with_reducible rfl); simp only [Act.put, List.setIfInBounds_toArray, List.set_cons_zero, List.set_cons_succ])
              (refine plan_pure ?_ rfl rfl (fun w' => ?_) ?_; rotate_left; (go_simp; try with_reducible rfl); simp only [Act.put, List.setIfInBounds_toArray, List.set_cons_zero, List.set_cons_succ])
              (refine plan_val ?_ rfl rfl rfl (fun w' hS => ?_) ?_; rotate_left; (obtain ⟨X0, X1, X2, X3, X4, X5, X6, Xf0, Xf1, Xf2, Xf3, Xf4, Xf5, Xf6⟩ := row_seven (row_call X hS); obtain ⟨p0, p1, p2, p3, p4, p5, p6⟩ := HTK.out.below hS HBK.out; dsimp only at p0 p1 p2 p3 p4 p5 p6; obtain ⟨q0, q1, q2, q3, q4, q5, q6⟩ := HTN.out.below hS HBN.out; dsimp only at q0 q1 q2 q3 q4 q5 q6; go_simp; try with_reducible rfl); simp only [Act.put, List.setIfInBounds_toArray, List.set_cons_zero, List.set_cons_succ])
              (refine plan_pure ?_ rfl rfl (fun w' => ?_) ?_; rotate_left; (go_simp; try with_reducible rfl); simp only [Act.put, List.setIfInBounds_toArray, List.set_cons_zero, List.set_cons_succ])
              (refine plan_val ?_ rfl rfl rfl (fun w' hS => ?_) ?_; rotate_left; (obtain ⟨X0, X1, X2, X3, X4, X5, X6, Xf0, Xf1, Xf2, Xf3, Xf4, Xf5, Xf6⟩ := row_seven (row_call X hS); obtain ⟨p0, p1, p2, p3, p4, p5, p6⟩ := HTK.out.below hS HBK.out; dsimp only at p0 p1 p2 p3 p4 p5 p6; obtain ⟨q0, q1, q2, q3, q4, q5, q6⟩ := HTN.out.below hS HBN.out; dsimp only at q0 q1 q2 q3 q4 q5 q6; go_simp; try with_reducible rfl); simp only [Act.put, List.setIfInBounds_toArray, List.set_cons_zero, List.set_cons_succ])
              refine plan_call (.int .i64 x) 25 #[.agg #[.int .i64 sq, .int .i64 tk, .int .i64 n, .int .i64 s, .int .i64 q, .int .i64 lo, .int .i64 hi], .int .i64 agg] rfl rfl rfl (fun _ _ h hb => h.trans (hb.mono h.size)) (fun w' hS => by obtain ⟨X0, X1, X2, X3, X4, X5, X6, Xf0, Xf1, Xf2, Xf3, Xf4, Xf5, Xf6⟩ := row_seven (row_call X hS); obtain ⟨p0, p1, p2, p3, p4, p5, p6⟩ := HTK.out.below hS HBK.out; dsimp only at p0 p1 p2 p3 p4 p5 p6; obtain ⟨q0, q1, q2, q3, q4, q5, q6⟩ := HTN.out.below hS HBN.out; dsimp only at q0 q1 q2 q3 q4 q5 q6; go_simp) (fun w' hS => PX.out w') ?_
              simp only [Act.put, List.setIfInBounds_toArray, List.set_cons_zero, List.set_cons_succ]
              (refine plan_pure ?_ rfl rfl (fun w' => ?_) ?_; rotate_left; (go_simp; try with_reducible rfl); simp only [Act.put, List.setIfInBounds_toArray, List.set_cons_zero, List.set_cons_succ])
              (refine plan_pure ?_ rfl rfl (fun w' => ?_) ?_; rotate_left; (go_simp; try with_reducible rfl); simp only [Act.put, List.setIfInBounds_toArray, List.set_cons_zero, List.set_cons_succ])
              refine plan_nil ?_
              intro w5 L5
              simp only [List.drop_succ_cons, List.drop_zero]
              try simp only [Act.put, List.setIfInBounds_toArray, List.set_cons_zero, List.set_cons_succ]
              replace X := row_call X L5
              replace R := row_call R L5
              replace o := o.trans (L5.mono o.size)
              replace hinL := hinL.below L5
              have hsz5 := Nat.le_trans hsz L5.size
              clear L5 hsz
              have HJ2 := Lib.hid (HJ.out.no (by rw [HNR2.out]; exact nrd))
              go_wp2
              go_roundw
              case rel => exact ⟨J, N + 1, rfl, by go_num, by omega, by omega, HJ2, hinL, X, R, o, hsz5⟩
              case measure => simp [intOf]; omega
          · have j1 : ¬ (N : Int) < (m' : Int) := by omega
            obtain rfl : N = m' := by omega
            go_wp2
            go_meet
            exact ⟨J, rfl, HJ, hinL, X, R, o, hsz⟩
      case rest =>
        clear X R o hinL
        obtain ⟨J, rfl, HJ, hinL, X, R, o, hsz⟩ := hcut
        by_cases hJ : J = kk
        · subst hJ
          have HP2 := Lib.hid (show L.take (J + 1) ++ prune (nearB agg k) (L.drop (J + 1)) = prune (nearB agg k) (incl l (seq + 1) now v) from by
            rw [← prune_stepA (by rw [HLL.out]; exact hlt) (fun e h1 h2 => by
              rcases HJ.out with ⟨_, h3⟩ | ⟨h3, _⟩
              · exact h3 e h1 (by rw [HLL.out] at h2; exact h2)
              · omega)]
            exact HP.out.1)
          go_wp2
          go_roundw
          case rel => exact ⟨L, J + 1, A', m', c', rfl, by go_num, hinL, by omega, hm', Lib.hid ⟨HP2.out, HP.out.2.1, fun a e => ⟨(HP.out.2.2 a e).1, Nat.lt_of_lt_of_le (HP.out.2.2 a e).2 hsz⟩⟩, X, R, o⟩
          case measure => simp [lenV, intOf]; omega
        · have hkJ : kk < J := by
            rcases HJ.out with ⟨h3, _⟩ | ⟨h3, _⟩
            · exact absurd h3 hJ
            · exact h3
          have hJm : J < m' := by
            rcases HJ.out with ⟨h3, _⟩ | ⟨_, h3, _⟩
            · exact absurd h3 hJ
            · exact h3
          have HP2 := Lib.hid (show L.take (kk + 1) ++ prune (nearB agg k) (L.drop J) = prune (nearB agg k) (incl l (seq + 1) now v) from by
            rcases HJ.out with ⟨h3, _⟩ | ⟨h3, h4, h5, h6⟩
            · exact absurd h3 hJ
            · rw [← prune_stepB h3 (by rw [HLL.out]; exact h4) h5 (fun e g1 g2 => h6 e g1 (by rw [HLL.out] at g2; exact g2))]
              exact HP.out.1)
          obtain ⟨ad1, rfl, hb1, _⟩ := hinL.reads.mk hlt
          have hmc := hinL.mc
          have hcB := hinL.cB
          have RD1 := Lib.hid (hinL.pre (k := kk + 1) (by omega))
          have RD2 := Lib.hid (hinL.post (k := J) (by omega))
          have HMB := Lib.hid (show ∀ i, M64 (mkAt (L.take (kk + 1) ++ L.drop J) i) from M64.all fun x hx => HMI.out x (HP.out.2.1 x (by
            rcases List.mem_append.1 hx with h | h
            · exact (List.take_subset _ _) h
            · exact (List.drop_subset _ _) h)))
          have g1 : (kk : Int) < (J : Int) := by omega
          have s1 : (kk : Int) + 1 ≤ (c' : Int) := by omega
          have s2 : (0 : Int) ≤ (kk : Int) + 1 := by omega
          have s3 : ((kk : Int) + 1).toNat = kk + 1 := by omega
          have s4 : (J : Int) ≤ (m' : Int) := by omega
          have s5 : (m' : Int) ≤ (c' : Int) := by omega
          have s6 : ¬ c' = J := by omega
          have s7 : (0 : Int) ≤ (J : Int) := by omega
          obtain ⟨i0, hi0, iz0, iz1, iz2⟩ := info_parts info_mk
          go_upto_region 20 with (fail)
          refine wp_region_phase 10 (fun w' => Row w' (w.heap.size) 24 #[.int .i64 agg, .int .i64 wd, .int .i64 k, .int .i64 cap, .int .i64 now, .int .i64 (seq + 1), .slice A 0 c] ∧ Row w' (w.heap.size + 1) 24 #[.int .i64 0, .int .i64 0, .int .i64 0, .int .i64 0, .int .i64 0, .int .i64 0, .slice none 0 0] ∧ Below w.heap.size w w') (by kernel_rfl) (by kernel_rfl) (by kernel_rfl) (by kernel_rfl) (by kernel_rfl) (fun HOK => ?_)
          have HS := (⟨X, R, o.drew⟩ : Row wc.drew (w.heap.size) 24 #[.int .i64 agg, .int .i64 wd, .int .i64 k, .int .i64 cap, .int .i64 now, .int .i64 (seq + 1), .slice A 0 c] ∧ Row wc.drew (w.heap.size + 1) 24 #[.int .i64 0, .int .i64 0, .int .i64 0, .int .i64 0, .int .i64 0, .int .i64 0, .slice none 0 0] ∧ Below w.heap.size w wc.drew)
          (refine hw_take HOK (i := 1) ?_ rfl (by decide) (by kernel_rfl) (by kernel_rfl) (by exact fun _ _ _ h => h) (Or.inl ⟨by rfl, fun w' hS => ?_⟩) HS ?_; rotate_left; (go_simp; try with_reducible rfl); simp only [Act.put, List.setIfInBounds_toArray, List.set_cons_zero, List.set_cons_succ])
          (refine hw_take HOK (i := 2) ?_ rfl (by decide) (by kernel_rfl) (by kernel_rfl) (by exact fun _ _ _ h => h) (Or.inl ⟨by rfl, fun w' hS => ?_⟩) HS ?_; rotate_left; (go_simp; try with_reducible rfl); simp only [Act.put, List.setIfInBounds_toArray, List.set_cons_zero, List.set_cons_succ])
          (refine hw_take HOK (i := 3) ?_ rfl (by decide) (by kernel_rfl) (by kernel_rfl) (by exact fun _ _ _ h => h) (Or.inl ⟨by rfl, fun w' hS => ?_⟩) HS ?_; rotate_left; (go_simp; try with_reducible rfl); simp only [Act.put, List.setIfInBounds_toArray, List.set_cons_zero, List.set_cons_succ])
          (refine hw_take HOK (i := 4) ?_ rfl (by decide) (by kernel_rfl) (by kernel_rfl) (by exact fun _ _ _ h => h) (Or.inl ⟨by rfl, fun w' hS => ?_⟩) HS ?_; rotate_left; (go_simp; try with_reducible rfl); simp only [Act.put, List.setIfInBounds_toArray, List.set_cons_zero, List.set_cons_succ])
          (refine hw_take HOK (i := 6) ?_ rfl (by decide) (by kernel_rfl) (by kernel_rfl) (by exact fun _ _ _ h => h) (Or.inl ⟨by rfl, fun w' hS => ?_⟩) HS ?_; rotate_left; (go_simp; try with_reducible rfl); simp only [Act.put, List.setIfInBounds_toArray, List.set_cons_zero, List.set_cons_succ])
          (refine hw_take HOK (i := 7) ?_ rfl (by decide) (by kernel_rfl) (by kernel_rfl) (by exact fun _ _ _ h => h) (Or.inl ⟨by rfl, fun w' hS => ?_⟩) HS ?_; rotate_left; (go_simp; try with_reducible rfl); simp only [Act.put, List.setIfInBounds_toArray, List.set_cons_zero, List.set_cons_succ])
          (refine hw_take HOK (i := 8) ?_ rfl (by decide) (by kernel_rfl) (by kernel_rfl) (by exact fun _ _ _ h => h) (Or.inl ⟨by rfl, fun w' hS => ?_⟩) HS ?_; rotate_left; (go_simp; try with_reducible rfl); simp only [Act.put, List.setIfInBounds_toArray, List.set_cons_zero, List.set_cons_succ])
          refine hw_one (i := 0) rfl (by decide) (by kernel_rfl) (fun K hK => ?_)
          go_simp
          refine hK _ _ ⟨row_drew (row_alloc X _), row_drew (row_alloc R _), (o.alloc o.size _).drew⟩ ?_
          clear hK K HS
          refine hw_one (i := 5) rfl (by decide) (by kernel_rfl) (fun K hK => ?_)
          refine step_clone rfl _ _ 22 rfl 43 i0 (.agg #[.int .i64 0, .int .i64 0, .int .i64 0, .int .i64 0, .int .i64 0, .int .i64 0, .int .i64 0]) 7 56 Try.underlying22 hi0 iz0 iz1 iz2 rfl (by decide) rfl wc.heap.size (some ad1) (kk + 1) c' (mcells (L.take (kk + 1))) rfl RD1.out (Nat.le_refl _) (mcells_one _) (by unfold maxLen at *; omega) (by omega) ?_
          intro g c5 w5 own5 hg5 hb5 hz5
          have U0 := row_call X hb5
          have U1 := row_call R hb5
          have o5 := o.trans (hb5.mono o.size)
          have zR := row_lt R
          refine hK _ _ ⟨U0, U1, o5⟩ ?_
          clear hK K
          try simp only [Act.put, List.setIfInBounds_toArray, List.set_cons_zero, List.set_cons_succ]
          refine hw_one (i := 9) rfl (by decide) (by kernel_rfl) (fun K hK => ?_)
          refine step_append_any w5 rfl _ _ 22 rfl wc.heap.size 43 i0 (.agg #[.int .i64 0, .int .i64 0, .int .i64 0, .int .i64 0, .int .i64 0, .int .i64 0, .int .i64 0]) 7 56 Try.underlying22 hi0 iz0 iz1 iz2 rfl (by decide) (.slice (some ⟨g, 0, none⟩) (kk + 1) c5) (kk + 1) (mcells (L.take (kk + 1))) rfl (own5.row hg5) w5.heap.size (some (ad1.add (J * 7))) (m' - J) (c' - J) (mcells (L.drop J)) rfl ((RD2.out.below hb5).more hb5.size) (mcells_one _) (by unfold maxLen at *; omega) (by omega) hb5.size ?_
          intro v6 w6 own6 hg6 hat6
          have zg : w.heap.size + 1 < g := by omega
          have e0 : (Value.slice (some ⟨g, 0, none⟩) (kk + 1) c5).ownBlock = some g := rfl
          rw [e0] at hg6
          have V0 := row_grown U0 hg6 (by intro e; injection e; omega)
          have V1 := row_grown U1 hg6 (by intro e; injection e; omega)
          have o6 := below_grown o5 hg6 (fun b e => by injection e; omega) o5.size
          rw [← mcells_append] at own6
          obtain ⟨A6, c6, rfl, in6, fr6⟩ := MIn.of_row own6 HMB.out
          have fr7 : ∀ a, A6 = some a → w.heap.size + 1 < a.block ∧ a.block < w6.heap.size := fun a e => ⟨by have := (fr6 a e).1; omega, (fr6 a e).2⟩
          refine hK _ _ ⟨V0, V1, o6⟩ ?_
          clear hK K
          try simp only [Act.put, List.setIfInBounds_toArray, List.set_cons_zero, List.set_cons_succ]
          refine hw_done (by kernel_rfl) ?_
          simp only [List.drop_succ_cons, List.drop_zero]
          have hlt2 : (L.take (kk + 1)).length = kk + 1 := by rw [List.length_take, HLL.out]; omega
          have HP3 := Lib.hid (show (L.take (kk + 1) ++ L.drop J).take (kk + 1) ++ prune (nearB agg k) ((L.take (kk + 1) ++ L.drop J).drop (kk + 1)) = prune (nearB agg k) (incl l (seq + 1) now v) ∧ ∀ x ∈ L.take (kk + 1) ++ L.drop J, x ∈ incl l (seq + 1) now v from ⟨by
            rw [List.take_left' hlt2, List.drop_left' hlt2]
            exact HP2.out, fun x hx => HP.out.2.1 x (by
            rcases List.mem_append.1 hx with h | h
            · exact (List.take_subset _ _) h
            · exact (List.drop_subset _ _) h)⟩)
          have hmm2 : kk + 1 + (m' - J) ≤ m' := by omega
          clear HOK U0 U1 own5 hb5 own6 hg6 hat6 RD1 RD2 HMB hlt2 e0 o5 X R o
          go_wp2
          go_roundw
          case rel => exact ⟨L.take (kk + 1) ++ L.drop J, kk + 1, A6, kk + 1 + (m' - J), c6, rfl, by go_num, in6, by omega, by omega, Lib.hid ⟨HP3.out.1, HP3.out.2, fr7⟩, V0, V1, o6⟩
          case measure => simp [lenV, intOf]; omega
    · have i1 : ¬ (kk : Int) < (m' : Int) := by omega
      obtain rfl : kk = m' := by omega
      have HE : RowKit.Hid (L = prune (nearB agg k) (incl l (seq + 1) now v)) := Lib.hid (by
        have h := HP.out.1
        rw [List.take_of_length_le (by rw [HLL.out]; exact Nat.le_refl _), List.drop_of_length_le (by rw [HLL.out]; exact Nat.le_refl _), prune_nil, List.append_nil] at h
        exact h)
      have FR := Lib.hid HP.out.2.2
      have INP := Lib.hid hinL
      clear hinL
      obtain ⟨X0, X1, X2, X3, X4, X5, X6, Xf0, Xf1, Xf2, Xf3, Xf4, Xf5, Xf6⟩ := row_seven X
      obtain ⟨R0, R1, R2, R3, R4, R5, R6, Rf0, Rf1, Rf2, Rf3, Rf4, Rf5, Rf6⟩ := row_seven R
      have XR := Lib.hid X
      have RR := Lib.hid R
      clear X R
      go_upto_region 22 with (fail)
      have X : Row (wr.setCell ⟨w.heap.size, 6, none⟩ (.slice A' kk c')) (w.heap.size) 24 #[.int .i64 agg, .int .i64 wd, .int .i64 k, .int .i64 cap, .int .i64 now, .int .i64 (seq + 1), .slice A' kk c'] := row_set XR.out 6 _
      have R : Row (wr.setCell ⟨w.heap.size, 6, none⟩ (.slice A' kk c')) (w.heap.size + 1) 24 #[.int .i64 0, .int .i64 0, .int .i64 0, .int .i64 0, .int .i64 0, .int .i64 0, .slice none 0 0] := row_other (p := ⟨w.heap.size, 6, none⟩) RR.out (by show w.heap.size + 1 ≠ w.heap.size; omega) _
      have o6 : Below w.heap.size w (wr.setCell ⟨w.heap.size, 6, none⟩ (.slice A' kk c')) := o.setCell (p := ⟨w.heap.size, 6, none⟩) (Nat.le_refl _) _
      have INP6 := Lib.hid (INP.out.keep (w' := wr.setCell ⟨w.heap.size, 6, none⟩ (.slice A' kk c')) (by rw [size_setCell]; exact Nat.le_refl _) (fun a e => Below.heap_setCell _ ⟨w.heap.size, 6, none⟩ _ a.block (by have := FR.out a e; show a.block ≠ w.heap.size; omega)))
      have hs6 : wr.heap.size ≤ (wr.setCell ⟨w.heap.size, 6, none⟩ (.slice A' kk c')).heap.size := by rw [size_setCell]; exact Nat.le_refl _
      generalize wr.setCell ⟨w.heap.size, 6, none⟩ (.slice A' kk c') = w6 at X R o6 INP6 hs6 ⊢
      clear X0 X1 X2 X3 X4 X5 X6 Xf0 Xf1 Xf2 Xf3 Xf4 Xf5 Xf6 R0 R1 R2 R3 R4 R5 R6 Rf0 Rf1 Rf2 Rf3 Rf4 Rf5 Rf6 XR RR INP o
      obtain ⟨X0, X1, X2, X3, X4, X5, X6, Xf0, Xf1, Xf2, Xf3, Xf4, Xf5, Xf6⟩ := row_seven X
      obtain ⟨R0, R1, R2, R3, R4, R5, R6, Rf0, Rf1, Rf2, Rf3, Rf4, Rf5, Rf6⟩ := row_seven R
      go_wp2
      have hbge : w.heap.size ≤ w.heap.size + 1 := by omega
      have hkp : ∀ b', b' ≠ w.heap.size + 1 → ((((((((w6.setCell ⟨w.heap.size + 1, 0, none⟩ (.int .i64 agg)).setCell ⟨w.heap.size + 1, 1, none⟩ (.int .i64 wd)).setCell ⟨w.heap.size + 1, 2, none⟩ (.int .i64 k)).setCell ⟨w.heap.size + 1, 3, none⟩ (.int .i64 cap)).setCell ⟨w.heap.size + 1, 4, none⟩ (.int .i64 now)).setCell ⟨w.heap.size + 1, 5, none⟩ (.int .i64 (seq + 1))).setCell ⟨w.heap.size + 1, 6, none⟩ (.slice A' kk c'))).heap[b']? = w6.heap[b']? := fun b' h' => ((Below.heap_setCell _ ⟨w.heap.size + 1, 6, none⟩ (.slice A' kk c') b' h').trans ((Below.heap_setCell _ ⟨w.heap.size + 1, 5, none⟩ (.int .i64 (seq + 1)) b' h').trans ((Below.heap_setCell _ ⟨w.heap.size + 1, 4, none⟩ (.int .i64 now) b' h').trans ((Below.heap_setCell _ ⟨w.heap.size + 1, 3, none⟩ (.int .i64 cap) b' h').trans ((Below.heap_setCell _ ⟨w.heap.size + 1, 2, none⟩ (.int .i64 k) b' h').trans ((Below.heap_setCell _ ⟨w.heap.size + 1, 1, none⟩ (.int .i64 wd) b' h').trans ((Below.heap_setCell _ ⟨w.heap.size + 1, 0, none⟩ (.int .i64 agg) b' h').trans rfl)))))))
      have hksz : w6.heap.size ≤ ((((((((w6.setCell ⟨w.heap.size + 1, 0, none⟩ (.int .i64 agg)).setCell ⟨w.heap.size + 1, 1, none⟩ (.int .i64 wd)).setCell ⟨w.heap.size + 1, 2, none⟩ (.int .i64 k)).setCell ⟨w.heap.size + 1, 3, none⟩ (.int .i64 cap)).setCell ⟨w.heap.size + 1, 4, none⟩ (.int .i64 now)).setCell ⟨w.heap.size + 1, 5, none⟩ (.int .i64 (seq + 1))).setCell ⟨w.heap.size + 1, 6, none⟩ (.slice A' kk c'))).heap.size := by simp only [size_setCell]; exact Nat.le_refl _
      have R9 : Row (((((((w6.setCell ⟨w.heap.size + 1, 0, none⟩ (.int .i64 agg)).setCell ⟨w.heap.size + 1, 1, none⟩ (.int .i64 wd)).setCell ⟨w.heap.size + 1, 2, none⟩ (.int .i64 k)).setCell ⟨w.heap.size + 1, 3, none⟩ (.int .i64 cap)).setCell ⟨w.heap.size + 1, 4, none⟩ (.int .i64 now)).setCell ⟨w.heap.size + 1, 5, none⟩ (.int .i64 (seq + 1))).setCell ⟨w.heap.size + 1, 6, none⟩ (.slice A' kk c')) (w.heap.size + 1) 24 #[.int .i64 agg, .int .i64 wd, .int .i64 k, .int .i64 cap, .int .i64 now, .int .i64 (seq + 1), .slice A' kk c'] := (row_set (row_set (row_set (row_set (row_set (row_set (row_set R 0 (.int .i64 agg)) 1 (.int .i64 wd)) 2 (.int .i64 k)) 3 (.int .i64 cap)) 4 (.int .i64 now)) 5 (.int .i64 (seq + 1))) 6 (.slice A' kk c'))
      have o9 : Below w.heap.size w (((((((w6.setCell ⟨w.heap.size + 1, 0, none⟩ (.int .i64 agg)).setCell ⟨w.heap.size + 1, 1, none⟩ (.int .i64 wd)).setCell ⟨w.heap.size + 1, 2, none⟩ (.int .i64 k)).setCell ⟨w.heap.size + 1, 3, none⟩ (.int .i64 cap)).setCell ⟨w.heap.size + 1, 4, none⟩ (.int .i64 now)).setCell ⟨w.heap.size + 1, 5, none⟩ (.int .i64 (seq + 1))).setCell ⟨w.heap.size + 1, 6, none⟩ (.slice A' kk c')) := (Below.setCell (p := ⟨w.heap.size + 1, 6, none⟩) (Below.setCell (p := ⟨w.heap.size + 1, 5, none⟩) (Below.setCell (p := ⟨w.heap.size + 1, 4, none⟩) (Below.setCell (p := ⟨w.heap.size + 1, 3, none⟩) (Below.setCell (p := ⟨w.heap.size + 1, 2, none⟩) (Below.setCell (p := ⟨w.heap.size + 1, 1, none⟩) (Below.setCell (p := ⟨w.heap.size + 1, 0, none⟩) o6 hbge (.int .i64 agg)) hbge (.int .i64 wd)) hbge (.int .i64 k)) hbge (.int .i64 cap)) hbge (.int .i64 now)) hbge (.int .i64 (seq + 1))) hbge (.slice A' kk c'))
      generalize (((((((w6.setCell ⟨w.heap.size + 1, 0, none⟩ (.int .i64 agg)).setCell ⟨w.heap.size + 1, 1, none⟩ (.int .i64 wd)).setCell ⟨w.heap.size + 1, 2, none⟩ (.int .i64 k)).setCell ⟨w.heap.size + 1, 3, none⟩ (.int .i64 cap)).setCell ⟨w.heap.size + 1, 4, none⟩ (.int .i64 now)).setCell ⟨w.heap.size + 1, 5, none⟩ (.int .i64 (seq + 1))).setCell ⟨w.heap.size + 1, 6, none⟩ (.slice A' kk c')) = w9 at R9 o9 hkp hksz ⊢
      obtain ⟨N0, N1, N2, N3, N4, N5, N6, Nf0, Nf1, Nf2, Nf3, Nf4, Nf5, Nf6⟩ := row_seven R9
      exact bodyPost_ret (v := .tuple #[.agg #[.int .i64 agg, .int .i64 wd, .int .i64 k, .int .i64 cap, .int .i64 now, .int .i64 (seq + 1), .slice A' kk c'], .int .i64 0]) (by simp [results, Try.results15, go_sem, List.getElem?_toArray, N0, N1, N2, N3, N4, N5, N6]) rfl (smret_ok (HE.out ▸ INP6.out.keep hksz (fun a e => hkp a.block (by have := FR.out a e; omega))) o9 (fun a e => .inl (by have := FR.out a e; omega)))
theorem rsmadd (A : Option Addr) (m c : Nat) (l : List Mk) (agg wd k cap now seq : Int) (v : Int) (w : World) (hin : MIn A m c l w) (sB : I64 seq) (hmm : m ≤ 100000) : Calls Try.prog 15 #[.agg #[.int .i64 agg, .int .i64 wd, .int .i64 k, .int .i64 cap, .int .i64 now, .int .i64 seq, .slice A m c], .int .i64 v] w fun e w' => SmRet A (smAdd agg wd k cap now seq l v) w e w' := by
  rcases smvalE_two (agg := agg) (wd := wd) (k := k) (cap := cap) (now := now) (seq := seq) (l := l) with hv | hv
  · by_cases h0 : v < leastV agg
    · exact rsmadd_b A m c l agg wd k cap now seq v w hin sB hv (.inl h0)
    · by_cases h1 : 4096 < v
      · exact rsmadd_b A m c l agg wd k cap now seq v w hin sB hv (.inr h1)
      · have hl := hin.len
        by_cases hm0 : 0 < m
        · have hne : l ≠ [] := fun e => by rw [e] at hl; simp at hl; omega
          by_cases hn : (mkAt l 0).n = cap
          · exact rsmadd_c1 A m c l agg wd k cap now seq v w hin sB hv h0 h1 hm0 hn (.inl ⟨hne, hn⟩)
          · by_cases hs : seq = 1099511627776
            · exact rsmadd_c2 A m c l agg wd k cap now seq v w hin sB hv h0 h1 hm0 hn hs (.inr hs)
            · exact rsmadd_d1 A m c l agg wd k cap now seq v w hin sB hv h0 h1 hmm hm0 hn hs (fun a => a.elim (fun a => hn a.2) hs)
        · obtain rfl : m = 0 := by omega
          have he : l = [] := by simpa using hl
          by_cases hs : seq = 1099511627776
          · exact rsmadd_c3 A c l agg wd k cap now seq v w hin sB hv h0 h1 hs (.inr hs)
          · exact rsmadd_d0 A c l agg wd k cap now seq v w hin sB hv h0 h1 hs (fun a => a.elim (fun a => a.1 he) hs)
  · exact rsmadd_a A m c l agg wd k cap now seq v w hin sB hv
end Go.Proofs.Ythknkdjpfanlnaa
