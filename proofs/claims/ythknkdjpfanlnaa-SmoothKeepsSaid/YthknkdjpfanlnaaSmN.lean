/- Smooth histograms: what a call that answers a state leaves; New, walked. -/
import Derived.Test.YthknkdjpfanlnaaSmW
import Derived.Test.YthknkdjpfanlnaaMkP
set_option linter.unusedVariables false
set_option linter.unusedSimpArgs false
set_option linter.unusedSectionVars false
set_option linter.unnecessarySimpa false
namespace Go.Proofs.Ythknkdjpfanlnaa
open Go.RowKit
theorem M64.of_one {seq cap now w least : Int} {m : Mk} (h : oneP seq cap now w least m) (hs : seq ≤ 1099511627777) (hc : cap ≤ 65536) (hn : now ≤ 16777216) (hl : -4096 ≤ least) : M64 m := by
  obtain ⟨⟨n0, n1⟩, ⟨s0, s1⟩, q0, q1⟩ := SmallM.of_one h hc hl
  obtain ⟨h1, h2, h3, h4, h5, h6, h7, h8, h9, _⟩ := h
  unfold M64 I64
  omega
theorem mkAt_out {l : List Mk} {i : Nat} (h : l.length ≤ i) : mkAt l i = Mk.zero := by
  unfold mkAt
  rw [List.getD_eq_getElem?_getD, List.getElem?_eq_none h]
  rfl
theorem M64.all {l : List Mk} (h : ∀ m ∈ l, M64 m) (i : Nat) : M64 (mkAt l i) := by
  by_cases hi : i < l.length
  · exact h _ (mkAt_mem hi)
  · rw [mkAt_out (by omega)]
    exact M64_zero
/-- Marks of the call's own, as an argument. -/
theorem MIn.of_row {w : World} {base n : Nat} {v : Value} {l : List Mk} (h : w.ownsRow base 43 7 v n (mcells l)) (hB : ∀ i, M64 (mkAt l i)) : ∃ A c, v = .slice A n c ∧ MIn A n c l w ∧ ∀ a, A = some a → base ≤ a.block ∧ a.block < w.heap.size := by
  obtain ⟨A, c, rfl, hr, h1, h2, h3⟩ := orow_forms h
  exact ⟨A, c, rfl, ⟨hr, hB, h1, h2⟩, h3⟩
theorem MIn.keep {A : Option Addr} {m c : Nat} {l : List Mk} {w w' : World} (h : MIn A m c l w) (hs : w.heap.size ≤ w'.heap.size) (hk : ∀ a, A = some a → w'.heap[a.block]? = w.heap[a.block]?) : MIn A m c l w' := by
  refine ⟨⟨h.reads.1, fun hn => ?_⟩, h.mB, h.mc, h.cB⟩
  obtain ⟨ad, e, hb, hc⟩ := h.reads.2 hn
  exact ⟨ad, e, Nat.lt_of_lt_of_le hb hs, fun j u hu => (World.cell?_of_block (by rw [block_of_add]; exact hk ad e)).trans (hc j u hu)⟩
/-- What a call of an operation leaves: a state and an error. -/
def SmRet (A0 : Option Addr) (r : SmOut) (w : World) (e : Ending) (w' : World) : Prop :=
  ∃ (A : Option Addr) (m c : Nat), e = .returned (.tuple #[.agg #[.int .i64 r.agg, .int .i64 r.wd, .int .i64 r.k, .int .i64 r.cap, .int .i64 r.now, .int .i64 r.seq, .slice A m c], .int .i64 r.f]) ∧ MIn A m c r.ms w' ∧ Below w.heap.size w w' ∧ ∀ a, A = some a → (w.heap.size ≤ a.block ∧ a.block < w'.heap.size) ∨ ∃ b, A0 = some b ∧ a.block = b.block
theorem min_nil {w : World} : MIn none 0 0 [] w := ⟨by simpa [mcells_nil] using Reads.none_, fun i => by rw [mkAt_out (by simp)]; exact M64_zero, Nat.le_refl _, Nat.zero_le _⟩
theorem smret_new {A0 : Option Addr} {w w' : World} {agg wd k cap now f : Int} (hb : Below w.heap.size w w') : SmRet A0 ⟨agg, wd, k, cap, now, 0, [], f⟩ w (.returned (.tuple #[.agg #[.int .i64 agg, .int .i64 wd, .int .i64 k, .int .i64 cap, .int .i64 now, .int .i64 0, .slice none 0 0], .int .i64 f])) w' :=
  ⟨none, 0, 0, rfl, min_nil, hb, fun a h => by cases h⟩
theorem smret_zero {A0 : Option Addr} {w w' : World} {f : Int} (hb : Below w.heap.size w w') : SmRet A0 (smZero f) w (.returned (.tuple #[.agg #[.int .i64 0, .int .i64 0, .int .i64 0, .int .i64 0, .int .i64 0, .int .i64 0, .slice none 0 0], .int .i64 f])) w' := smret_new hb
theorem smret_ok {A0 A : Option Addr} {m c : Nat} {w w' : World} {agg wd k cap now seq f : Int} {ms : List Mk} (h : MIn A m c ms w') (hb : Below w.heap.size w w') (hf : ∀ a, A = some a → (w.heap.size ≤ a.block ∧ a.block < w'.heap.size) ∨ ∃ b, A0 = some b ∧ a.block = b.block) :
    SmRet A0 ⟨agg, wd, k, cap, now, seq, ms, f⟩ w (.returned (.tuple #[.agg #[.int .i64 agg, .int .i64 wd, .int .i64 k, .int .i64 cap, .int .i64 now, .int .i64 seq, .slice A m c], .int .i64 f])) w' := ⟨A, m, c, rfl, h, hb, hf⟩
theorem smret_at {A0 : Option Addr} {r : SmOut} {agg wd k cap now seq f : Int} {ms : List Mk} {w w' : World} {e : Ending} (hr : r = ⟨agg, wd, k, cap, now, seq, ms, f⟩) (h : SmRet A0 r w e w') :
    ∃ A m c, e = .returned (.tuple #[.agg #[.int .i64 agg, .int .i64 wd, .int .i64 k, .int .i64 cap, .int .i64 now, .int .i64 seq, .slice A m c], .int .i64 f]) ∧ MIn A m c ms w' ∧ Below w.heap.size w w' ∧ ∀ a, A = some a → (w.heap.size ≤ a.block ∧ a.block < w'.heap.size) ∨ ∃ b, A0 = some b ∧ a.block = b.block := by
  subst hr
  exact h
theorem psmnew (agg wd k cap now : Int) (w : World) : Calls Try.prog 21 #[.int .i64 agg, .int .i64 wd, .int .i64 k, .int .i64 cap, .int .i64 now] w fun e w' => SmRet none (smNew agg wd k cap now) w e w' := by
  have PG := fun w => pgoodS agg wd k cap now w
  by_cases h : smGood agg wd k cap now
  · rw [decide_eq_true h] at PG
    replace PG := Lib.hid PG
    unfold smNew
    rw [if_pos h]
    clear h
    go_enter Try.func21, Try.ntmps21
    go_wp2_with (go_at_call 36; with_reducible refine (PG.out _).mono ?_; rintro e w9 ⟨rfl, h9⟩; obtain rfl := h9.symm)
    exact bodyPost_ret (v := .tuple #[.agg #[.int .i64 agg, .int .i64 wd, .int .i64 k, .int .i64 cap, .int .i64 now, .int .i64 0, .slice none 0 0], .int .i64 0]) (by simp [results, Try.results21, go_sem, List.getElem?_toArray]) rfl (smret_new (by (repeat (first | exact Below.refl _ _ | refine Below.setCell ?_ (by first | (simp; done) | (simp; omega) | omega) _ | refine Below.alloc ?_ (by first | (simp; done) | (simp; omega) | omega) _ | refine Below.drew ?_ | refine Below.trans ?_ (Below.mono (by assumption) (by first | (simp; done) | (simp; omega) | omega))))))
  · rw [decide_eq_false h] at PG
    replace PG := Lib.hid PG
    unfold smNew
    rw [if_neg h]
    clear h
    go_enter Try.func21, Try.ntmps21
    go_wp2_with (go_at_call 36; with_reducible refine (PG.out _).mono ?_; rintro e w9 ⟨rfl, h9⟩; obtain rfl := h9.symm)
    exact bodyPost_ret (v := .tuple #[.agg #[.int .i64 0, .int .i64 0, .int .i64 0, .int .i64 0, .int .i64 0, .int .i64 0, .slice none 0 0], .int .i64 1]) (by simp [results, Try.results21, go_sem, List.getElem?_toArray]) rfl (smret_zero (by (repeat (first | exact Below.refl _ _ | refine Below.setCell ?_ (by first | (simp; done) | (simp; omega) | omega) _ | refine Below.alloc ?_ (by first | (simp; done) | (simp; omega) | omega) _ | refine Below.drew ?_ | refine Below.trans ?_ (Below.mono (by assumption) (by first | (simp; done) | (simp; omega) | omega))))))
theorem rsmnew_a (agg wd k cap now : Int) (w : World) (h : ¬ (1 ≤ agg ∧ agg ≤ 4)) : Calls Try.prog 23 #[.int .i64 agg, .int .i64 wd, .int .i64 k, .int .i64 cap, .int .i64 now] w fun e w' => SmRet none (smNew agg wd k cap now) w e w' := by
  unfold smNew
  rw [if_neg (fun a => h a.1)]
  have PA := fun w => rmayaggD agg w
  rw [decide_eq_false h] at PA
  replace PA := Lib.hid PA
  clear h
  go_enter Try.func23, Try.ntmps23
  go_wp2_with (first | (go_at_call 40; with_reducible refine (PA.out _).mono ?_; rintro e w9 ⟨rfl, h9⟩; obtain rfl := h9.symm))
  exact bodyPost_ret (v := .tuple #[.agg #[.int .i64 0, .int .i64 0, .int .i64 0, .int .i64 0, .int .i64 0, .int .i64 0, .slice none 0 0], .int .i64 1]) (by simp [results, Try.results23, go_sem, List.getElem?_toArray]) rfl (smret_zero (by (repeat (first | exact Below.refl _ _ | refine Below.setCell ?_ (by first | (simp; done) | (simp; omega) | omega) _ | refine Below.alloc ?_ (by first | (simp; done) | (simp; omega) | omega) _ | refine Below.drew ?_ | refine Below.trans ?_ (Below.mono (by assumption) (by first | (simp; done) | (simp; omega) | omega))))))
theorem rsmnew_b (agg wd k cap now : Int) (w : World) (hA : 1 ≤ agg ∧ agg ≤ 4) (h : ¬ (1 ≤ wd ∧ wd ≤ 1048576 ∧ 1 ≤ cap ∧ cap ≤ 65536 ∧ 0 ≤ now ∧ now ≤ 16777216)) : Calls Try.prog 23 #[.int .i64 agg, .int .i64 wd, .int .i64 k, .int .i64 cap, .int .i64 now] w fun e w' => SmRet none (smNew agg wd k cap now) w e w' := by
  unfold smNew
  rw [if_neg (fun a => h ⟨a.2.1, a.2.2.1, a.2.2.2.2.2.1, a.2.2.2.2.2.2.1, a.2.2.2.2.2.2.2⟩)]
  have PA := fun w => rmayaggD agg w
  have PB := fun w => rmay wd cap now w
  rw [decide_eq_true hA] at PA
  replace PA := Lib.hid PA
  rw [decide_eq_false h] at PB
  replace PB := Lib.hid PB
  clear h hA
  go_enter Try.func23, Try.ntmps23
  go_wp2_with (first | (go_at_call 40; with_reducible refine (PA.out _).mono ?_; rintro e w9 ⟨rfl, h9⟩; obtain rfl := h9.symm) | (go_at_call 41; with_reducible refine (PB.out _).mono ?_; rintro e w9 ⟨rfl, h9⟩; obtain rfl := h9.symm))
  exact bodyPost_ret (v := .tuple #[.agg #[.int .i64 0, .int .i64 0, .int .i64 0, .int .i64 0, .int .i64 0, .int .i64 0, .slice none 0 0], .int .i64 1]) (by simp [results, Try.results23, go_sem, List.getElem?_toArray]) rfl (smret_zero (by (repeat (first | exact Below.refl _ _ | refine Below.setCell ?_ (by first | (simp; done) | (simp; omega) | omega) _ | refine Below.alloc ?_ (by first | (simp; done) | (simp; omega) | omega) _ | refine Below.drew ?_ | refine Below.trans ?_ (Below.mono (by assumption) (by first | (simp; done) | (simp; omega) | omega))))))
theorem rsmnew_c (agg wd k cap now : Int) (w : World) (hA : 1 ≤ agg ∧ agg ≤ 4) (hB : 1 ≤ wd ∧ wd ≤ 1048576 ∧ 1 ≤ cap ∧ cap ≤ 65536 ∧ 0 ≤ now ∧ now ≤ 16777216) (h : ¬ (1 ≤ k ∧ k ≤ 64)) : Calls Try.prog 23 #[.int .i64 agg, .int .i64 wd, .int .i64 k, .int .i64 cap, .int .i64 now] w fun e w' => SmRet none (smNew agg wd k cap now) w e w' := by
  unfold smNew
  rw [if_neg (fun a => h ⟨a.2.2.2.1, a.2.2.2.2.1⟩)]
  have PA := fun w => rmayaggD agg w
  have PB := fun w => rmay wd cap now w
  have PC := fun w => rmayk k w
  rw [decide_eq_true hA] at PA
  replace PA := Lib.hid PA
  rw [decide_eq_true hB] at PB
  replace PB := Lib.hid PB
  rw [decide_eq_false h] at PC
  replace PC := Lib.hid PC
  clear h hA hB
  go_enter Try.func23, Try.ntmps23
  go_wp2_with (first | (go_at_call 40; with_reducible refine (PA.out _).mono ?_; rintro e w9 ⟨rfl, h9⟩; obtain rfl := h9.symm) | (go_at_call 41; with_reducible refine (PB.out _).mono ?_; rintro e w9 ⟨rfl, h9⟩; obtain rfl := h9.symm) | (go_at_call 42; with_reducible refine (PC.out _).mono ?_; rintro e w9 ⟨rfl, h9⟩; obtain rfl := h9.symm))
  exact bodyPost_ret (v := .tuple #[.agg #[.int .i64 0, .int .i64 0, .int .i64 0, .int .i64 0, .int .i64 0, .int .i64 0, .slice none 0 0], .int .i64 1]) (by simp [results, Try.results23, go_sem, List.getElem?_toArray]) rfl (smret_zero (by (repeat (first | exact Below.refl _ _ | refine Below.setCell ?_ (by first | (simp; done) | (simp; omega) | omega) _ | refine Below.alloc ?_ (by first | (simp; done) | (simp; omega) | omega) _ | refine Below.drew ?_ | refine Below.trans ?_ (Below.mono (by assumption) (by first | (simp; done) | (simp; omega) | omega))))))
theorem rsmnew_d (agg wd k cap now : Int) (w : World) (hA : 1 ≤ agg ∧ agg ≤ 4) (hB : 1 ≤ wd ∧ wd ≤ 1048576 ∧ 1 ≤ cap ∧ cap ≤ 65536 ∧ 0 ≤ now ∧ now ≤ 16777216) (hC : 1 ≤ k ∧ k ≤ 64) : Calls Try.prog 23 #[.int .i64 agg, .int .i64 wd, .int .i64 k, .int .i64 cap, .int .i64 now] w fun e w' => SmRet none (smNew agg wd k cap now) w e w' := by
  unfold smNew
  rw [if_pos (⟨hA, hB.1, hB.2.1, hC.1, hC.2, hB.2.2.1, hB.2.2.2.1, hB.2.2.2.2.1, hB.2.2.2.2.2⟩)]
  have PA := fun w => rmayaggD agg w
  have PB := fun w => rmay wd cap now w
  have PC := fun w => rmayk k w
  rw [decide_eq_true hA] at PA
  replace PA := Lib.hid PA
  rw [decide_eq_true hB] at PB
  replace PB := Lib.hid PB
  rw [decide_eq_true hC] at PC
  replace PC := Lib.hid PC
  clear hA hB hC
  go_enter Try.func23, Try.ntmps23
  go_wp2_with (first | (go_at_call 40; with_reducible refine (PA.out _).mono ?_; rintro e w9 ⟨rfl, h9⟩; obtain rfl := h9.symm) | (go_at_call 41; with_reducible refine (PB.out _).mono ?_; rintro e w9 ⟨rfl, h9⟩; obtain rfl := h9.symm) | (go_at_call 42; with_reducible refine (PC.out _).mono ?_; rintro e w9 ⟨rfl, h9⟩; obtain rfl := h9.symm))
  exact bodyPost_ret (v := .tuple #[.agg #[.int .i64 agg, .int .i64 wd, .int .i64 k, .int .i64 cap, .int .i64 now, .int .i64 0, .slice none 0 0], .int .i64 0]) (by simp [results, Try.results23, go_sem, List.getElem?_toArray]) rfl (smret_new (by (repeat (first | exact Below.refl _ _ | refine Below.setCell ?_ (by first | (simp; done) | (simp; omega) | omega) _ | refine Below.alloc ?_ (by first | (simp; done) | (simp; omega) | omega) _ | refine Below.drew ?_ | refine Below.trans ?_ (Below.mono (by assumption) (by first | (simp; done) | (simp; omega) | omega))))))
theorem rsmnew (agg wd k cap now : Int) (w : World) : Calls Try.prog 23 #[.int .i64 agg, .int .i64 wd, .int .i64 k, .int .i64 cap, .int .i64 now] w fun e w' => SmRet none (smNew agg wd k cap now) w e w' := by
  by_cases hA : 1 ≤ agg ∧ agg ≤ 4
  · by_cases hB : 1 ≤ wd ∧ wd ≤ 1048576 ∧ 1 ≤ cap ∧ cap ≤ 65536 ∧ 0 ≤ now ∧ now ≤ 16777216
    · by_cases hC : 1 ≤ k ∧ k ≤ 64
      · exact rsmnew_d agg wd k cap now w hA hB hC
      · exact rsmnew_c agg wd k cap now w hA hB hC
    · exact rsmnew_b agg wd k cap now w hA hB
  · exact rsmnew_a agg wd k cap now w hA
end Go.Proofs.Ythknkdjpfanlnaa
