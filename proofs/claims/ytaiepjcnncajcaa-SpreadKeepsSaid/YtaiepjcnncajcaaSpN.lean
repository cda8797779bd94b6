/- Spread histograms: what a call that answers a state leaves; New. -/
import Derived.Test.YtaiepjcnncajcaaSpV
import Derived.Test.YtaiepjcnncajcaaMkP
set_option linter.unusedVariables false
set_option linter.unusedSimpArgs false
set_option linter.unusedSectionVars false
set_option linter.unnecessarySimpa false
namespace Go.Proofs.Ytaiepjcnncajcaa
open Go.RowKit
theorem M64.of_one {seq cap now w least : Int} {m : Mk} (h : oneP seq cap now w least m) (hs : seq ≤ 1099511627777) (hc : cap ≤ 65536) (hn : now ≤ 16777216) (hl : -4096 ≤ least) : M64 m := by
  obtain ⟨⟨n0, n1⟩, ⟨s0, s1⟩, q0, q1⟩ := SmallM.of_one h hc hl
  obtain ⟨h1, h2, h3, h4, h5, h6, h7, h8, h9, _⟩ := h
  unfold M64 I64
  omega
theorem mkAt_out {l : List Mk} {i : Nat} (h : l.length ≤ i) : mkAt l i = Mk.zero := by
  unfold mkAt
  rw [List.getD_eq_getElem?_getD, List.getElem?_eq_none h]
  rfl
theorem M64.all {l : List Mk} (h : ∀ m ∈ l, M64 m) (i : Nat) : M64 (mkAt l i) := by
  by_cases hi : i < l.length
  · exact h _ (mkAt_mem hi)
  · rw [mkAt_out (by omega)]
    exact M64_zero
/-- Marks of the call's own, as an argument. -/
theorem MIn.of_row {w : World} {base n : Nat} {v : Value} {l : List Mk} (h : w.ownsRow base 33 7 v n (mcells l)) (hB : ∀ i, M64 (mkAt l i)) : ∃ A c, v = .slice A n c ∧ MIn A n c l w ∧ ∀ a, A = some a → base ≤ a.block ∧ a.block < w.heap.size := by
  obtain ⟨A, c, rfl, hr, h1, h2, h3⟩ := orow_forms h
  exact ⟨A, c, rfl, ⟨hr, hB, h1, h2⟩, h3⟩
theorem MIn.keep {A : Option Addr} {m c : Nat} {l : List Mk} {w w' : World} (h : MIn A m c l w) (hs : w.heap.size ≤ w'.heap.size) (hk : ∀ a, A = some a → w'.heap[a.block]? = w.heap[a.block]?) : MIn A m c l w' := by
  refine ⟨⟨h.reads.1, fun hn => ?_⟩, h.mB, h.mc, h.cB⟩
  obtain ⟨ad, e, hb, hc⟩ := h.reads.2 hn
  exact ⟨ad, e, Nat.lt_of_lt_of_le hb hs, fun j u hu => (World.cell?_of_block (by rw [block_of_add]; exact hk ad e)).trans (hc j u hu)⟩
/-- What a call of an operation leaves: a state and an error. -/
def SpRet (A0 : Option Addr) (r : SpOut) (w : World) (e : Ending) (w' : World) : Prop :=
  ∃ (A : Option Addr) (m c : Nat), e = .returned (.tuple #[.agg #[.int .i64 r.wd, .int .i64 r.k, .int .i64 r.cap, .int .i64 r.now, .int .i64 r.seq, .slice A m c], .int .i64 r.f]) ∧ MIn A m c r.ms w' ∧ Below w.heap.size w w' ∧ ∀ a, A = some a → (w.heap.size ≤ a.block ∧ a.block < w'.heap.size) ∨ ∃ b, A0 = some b ∧ a.block = b.block
theorem min_nil {w : World} : MIn none 0 0 [] w := ⟨by simpa [mcells_nil] using Reads.none_, fun i => by rw [mkAt_out (by simp)]; exact M64_zero, Nat.le_refl _, Nat.zero_le _⟩
theorem spret_new {A0 : Option Addr} {w w' : World} {wd k cap now f : Int} (hb : Below w.heap.size w w') : SpRet A0 ⟨wd, k, cap, now, 0, [], f⟩ w (.returned (.tuple #[.agg #[.int .i64 wd, .int .i64 k, .int .i64 cap, .int .i64 now, .int .i64 0, .slice none 0 0], .int .i64 f])) w' :=
  ⟨none, 0, 0, rfl, min_nil, hb, fun a h => by cases h⟩
theorem spret_zero {A0 : Option Addr} {w w' : World} {f : Int} (hb : Below w.heap.size w w') : SpRet A0 (spZero f) w (.returned (.tuple #[.agg #[.int .i64 0, .int .i64 0, .int .i64 0, .int .i64 0, .int .i64 0, .slice none 0 0], .int .i64 f])) w' := spret_new hb
theorem spret_ok {A0 A : Option Addr} {m c : Nat} {w w' : World} {wd k cap now seq f : Int} {ms : List Mk} (h : MIn A m c ms w') (hb : Below w.heap.size w w') (hf : ∀ a, A = some a → (w.heap.size ≤ a.block ∧ a.block < w'.heap.size) ∨ ∃ b, A0 = some b ∧ a.block = b.block) :
    SpRet A0 ⟨wd, k, cap, now, seq, ms, f⟩ w (.returned (.tuple #[.agg #[.int .i64 wd, .int .i64 k, .int .i64 cap, .int .i64 now, .int .i64 seq, .slice A m c], .int .i64 f])) w' := ⟨A, m, c, rfl, h, hb, hf⟩
theorem spret_at {A0 : Option Addr} {r : SpOut} {wd k cap now seq f : Int} {ms : List Mk} {w w' : World} {e : Ending} (hr : r = ⟨wd, k, cap, now, seq, ms, f⟩) (h : SpRet A0 r w e w') :
    ∃ A m c, e = .returned (.tuple #[.agg #[.int .i64 wd, .int .i64 k, .int .i64 cap, .int .i64 now, .int .i64 seq, .slice A m c], .int .i64 f]) ∧ MIn A m c ms w' ∧ Below w.heap.size w w' ∧ ∀ a, A = some a → (w.heap.size ≤ a.block ∧ a.block < w'.heap.size) ∨ ∃ b, A0 = some b ∧ a.block = b.block := by
  subst hr
  exact h
theorem pspnew (wd k cap now : Int) (w : World) : Calls Try.prog 9 #[.int .i64 wd, .int .i64 k, .int .i64 cap, .int .i64 now] w fun e w' => SpRet none (spNew wd k cap now) w e w' := by
  by_cases h : spGood wd k cap now
  · unfold spNew
    rw [if_pos h]
    refine (pnew_yes wd k cap now w h).mono ?_
    rintro e w' ⟨rfl, hb⟩
    exact spret_new hb
  · unfold spNew
    rw [if_neg h]
    refine (pnew_no wd k cap now w h).mono ?_
    rintro e w' ⟨rfl, hb⟩
    exact spret_zero hb
theorem rspnew (wd k cap now : Int) (w : World) : Calls Try.prog 10 #[.int .i64 wd, .int .i64 k, .int .i64 cap, .int .i64 now] w fun e w' => SpRet none (spNew wd k cap now) w e w' := by
  by_cases h : spGood wd k cap now
  · unfold spNew
    rw [if_pos h]
    refine (rnew_yes wd k cap now w h).mono ?_
    rintro e w' ⟨rfl, hb⟩
    exact spret_new hb
  · unfold spNew
    rw [if_neg h]
    refine (rnew_no wd k cap now w h).mono ?_
    rintro e w' ⟨rfl, hb⟩
    exact spret_zero hb
end Go.Proofs.Ytaiepjcnncajcaa
