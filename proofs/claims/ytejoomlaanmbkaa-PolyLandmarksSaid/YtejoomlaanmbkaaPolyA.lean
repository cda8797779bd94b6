/- Counters with polynomial decay: words. -/
import Derived.Test.YtejoomlaanmbkaaWalkB
import Derived.Test.YtejoomlaanmbkaaVec
import Derived.Test.YtejoomlaanmbkaaFree
import Derived.Test.YtejoomlaanmbkaaMathPoly
import Derived.Lib.Hide
import Derived.Deep.Cut
import Derived.IntWalk
namespace Go.Proofs.Ytejoomlaanmbkaa
open Go.RowKit Go.Shelf
/-- The cells of a list of wide numbers. -/
def wcells (ms : List Nat) : List Value := ms.flatMap fun m => [.int .u64 (hi m), .int .u64 (lo m)]
theorem wcells_nil : wcells [] = [] := rfl
theorem wcells_cons (m : Nat) (ms : List Nat) : wcells (m :: ms) = .int .u64 (hi m) :: .int .u64 (lo m) :: wcells ms := rfl
theorem wcells_append (a b : List Nat) : wcells (a ++ b) = wcells a ++ wcells b := by unfold wcells; rw [List.flatMap_append]
theorem wcells_len : ∀ ms : List Nat, (wcells ms).length = ms.length * 2
  | [] => rfl
  | m :: ms => by rw [wcells_cons]; simp only [List.length_cons, wcells_len ms]; omega
theorem wcells_at : ∀ (ms : List Nat) (i : Nat), i < ms.length → (wcells ms)[i * 2]? = some (.int .u64 (hi (momAt ms i))) ∧ (wcells ms)[i * 2 + 1]? = some (.int .u64 (lo (momAt ms i)))
  | [], i, h => absurd h (by simp)
  | m :: ms, 0, _ => ⟨rfl, rfl⟩
  | m :: ms, i + 1, h => by
    have ih := wcells_at ms i (by simpa using h)
    rw [wcells_cons, show (i + 1) * 2 = i * 2 + 1 + 1 by omega, show i * 2 + 1 + 1 + 1 = (i * 2 + 1) + 1 + 1 by omega]
    simp only [List.getElem?_cons_succ]
    exact ih
theorem wcells_set (ms : List Nat) (i m : Nat) : ((wcells ms).set (i * 2) (.int .u64 (hi m))).set (i * 2 + 1) (.int .u64 (lo m)) = wcells (ms.set i m) := by
  induction ms generalizing i with
  | nil => rfl
  | cons x ms ih =>
    cases i with
    | zero => rfl
    | succ i =>
      rw [wcells_cons, show (i + 1) * 2 = i * 2 + 1 + 1 by omega, show i * 2 + 1 + 1 + 1 = (i * 2 + 1) + 1 + 1 by omega]
      simp only [List.set_cons_succ]
      rw [ih i]
      rfl
theorem wcells_one (ms : List Nat) : ∀ u ∈ wcells ms, u.oneCell' = true := by
  intro u hu
  unfold wcells at hu
  rw [List.mem_flatMap] at hu
  obtain ⟨m, _, hm⟩ := hu
  simp at hm
  rcases hm with rfl | rfl <;> rfl
theorem wcells_zero (n : Nat) : wcells (List.replicate n 0) = (List.replicate n [Value.int .u64 0, Value.int .u64 0]).flatten := by
  induction n with
  | zero => rfl
  | succ n ih => rw [List.replicate_succ, List.replicate_succ, wcells_cons, ih]; rfl
section
variable {w w' : World} {B m : Nat} {A : Option Addr} {ms : List Nat}
theorem Reads.mom_len (h : Reads w B 2 A m (wcells ms)) : ms.length = m := by have := h.1; rw [wcells_len] at this; omega
theorem add_lit_one (a : Addr) (j : Nat) (h : j ≠ 0) : a.add j = ⟨a.block, a.off + j, none⟩ := by unfold Addr.add; rw [if_neg h]
/-- The two cells of a wide number. -/
def WCells (w : World) (a : Addr) (m : Nat) : Prop := w.cell? a = some (.int .u64 (hi m)) ∧ w.cell? ⟨a.block, a.off + 1, none⟩ = some (.int .u64 (lo m))
theorem WCells.below {B : Nat} {a : Addr} {m : Nat} (h : WCells w a m) (hb : Below B w w') (hlt : a.block < B) : WCells w' a m :=
  ⟨(hb.cell hlt).trans h.1, (hb.cell (p := ⟨a.block, a.off + 1, none⟩) hlt).trans h.2⟩
theorem Reads.mom {i : Nat} (h : Reads w B 2 A m (wcells ms)) (hi : i < m) : ∃ ad, A = some ad ∧ ad.block < B ∧ WCells w (ad.add (i * 2)) (momAt ms i) := by
  obtain ⟨ad, e, hb, hc⟩ := h.2 (by omega)
  have ht := wcells_at ms i (by rw [h.mom_len]; exact hi)
  refine ⟨ad, e, hb, hc _ _ ht.1, ?_⟩
  rw [← add_lit_one _ 1 (by decide), add_of_add]
  exact hc _ _ ht.2
end
/-- A counter as an argument. -/
structure PIn (p land now : Int) (A : Option Addr) (n c : Nat) (ms : List Nat) (w : World) : Prop where
  reads : Reads w w.heap.size 2 A n (wcells ms)
  pB : -9223372036854775808 ≤ p ∧ p ≤ 9223372036854775807
  landB : -9223372036854775808 ≤ land ∧ land ≤ 9223372036854775807
  nowB : -9223372036854775808 ≤ now ∧ now ≤ 9223372036854775807
  mB : ∀ i, momAt ms i < big
  nc : n ≤ c
  cB : c ≤ maxLen
section
variable {p land now : Int} {A : Option Addr} {n c : Nat} {ms : List Nat} {w w' : World}
theorem PIn.nB (h : PIn p land now A n c ms w) : n ≤ 9223372036854775807 := by
  have := h.nc
  have := h.cB
  unfold maxLen at *
  omega
theorem PIn.len (h : PIn p land now A n c ms w) : ms.length = n := h.reads.mom_len
theorem PIn.below (h : PIn p land now A n c ms w) (hb : Below w.heap.size w w') : PIn p land now A n c ms w' := ⟨(h.reads.below hb).more hb.size, h.pB, h.landB, h.nowB, h.mB, h.nc, h.cB⟩
end
/-- What a call of a counter's operation leaves: a counter and an error. -/
def PRet (r : POut) (w : World) (e : Ending) (w' : World) : Prop :=
  ∃ A n c, e = .returned (.tuple #[.agg #[.int .i64 r.p, .int .i64 r.land, .int .i64 r.now, .slice A n c], .int .i64 r.f]) ∧ PIn r.p r.land r.now A n c r.ms w' ∧ Below w.heap.size w w' ∧ ∀ a, A = some a → w.heap.size ≤ a.block ∧ a.block < w'.heap.size
theorem pin_zero {w : World} : PIn 0 0 0 none 0 0 [] w :=
  ⟨by simpa [wcells_nil] using Reads.none_, by decide, by decide, by decide, fun i => by simp [momAt, big], Nat.le_refl _, Nat.zero_le _⟩
theorem pret_zero {w w' : World} {f : Int} (hb : Below w.heap.size w w') : PRet (qzero f) w (.returned (.tuple #[.agg #[.int .i64 0, .int .i64 0, .int .i64 0, .slice none 0 0], .int .i64 f])) w' :=
  ⟨none, 0, 0, rfl, pin_zero, hb, fun a h => by cases h⟩
theorem pret_own {w w' : World} {p land now f : Int} {ms : List Nat} {g n c : Nat} (ho : Own w' 35 2 g n c (wcells ms)) (hp : -9223372036854775808 ≤ p ∧ p ≤ 9223372036854775807) (hl : -9223372036854775808 ≤ land ∧ land ≤ 9223372036854775807)
    (hn : -9223372036854775808 ≤ now ∧ now ≤ 9223372036854775807) (hm : ∀ i, momAt ms i < big) (hb : Below w.heap.size w w') (hg : w.heap.size ≤ g) : PRet ⟨p, land, now, ms, f⟩ w (.returned (.tuple #[.agg #[.int .i64 p, .int .i64 land, .int .i64 now, .slice (some ⟨g, 0, none⟩) n c], .int .i64 f])) w' :=
  ⟨some ⟨g, 0, none⟩, n, c, rfl, ⟨ho.reads, hp, hl, hn, hm, ho.cap.1, ho.cap.2⟩, hb, fun a h => by cases h; exact ⟨hg, ho.lt⟩⟩
theorem pret_at {r : POut} {p land now f : Int} {ms : List Nat} {w w' : World} {e : Ending} (hr : r = ⟨p, land, now, ms, f⟩) (h : PRet r w e w') :
    ∃ A n c, e = .returned (.tuple #[.agg #[.int .i64 p, .int .i64 land, .int .i64 now, .slice A n c], .int .i64 f]) ∧ PIn p land now A n c ms w' ∧ Below w.heap.size w w' ∧ ∀ a, A = some a → w.heap.size ≤ a.block ∧ a.block < w'.heap.size := by
  subst hr
  exact h
theorem ret_i64 {k : IntKind} {a b : Int} (h : a = b) : Ending.returned (.int k a) = .returned (.int k b) := by rw [h]
theorem ret_bool {a b : Bool} (h : a = b) : Ending.returned (.bool a) = .returned (.bool b) := by rw [h]
theorem info_wide : (Try.prog.info? 35).map (fun i => (i.zero, i.size, i.bytes)) = some (some (.agg #[.int .u64 0, .int .u64 0]), 2, 16) := by kernel_rfl
theorem ptick_yes (t : Int) (h0 : 0 ≤ t) (h1 : t ≤ 16777216) (w : World) : Calls Try.prog 31 #[.int .i64 t] w fun e w' => e = .returned (.bool true) ∧ w' = w := by
  go_enter Try.func31, Try.ntmps31
  go_wp2
  go_ret
  exact ⟨rfl, rfl⟩
theorem ptick_neg (t : Int) (h : t < 0) (w : World) : Calls Try.prog 31 #[.int .i64 t] w fun e w' => e = .returned (.bool false) ∧ w' = w := by
  go_enter Try.func31, Try.ntmps31
  go_wp2
  go_ret
  exact ⟨rfl, rfl⟩
theorem ptick_late (t : Int) (h : 16777216 < t) (w : World) : Calls Try.prog 31 #[.int .i64 t] w fun e w' => e = .returned (.bool false) ∧ w' = w := by
  have h' : 0 ≤ t := by omega
  go_enter Try.func31, Try.ntmps31
  go_wp2
  go_ret
  exact ⟨ret_bool (by simp; omega), rfl⟩
theorem rtick_yes (t : Int) (h0 : 0 ≤ t) (h1 : t ≤ 16777216) (w : World) : Calls Try.prog 32 #[.int .i64 t] w fun e w' => e = .returned (.bool true) ∧ w' = w := by
  go_enter Try.func32, Try.ntmps32
  go_wp2
  go_ret
  exact ⟨rfl, rfl⟩
theorem rtick_neg (t : Int) (h : t < 0) (w : World) : Calls Try.prog 32 #[.int .i64 t] w fun e w' => e = .returned (.bool false) ∧ w' = w := by
  go_enter Try.func32, Try.ntmps32
  go_wp2
  go_ret
  exact ⟨rfl, rfl⟩
theorem rtick_late (t : Int) (h : 16777216 < t) (w : World) : Calls Try.prog 32 #[.int .i64 t] w fun e w' => e = .returned (.bool false) ∧ w' = w := by
  have h' : 0 ≤ t := by omega
  go_enter Try.func32, Try.ntmps32
  go_wp2
  go_ret
  exact ⟨ret_bool (by simp; omega), rfl⟩
end Go.Proofs.Ytejoomlaanmbkaa
