/- Summaries of a stream: quantiles, walked. -/
import Derived.Test.YtdibjlphcmjnoaaAskF
set_option linter.unusedVariables false
set_option linter.unusedSimpArgs false
set_option linter.unusedSectionVars false
set_option linter.unnecessarySimpa false
namespace Go.Proofs.Ytdibjlphcmjnoaa
open Go.RowKit Go.Shelf
/-- The least error so far, and the value it belongs to. -/
def qfar (es : List Tup) (r : Int) : Nat → Int
  | 0 => -1
  | j + 1 => efar es r (ebest es r (j + 1))
def qval (es : List Tup) (r : Int) : Nat → Int
  | 0 => 0
  | j + 1 => (tupAt es (ebest es r (j + 1))).v
theorem qfar_neg {n : Int} {es : List Tup} (h : EOK n es) (r : Int) {j : Nat} (hj : j ≤ es.length) : qfar es r j < 0 ↔ j = 0 := by
  cases j with
  | zero => exact ⟨fun _ => rfl, fun _ => (by show (-1 : Int) < 0; omega)⟩
  | succ j =>
    have hb := h.b _ (Nat.lt_of_lt_of_le (ebest_lt es r (j + 1) (by omega)) hj)
    constructor
    · intro h1
      exfalso
      have h2 : efar es r (ebest es r (j + 1)) < 0 := h1
      unfold efar at h2
      omega
    · intro h1; omega
theorem q_take {n : Int} {es : List Tup} (h : EOK n es) (r : Int) {j : Nat} (hj : j < es.length) (c : qfar es r j < 0 ∨ efar es r j < qfar es r j) : qfar es r (j + 1) = efar es r j ∧ qval es r (j + 1) = (tupAt es j).v := by
  have e : ebest es r (j + 1) = j := by
    cases j with
    | zero => show (if _ then 0 else 0) = 0; split <;> rfl
    | succ i =>
      rcases c with c | c
      · have := (qfar_neg h r (Nat.le_of_lt hj)).1 c; omega
      · show (if efar es r (i + 1) < efar es r (ebest es r (i + 1)) then i + 1 else _) = i + 1
        exact if_pos c
  exact ⟨by show efar es r (ebest es r (j + 1)) = _; rw [e], by show (tupAt es (ebest es r (j + 1))).v = _; rw [e]⟩
theorem q_leave {es : List Tup} (r : Int) {j : Nat} (c0 : ¬ qfar es r j < 0) (c : ¬ efar es r j < qfar es r j) : qfar es r (j + 1) = qfar es r j ∧ qval es r (j + 1) = qval es r j := by
  cases j with
  | zero => exact absurd (by show (-1 : Int) < 0; omega) c0
  | succ i =>
    have e : ebest es r (i + 2) = ebest es r (i + 1) := by
      show (if efar es r (i + 1) < efar es r (ebest es r (i + 1)) then i + 1 else ebest es r (i + 1)) = _
      exact if_neg c
    exact ⟨by show efar es r (ebest es r (i + 2)) = efar es r (ebest es r (i + 1)); rw [e], by show (tupAt es (ebest es r (i + 2))).v = (tupAt es (ebest es r (i + 1))).v; rw [e]⟩
theorem bool_of {c : Bool} {p : Prop} [Decidable p] (h : c = true ↔ p) : c = decide p := by
  by_cases hp : p
  · rw [h.2 hp, decide_eq_true hp]
  · rw [decide_eq_false hp]; cases c with
    | false => rfl
    | true => exact absurd (h.1 rfl) hp
theorem rasks_yes (p q : Int) (h1 : 1 ≤ q) (h2 : 0 ≤ p) (h3 : p ≤ q) (w : World) : Calls Try.prog 48 #[.int .i64 p, .int .i64 q] w fun e w' => e = .returned (.bool true) ∧ w' = w := by
  go_enter Try.func48, Try.ntmps48
  go_wp2
  go_ret
  exact ⟨rfl, rfl⟩
theorem rasks_q (p q : Int) (h1 : ¬ 1 ≤ q) (w : World) : Calls Try.prog 48 #[.int .i64 p, .int .i64 q] w fun e w' => e = .returned (.bool false) ∧ w' = w := by
  go_enter Try.func48, Try.ntmps48
  go_wp2
  go_ret
  exact ⟨rfl, rfl⟩
theorem rasks_p (p q : Int) (h1 : 1 ≤ q) (h2 : ¬ 0 ≤ p) (w : World) : Calls Try.prog 48 #[.int .i64 p, .int .i64 q] w fun e w' => e = .returned (.bool false) ∧ w' = w := by
  go_enter Try.func48, Try.ntmps48
  go_wp2
  go_ret
  exact ⟨rfl, rfl⟩
theorem rasks_pq (p q : Int) (h1 : 1 ≤ q) (h2 : 0 ≤ p) (h3 : ¬ p ≤ q) (w : World) : Calls Try.prog 48 #[.int .i64 p, .int .i64 q] w fun e w' => e = .returned (.bool false) ∧ w' = w := by
  go_enter Try.func48, Try.ntmps48
  go_wp2
  go_ret
  exact ⟨rfl, rfl⟩
theorem rasks_no (p q : Int) (h : ¬ (1 ≤ q ∧ 0 ≤ p ∧ p ≤ q)) (w : World) : Calls Try.prog 48 #[.int .i64 p, .int .i64 q] w fun e w' => e = .returned (.bool false) ∧ w' = w := by
  by_cases h1 : 1 ≤ q
  · by_cases h2 : 0 ≤ p
    · exact rasks_pq p q h1 h2 (fun h3 => h ⟨h1, h2, h3⟩) w
    · exact rasks_p p q h1 h2 w
  · exact rasks_q p q h1 w
theorem pQ_bad (k cap n : Int) (A : Option Addr) (m c : Nat) (ts : List Tup) (p q : Int) (hv : svalE k cap n ts = 2) (w : World) (hin : SIn k cap n A m c ts w) : Calls Try.prog 29 #[.agg #[.int .i64 k, .int .i64 cap, .int .i64 n, .slice A m c], .int .i64 p, .int .i64 q] w fun e w' => e = .returned (.tuple #[.int .i64 0, .int .i64 2]) ∧ Below w.heap.size w w' := by
  have P := fun w1 (hb : Below w.heap.size w w1) => psval k cap n A m c ts w1 (hin.below hb)
  rw [hv] at P
  have P := Lib.hid P
  clear hin hv
  go_enter Try.func29, Try.ntmps29
  go_wp2_with (first | (go_at_call 19; with_reducible refine (P.out _ (by (repeat (first | exact Below.refl _ _ | refine Below.setCell ?_ (by first | (simp; done) | (simp; omega) | omega) _ | refine Below.alloc ?_ (by first | (simp; done) | (simp; omega) | omega) _ | refine Below.drew ?_ | refine Below.trans ?_ (Below.mono (by assumption) (by first | (simp; done) | (simp; omega) | omega)))))).mono ?_; rintro e w1 ⟨rfl, hb1⟩; have hz1 := hb1.size; (try simp at hz1); have o1 : Below w.heap.size w w1 := (by (repeat (first | exact Below.refl _ _ | refine Below.setCell ?_ (by first | (simp; done) | (simp; omega) | omega) _ | refine Below.alloc ?_ (by first | (simp; done) | (simp; omega) | omega) _ | refine Below.drew ?_ | refine Below.trans ?_ (Below.mono (by assumption) (by first | (simp; done) | (simp; omega) | omega))))); have q1_0 : w.heap.size < w1.heap.size := (by omega); have r1_0 : Row w1 (w.heap.size) 24 #[.int .i64 k, .int .i64 cap, .int .i64 n, .slice A m c] := row_call (by (repeat (first | assumption | (refine row_new ?_; (first | (simp; done) | omega)) | refine row_alloc ?_ _ | refine row_drew ?_ | refine row_call ?_ (by assumption)))) hb1; obtain ⟨c1_0a, c1_0b, c1_0c, c1_0d, f1_0a, f1_0b, f1_0c, f1_0d⟩ := row_four r1_0))
  go_ret2
  exact ⟨rfl, by assumption⟩
theorem pQ_q (k cap n : Int) (A : Option Addr) (m c : Nat) (ts : List Tup) (p q : Int) (hv : svalE k cap n ts = 0) (h1 : q < 1) (w : World) (hin : SIn k cap n A m c ts w) : Calls Try.prog 29 #[.agg #[.int .i64 k, .int .i64 cap, .int .i64 n, .slice A m c], .int .i64 p, .int .i64 q] w fun e w' => e = .returned (.tuple #[.int .i64 0, .int .i64 1]) ∧ Below w.heap.size w w' := by
  have P := fun w1 (hb : Below w.heap.size w w1) => psval k cap n A m c ts w1 (hin.below hb)
  rw [hv] at P
  have P := Lib.hid P
  clear hin hv
  go_enter Try.func29, Try.ntmps29
  go_wp2_with (first | (go_at_call 19; with_reducible refine (P.out _ (by (repeat (first | exact Below.refl _ _ | refine Below.setCell ?_ (by first | (simp; done) | (simp; omega) | omega) _ | refine Below.alloc ?_ (by first | (simp; done) | (simp; omega) | omega) _ | refine Below.drew ?_ | refine Below.trans ?_ (Below.mono (by assumption) (by first | (simp; done) | (simp; omega) | omega)))))).mono ?_; rintro e w1 ⟨rfl, hb1⟩; have hz1 := hb1.size; (try simp at hz1); have o1 : Below w.heap.size w w1 := (by (repeat (first | exact Below.refl _ _ | refine Below.setCell ?_ (by first | (simp; done) | (simp; omega) | omega) _ | refine Below.alloc ?_ (by first | (simp; done) | (simp; omega) | omega) _ | refine Below.drew ?_ | refine Below.trans ?_ (Below.mono (by assumption) (by first | (simp; done) | (simp; omega) | omega))))); have q1_0 : w.heap.size < w1.heap.size := (by omega); have r1_0 : Row w1 (w.heap.size) 24 #[.int .i64 k, .int .i64 cap, .int .i64 n, .slice A m c] := row_call (by (repeat (first | assumption | (refine row_new ?_; (first | (simp; done) | omega)) | refine row_alloc ?_ _ | refine row_drew ?_ | refine row_call ?_ (by assumption)))) hb1; obtain ⟨c1_0a, c1_0b, c1_0c, c1_0d, f1_0a, f1_0b, f1_0c, f1_0d⟩ := row_four r1_0))
  go_ret2
  exact ⟨rfl, by assumption⟩
theorem pQ_p (k cap n : Int) (A : Option Addr) (m c : Nat) (ts : List Tup) (p q : Int) (hv : svalE k cap n ts = 0) (h1 : ¬ q < 1) (h2 : p < 0) (w : World) (hin : SIn k cap n A m c ts w) : Calls Try.prog 29 #[.agg #[.int .i64 k, .int .i64 cap, .int .i64 n, .slice A m c], .int .i64 p, .int .i64 q] w fun e w' => e = .returned (.tuple #[.int .i64 0, .int .i64 1]) ∧ Below w.heap.size w w' := by
  have P := fun w1 (hb : Below w.heap.size w w1) => psval k cap n A m c ts w1 (hin.below hb)
  rw [hv] at P
  have P := Lib.hid P
  clear hin hv
  go_enter Try.func29, Try.ntmps29
  go_wp2_with (first | (go_at_call 19; with_reducible refine (P.out _ (by (repeat (first | exact Below.refl _ _ | refine Below.setCell ?_ (by first | (simp; done) | (simp; omega) | omega) _ | refine Below.alloc ?_ (by first | (simp; done) | (simp; omega) | omega) _ | refine Below.drew ?_ | refine Below.trans ?_ (Below.mono (by assumption) (by first | (simp; done) | (simp; omega) | omega)))))).mono ?_; rintro e w1 ⟨rfl, hb1⟩; have hz1 := hb1.size; (try simp at hz1); have o1 : Below w.heap.size w w1 := (by (repeat (first | exact Below.refl _ _ | refine Below.setCell ?_ (by first | (simp; done) | (simp; omega) | omega) _ | refine Below.alloc ?_ (by first | (simp; done) | (simp; omega) | omega) _ | refine Below.drew ?_ | refine Below.trans ?_ (Below.mono (by assumption) (by first | (simp; done) | (simp; omega) | omega))))); have q1_0 : w.heap.size < w1.heap.size := (by omega); have r1_0 : Row w1 (w.heap.size) 24 #[.int .i64 k, .int .i64 cap, .int .i64 n, .slice A m c] := row_call (by (repeat (first | assumption | (refine row_new ?_; (first | (simp; done) | omega)) | refine row_alloc ?_ _ | refine row_drew ?_ | refine row_call ?_ (by assumption)))) hb1; obtain ⟨c1_0a, c1_0b, c1_0c, c1_0d, f1_0a, f1_0b, f1_0c, f1_0d⟩ := row_four r1_0))
  go_ret2
  exact ⟨rfl, by assumption⟩
theorem pQ_pq (k cap n : Int) (A : Option Addr) (m c : Nat) (ts : List Tup) (p q : Int) (hv : svalE k cap n ts = 0) (h1 : ¬ q < 1) (h2 : ¬ p < 0) (h3 : q < p) (w : World) (hin : SIn k cap n A m c ts w) : Calls Try.prog 29 #[.agg #[.int .i64 k, .int .i64 cap, .int .i64 n, .slice A m c], .int .i64 p, .int .i64 q] w fun e w' => e = .returned (.tuple #[.int .i64 0, .int .i64 1]) ∧ Below w.heap.size w w' := by
  have P := fun w1 (hb : Below w.heap.size w w1) => psval k cap n A m c ts w1 (hin.below hb)
  rw [hv] at P
  have P := Lib.hid P
  clear hin hv
  go_enter Try.func29, Try.ntmps29
  go_wp2_with (first | (go_at_call 19; with_reducible refine (P.out _ (by (repeat (first | exact Below.refl _ _ | refine Below.setCell ?_ (by first | (simp; done) | (simp; omega) | omega) _ | refine Below.alloc ?_ (by first | (simp; done) | (simp; omega) | omega) _ | refine Below.drew ?_ | refine Below.trans ?_ (Below.mono (by assumption) (by first | (simp; done) | (simp; omega) | omega)))))).mono ?_; rintro e w1 ⟨rfl, hb1⟩; have hz1 := hb1.size; (try simp at hz1); have o1 : Below w.heap.size w w1 := (by (repeat (first | exact Below.refl _ _ | refine Below.setCell ?_ (by first | (simp; done) | (simp; omega) | omega) _ | refine Below.alloc ?_ (by first | (simp; done) | (simp; omega) | omega) _ | refine Below.drew ?_ | refine Below.trans ?_ (Below.mono (by assumption) (by first | (simp; done) | (simp; omega) | omega))))); have q1_0 : w.heap.size < w1.heap.size := (by omega); have r1_0 : Row w1 (w.heap.size) 24 #[.int .i64 k, .int .i64 cap, .int .i64 n, .slice A m c] := row_call (by (repeat (first | assumption | (refine row_new ?_; (first | (simp; done) | omega)) | refine row_alloc ?_ _ | refine row_drew ?_ | refine row_call ?_ (by assumption)))) hb1; obtain ⟨c1_0a, c1_0b, c1_0c, c1_0d, f1_0a, f1_0b, f1_0c, f1_0d⟩ := row_four r1_0))
  go_ret2
  exact ⟨rfl, by assumption⟩
theorem pQ_empty (k cap n : Int) (A : Option Addr) (m c : Nat) (ts : List Tup) (p q : Int) (hv : svalE k cap n ts = 0) (h1 : ¬ q < 1) (h2 : ¬ p < 0) (h3 : ¬ q < p) (h4 : n = 0) (w : World) (hin : SIn k cap n A m c ts w) : Calls Try.prog 29 #[.agg #[.int .i64 k, .int .i64 cap, .int .i64 n, .slice A m c], .int .i64 p, .int .i64 q] w fun e w' => e = .returned (.tuple #[.int .i64 0, .int .i64 7]) ∧ Below w.heap.size w w' := by
  have P := fun w1 (hb : Below w.heap.size w w1) => psval k cap n A m c ts w1 (hin.below hb)
  rw [hv] at P
  have P := Lib.hid P
  clear hin hv
  subst h4
  go_enter Try.func29, Try.ntmps29
  go_wp2_with (first | (go_at_call 19; with_reducible refine (P.out _ (by (repeat (first | exact Below.refl _ _ | refine Below.setCell ?_ (by first | (simp; done) | (simp; omega) | omega) _ | refine Below.alloc ?_ (by first | (simp; done) | (simp; omega) | omega) _ | refine Below.drew ?_ | refine Below.trans ?_ (Below.mono (by assumption) (by first | (simp; done) | (simp; omega) | omega)))))).mono ?_; rintro e w1 ⟨rfl, hb1⟩; have hz1 := hb1.size; (try simp at hz1); have o1 : Below w.heap.size w w1 := (by (repeat (first | exact Below.refl _ _ | refine Below.setCell ?_ (by first | (simp; done) | (simp; omega) | omega) _ | refine Below.alloc ?_ (by first | (simp; done) | (simp; omega) | omega) _ | refine Below.drew ?_ | refine Below.trans ?_ (Below.mono (by assumption) (by first | (simp; done) | (simp; omega) | omega))))); have q1_0 : w.heap.size < w1.heap.size := (by omega); have r1_0 : Row w1 (w.heap.size) 24 #[.int .i64 k, .int .i64 cap, .int .i64 0, .slice A m c] := row_call (by (repeat (first | assumption | (refine row_new ?_; (first | (simp; done) | omega)) | refine row_alloc ?_ _ | refine row_drew ?_ | refine row_call ?_ (by assumption)))) hb1; obtain ⟨c1_0a, c1_0b, c1_0c, c1_0d, f1_0a, f1_0b, f1_0c, f1_0d⟩ := row_four r1_0))
  go_ret2
  exact ⟨rfl, by assumption⟩
theorem rQ_bad (k cap n : Int) (A : Option Addr) (m c : Nat) (ts : List Tup) (p q : Int) (hv : svalE k cap n ts = 2) (w : World) (hin : SIn k cap n A m c ts w) : Calls Try.prog 30 #[.agg #[.int .i64 k, .int .i64 cap, .int .i64 n, .slice A m c], .int .i64 p, .int .i64 q] w fun e w' => e = .returned (.tuple #[.int .i64 0, .int .i64 2]) ∧ Below w.heap.size w w' := by
  have P := Lib.hid (fun w1 (hb : Below w.heap.size w w1) => rEntries_bad k cap n A m c ts w1 (hin.below hb) hv)
  clear hin hv
  go_enter Try.func30, Try.ntmps30
  go_wp2_with (first | (go_at_call 26; with_reducible refine (P.out _ (by (repeat (first | exact Below.refl _ _ | refine Below.setCell ?_ (by first | (simp; done) | (simp; omega) | omega) _ | refine Below.alloc ?_ (by first | (simp; done) | (simp; omega) | omega) _ | refine Below.drew ?_ | refine Below.trans ?_ (Below.mono (by assumption) (by first | (simp; done) | (simp; omega) | omega)))))).mono ?_; rintro e w1 ⟨rfl, hb1⟩; have hz1 := hb1.size; (try simp at hz1); have o1 : Below w.heap.size w w1 := (by (repeat (first | exact Below.refl _ _ | refine Below.setCell ?_ (by first | (simp; done) | (simp; omega) | omega) _ | refine Below.alloc ?_ (by first | (simp; done) | (simp; omega) | omega) _ | refine Below.drew ?_ | refine Below.trans ?_ (Below.mono (by assumption) (by first | (simp; done) | (simp; omega) | omega))))); have q1_0 : w.heap.size < w1.heap.size := (by omega); have r1_0 : Row w1 (w.heap.size) 24 #[.int .i64 k, .int .i64 cap, .int .i64 n, .slice A m c] := row_call (by (repeat (first | assumption | (refine row_new ?_; (first | (simp; done) | omega)) | refine row_alloc ?_ _ | refine row_drew ?_ | refine row_call ?_ (by assumption)))) hb1; obtain ⟨c1_0a, c1_0b, c1_0c, c1_0d, f1_0a, f1_0b, f1_0c, f1_0d⟩ := row_four r1_0))
  go_ret2
  exact ⟨rfl, by assumption⟩
theorem rQ_arg (k cap n : Int) (A : Option Addr) (m c : Nat) (ts : List Tup) (p q : Int) (hv : svalE k cap n ts = 0) (h : ¬ (1 ≤ q ∧ 0 ≤ p ∧ p ≤ q)) (w : World) (hin : SIn k cap n A m c ts w) : Calls Try.prog 30 #[.agg #[.int .i64 k, .int .i64 cap, .int .i64 n, .slice A m c], .int .i64 p, .int .i64 q] w fun e w' => e = .returned (.tuple #[.int .i64 0, .int .i64 1]) ∧ Below w.heap.size w w' := by
  have PE := Lib.hid (fun w1 (hb : Below w.heap.size w w1) => rEntries_ok k cap n A m c ts w1 (hin.below hb) hv)
  have PA := Lib.hid (fun w => rasks_no p q h w)
  clear hin hv h
  go_enter Try.func30, Try.ntmps30
  go_upto_region 1 with (fail)
  have x : Row (w.alloc (.cells #[.int .i64 k, .int .i64 cap, .int .i64 n, .slice A m c] 24)) w.heap.size 24 #[.int .i64 k, .int .i64 cap, .int .i64 n, .slice A m c] := row_new rfl
  have o : Below w.heap.size w (w.alloc (.cells #[.int .i64 k, .int .i64 cap, .int .i64 n, .slice A m c] 24)) := by (repeat (first | exact Below.refl _ _ | refine Below.setCell ?_ (by first | (simp; done) | (simp; omega) | omega) _ | refine Below.alloc ?_ (by first | (simp; done) | (simp; omega) | omega) _ | refine Below.drew ?_ | refine Below.trans ?_ (Below.mono (by assumption) (by first | (simp; done) | (simp; omega) | omega))))
  generalize w.alloc (.cells #[.int .i64 k, .int .i64 cap, .int .i64 n, .slice A m c] 24) = w1 at x o ⊢
  obtain ⟨X0, X1, X2, X3, Xf0, Xf1, Xf2, Xf3⟩ := row_four x
  go_wp2_with fail
  refine (PE.out _ o).mono ?_
  rintro e w3 ⟨v3, rfl, own3, hb3⟩
  obtain ⟨A3, c3, rfl, rd3, nc3, cm3, fr3⟩ := orow_forms own3
  replace x := row_call x hb3
  replace o := o.trans (hb3.mono o.size)
  clear own3 hb3 X0 X1 X2 X3 Xf0 Xf1 Xf2 Xf3 fr3 PE
  obtain ⟨X0, X1, X2, X3, Xf0, Xf1, Xf2, Xf3⟩ := row_four x
  go_wp2_with (first | (go_at_call 48; refine (PA.out _).mono ?_; rintro e w9 ⟨rfl, h9⟩; obtain rfl := h9.symm))
  go_ret2
  exact ⟨rfl, by assumption⟩
theorem rQ_empty (k cap n : Int) (A : Option Addr) (m c : Nat) (ts : List Tup) (p q : Int) (hv : svalE k cap n ts = 0) (h1 : 1 ≤ q) (h2 : 0 ≤ p) (h3 : p ≤ q) (h4 : n = 0) (w : World) (hin : SIn k cap n A m c ts w) : Calls Try.prog 30 #[.agg #[.int .i64 k, .int .i64 cap, .int .i64 n, .slice A m c], .int .i64 p, .int .i64 q] w fun e w' => e = .returned (.tuple #[.int .i64 0, .int .i64 7]) ∧ Below w.heap.size w w' := by
  have PE := Lib.hid (fun w1 (hb : Below w.heap.size w w1) => rEntries_ok k cap n A m c ts w1 (hin.below hb) hv)
  have PA := Lib.hid (fun w => rasks_yes p q h1 h2 h3 w)
  clear hin hv h1 h2 h3
  subst h4
  go_enter Try.func30, Try.ntmps30
  go_upto_region 1 with (fail)
  have x : Row (w.alloc (.cells #[.int .i64 k, .int .i64 cap, .int .i64 0, .slice A m c] 24)) w.heap.size 24 #[.int .i64 k, .int .i64 cap, .int .i64 0, .slice A m c] := row_new rfl
  have o : Below w.heap.size w (w.alloc (.cells #[.int .i64 k, .int .i64 cap, .int .i64 0, .slice A m c] 24)) := by (repeat (first | exact Below.refl _ _ | refine Below.setCell ?_ (by first | (simp; done) | (simp; omega) | omega) _ | refine Below.alloc ?_ (by first | (simp; done) | (simp; omega) | omega) _ | refine Below.drew ?_ | refine Below.trans ?_ (Below.mono (by assumption) (by first | (simp; done) | (simp; omega) | omega))))
  generalize w.alloc (.cells #[.int .i64 k, .int .i64 cap, .int .i64 0, .slice A m c] 24) = w1 at x o ⊢
  obtain ⟨X0, X1, X2, X3, Xf0, Xf1, Xf2, Xf3⟩ := row_four x
  go_wp2_with fail
  refine (PE.out _ o).mono ?_
  rintro e w3 ⟨v3, rfl, own3, hb3⟩
  obtain ⟨A3, c3, rfl, rd3, nc3, cm3, fr3⟩ := orow_forms own3
  replace x := row_call x hb3
  replace o := o.trans (hb3.mono o.size)
  clear own3 hb3 X0 X1 X2 X3 Xf0 Xf1 Xf2 Xf3 fr3 PE
  obtain ⟨X0, X1, X2, X3, Xf0, Xf1, Xf2, Xf3⟩ := row_four x
  go_wp2_with (first | (go_at_call 48; refine (PA.out _).mono ?_; rintro e w9 ⟨rfl, h9⟩; obtain rfl := h9.symm))
  go_ret2
  exact ⟨rfl, by assumption⟩
set_option maxHeartbeats 4000000 in
theorem rQ_ok (k cap n : Int) (A : Option Addr) (m c : Nat) (ts : List Tup) (p q : Nat) (vv : Int) (w : World) (hin : SIn k cap n A m c ts w) (hv : svalE k cap n ts = 0) (h1 : 1 ≤ q) (h3 : p ≤ q) (h4 : q < 9223372036854775808) (h5 : n ≠ 0) (hvv : (tupAt (ents ts m) (ebest (ents ts m) (tgt p n.toNat q) m)).v = vv) : Calls Try.prog 30 #[.agg #[.int .i64 k, .int .i64 cap, .int .i64 n, .slice A m c], .int .i64 (p : Nat), .int .i64 (q : Nat)] w fun e w' => e = .returned (.tuple #[.int .i64 vv, .int .i64 0]) ∧ Below w.heap.size w w' := by
  have hl := hin.len
  have HK : EOK n (ents ts m) := by rw [← hl]; exact ents_ok hv
  obtain ⟨k0, k1, cp0, cp1, n0, n1, mc, _, hnz⟩ := of_svalE hv
  have mB : m ≤ 65536 := by rw [hl] at mc; omega
  have m0 : 0 < m := by rw [← hl]; exact (hnz h5).1
  obtain ⟨nn, rfl⟩ : ∃ nn : Nat, n = (nn : Int) := ⟨n.toNat, by omega⟩
  rw [Int.toNat_natCast] at hvv
  obtain ⟨r0, r1⟩ := tgt_bound (p := p) (n := nn) h1 h3 (by omega)
  have PE := Lib.hid (fun w1 (hb : Below w.heap.size w w1) => rEntries_ok k cap (nn : Int) A m c ts w1 (hin.below hb) hv)
  have PA := Lib.hid (fun w => rasks_yes (p : Int) (q : Int) (by omega) (by omega) (by omega) w)
  have PT := fun w => rtarget nn p q h1 h3 h4 (by omega) (by omega) w
  have HLE := ents_len ts m
  generalize ents ts m = es at PE HK hvv HLE
  generalize tgt p nn q = r at PT r0 r1 hvv
  have PT := Lib.hid PT
  have PF := Lib.hid (fun (A : Option Addr) (c : Nat) (w : World) (hr : Reads w w.heap.size 3 A m (tcells es)) => rfor nn r A m c es w hr HLE HK mB n1 (by omega) r1)
  have hq : ebest es r m < m := ebest_lt es r m m0
  generalize ebest es r m = qi at PF hq hvv
  have HV := Lib.hid hvv
  have hz : ¬ (nn : Int) = 0 := h5
  have hzb : ((nn : Int) == 0) = false := by simpa using h5
  clear hin hv hl HLE mc HK hnz hvv h5
  go_enter Try.func30, Try.ntmps30
  go_upto_region 1 with (fail)
  have x : Row (w.alloc (.cells #[.int .i64 k, .int .i64 cap, .int .i64 (nn : Nat), .slice A m c] 24)) w.heap.size 24 #[.int .i64 k, .int .i64 cap, .int .i64 (nn : Nat), .slice A m c] := row_new rfl
  have o : Below w.heap.size w (w.alloc (.cells #[.int .i64 k, .int .i64 cap, .int .i64 (nn : Nat), .slice A m c] 24)) := by (repeat (first | exact Below.refl _ _ | refine Below.setCell ?_ (by first | (simp; done) | (simp; omega) | omega) _ | refine Below.alloc ?_ (by first | (simp; done) | (simp; omega) | omega) _ | refine Below.drew ?_ | refine Below.trans ?_ (Below.mono (by assumption) (by first | (simp; done) | (simp; omega) | omega))))
  generalize w.alloc (.cells #[.int .i64 k, .int .i64 cap, .int .i64 (nn : Nat), .slice A m c] 24) = w1 at x o ⊢
  obtain ⟨X0, X1, X2, X3, Xf0, Xf1, Xf2, Xf3⟩ := row_four x
  go_wp2_with fail
  refine (PE.out _ o).mono ?_
  rintro e w3 ⟨v3, rfl, own3, hb3⟩
  obtain ⟨A3, c3, rfl, rd3, nc3, cm3, fr3⟩ := orow_forms own3
  replace x := row_call x hb3
  replace o := o.trans (hb3.mono o.size)
  clear own3 hb3 X0 X1 X2 X3 Xf0 Xf1 Xf2 Xf3 fr3 PE
  obtain ⟨X0, X1, X2, X3, Xf0, Xf1, Xf2, Xf3⟩ := row_four x
  go_upto_region 8 with (first | (go_at_call 48; refine (PA.out _).mono ?_; rintro e w9 ⟨rfl, h9⟩; obtain rfl := h9.symm))
  go_wp2_with fail
  refine (PT.out _).mono ?_
  rintro e w4 ⟨rfl, hb4⟩
  replace o := o.trans (hb4.mono o.size)
  have rd4 := (rd3.below hb4).more hb4.size
  clear X0 X1 X2 X3 Xf0 Xf1 Xf2 Xf3 x hb4 rd3
  go_wp2_with fail
  refine (PF.out A3 c3 w4 rd4).mono ?_
  rintro e w5 ⟨rfl, hb5⟩
  replace o := o.trans (hb5.mono o.size)
  have rd5 := (rd4.below hb5).more hb5.size
  obtain ⟨ad, rfl, hadb, ht0⟩ := ent_at rd5 hq
  obtain ⟨p0, p1, p2⟩ := ht0
  rw [HV.out] at p0
  have i1 : (qi : Int) < (m : Int) := by omega
  have i2 : (0 : Int) ≤ (qi : Int) := by omega
  clear rd4 rd5 hb5
  go_wp2
  go_ret2
  exact ⟨rfl, o⟩
set_option maxHeartbeats 4000000 in
theorem pQ_ok (k cap n : Int) (A : Option Addr) (m c : Nat) (ts : List Tup) (p q : Nat) (vv : Int) (w : World) (hin : SIn k cap n A m c ts w) (hv : svalE k cap n ts = 0) (h1 : 1 ≤ q) (h3 : p ≤ q) (h4 : q < 9223372036854775808) (h5 : n ≠ 0) (hvv : (tupAt (ents ts m) (ebest (ents ts m) (tgt p n.toNat q) m)).v = vv) : Calls Try.prog 29 #[.agg #[.int .i64 k, .int .i64 cap, .int .i64 n, .slice A m c], .int .i64 (p : Nat), .int .i64 (q : Nat)] w fun e w' => e = .returned (.tuple #[.int .i64 vv, .int .i64 0]) ∧ Below w.heap.size w w' := by
  have P := fun w1 (hb : Below w.heap.size w w1) => psval k cap n A m c ts w1 (hin.below hb)
  rw [hv] at P
  have P := Lib.hid P
  have hl := hin.len
  have HK : EOK n (ents ts m) := by rw [← hl]; exact ents_ok hv
  obtain ⟨k0, k1, cp0, cp1, n0, n1, mc, _, hnz⟩ := of_svalE hv
  have mB : m ≤ 65536 := by rw [hl] at mc; omega
  have m0 : 0 < m := by rw [← hl]; exact (hnz h5).1
  obtain ⟨nn, rfl⟩ : ∃ nn : Nat, n = (nn : Int) := ⟨n.toNat, by omega⟩
  rw [Int.toNat_natCast] at hvv
  obtain ⟨r0, r1⟩ := tgt_bound (p := p) (n := nn) h1 h3 (by omega)
  have PE := Lib.hid (fun w1 (hb : Below w.heap.size w w1) => pentries k cap (nn : Int) A m c ts w1 (hin.below hb) hv)
  have PT := fun w => ptarget nn p q h1 h3 h4 (by omega) (by omega) w
  have HLE := ents_len ts m
  generalize ents ts m = es at PE HK hvv HLE
  generalize tgt p nn q = r at PT r0 r1 hvv
  have PT := Lib.hid PT
  have HB := Lib.hid (fun j (hj : j < m) => HK.b j (by rw [HLE]; exact hj))
  have QN := Lib.hid (fun j (hj : j ≤ m) => qfar_neg HK r (j := j) (by rw [HLE]; exact hj))
  have QT := Lib.hid (fun j (hj : j < m) => q_take HK r (j := j) (by rw [HLE]; exact hj))
  have QE : qval es r m = vv := by
    obtain ⟨m1, rfl⟩ : ∃ m1, m = m1 + 1 := ⟨m - 1, by omega⟩
    exact hvv
  have HV := Lib.hid QE
  have hz : ¬ (nn : Int) = 0 := h5
  have hzb : ((nn : Int) == 0) = false := by simpa using h5
  have g1 : ¬ (q : Int) < 1 := by omega
  have g2 : ¬ (p : Int) < 0 := by omega
  have g3 : ¬ (q : Int) < (p : Int) := by omega
  clear hin hv hl HLE mc HK hnz hvv h5 QE
  go_enter Try.func29, Try.ntmps29
  go_upto_region 8 with (first | (go_at_call 19; with_reducible refine (P.out _ (by (repeat (first | exact Below.refl _ _ | refine Below.setCell ?_ (by first | (simp; done) | (simp; omega) | omega) _ | refine Below.alloc ?_ (by first | (simp; done) | (simp; omega) | omega) _ | refine Below.drew ?_ | refine Below.trans ?_ (Below.mono (by assumption) (by first | (simp; done) | (simp; omega) | omega)))))).mono ?_; rintro e w1 ⟨rfl, hb1⟩; have hz1 := hb1.size; (try simp at hz1); have o1 : Below w.heap.size w w1 := (by (repeat (first | exact Below.refl _ _ | refine Below.setCell ?_ (by first | (simp; done) | (simp; omega) | omega) _ | refine Below.alloc ?_ (by first | (simp; done) | (simp; omega) | omega) _ | refine Below.drew ?_ | refine Below.trans ?_ (Below.mono (by assumption) (by first | (simp; done) | (simp; omega) | omega))))); have q1_0 : w.heap.size < w1.heap.size := (by omega); have r1_0 : Row w1 (w.heap.size) 24 #[.int .i64 k, .int .i64 cap, .int .i64 (nn : Nat), .slice A m c] := row_call (by (repeat (first | assumption | (refine row_new ?_; (first | (simp; done) | omega)) | refine row_alloc ?_ _ | refine row_drew ?_ | refine row_call ?_ (by assumption)))) hb1; obtain ⟨c1_0a, c1_0b, c1_0c, c1_0d, f1_0a, f1_0b, f1_0c, f1_0d⟩ := row_four r1_0))
  go_wp2_with fail
  refine (PT.out _).mono ?_
  rintro e w2 ⟨rfl, hb2⟩
  have x2 := row_call r1_0 hb2
  have o2 := o1.trans (hb2.mono o1.size)
  clear r1_0 o1 hb1 c1_0a c1_0b c1_0c c1_0d f1_0a f1_0b f1_0c f1_0d P hb2
  obtain ⟨X0, X1, X2, X3, Xf0, Xf1, Xf2, Xf3⟩ := row_four x2
  go_wp2_with fail
  refine (PE.out _ o2).mono ?_
  rintro e w3 ⟨v3, rfl, own3, hb3⟩
  obtain ⟨A3, c3, rfl, rd3, nc3, cm3, fr3⟩ := orow_forms own3
  have o := o2.trans (hb3.mono o2.size)
  have RD := Lib.hid rd3
  have b := Below.refl w3.heap.size w3
  clear own3 hb3 x2 o2 X0 X1 X2 X3 Xf0 Xf1 Xf2 Xf3 rd3 fr3 PE
  have q0 : qfar es r 0 = -1 := rfl
  have q1 : qval es r 0 = 0 := rfl
  go_wp2
  go_loopw [10, 11, 42] (fun bv vv i wr => ∃ j : Nat, j ≤ m ∧ i = .int .i64 (j : Nat) ∧ bv = .int .i64 (qfar es r j) ∧ vv = .int .i64 (qval es r j) ∧ Below w3.heap.size w3 wr) (fun _ _ i _ => m - (intOf i).toNat)
  case atStart => exact ⟨0, by omega, rfl, rfl, rfl, b⟩
  case round =>
    clear b q0 q1
    obtain ⟨j, hj, rfl, rfl, rfl, b⟩ := hrel
    by_cases hlt : j < m
    · obtain ⟨ad, rfl, hadb, ht0⟩ := ent_at RD.out hlt
      have hb1 := HB.out j hlt
      have qt := QT.out j hlt
      have ql := q_leave (es := es) r (j := j)
      have f1 : efar es r j = max (r - (tupAt es j).g) ((tupAt es j).d - r) := rfl
      rw [f1] at qt ql
      generalize tupAt es j = e1 at ht0 hb1 qt ql
      obtain ⟨ev, eg, ed⟩ := e1
      dsimp only at qt ql hb1
      generalize hq1 : qfar es r (j + 1) = qf1 at qt ql
      generalize hv1 : qval es r (j + 1) = qv1 at qt ql
      generalize hqf : qfar es r j = qf at qt ql
      generalize hqv : qval es r j = qv at qt ql
      have HQ1 := Lib.hid hq1
      have HV1 := Lib.hid hv1
      have QT1 := Lib.hid qt
      have QL1 := Lib.hid ql
      obtain ⟨p0, p1, p2⟩ := ht0.below b (by rw [block_of_add]; exact hadb)
      dsimp only at p0 p1 p2
      have i1 : (j : Int) < (m : Int) := by omega
      have i2 : (0 : Int) ≤ (j : Int) := by omega
      have wa : IntKind.i64.wrap (r - eg) = r - eg := IntWalk.i64_in _ (by omega)
      have wb : IntKind.i64.wrap (ed - r) = ed - r := IntWalk.i64_in _ (by omega)
      clear qt ql f1 hq1 hv1 hqf hqv ht0
      have zr := b.size
      go_upto_region 13 with (fail)
      have ti : Row (wr.alloc (.cells #[.int .i64 ev, .int .i64 eg, .int .i64 ed] 56)) wr.heap.size 56 #[.int .i64 ev, .int .i64 eg, .int .i64 ed] := row_new rfl
      replace b := b.alloc b.size (.cells #[.int .i64 ev, .int .i64 eg, .int .i64 ed] 56)
      generalize wr.alloc (.cells #[.int .i64 ev, .int .i64 eg, .int .i64 ed] 56) = w4 at b ti ⊢
      generalize wr.heap.size = tb at ti zr ⊢
      clear p0 p1 p2
      obtain ⟨T0, T1, T2, Tf0, Tf1, Tf2⟩ := row_three ti
      clear ti
      by_cases c1 : qf < 0
      · have t1 := Lib.hid (QT1.out (.inl c1))
        go_wp2
        go_quiet (fail)
        go_wp2
        go_roundw
        case rel => exact ⟨j + 1, by omega, by go_num, by rw [HQ1.out, t1.out.1], by rw [HV1.out, t1.out.2], b.trans ⟨rfl, rfl, rfl, Nat.le_refl _, fun _ _ => rfl⟩⟩
        case measure => simp [intOf]; omega
      · by_cases c2 : max (r - eg) (ed - r) < qf
        · have t1 := Lib.hid (QT1.out (.inr c2))
          go_wp2
          go_quiet (fail)
          go_wp2
          go_roundw
          case rel => exact ⟨j + 1, by omega, by go_num, by rw [HQ1.out, t1.out.1], by rw [HV1.out, t1.out.2], b.trans ⟨rfl, rfl, rfl, Nat.le_refl _, fun _ _ => rfl⟩⟩
          case measure => simp [intOf]; omega
        · have t1 := Lib.hid (QL1.out c1 c2)
          go_wp2
          go_roundw
          case rel => exact ⟨j + 1, by omega, by go_num, by rw [HQ1.out, t1.out.1], by rw [HV1.out, t1.out.2], b⟩
          case measure => simp [intOf]; omega
    · have i1 : ¬ (j : Int) < (m : Int) := by omega
      obtain rfl : j = m := by omega
      rw [HV.out]
      go_wp2
      go_ret2
      exact ⟨rfl, o.trans (b.mono o.size)⟩
end Go.Proofs.Ytdibjlphcmjnoaa
