/- Smooth histograms: the example of the chapter, walked. -/
import Derived.Test.YthknkdjpfanlnaaSmD
set_option linter.unusedVariables false
set_option linter.unusedSimpArgs false
set_option linter.unusedSectionVars false
set_option linter.unnecessarySimpa false
namespace Go.Proofs.Ythknkdjpfanlnaa
open Go.RowKit
/-- The marks of the example behind so many values. -/
def exL : Nat → List Mk
  | 0 => []
  | 1 => [⟨1, 0, 1, 1, 1, 1, 1⟩]
  | 2 => [⟨1, 0, 2, 2, 2, 1, 1⟩, ⟨2, 0, 1, 1, 1, 1, 1⟩]
  | 3 => [⟨1, 0, 3, 3, 3, 1, 1⟩, ⟨2, 0, 2, 2, 2, 1, 1⟩, ⟨3, 0, 1, 1, 1, 1, 1⟩]
  | _ => [⟨1, 0, 4, 4, 4, 1, 1⟩, ⟨3, 0, 2, 2, 2, 1, 1⟩, ⟨4, 0, 1, 1, 1, 1, 1⟩]
theorem exP0 : prune (nearB 1 1) [⟨1, 0, 1, 1, 1, 1, 1⟩] = [⟨1, 0, 1, 1, 1, 1, 1⟩] := by
  rw [prune_cons, List.drop_nil, prune_nil]
theorem exA0 : smAdd 1 9 1 100 0 0 (exL 0) 1 = ⟨1, 9, 1, 100, 0, 0 + 1, exL (0 + 1), 0⟩ := by
  have hv : smvalE 1 9 1 100 0 0 (exL 0) = 0 := by decide
  rw [smAdd_d hv (by decide) (by decide), show incl (exL 0) (0 + 1) 0 1 = [⟨1, 0, 1, 1, 1, 1, 1⟩] from rfl, exP0]
  rfl
theorem exP1 : prune (nearB 1 1) [⟨1, 0, 2, 2, 2, 1, 1⟩, ⟨2, 0, 1, 1, 1, 1, 1⟩] = [⟨1, 0, 2, 2, 2, 1, 1⟩, ⟨2, 0, 1, 1, 1, 1, 1⟩] := by
  rw [prune_cons, show List.drop (lastN (nearB 1 1 ⟨1, 0, 2, 2, 2, 1, 1⟩) ([⟨2, 0, 1, 1, 1, 1, 1⟩] : List Mk)) ([⟨2, 0, 1, 1, 1, 1, 1⟩] : List Mk) = ([⟨2, 0, 1, 1, 1, 1, 1⟩] : List Mk) from rfl]
  rw [prune_cons, List.drop_nil, prune_nil]
theorem exA1 : smAdd 1 9 1 100 0 1 (exL 1) 1 = ⟨1, 9, 1, 100, 0, 1 + 1, exL (1 + 1), 0⟩ := by
  have hv : smvalE 1 9 1 100 0 1 (exL 1) = 0 := by decide
  rw [smAdd_d hv (by decide) (by decide), show incl (exL 1) (1 + 1) 0 1 = [⟨1, 0, 2, 2, 2, 1, 1⟩, ⟨2, 0, 1, 1, 1, 1, 1⟩] from rfl, exP1]
  rfl
theorem exP2 : prune (nearB 1 1) [⟨1, 0, 3, 3, 3, 1, 1⟩, ⟨2, 0, 2, 2, 2, 1, 1⟩, ⟨3, 0, 1, 1, 1, 1, 1⟩] = [⟨1, 0, 3, 3, 3, 1, 1⟩, ⟨2, 0, 2, 2, 2, 1, 1⟩, ⟨3, 0, 1, 1, 1, 1, 1⟩] := by
  rw [prune_cons, show List.drop (lastN (nearB 1 1 ⟨1, 0, 3, 3, 3, 1, 1⟩) ([⟨2, 0, 2, 2, 2, 1, 1⟩, ⟨3, 0, 1, 1, 1, 1, 1⟩] : List Mk)) ([⟨2, 0, 2, 2, 2, 1, 1⟩, ⟨3, 0, 1, 1, 1, 1, 1⟩] : List Mk) = ([⟨2, 0, 2, 2, 2, 1, 1⟩, ⟨3, 0, 1, 1, 1, 1, 1⟩] : List Mk) from rfl]
  rw [prune_cons, show List.drop (lastN (nearB 1 1 ⟨2, 0, 2, 2, 2, 1, 1⟩) ([⟨3, 0, 1, 1, 1, 1, 1⟩] : List Mk)) ([⟨3, 0, 1, 1, 1, 1, 1⟩] : List Mk) = ([⟨3, 0, 1, 1, 1, 1, 1⟩] : List Mk) from rfl]
  rw [prune_cons, List.drop_nil, prune_nil]
theorem exA2 : smAdd 1 9 1 100 0 2 (exL 2) 1 = ⟨1, 9, 1, 100, 0, 2 + 1, exL (2 + 1), 0⟩ := by
  have hv : smvalE 1 9 1 100 0 2 (exL 2) = 0 := by decide
  rw [smAdd_d hv (by decide) (by decide), show incl (exL 2) (2 + 1) 0 1 = [⟨1, 0, 3, 3, 3, 1, 1⟩, ⟨2, 0, 2, 2, 2, 1, 1⟩, ⟨3, 0, 1, 1, 1, 1, 1⟩] from rfl, exP2]
  rfl
theorem exP3 : prune (nearB 1 1) [⟨1, 0, 4, 4, 4, 1, 1⟩, ⟨2, 0, 3, 3, 3, 1, 1⟩, ⟨3, 0, 2, 2, 2, 1, 1⟩, ⟨4, 0, 1, 1, 1, 1, 1⟩] = [⟨1, 0, 4, 4, 4, 1, 1⟩, ⟨3, 0, 2, 2, 2, 1, 1⟩, ⟨4, 0, 1, 1, 1, 1, 1⟩] := by
  rw [prune_cons, show List.drop (lastN (nearB 1 1 ⟨1, 0, 4, 4, 4, 1, 1⟩) ([⟨2, 0, 3, 3, 3, 1, 1⟩, ⟨3, 0, 2, 2, 2, 1, 1⟩, ⟨4, 0, 1, 1, 1, 1, 1⟩] : List Mk)) ([⟨2, 0, 3, 3, 3, 1, 1⟩, ⟨3, 0, 2, 2, 2, 1, 1⟩, ⟨4, 0, 1, 1, 1, 1, 1⟩] : List Mk) = ([⟨3, 0, 2, 2, 2, 1, 1⟩, ⟨4, 0, 1, 1, 1, 1, 1⟩] : List Mk) from rfl]
  rw [prune_cons, show List.drop (lastN (nearB 1 1 ⟨3, 0, 2, 2, 2, 1, 1⟩) ([⟨4, 0, 1, 1, 1, 1, 1⟩] : List Mk)) ([⟨4, 0, 1, 1, 1, 1, 1⟩] : List Mk) = ([⟨4, 0, 1, 1, 1, 1, 1⟩] : List Mk) from rfl]
  rw [prune_cons, List.drop_nil, prune_nil]
theorem exA3 : smAdd 1 9 1 100 0 3 (exL 3) 1 = ⟨1, 9, 1, 100, 0, 3 + 1, exL (3 + 1), 0⟩ := by
  have hv : smvalE 1 9 1 100 0 3 (exL 3) = 0 := by decide
  rw [smAdd_d hv (by decide) (by decide), show incl (exL 3) (3 + 1) 0 1 = [⟨1, 0, 4, 4, 4, 1, 1⟩, ⟨2, 0, 3, 3, 3, 1, 1⟩, ⟨3, 0, 2, 2, 2, 1, 1⟩, ⟨4, 0, 1, 1, 1, 1, 1⟩] from rfl, exP3]
  rfl
theorem exA : ∀ j : Nat, j < 4 → smAdd 1 9 1 100 0 (j : Int) (exL j) 1 = ⟨1, 9, 1, 100, 0, (j : Int) + 1, exL (j + 1), 0⟩
  | 0, _ => exA0
  | 1, _ => exA1
  | 2, _ => exA2
  | 3, _ => exA3
  | j + 4, h => absurd h (by omega)
theorem exL_len : ∀ j : Nat, (exL j).length ≤ 4
  | 0 => by decide
  | 1 => by decide
  | 2 => by decide
  | 3 => by decide
  | j + 4 => by show (exL 4).length ≤ 4; decide
set_option maxRecDepth 100000 in
set_option maxHeartbeats 4000000 in
theorem awake13 (w : World) : Calls Try.prog 11 #[] w fun e w' => e = .returned (.bool true) ∧ Below w.heap.size w w' := by
  go_enter Try.func11, Try.ntmps11
  go_wp2_with fail
  refine (psmnew 1 9 1 100 0 w).mono ?_
  intro e w1 hq
  obtain ⟨A0, m0, c0, rfl, in0, hb1, fr0⟩ := smret_at (show smNew 1 9 1 100 0 = ⟨1, 9, 1, 100, 0, 0, [], 0⟩ from rfl) hq
  clear hq
  go_upto_block 0 with (fail)
  have X : Row (w1.alloc (.cells #[.int .i64 1, .int .i64 9, .int .i64 1, .int .i64 100, .int .i64 0, .int .i64 0, .slice A0 m0 c0] 24)) w1.heap.size 24 #[.int .i64 1, .int .i64 9, .int .i64 1, .int .i64 100, .int .i64 0, .int .i64 0, .slice A0 m0 c0] := row_new rfl
  have o : Below w.heap.size w (w1.alloc (.cells #[.int .i64 1, .int .i64 9, .int .i64 1, .int .i64 100, .int .i64 0, .int .i64 0, .slice A0 m0 c0] 24)) := hb1.alloc hb1.size _
  replace in0 := in0.below ((Below.refl _ _).alloc (Nat.le_refl _) (.cells #[.int .i64 1, .int .i64 9, .int .i64 1, .int .i64 100, .int .i64 0, .int .i64 0, .slice A0 m0 c0] 24))
  have fr : ∀ a, A0 = some a → a.block ≠ w1.heap.size := fun a e h => by
    rcases fr0 a e with g | ⟨b, g, _⟩
    · omega
    · cases g
  have zx := hb1.size
  generalize (w1.alloc (.cells #[.int .i64 1, .int .i64 9, .int .i64 1, .int .i64 100, .int .i64 0, .int .i64 0, .slice A0 m0 c0] 24)) = w2 at X o in0 ⊢
  obtain ⟨xb, hxb⟩ : ∃ x, x = w1.heap.size := ⟨_, rfl⟩
  rw [← hxb] at X fr zx ⊢
  clear hxb fr0 hb1
  go_wp2
  go_loopw [2, 3] (fun fv i wr => ∃ (j : Nat) (A : Option Addr) (m c : Nat), j ≤ 4 ∧ fv = .int .i64 0 ∧ i = .int .i64 (j : Nat) ∧ Row wr xb 24 #[.int .i64 1, .int .i64 9, .int .i64 1, .int .i64 100, .int .i64 0, .int .i64 (j : Nat), .slice A m c] ∧ MIn A m c (exL j) wr ∧ RowKit.Hid (∀ a, A = some a → a.block ≠ xb) ∧ Below w.heap.size w wr) (fun _ i _ => 4 - (intOf i).toNat)
  case atStart => exact ⟨0, A0, m0, c0, by omega, rfl, rfl, X, in0, Lib.hid fr, o⟩
  case round =>
    clear X in0 fr o
    obtain ⟨j, A, m, c, hj, rfl, rfl, X, hin, FR, o⟩ := hrel
    have hl := hin.len
    have hlm := exL_len j
    have HIN := Lib.hid hin
    clear hin
    by_cases hlt : j < 4
    · have i1 : (j : Int) < 4 := by omega
      obtain ⟨X0, X1, X2, X3, X4, X5, X6, Xf0, Xf1, Xf2, Xf3, Xf4, Xf5, Xf6⟩ := row_seven X
      have HL := Lib.hid hl
      clear hl
      go_wp2_with fail
      refine (psmadd A m c (exL j) 1 9 1 100 0 (j : Nat) 1 _ HIN.out (by unfold I64; omega) (by have := HL.out; omega)).mono ?_
      intro e w4 hq
      obtain ⟨A2, m2, c2, rfl, in2, hb4, fr4⟩ := smret_at (exA j hlt) hq
      have zx4 := row_lt X
      clear hq X0 X1 X2 X3 X4 X5 X6 Xf0 Xf1 Xf2 Xf3 Xf4 Xf5 Xf6 HIN
      have FR2 : RowKit.Hid (∀ a, A2 = some a → a.block ≠ xb) := Lib.hid (fun a e h => by
        rcases fr4 a e with g | ⟨b, g, hb⟩
        · omega
        · exact FR.out b g (by omega))
      replace X := row_call X hb4
      replace o := o.trans (hb4.mono o.size)
      clear fr4 hb4
      obtain ⟨X0, X1, X2, X3, X4, X5, X6, Xf0, Xf1, Xf2, Xf3, Xf4, Xf5, Xf6⟩ := row_seven X
      have XR := Lib.hid X
      have IN2 := Lib.hid in2
      clear X in2
      go_upto_region 4 with (fail)
      have hbx : w.heap.size ≤ xb := by omega
      have X : Row (((((((w4.setCell ⟨xb, 0, none⟩ (.int .i64 1)).setCell ⟨xb, 1, none⟩ (.int .i64 9)).setCell ⟨xb, 2, none⟩ (.int .i64 1)).setCell ⟨xb, 3, none⟩ (.int .i64 100)).setCell ⟨xb, 4, none⟩ (.int .i64 0)).setCell ⟨xb, 5, none⟩ (.int .i64 ((j : Int) + 1))).setCell ⟨xb, 6, none⟩ (.slice A2 m2 c2)) xb 24 #[.int .i64 1, .int .i64 9, .int .i64 1, .int .i64 100, .int .i64 0, .int .i64 ((j : Int) + 1), .slice A2 m2 c2] := (row_set (row_set (row_set (row_set (row_set (row_set (row_set XR.out 0 (.int .i64 1)) 1 (.int .i64 9)) 2 (.int .i64 1)) 3 (.int .i64 100)) 4 (.int .i64 0)) 5 (.int .i64 ((j : Int) + 1))) 6 (.slice A2 m2 c2))
      replace o : Below w.heap.size w (((((((w4.setCell ⟨xb, 0, none⟩ (.int .i64 1)).setCell ⟨xb, 1, none⟩ (.int .i64 9)).setCell ⟨xb, 2, none⟩ (.int .i64 1)).setCell ⟨xb, 3, none⟩ (.int .i64 100)).setCell ⟨xb, 4, none⟩ (.int .i64 0)).setCell ⟨xb, 5, none⟩ (.int .i64 ((j : Int) + 1))).setCell ⟨xb, 6, none⟩ (.slice A2 m2 c2)) := (Below.setCell (p := ⟨xb, 6, none⟩) (Below.setCell (p := ⟨xb, 5, none⟩) (Below.setCell (p := ⟨xb, 4, none⟩) (Below.setCell (p := ⟨xb, 3, none⟩) (Below.setCell (p := ⟨xb, 2, none⟩) (Below.setCell (p := ⟨xb, 1, none⟩) (Below.setCell (p := ⟨xb, 0, none⟩) o hbx (.int .i64 1)) hbx (.int .i64 9)) hbx (.int .i64 1)) hbx (.int .i64 100)) hbx (.int .i64 0)) hbx (.int .i64 ((j : Int) + 1))) hbx (.slice A2 m2 c2))
      have hkp : ∀ b', b' ≠ xb → ((((((((w4.setCell ⟨xb, 0, none⟩ (.int .i64 1)).setCell ⟨xb, 1, none⟩ (.int .i64 9)).setCell ⟨xb, 2, none⟩ (.int .i64 1)).setCell ⟨xb, 3, none⟩ (.int .i64 100)).setCell ⟨xb, 4, none⟩ (.int .i64 0)).setCell ⟨xb, 5, none⟩ (.int .i64 ((j : Int) + 1))).setCell ⟨xb, 6, none⟩ (.slice A2 m2 c2))).heap[b']? = w4.heap[b']? := fun b' h' => ((Below.heap_setCell _ ⟨xb, 6, none⟩ (.slice A2 m2 c2) b' h').trans ((Below.heap_setCell _ ⟨xb, 5, none⟩ (.int .i64 ((j : Int) + 1)) b' h').trans ((Below.heap_setCell _ ⟨xb, 4, none⟩ (.int .i64 0) b' h').trans ((Below.heap_setCell _ ⟨xb, 3, none⟩ (.int .i64 100) b' h').trans ((Below.heap_setCell _ ⟨xb, 2, none⟩ (.int .i64 1) b' h').trans ((Below.heap_setCell _ ⟨xb, 1, none⟩ (.int .i64 9) b' h').trans ((Below.heap_setCell _ ⟨xb, 0, none⟩ (.int .i64 1) b' h').trans rfl)))))))
      have hksz : w4.heap.size ≤ ((((((((w4.setCell ⟨xb, 0, none⟩ (.int .i64 1)).setCell ⟨xb, 1, none⟩ (.int .i64 9)).setCell ⟨xb, 2, none⟩ (.int .i64 1)).setCell ⟨xb, 3, none⟩ (.int .i64 100)).setCell ⟨xb, 4, none⟩ (.int .i64 0)).setCell ⟨xb, 5, none⟩ (.int .i64 ((j : Int) + 1))).setCell ⟨xb, 6, none⟩ (.slice A2 m2 c2))).heap.size := by simp only [size_setCell]; exact Nat.le_refl _
      have in2 := Lib.hid (IN2.out.keep hksz (fun a e => hkp a.block (FR2.out a e)))
      clear hkp hksz
      generalize (((((((w4.setCell ⟨xb, 0, none⟩ (.int .i64 1)).setCell ⟨xb, 1, none⟩ (.int .i64 9)).setCell ⟨xb, 2, none⟩ (.int .i64 1)).setCell ⟨xb, 3, none⟩ (.int .i64 100)).setCell ⟨xb, 4, none⟩ (.int .i64 0)).setCell ⟨xb, 5, none⟩ (.int .i64 ((j : Int) + 1))).setCell ⟨xb, 6, none⟩ (.slice A2 m2 c2)) = w5 at X o in2 ⊢
      clear X0 X1 X2 X3 X4 X5 X6 Xf0 Xf1 Xf2 Xf3 Xf4 Xf5 Xf6 XR IN2
      go_wp2
      go_roundw
      case rel => exact ⟨j + 1, A2, m2, c2, by omega, rfl, by go_num, X, in2.out, FR2, o⟩
      case measure => simp [intOf]; omega
    · obtain rfl : j = 4 := by omega
      obtain rfl : m = 3 := by rw [← hl]; rfl
      obtain ⟨ad, rfl, hadb, ht0⟩ := HIN.out.reads.mk (i := 1) (by omega)
      have q2 : wr.cell? ⟨ad.block, ad.off + 7 + 2, none⟩ = some (.int .i64 2) := by
        have h := ht0.2.2.1
        rw [show ad.add (1 * 7) = ⟨ad.block, ad.off + 7, none⟩ from mk_lit ad 7 (by decide)] at h
        exact h
      obtain ⟨X0, X1, X2, X3, X4, X5, X6, Xf0, Xf1, Xf2, Xf3, Xf4, Xf5, Xf6⟩ := row_seven X
      clear ht0 hl hlm
      go_wp2
      go_ret
      exact ⟨rfl, o⟩
end Go.Proofs.Ythknkdjpfanlnaa
