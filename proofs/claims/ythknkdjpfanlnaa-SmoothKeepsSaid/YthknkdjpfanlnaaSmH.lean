/- Smooth histograms: the law of a value, walked. -/
import Derived.Test.YthknkdjpfanlnaaSmG
import Derived.Test.YthknkdjpfanlnaaSmP
set_option linter.unusedVariables false
set_option linter.unusedSimpArgs false
set_option linter.unusedSectionVars false
set_option linter.unnecessarySimpa false
namespace Go.Proofs.Ythknkdjpfanlnaa
open Go.RowKit
theorem smoothAdd_no (A : Option Addr) (m c : Nat) (l : List Mk) (agg wd k cap now seq : Int) (v : Int) (w : World) (hm : ¬ m ≤ 300) : Calls Try.prog 4 #[.agg #[.int .i64 agg, .int .i64 wd, .int .i64 k, .int .i64 cap, .int .i64 now, .int .i64 seq, .slice A m c], .int .i64 v] w fun e w' => e = .returned (.bool true) ∧ Below w.heap.size w w' := by
  go_enter Try.func4, Try.ntmps4
  go_wp2_with fail
  have X : Row (w.alloc (.cells #[.int .i64 agg, .int .i64 wd, .int .i64 k, .int .i64 cap, .int .i64 now, .int .i64 seq, .slice A m c] 24)) w.heap.size 24 #[.int .i64 agg, .int .i64 wd, .int .i64 k, .int .i64 cap, .int .i64 now, .int .i64 seq, .slice A m c] := row_new rfl
  have o : Below w.heap.size w (w.alloc (.cells #[.int .i64 agg, .int .i64 wd, .int .i64 k, .int .i64 cap, .int .i64 now, .int .i64 seq, .slice A m c] 24)) := by (repeat (first | exact Below.refl _ _ | refine Below.setCell ?_ (by first | (simp; done) | (simp; omega) | omega) _ | refine Below.alloc ?_ (by first | (simp; done) | (simp; omega) | omega) _ | refine Below.drew ?_ | refine Below.trans ?_ (Below.mono (by assumption) (by first | (simp; done) | (simp; omega) | omega))))
  generalize (w.alloc (.cells #[.int .i64 agg, .int .i64 wd, .int .i64 k, .int .i64 cap, .int .i64 now, .int .i64 seq, .slice A m c] 24)) = w0 at X o ⊢
  refine (few13_no A m c l agg wd k cap now seq w0 hm).mono ?_
  rintro e w1 ⟨rfl, hb1⟩
  replace X := row_call X hb1
  replace o := o.trans (hb1.mono o.size)
  clear hb1
  clear X hm
  go_wp2_with fail
  refine (awake13 _).mono ?_
  rintro e w2 ⟨rfl, hb2⟩
  replace o := o.trans (hb2.mono o.size)
  go_wp2
  go_ret
  exact ⟨rfl, o⟩
set_option maxRecDepth 100000 in
set_option maxHeartbeats 4000000 in
theorem smoothAdd (A : Option Addr) (m c : Nat) (l : List Mk) (agg wd k cap now seq : Int) (v : Int) (w : World) (hin : MIn A m c l w) (sB : I64 seq) : Calls Try.prog 4 #[.agg #[.int .i64 agg, .int .i64 wd, .int .i64 k, .int .i64 cap, .int .i64 now, .int .i64 seq, .slice A m c], .int .i64 v] w fun e w' => e = .returned (.bool true) ∧ Below w.heap.size w w' := by
  by_cases hm : m ≤ 300
  · have P1 := fun w' (hb : Below w.heap.size w w') => psmadd A m c l agg wd k cap now seq v w' (hin.below hb) sB (by omega)
    have P2 := fun w' (hb : Below w.heap.size w w') => rsmadd A m c l agg wd k cap now seq v w' (hin.below hb) sB (by omega)
    generalize smAdd agg wd k cap now seq l v = r at P1 P2
    obtain ⟨ra, rw, rk, rc, rn, rs, ms, rf⟩ := r
    replace P1 := Lib.hid P1
    replace P2 := Lib.hid P2
    clear hin sB
    go_enter Try.func4, Try.ntmps4
    go_wp2_with fail
    have X : Row (w.alloc (.cells #[.int .i64 agg, .int .i64 wd, .int .i64 k, .int .i64 cap, .int .i64 now, .int .i64 seq, .slice A m c] 24)) w.heap.size 24 #[.int .i64 agg, .int .i64 wd, .int .i64 k, .int .i64 cap, .int .i64 now, .int .i64 seq, .slice A m c] := row_new rfl
    have o : Below w.heap.size w (w.alloc (.cells #[.int .i64 agg, .int .i64 wd, .int .i64 k, .int .i64 cap, .int .i64 now, .int .i64 seq, .slice A m c] 24)) := by (repeat (first | exact Below.refl _ _ | refine Below.setCell ?_ (by first | (simp; done) | (simp; omega) | omega) _ | refine Below.alloc ?_ (by first | (simp; done) | (simp; omega) | omega) _ | refine Below.drew ?_ | refine Below.trans ?_ (Below.mono (by assumption) (by first | (simp; done) | (simp; omega) | omega))))
    generalize (w.alloc (.cells #[.int .i64 agg, .int .i64 wd, .int .i64 k, .int .i64 cap, .int .i64 now, .int .i64 seq, .slice A m c] 24)) = w0 at X o ⊢
    refine (few13_yes A m c l agg wd k cap now seq w0 hm).mono ?_
    rintro e w1 ⟨rfl, hb1⟩
    replace X := row_call X hb1
    replace o := o.trans (hb1.mono o.size)
    clear hb1
    clear hm
    obtain ⟨X0, X1, X2, X3, X4, X5, X6, Xf0, Xf1, Xf2, Xf3, Xf4, Xf5, Xf6⟩ := row_seven X
    go_wp2_with fail
    refine (P1.out _ o).mono ?_
    intro e w2 hq
    obtain ⟨A3, m3, c3, rfl, in3, hb2, fr3⟩ := hq
    dsimp only at in3
    clear fr3 X0 X1 X2 X3 X4 X5 X6 Xf0 Xf1 Xf2 Xf3 Xf4 Xf5 Xf6 P1
    replace X := row_call X hb2
    replace o := o.trans (hb2.mono o.size)
    clear hb2
    go_upto_region 4 with (fail)
    have Y : Row (w2.alloc (.cells #[.int .i64 ra, .int .i64 rw, .int .i64 rk, .int .i64 rc, .int .i64 rn, .int .i64 rs, .slice A3 m3 c3] 24)) w2.heap.size 24 #[.int .i64 ra, .int .i64 rw, .int .i64 rk, .int .i64 rc, .int .i64 rn, .int .i64 rs, .slice A3 m3 c3] := row_new rfl
    replace X := row_alloc X (.cells #[.int .i64 ra, .int .i64 rw, .int .i64 rk, .int .i64 rc, .int .i64 rn, .int .i64 rs, .slice A3 m3 c3] 24)
    replace in3 := in3.below ((Below.refl _ _).alloc (Nat.le_refl _) (.cells #[.int .i64 ra, .int .i64 rw, .int .i64 rk, .int .i64 rc, .int .i64 rn, .int .i64 rs, .slice A3 m3 c3] 24))
    replace o := o.alloc o.size (.cells #[.int .i64 ra, .int .i64 rw, .int .i64 rk, .int .i64 rc, .int .i64 rn, .int .i64 rs, .slice A3 m3 c3] 24)
    generalize (w2.alloc (.cells #[.int .i64 ra, .int .i64 rw, .int .i64 rk, .int .i64 rc, .int .i64 rn, .int .i64 rs, .slice A3 m3 c3] 24)) = w3 at X Y in3 o ⊢
    generalize w2.heap.size = yb at Y ⊢
    obtain ⟨X0, X1, X2, X3, X4, X5, X6, Xf0, Xf1, Xf2, Xf3, Xf4, Xf5, Xf6⟩ := row_seven X
    have IN3 := Lib.hid in3
    clear in3
    go_wp2_with fail
    refine (P2.out _ o).mono ?_
    intro e w4 hq
    obtain ⟨A4, m4, c4, rfl, in4, hb4, fr4⟩ := hq
    dsimp only at in4
    clear fr4 X0 X1 X2 X3 X4 X5 X6 Xf0 Xf1 Xf2 Xf3 Xf4 Xf5 Xf6 P2 X
    replace Y := row_call Y hb4
    have in3 := IN3.out.below hb4
    replace o := o.trans (hb4.mono o.size)
    clear hb4 IN3
    go_upto_region 5 with (fail)
    have Z : Row (w4.alloc (.cells #[.int .i64 ra, .int .i64 rw, .int .i64 rk, .int .i64 rc, .int .i64 rn, .int .i64 rs, .slice A4 m4 c4] 24)) w4.heap.size 24 #[.int .i64 ra, .int .i64 rw, .int .i64 rk, .int .i64 rc, .int .i64 rn, .int .i64 rs, .slice A4 m4 c4] := row_new rfl
    replace Y := row_alloc Y (.cells #[.int .i64 ra, .int .i64 rw, .int .i64 rk, .int .i64 rc, .int .i64 rn, .int .i64 rs, .slice A4 m4 c4] 24)
    replace in3 := in3.below ((Below.refl _ _).alloc (Nat.le_refl _) (.cells #[.int .i64 ra, .int .i64 rw, .int .i64 rk, .int .i64 rc, .int .i64 rn, .int .i64 rs, .slice A4 m4 c4] 24))
    replace in4 := in4.below ((Below.refl _ _).alloc (Nat.le_refl _) (.cells #[.int .i64 ra, .int .i64 rw, .int .i64 rk, .int .i64 rc, .int .i64 rn, .int .i64 rs, .slice A4 m4 c4] 24))
    replace o := o.alloc o.size (.cells #[.int .i64 ra, .int .i64 rw, .int .i64 rk, .int .i64 rc, .int .i64 rn, .int .i64 rs, .slice A4 m4 c4] 24)
    generalize (w4.alloc (.cells #[.int .i64 ra, .int .i64 rw, .int .i64 rk, .int .i64 rc, .int .i64 rn, .int .i64 rs, .slice A4 m4 c4] 24)) = w5 at Y Z in3 in4 o ⊢
    generalize w4.heap.size = zb at Z ⊢
    obtain ⟨Y0, Y1, Y2, Y3, Y4, Y5, Y6, Yf0, Yf1, Yf2, Yf3, Yf4, Yf5, Yf6⟩ := row_seven Y
    obtain ⟨Z0, Z1, Z2, Z3, Z4, Z5, Z6, Zf0, Zf1, Zf2, Zf3, Zf4, Zf5, Zf6⟩ := row_seven Z
    have PS := Lib.hid (rsameS ra rw rk rc rn rs A3 m3 c3 A4 m4 c4 ms w5 in3 in4)
    clear in3 in4 Y Z
    go_wp2_with fail
    refine PS.out.mono ?_
    rintro e w6 ⟨rfl, hb6⟩
    replace o := o.trans (hb6.mono o.size)
    clear hb6 PS Y0 Y1 Y2 Y3 Y4 Y5 Y6 Yf0 Yf1 Yf2 Yf3 Yf4 Yf5 Yf6 Z0 Z1 Z2 Z3 Z4 Z5 Z6 Zf0 Zf1 Zf2 Zf3 Zf4 Zf5 Zf6
    go_wp2_with fail
    refine (awake13 _).mono ?_
    rintro e w7 ⟨rfl, hb7⟩
    replace o := o.trans (hb7.mono o.size)
    go_wp2
    go_ret
    exact ⟨rfl, o⟩
  · exact smoothAdd_no A m c l agg wd k cap now seq v w hm
end Go.Proofs.Ythknkdjpfanlnaa
