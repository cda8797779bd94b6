/- What the law TopExact needs, joined of its texts by a program (slim2.py); part 30. -/
import Derived.Test.YtdipoojjlddohaaGreatZTopExact1
import Derived.Test.YtdipoojjlddohaaGreatZTopExact4
import Derived.Test.YtdipoojjlddohaaGreatZTopExact9
import Derived.Test.YtdipoojjlddohaaGreatZTopExact16
import Derived.Test.YtdipoojjlddohaaGreatZTopExact28
set_option linter.unusedVariables false
set_option linter.unusedSimpArgs false
set_option linter.unusedSectionVars false
set_option linter.unnecessarySimpa false
section
/- Synopses of kind Poly: the empty ones, and the answer, walked. -/
namespace Go.Proofs.YtdipoojjlddohaaGreat
open Go.RowKit
set_option maxRecDepth 100000 in
set_option maxHeartbeats 4000000 in
theorem pyNewPoly (p now:Int) (w:World) (IN:Option Addr→Nat→Nat→World→Prop) (hIN:InOK IN) (n0:0≤now) (n1:now≤16777216) (HC:RowKit.Hid (∀ w',Calls Tryz.prog 108 #[.agg #[.int .i64 6, .int .i64 0, .int .i64 0, .int .i64 0, .int .i64 0, .int .i64 p, .int .i64 0, .int .i64 0]] w' fun e w''=>e = .returned (.int .i64 0)∧Below w'.heap.size w' w'')) (HA:RowKit.Hid (∀ w',Calls Tryz.prog 114 #[.int .i64 p, .int .i64 now] w' (GRet IN (fun A m c=>#[.int .i64 p, .int .i64 now, .int .i64 now, .slice A m c]) 0 (fun _=>False) w'))):Calls Tryz.prog 37 #[.agg #[.int .i64 6, .int .i64 0, .int .i64 0, .int .i64 0, .int .i64 0, .int .i64 p, .int .i64 0, .int .i64 0], .int .i64 now] w (GRet IN (fun A m c=>#[.int .i64 6, .int .i64 0, .int .i64 0, .int .i64 0, .int .i64 0, .int .i64 p, .int .i64 0, .int .i64 0, .int .i64 0, .int .i64 0, .int .i64 0, .slice none 0 0, .int .i64 0, .int .i64 0, .int .i64 0, .int .i64 0, .slice none 0 0, .int .i64 0, .int .i64 0, .int .i64 0, .int .i64 0, .int .i64 0, .slice none 0 0, .int .i64 0, .int .i64 0, .int .i64 0, .int .i64 0, .int .i64 0, .int .i64 0, .slice none 0 0, .int .i64 0, .int .i64 0, .int .i64 0, .int .i64 0, .int .i64 0, .slice none 0 0, .int .i64 p, .int .i64 now, .int .i64 now, .slice A m c, .int .i64 0, .slice none 0 0, .bool false, .int .i64 0, .int .i64 0, .int .i64 0, .slice none 0 0, .slice none 0 0, .int .i64 0, .int .i64 0, .int .i64 0, .slice none 0 0, .int .i64 0, .int .i64 0, .int .i64 0, .int .i64 0, .slice none 0 0]) 0 (fun _=>False) w):=by
  have PT:=Lib.hid (fun w=>pstick now w n0 n1)
  go_enter Tryz.func37,Tryz.ntmps37
  go_upto_region 1 with (fail)
  refine start2 (fun w1 X R o=>?_)
  obtain ⟨X0,X1,X2,X3,X4,X5,X6,X7,Xf0,Xf1,Xf2,Xf3,Xf4,Xf5,Xf6,Xf7⟩:=row_eight X
  go_wp2_with fail
  refine (HC.out _).mono ?_
  rintro e w2 ⟨rfl,hb⟩
  replace X:=row_call X hb
  replace R:=row_call R hb
  replace o:=o.trans (hb.mono o.size)
  clear hb X0 Xf0 X1 Xf1 X2 Xf2 X3 Xf3 X4 Xf4 X5 Xf5 X6 Xf6 X7 Xf7
  obtain ⟨X0,X1,X2,X3,X4,X5,X6,X7,Xf0,Xf1,Xf2,Xf3,Xf4,Xf5,Xf6,Xf7⟩:=row_eight X
  go_upto_region 6 with (go_at_call 73;with_reducible refine (PT.out _).mono ?_;rintro e w9 ⟨rfl,h9⟩;obtain rfl:=h9.symm)
  have honeZ:(#[.int .i64 6, .int .i64 0, .int .i64 0, .int .i64 0, .int .i64 0, .int .i64 p, .int .i64 0, .int .i64 0, .int .i64 0, .int .i64 0, .int .i64 0, .slice none 0 0, .int .i64 0, .int .i64 0, .int .i64 0, .int .i64 0, .slice none 0 0, .int .i64 0, .int .i64 0, .int .i64 0, .int .i64 0, .int .i64 0, .slice none 0 0, .int .i64 0, .int .i64 0, .int .i64 0, .int .i64 0, .int .i64 0, .int .i64 0, .slice none 0 0, .int .i64 0, .int .i64 0, .int .i64 0, .int .i64 0, .int .i64 0, .slice none 0 0, .int .i64 0, .int .i64 0, .int .i64 0, .slice none 0 0, .int .i64 0, .slice none 0 0, .bool false, .int .i64 0, .int .i64 0, .int .i64 0, .slice none 0 0, .slice none 0 0, .int .i64 0, .int .i64 0, .int .i64 0, .slice none 0 0, .int .i64 0, .int .i64 0, .int .i64 0, .int .i64 0, .slice none 0 0]:Array Value).all (·.oneCell')=true:=all_one rfl
  have SZ:Row (w2.alloc (.cells #[.int .i64 0, .int .i64 0, .int .i64 0, .int .i64 0, .int .i64 0, .int .i64 0, .int .i64 0, .int .i64 0, .int .i64 0, .int .i64 0, .int .i64 0, .slice none 0 0, .int .i64 0, .int .i64 0, .int .i64 0, .int .i64 0, .slice none 0 0, .int .i64 0, .int .i64 0, .int .i64 0, .int .i64 0, .int .i64 0, .slice none 0 0, .int .i64 0, .int .i64 0, .int .i64 0, .int .i64 0, .int .i64 0, .int .i64 0, .slice none 0 0, .int .i64 0, .int .i64 0, .int .i64 0, .int .i64 0, .int .i64 0, .slice none 0 0, .int .i64 0, .int .i64 0, .int .i64 0, .slice none 0 0, .int .i64 0, .slice none 0 0, .bool false, .int .i64 0, .int .i64 0, .int .i64 0, .slice none 0 0, .slice none 0 0, .int .i64 0, .int .i64 0, .int .i64 0, .slice none 0 0, .int .i64 0, .int .i64 0, .int .i64 0, .int .i64 0, .slice none 0 0] 58)) w2.heap.size 58 #[.int .i64 0, .int .i64 0, .int .i64 0, .int .i64 0, .int .i64 0, .int .i64 0, .int .i64 0, .int .i64 0, .int .i64 0, .int .i64 0, .int .i64 0, .slice none 0 0, .int .i64 0, .int .i64 0, .int .i64 0, .int .i64 0, .slice none 0 0, .int .i64 0, .int .i64 0, .int .i64 0, .int .i64 0, .int .i64 0, .slice none 0 0, .int .i64 0, .int .i64 0, .int .i64 0, .int .i64 0, .int .i64 0, .int .i64 0, .slice none 0 0, .int .i64 0, .int .i64 0, .int .i64 0, .int .i64 0, .int .i64 0, .slice none 0 0, .int .i64 0, .int .i64 0, .int .i64 0, .slice none 0 0, .int .i64 0, .slice none 0 0, .bool false, .int .i64 0, .int .i64 0, .int .i64 0, .slice none 0 0, .slice none 0 0, .int .i64 0, .int .i64 0, .int .i64 0, .slice none 0 0, .int .i64 0, .int .i64 0, .int .i64 0, .int .i64 0, .slice none 0 0]:=row_new rfl
  go_upto_region 7 with (first | (with_reducible refine wpList_bsyn (.int .i64 6) (.int .i64 0) (.int .i64 0) (.int .i64 0) (.int .i64 0) (.int .i64 p) (.int .i64 0) (.int .i64 0) rfl _ rfl rfl ?_) | (with_reducible refine wpList_ssyn SZ rfl rfl honeZ rfl _ _ rfl rfl rfl ?_))
  have S:=row_setRow (cs:=#[.int .i64 6, .int .i64 0, .int .i64 0, .int .i64 0, .int .i64 0, .int .i64 p, .int .i64 0, .int .i64 0, .int .i64 0, .int .i64 0, .int .i64 0, .slice none 0 0, .int .i64 0, .int .i64 0, .int .i64 0, .int .i64 0, .slice none 0 0, .int .i64 0, .int .i64 0, .int .i64 0, .int .i64 0, .int .i64 0, .slice none 0 0, .int .i64 0, .int .i64 0, .int .i64 0, .int .i64 0, .int .i64 0, .int .i64 0, .slice none 0 0, .int .i64 0, .int .i64 0, .int .i64 0, .int .i64 0, .int .i64 0, .slice none 0 0, .int .i64 0, .int .i64 0, .int .i64 0, .slice none 0 0, .int .i64 0, .slice none 0 0, .bool false, .int .i64 0, .int .i64 0, .int .i64 0, .slice none 0 0, .slice none 0 0, .int .i64 0, .int .i64 0, .int .i64 0, .slice none 0 0, .int .i64 0, .int .i64 0, .int .i64 0, .int .i64 0, .slice none 0 0]) SZ
  have z2:=row_lt R
  replace X:=row_setRow_other (g:=w2.heap.size) (cs':=#[.int .i64 6, .int .i64 0, .int .i64 0, .int .i64 0, .int .i64 0, .int .i64 p, .int .i64 0, .int .i64 0, .int .i64 0, .int .i64 0, .int .i64 0, .slice none 0 0, .int .i64 0, .int .i64 0, .int .i64 0, .int .i64 0, .slice none 0 0, .int .i64 0, .int .i64 0, .int .i64 0, .int .i64 0, .int .i64 0, .slice none 0 0, .int .i64 0, .int .i64 0, .int .i64 0, .int .i64 0, .int .i64 0, .int .i64 0, .slice none 0 0, .int .i64 0, .int .i64 0, .int .i64 0, .int .i64 0, .int .i64 0, .slice none 0 0, .int .i64 0, .int .i64 0, .int .i64 0, .slice none 0 0, .int .i64 0, .slice none 0 0, .bool false, .int .i64 0, .int .i64 0, .int .i64 0, .slice none 0 0, .slice none 0 0, .int .i64 0, .int .i64 0, .int .i64 0, .slice none 0 0, .int .i64 0, .int .i64 0, .int .i64 0, .int .i64 0, .slice none 0 0]) (row_alloc X (.cells #[.int .i64 0, .int .i64 0, .int .i64 0, .int .i64 0, .int .i64 0, .int .i64 0, .int .i64 0, .int .i64 0, .int .i64 0, .int .i64 0, .int .i64 0, .slice none 0 0, .int .i64 0, .int .i64 0, .int .i64 0, .int .i64 0, .slice none 0 0, .int .i64 0, .int .i64 0, .int .i64 0, .int .i64 0, .int .i64 0, .slice none 0 0, .int .i64 0, .int .i64 0, .int .i64 0, .int .i64 0, .int .i64 0, .int .i64 0, .slice none 0 0, .int .i64 0, .int .i64 0, .int .i64 0, .int .i64 0, .int .i64 0, .slice none 0 0, .int .i64 0, .int .i64 0, .int .i64 0, .slice none 0 0, .int .i64 0, .slice none 0 0, .bool false, .int .i64 0, .int .i64 0, .int .i64 0, .slice none 0 0, .slice none 0 0, .int .i64 0, .int .i64 0, .int .i64 0, .slice none 0 0, .int .i64 0, .int .i64 0, .int .i64 0, .int .i64 0, .slice none 0 0] 58)) (by have:=row_lt X;omega)
  replace R:=row_setRow_other (g:=w2.heap.size) (cs':=#[.int .i64 6, .int .i64 0, .int .i64 0, .int .i64 0, .int .i64 0, .int .i64 p, .int .i64 0, .int .i64 0, .int .i64 0, .int .i64 0, .int .i64 0, .slice none 0 0, .int .i64 0, .int .i64 0, .int .i64 0, .int .i64 0, .slice none 0 0, .int .i64 0, .int .i64 0, .int .i64 0, .int .i64 0, .int .i64 0, .slice none 0 0, .int .i64 0, .int .i64 0, .int .i64 0, .int .i64 0, .int .i64 0, .int .i64 0, .slice none 0 0, .int .i64 0, .int .i64 0, .int .i64 0, .int .i64 0, .int .i64 0, .slice none 0 0, .int .i64 0, .int .i64 0, .int .i64 0, .slice none 0 0, .int .i64 0, .slice none 0 0, .bool false, .int .i64 0, .int .i64 0, .int .i64 0, .slice none 0 0, .slice none 0 0, .int .i64 0, .int .i64 0, .int .i64 0, .slice none 0 0, .int .i64 0, .int .i64 0, .int .i64 0, .int .i64 0, .slice none 0 0]) (row_alloc R (.cells #[.int .i64 0, .int .i64 0, .int .i64 0, .int .i64 0, .int .i64 0, .int .i64 0, .int .i64 0, .int .i64 0, .int .i64 0, .int .i64 0, .int .i64 0, .slice none 0 0, .int .i64 0, .int .i64 0, .int .i64 0, .int .i64 0, .slice none 0 0, .int .i64 0, .int .i64 0, .int .i64 0, .int .i64 0, .int .i64 0, .slice none 0 0, .int .i64 0, .int .i64 0, .int .i64 0, .int .i64 0, .int .i64 0, .int .i64 0, .slice none 0 0, .int .i64 0, .int .i64 0, .int .i64 0, .int .i64 0, .int .i64 0, .slice none 0 0, .int .i64 0, .int .i64 0, .int .i64 0, .slice none 0 0, .int .i64 0, .slice none 0 0, .bool false, .int .i64 0, .int .i64 0, .int .i64 0, .slice none 0 0, .slice none 0 0, .int .i64 0, .int .i64 0, .int .i64 0, .slice none 0 0, .int .i64 0, .int .i64 0, .int .i64 0, .int .i64 0, .slice none 0 0] 58)) (by omega)
  replace o:=below_setRow (g:=w2.heap.size) (o.alloc o.size (.cells #[.int .i64 0, .int .i64 0, .int .i64 0, .int .i64 0, .int .i64 0, .int .i64 0, .int .i64 0, .int .i64 0, .int .i64 0, .int .i64 0, .int .i64 0, .slice none 0 0, .int .i64 0, .int .i64 0, .int .i64 0, .int .i64 0, .slice none 0 0, .int .i64 0, .int .i64 0, .int .i64 0, .int .i64 0, .int .i64 0, .slice none 0 0, .int .i64 0, .int .i64 0, .int .i64 0, .int .i64 0, .int .i64 0, .int .i64 0, .slice none 0 0, .int .i64 0, .int .i64 0, .int .i64 0, .int .i64 0, .int .i64 0, .slice none 0 0, .int .i64 0, .int .i64 0, .int .i64 0, .slice none 0 0, .int .i64 0, .slice none 0 0, .bool false, .int .i64 0, .int .i64 0, .int .i64 0, .slice none 0 0, .slice none 0 0, .int .i64 0, .int .i64 0, .int .i64 0, .slice none 0 0, .int .i64 0, .int .i64 0, .int .i64 0, .int .i64 0, .slice none 0 0] 58)) o.size #[.int .i64 6, .int .i64 0, .int .i64 0, .int .i64 0, .int .i64 0, .int .i64 p, .int .i64 0, .int .i64 0, .int .i64 0, .int .i64 0, .int .i64 0, .slice none 0 0, .int .i64 0, .int .i64 0, .int .i64 0, .int .i64 0, .slice none 0 0, .int .i64 0, .int .i64 0, .int .i64 0, .int .i64 0, .int .i64 0, .slice none 0 0, .int .i64 0, .int .i64 0, .int .i64 0, .int .i64 0, .int .i64 0, .int .i64 0, .slice none 0 0, .int .i64 0, .int .i64 0, .int .i64 0, .int .i64 0, .int .i64 0, .slice none 0 0, .int .i64 0, .int .i64 0, .int .i64 0, .slice none 0 0, .int .i64 0, .slice none 0 0, .bool false, .int .i64 0, .int .i64 0, .int .i64 0, .slice none 0 0, .slice none 0 0, .int .i64 0, .int .i64 0, .int .i64 0, .slice none 0 0, .int .i64 0, .int .i64 0, .int .i64 0, .int .i64 0, .slice none 0 0]
  obtain ⟨w3,hw3⟩:∃ x,x=(w2.alloc (.cells #[.int .i64 0, .int .i64 0, .int .i64 0, .int .i64 0, .int .i64 0, .int .i64 0, .int .i64 0, .int .i64 0, .int .i64 0, .int .i64 0, .int .i64 0, .slice none 0 0, .int .i64 0, .int .i64 0, .int .i64 0, .int .i64 0, .slice none 0 0, .int .i64 0, .int .i64 0, .int .i64 0, .int .i64 0, .int .i64 0, .slice none 0 0, .int .i64 0, .int .i64 0, .int .i64 0, .int .i64 0, .int .i64 0, .int .i64 0, .slice none 0 0, .int .i64 0, .int .i64 0, .int .i64 0, .int .i64 0, .int .i64 0, .slice none 0 0, .int .i64 0, .int .i64 0, .int .i64 0, .slice none 0 0, .int .i64 0, .slice none 0 0, .bool false, .int .i64 0, .int .i64 0, .int .i64 0, .slice none 0 0, .slice none 0 0, .int .i64 0, .int .i64 0, .int .i64 0, .slice none 0 0, .int .i64 0, .int .i64 0, .int .i64 0, .int .i64 0, .slice none 0 0] 58)).setRow w2.heap.size #[.int .i64 6, .int .i64 0, .int .i64 0, .int .i64 0, .int .i64 0, .int .i64 p, .int .i64 0, .int .i64 0, .int .i64 0, .int .i64 0, .int .i64 0, .slice none 0 0, .int .i64 0, .int .i64 0, .int .i64 0, .int .i64 0, .slice none 0 0, .int .i64 0, .int .i64 0, .int .i64 0, .int .i64 0, .int .i64 0, .slice none 0 0, .int .i64 0, .int .i64 0, .int .i64 0, .int .i64 0, .int .i64 0, .int .i64 0, .slice none 0 0, .int .i64 0, .int .i64 0, .int .i64 0, .int .i64 0, .int .i64 0, .slice none 0 0, .int .i64 0, .int .i64 0, .int .i64 0, .slice none 0 0, .int .i64 0, .slice none 0 0, .bool false, .int .i64 0, .int .i64 0, .int .i64 0, .slice none 0 0, .slice none 0 0, .int .i64 0, .int .i64 0, .int .i64 0, .slice none 0 0, .int .i64 0, .int .i64 0, .int .i64 0, .int .i64 0, .slice none 0 0]:=⟨_,rfl⟩
  rw [← hw3] at X R S o ⊢
  clear hw3
  generalize w2.heap.size=sb at S z2 ⊢
  clear SZ
  clear X0 Xf0 X1 Xf1 X2 Xf2 X3 Xf3 X4 Xf4 X5 Xf5 X6 Xf6 X7 Xf7
  obtain ⟨X0,X1,X2,X3,X4,X5,X6,X7,Xf0,Xf1,Xf2,Xf3,Xf4,Xf5,Xf6,Xf7⟩:=row_eight X
  go_wp2_with fail
  refine (HA.out _).mono ?_
  rintro e w4 ⟨A5,m5,c5,rfl,in5,hb,fr5⟩
  have zs:=row_lt S
  have fr6:0<m5→∀ a,A5=some a→(w.heap.size+1≠a.block∧sb≠a.block)∧w.heap.size≤a.block:=fun h0 a e=>by
    have zo:=o.size
    rcases fr5 h0 a e with h | h
    · exact ⟨⟨by omega,by omega⟩,by omega⟩
    · exact h.elim
  replace S:=row_call S hb
  replace R:=row_call R hb
  replace o:=o.trans (hb.mono o.size)
  clear hb fr5 X X0 Xf0 X1 Xf1 X2 Xf2 X3 Xf3 X4 Xf4 X5 Xf5 X6 Xf6 X7 Xf7
  have q0:w4.cell? ⟨sb,36,none⟩=some (.int .i64 0):=row_cell S 36
  have f0:=row_free S 36
  have q1:w4.cell? ⟨sb,37,none⟩=some (.int .i64 0):=row_cell S 37
  have f1:=row_free S 37
  have q2:w4.cell? ⟨sb,38,none⟩=some (.int .i64 0):=row_cell S 38
  have f2:=row_free S 38
  have q3:w4.cell? ⟨sb,39,none⟩=some (.slice none 0 0):=row_cell S 39
  have f3:=row_free S 39
  go_upto_region 31 with (fail)
  clear q0 f0 q1 f1 q2 f2 q3 f3
  show Code.wp _ _ _ _ (setL w4 sb 36 [.int .i64 p, .int .i64 now, .int .i64 now, .slice A5 m5 c5])
  refine layS 36 [.int .i64 p, .int .i64 now, .int .i64 now, .slice A5 m5 c5] S R o hIN in5 (fun h0 a e=>(fr6 h0 a e).1.2) (by omega) (by omega) ?_
  clear S R o in5
  intro w5 S R o in5
  replace S:Row w5 sb 58 #[.int .i64 6, .int .i64 0, .int .i64 0, .int .i64 0, .int .i64 0, .int .i64 p, .int .i64 0, .int .i64 0, .int .i64 0, .int .i64 0, .int .i64 0, .slice none 0 0, .int .i64 0, .int .i64 0, .int .i64 0, .int .i64 0, .slice none 0 0, .int .i64 0, .int .i64 0, .int .i64 0, .int .i64 0, .int .i64 0, .slice none 0 0, .int .i64 0, .int .i64 0, .int .i64 0, .int .i64 0, .int .i64 0, .int .i64 0, .slice none 0 0, .int .i64 0, .int .i64 0, .int .i64 0, .int .i64 0, .int .i64 0, .slice none 0 0, .int .i64 p, .int .i64 now, .int .i64 now, .slice A5 m5 c5, .int .i64 0, .slice none 0 0, .bool false, .int .i64 0, .int .i64 0, .int .i64 0, .slice none 0 0, .slice none 0 0, .int .i64 0, .int .i64 0, .int .i64 0, .slice none 0 0, .int .i64 0, .int .i64 0, .int .i64 0, .int .i64 0, .slice none 0 0]:=S
  have hone:(#[.int .i64 6, .int .i64 0, .int .i64 0, .int .i64 0, .int .i64 0, .int .i64 p, .int .i64 0, .int .i64 0, .int .i64 0, .int .i64 0, .int .i64 0, .slice none 0 0, .int .i64 0, .int .i64 0, .int .i64 0, .int .i64 0, .slice none 0 0, .int .i64 0, .int .i64 0, .int .i64 0, .int .i64 0, .int .i64 0, .slice none 0 0, .int .i64 0, .int .i64 0, .int .i64 0, .int .i64 0, .int .i64 0, .int .i64 0, .slice none 0 0, .int .i64 0, .int .i64 0, .int .i64 0, .int .i64 0, .int .i64 0, .slice none 0 0, .int .i64 p, .int .i64 now, .int .i64 now, .slice A5 m5 c5, .int .i64 0, .slice none 0 0, .bool false, .int .i64 0, .int .i64 0, .int .i64 0, .slice none 0 0, .slice none 0 0, .int .i64 0, .int .i64 0, .int .i64 0, .slice none 0 0, .int .i64 0, .int .i64 0, .int .i64 0, .int .i64 0, .slice none 0 0]:Array Value).all (·.oneCell')=true:=all_one rfl
  go_wp2_with (first | (with_reducible refine wpList_lsyn S rfl rfl _ rfl rfl ?_) | (with_reducible refine wpList_ssyn R rfl rfl hone rfl _ _ rfl rfl rfl ?_))
  have R9:=row_setRow (cs:=#[.int .i64 6, .int .i64 0, .int .i64 0, .int .i64 0, .int .i64 0, .int .i64 p, .int .i64 0, .int .i64 0, .int .i64 0, .int .i64 0, .int .i64 0, .slice none 0 0, .int .i64 0, .int .i64 0, .int .i64 0, .int .i64 0, .slice none 0 0, .int .i64 0, .int .i64 0, .int .i64 0, .int .i64 0, .int .i64 0, .slice none 0 0, .int .i64 0, .int .i64 0, .int .i64 0, .int .i64 0, .int .i64 0, .int .i64 0, .slice none 0 0, .int .i64 0, .int .i64 0, .int .i64 0, .int .i64 0, .int .i64 0, .slice none 0 0, .int .i64 p, .int .i64 now, .int .i64 now, .slice A5 m5 c5, .int .i64 0, .slice none 0 0, .bool false, .int .i64 0, .int .i64 0, .int .i64 0, .slice none 0 0, .slice none 0 0, .int .i64 0, .int .i64 0, .int .i64 0, .slice none 0 0, .int .i64 0, .int .i64 0, .int .i64 0, .int .i64 0, .slice none 0 0]) R
  refine bodyPost_ret (v := .tuple #[.agg #[.int .i64 6, .int .i64 0, .int .i64 0, .int .i64 0, .int .i64 0, .int .i64 p, .int .i64 0, .int .i64 0, .int .i64 0, .int .i64 0, .int .i64 0, .slice none 0 0, .int .i64 0, .int .i64 0, .int .i64 0, .int .i64 0, .slice none 0 0, .int .i64 0, .int .i64 0, .int .i64 0, .int .i64 0, .int .i64 0, .slice none 0 0, .int .i64 0, .int .i64 0, .int .i64 0, .int .i64 0, .int .i64 0, .int .i64 0, .slice none 0 0, .int .i64 0, .int .i64 0, .int .i64 0, .int .i64 0, .int .i64 0, .slice none 0 0, .int .i64 p, .int .i64 now, .int .i64 now, .slice A5 m5 c5, .int .i64 0, .slice none 0 0, .bool false, .int .i64 0, .int .i64 0, .int .i64 0, .slice none 0 0, .slice none 0 0, .int .i64 0, .int .i64 0, .int .i64 0, .slice none 0 0, .int .i64 0, .int .i64 0, .int .i64 0, .int .i64 0, .slice none 0 0], .int .i64 0]) ?_ rfl ?_
  · exact results_syn (p:=4) (q:=5) rfl _ R9 rfl rfl
  · exact ⟨A5,m5,c5,rfl,hIN.setr _ in5 (fun h0 a e=>(fr6 h0 a e).1.1),below_setRow o (by omega) _,fun h0 a e => .inl (fr6 h0 a e).2⟩
set_option maxRecDepth 100000 in
theorem pansPoly (p:Int) (w:World) (HC:RowKit.Hid (∀ w',Calls Tryz.prog 108 #[.agg #[.int .i64 6, .int .i64 0, .int .i64 0, .int .i64 0, .int .i64 0, .int .i64 p, .int .i64 0, .int .i64 0]] w' fun e w''=>e = .returned (.int .i64 0)∧Below w'.heap.size w' w'')):Calls Tryz.prog 40 #[.agg #[.int .i64 6, .int .i64 0, .int .i64 0, .int .i64 0, .int .i64 0, .int .i64 p, .int .i64 0, .int .i64 0], .int .i64 9] w fun e w'=>e = .returned (.bool true)∧Below w.heap.size w w':=by
  go_enter Tryz.func40,Tryz.ntmps40
  go_upto_region 1 with (fail)
  refine start1 (fun w1 X o=>?_)
  obtain ⟨X0,X1,X2,X3,X4,X5,X6,X7,Xf0,Xf1,Xf2,Xf3,Xf4,Xf5,Xf6,Xf7⟩:=row_eight X
  go_wp2_with fail
  refine (HC.out _).mono ?_
  rintro e w2 ⟨rfl,hb⟩
  replace X:=row_call X hb
  replace o:=o.trans (hb.mono o.size)
  clear hb X0 Xf0 X1 Xf1 X2 Xf2 X3 Xf3 X4 Xf4 X5 Xf5 X6 Xf6 X7 Xf7
  obtain ⟨X0,X1,X2,X3,X4,X5,X6,X7,Xf0,Xf1,Xf2,Xf3,Xf4,Xf5,Xf6,Xf7⟩:=row_eight X
  go_wp2
  go_ret
  exact ⟨by first | rfl | exact ret_bool (by simp) | simp,o⟩
set_option maxRecDepth 100000 in
set_option maxHeartbeats 4000000 in
theorem pyAskPoly (A:Option Addr) (m c:Nat) (p land now:Int) (qa qb b0 b1 b2 b3:Int) (w:World) (HV:RowKit.Hid (∀ w',Below w.heap.size w w'→Calls Tryz.prog 142 #[.agg #[.int .i64 p, .int .i64 land, .int .i64 now, .slice A m c]] w' fun e w''=>e = .returned (.int .i64 0)∧Below w'.heap.size w' w'')) (HC:RowKit.Hid (∀ w',Calls Tryz.prog 108 #[.agg #[.int .i64 6, .int .i64 0, .int .i64 0, .int .i64 0, .int .i64 0, .int .i64 p, .int .i64 0, .int .i64 0]] w' fun e w''=>e = .returned (.int .i64 0)∧Below w'.heap.size w' w'')) (HN:RowKit.Hid (∀ w',Calls Tryz.prog 40 #[.agg #[.int .i64 6, .int .i64 0, .int .i64 0, .int .i64 0, .int .i64 0, .int .i64 p, .int .i64 0, .int .i64 0], .int .i64 9] w' fun e w''=>e = .returned (.bool true)∧Below w'.heap.size w' w'')) (HQ:RowKit.Hid (∀ w',Below w.heap.size w w'→Calls Tryz.prog 45 #[.agg #[.int .i64 p, .int .i64 land, .int .i64 now, .slice A m c]] w' fun e w''=>e = .returned (.tuple #[.agg #[.int .u64 b0, .int .u64 b1, .int .u64 b2, .int .u64 b3], .int .i64 0])∧Below w'.heap.size w' w'')):Calls Tryz.prog 12 #[.agg #[.int .i64 6, .int .i64 0, .int .i64 0, .int .i64 0, .int .i64 0, .int .i64 p, .int .i64 0, .int .i64 0, .int .i64 0, .int .i64 0, .int .i64 0, .slice none 0 0, .int .i64 0, .int .i64 0, .int .i64 0, .int .i64 0, .slice none 0 0, .int .i64 0, .int .i64 0, .int .i64 0, .int .i64 0, .int .i64 0, .slice none 0 0, .int .i64 0, .int .i64 0, .int .i64 0, .int .i64 0, .int .i64 0, .int .i64 0, .slice none 0 0, .int .i64 0, .int .i64 0, .int .i64 0, .int .i64 0, .int .i64 0, .slice none 0 0, .int .i64 p, .int .i64 land, .int .i64 now, .slice A m c, .int .i64 0, .slice none 0 0, .bool false, .int .i64 0, .int .i64 0, .int .i64 0, .slice none 0 0, .slice none 0 0, .int .i64 0, .int .i64 0, .int .i64 0, .slice none 0 0, .int .i64 0, .int .i64 0, .int .i64 0, .int .i64 0, .slice none 0 0], .agg #[.int .i64 9, .int .i64 qa, .int .i64 qb]] w fun e w'=>e = .returned (.tuple #[.agg #[.int .i64 0, .int .i64 0, .int .i64 0, .int .i64 0, .int .i64 0, .int .i64 0, .slice none 0 0, .int .u64 b0, .int .u64 b1, .int .u64 b2, .int .u64 b3], .int .i64 0])∧Below w.heap.size w w':=by
  have PVd:=Lib.hid (fun w' (hb:Below w.heap.size w w')=>pvPoly A m c p land now w' (Lib.hid (fun w'' hb2=>HV.out w'' (hb.trans (hb2.mono hb.size)))) HC)
  go_enter Tryz.func12,Tryz.ntmps12
  go_upto_region 1 with (fail)
  refine start3 (fun w1 X Q R o=>?_)
  go_wp2_with (with_reducible refine wpList_lsyn X rfl rfl _ rfl rfl ?_)
  refine (PVd.out _ o).mono ?_
  rintro e w2 ⟨rfl,hb⟩
  replace X:=row_call X hb
  replace Q:=row_call Q hb
  replace R:=row_call R hb
  replace o:=o.trans (hb.mono o.size)
  clear hb PVd
  have k0:w2.cell? ⟨w.heap.size,0,none⟩=some (.int .i64 6):=row_cell X 0
  have k1:w2.cell? ⟨w.heap.size,1,none⟩=some (.int .i64 0):=row_cell X 1
  have k2:w2.cell? ⟨w.heap.size,2,none⟩=some (.int .i64 0):=row_cell X 2
  have k3:w2.cell? ⟨w.heap.size,3,none⟩=some (.int .i64 0):=row_cell X 3
  have k4:w2.cell? ⟨w.heap.size,4,none⟩=some (.int .i64 0):=row_cell X 4
  have k5:w2.cell? ⟨w.heap.size,5,none⟩=some (.int .i64 p):=row_cell X 5
  have k6:w2.cell? ⟨w.heap.size,6,none⟩=some (.int .i64 0):=row_cell X 6
  have k7:w2.cell? ⟨w.heap.size,7,none⟩=some (.int .i64 0):=row_cell X 7
  obtain ⟨Q0,Q1,Q2,Qf0,Qf1,Qf2⟩:=row_three Q
  go_wp2_with fail
  refine (HN.out _).mono ?_
  rintro e w3 ⟨rfl,hb⟩
  replace X:=row_call X hb
  replace R:=row_call R hb
  replace o:=o.trans (hb.mono o.size)
  clear hb HN Q Q0 Q1 Q2 Qf0 Qf1 Qf2 k0 k1 k2 k3 k4 k5 k6 k7
  go_upto_region 7 with (fail)
  have V:Row (w3.alloc (.cells #[.int .i64 0, .int .i64 0, .int .i64 0, .int .i64 0, .int .i64 0, .int .i64 0, .slice none 0 0, .int .u64 0, .int .u64 0, .int .u64 0, .int .u64 0] 71)) w3.heap.size 71 #[.int .i64 0, .int .i64 0, .int .i64 0, .int .i64 0, .int .i64 0, .int .i64 0, .slice none 0 0, .int .u64 0, .int .u64 0, .int .u64 0, .int .u64 0]:=row_new rfl
  have z3:=row_lt R
  replace X:=row_alloc X (.cells #[.int .i64 0, .int .i64 0, .int .i64 0, .int .i64 0, .int .i64 0, .int .i64 0, .slice none 0 0, .int .u64 0, .int .u64 0, .int .u64 0, .int .u64 0] 71)
  replace R:=row_alloc R (.cells #[.int .i64 0, .int .i64 0, .int .i64 0, .int .i64 0, .int .i64 0, .int .i64 0, .slice none 0 0, .int .u64 0, .int .u64 0, .int .u64 0, .int .u64 0] 71)
  replace o:=o.alloc o.size (.cells #[.int .i64 0, .int .i64 0, .int .i64 0, .int .i64 0, .int .i64 0, .int .i64 0, .slice none 0 0, .int .u64 0, .int .u64 0, .int .u64 0, .int .u64 0] 71)
  generalize w3.alloc (.cells #[.int .i64 0, .int .i64 0, .int .i64 0, .int .i64 0, .int .i64 0, .int .i64 0, .slice none 0 0, .int .u64 0, .int .u64 0, .int .u64 0, .int .u64 0] 71)=w4 at X R V o ⊢
  generalize w3.heap.size=vb at V z3 ⊢
  have k0:w4.cell? ⟨w.heap.size,0,none⟩=some (.int .i64 6):=row_cell X 0
  have q0:w4.cell? ⟨w.heap.size,36,none⟩=some (.int .i64 p):=row_cell X 36
  have q1:w4.cell? ⟨w.heap.size,37,none⟩=some (.int .i64 land):=row_cell X 37
  have q2:w4.cell? ⟨w.heap.size,38,none⟩=some (.int .i64 now):=row_cell X 38
  have q3:w4.cell? ⟨w.heap.size,39,none⟩=some (.slice A m c):=row_cell X 39
  go_wp2_with fail
  refine (HQ.out _ o).mono ?_
  rintro e w5 ⟨rfl,hb⟩
  replace V:=row_call V hb
  replace R:=row_call R hb
  replace o:=o.trans (hb.mono o.size)
  clear hb HQ X k0 q0 q1 q2 q3
  have v0:w5.cell? ⟨vb,0,none⟩=some (.int .i64 0):=row_cell V 0
  have v1:w5.cell? ⟨vb,1,none⟩=some (.int .i64 0):=row_cell V 1
  have v2:w5.cell? ⟨vb,2,none⟩=some (.int .i64 0):=row_cell V 2
  have v3:w5.cell? ⟨vb,3,none⟩=some (.int .i64 0):=row_cell V 3
  have v4:w5.cell? ⟨vb,4,none⟩=some (.int .i64 0):=row_cell V 4
  have v5:w5.cell? ⟨vb,5,none⟩=some (.int .i64 0):=row_cell V 5
  have v6:w5.cell? ⟨vb,6,none⟩=some (.slice none 0 0):=row_cell V 6
  have v7:w5.cell? ⟨vb,7,none⟩=some (.int .u64 0):=row_cell V 7
  have v8:w5.cell? ⟨vb,8,none⟩=some (.int .u64 0):=row_cell V 8
  have v9:w5.cell? ⟨vb,9,none⟩=some (.int .u64 0):=row_cell V 9
  have v10:w5.cell? ⟨vb,10,none⟩=some (.int .u64 0):=row_cell V 10
  have g7:=row_free V 7
  have g8:=row_free V 8
  have g9:=row_free V 9
  have g10:=row_free V 10
  go_upto_region 39 with (fail)
  clear v0 v1 v2 v3 v4 v5 v6 v7 v8 v9 v10 g7 g8 g9 g10
  replace V:=row_set V 7 (.int .u64 b0)
  replace R:=row_other (p:=⟨vb,7,none⟩) R (by show w.heap.size+2≠vb;omega) (.int .u64 b0)
  replace o:=o.setCell (p:=⟨vb,7,none⟩) (by show w.heap.size≤vb;omega) (.int .u64 b0)
  replace V:=row_set V 8 (.int .u64 b1)
  replace R:=row_other (p:=⟨vb,8,none⟩) R (by show w.heap.size+2≠vb;omega) (.int .u64 b1)
  replace o:=o.setCell (p:=⟨vb,8,none⟩) (by show w.heap.size≤vb;omega) (.int .u64 b1)
  replace V:=row_set V 9 (.int .u64 b2)
  replace R:=row_other (p:=⟨vb,9,none⟩) R (by show w.heap.size+2≠vb;omega) (.int .u64 b2)
  replace o:=o.setCell (p:=⟨vb,9,none⟩) (by show w.heap.size≤vb;omega) (.int .u64 b2)
  replace V:=row_set V 10 (.int .u64 b3)
  replace R:=row_other (p:=⟨vb,10,none⟩) R (by show w.heap.size+2≠vb;omega) (.int .u64 b3)
  replace o:=o.setCell (p:=⟨vb,10,none⟩) (by show w.heap.size≤vb;omega) (.int .u64 b3)
  replace V:Row ((((w5.setCell ⟨vb,7,none⟩ (.int .u64 b0)).setCell ⟨vb,8,none⟩ (.int .u64 b1)).setCell ⟨vb,9,none⟩ (.int .u64 b2)).setCell ⟨vb,10,none⟩ (.int .u64 b3)) vb 71 #[.int .i64 0, .int .i64 0, .int .i64 0, .int .i64 0, .int .i64 0, .int .i64 0, .slice none 0 0, .int .u64 b0, .int .u64 b1, .int .u64 b2, .int .u64 b3]:=V
  generalize ((((w5.setCell ⟨vb,7,none⟩ (.int .u64 b0)).setCell ⟨vb,8,none⟩ (.int .u64 b1)).setCell ⟨vb,9,none⟩ (.int .u64 b2)).setCell ⟨vb,10,none⟩ (.int .u64 b3))=w6 at V R o ⊢
  have hone:(#[.int .i64 0, .int .i64 0, .int .i64 0, .int .i64 0, .int .i64 0, .int .i64 0, .slice none 0 0, .int .u64 b0, .int .u64 b1, .int .u64 b2, .int .u64 b3]:Array Value).all (·.oneCell')=true:=all_one rfl
  go_wp2_with (first | (with_reducible refine wpList_lans V rfl rfl _ rfl rfl ?_) | (with_reducible refine wpList_sans R rfl rfl hone rfl _ _ rfl rfl rfl ?_))
  have R9:=row_setRow (cs:=#[.int .i64 0, .int .i64 0, .int .i64 0, .int .i64 0, .int .i64 0, .int .i64 0, .slice none 0 0, .int .u64 b0, .int .u64 b1, .int .u64 b2, .int .u64 b3]) R
  refine bodyPost_ret (v := .tuple #[.agg #[.int .i64 0, .int .i64 0, .int .i64 0, .int .i64 0, .int .i64 0, .int .i64 0, .slice none 0 0, .int .u64 b0, .int .u64 b1, .int .u64 b2, .int .u64 b3], .int .i64 0]) ?_ rfl ?_
  · exact results_ans (p:=4) (q:=5) rfl _ R9 rfl rfl
  · exact ⟨rfl,below_setRow o (by omega) _⟩
end Go.Proofs.YtdipoojjlddohaaGreat
end
section
/- Plain arithmetic of products in two words: no program is in sight. -/
namespace Go.Proofs.YtdipoojjlddohaaGreat
open Go.RowKit
def mulV (a b:Nat):Nat:=if a*b<big then a*b else 0
def mulB (a b:Nat):Bool:=decide (a*b<big)
def mlow (x y:Nat):Nat:=(x % 18446744073709551616)*(y % 18446744073709551616)
def mhigh (x y:Nat):Nat:=(x % 18446744073709551616)*(y / 18446744073709551616)
theorem mlow_lt (x y:Nat):mlow x y<big:=mul_big (Nat.mod_lt _ (by decide)) (Nat.mod_lt _ (by decide))
theorem mul_comm' (a b:Nat):mulV a b=mulV b a∧mulB a b=mulB b a:=by unfold mulV mulB;rw [Nat.mul_comm];exact ⟨rfl,rfl⟩
theorem mul_split {x y:Nat} (hx:hi x=0):x*y=mlow x y+mhigh x y*18446744073709551616:=by
  have e:x % 18446744073709551616=x:=by unfold hi at hx;omega
  have d:=Nat.div_add_mod y 18446744073709551616
  unfold mlow mhigh
  rw [e]
  conv=>lhs;rw [← d]
  rw [Nat.mul_add,Nat.add_comm,Nat.mul_comm 18446744073709551616,Nat.mul_assoc]
theorem mul_both {a b:Nat} (ha:hi a≠0) (hb:hi b≠0):¬ a*b<big:=by
  have h1:18446744073709551616≤a:=by unfold hi at ha;omega
  have h2:18446744073709551616≤b:=by unfold hi at hb;omega
  have:=Nat.mul_le_mul h1 h2
  unfold big
  omega
theorem mul_high {x y:Nat} (hx:hi x=0) (h:hi (mhigh x y)≠0):¬ x*y<big:=by
  rw [mul_split hx]
  unfold hi big at *
  omega
theorem high_shift {m:Nat} (h:hi m=0):hi (m*18446744073709551616)=lo m∧lo (m*18446744073709551616)=0:=by unfold hi lo at *;omega
theorem high_lt {m:Nat} (h:hi m=0):m*18446744073709551616<big:=by unfold hi big at *;omega
theorem mulV_no {a b:Nat} (h:¬ a*b<big):mulV a b=0∧mulB a b=false:=by unfold mulV mulB;simp [h]
theorem mulV_yes {a b:Nat} (h:a*b<big):mulV a b=a*b∧mulB a b=true:=by unfold mulV mulB;simp [h]
end Go.Proofs.YtdipoojjlddohaaGreat
end
section
/- Plain facts on powers: no program is in sight. -/
namespace Go.Proofs.YtdipoojjlddohaaGreat
def powN (a j:Nat):Nat:=a ^ j
def powV (a n:Nat):Nat:=if powN a n<big then powN a n else 0
def powB (a n:Nat):Bool:=decide (powN a n<big)
theorem powN_0 (a:Nat):powN a 0=1:=rfl
theorem powN_1 (n:Nat):powN 1 n=1:=by unfold powN;simp
theorem powN_null {n:Nat} (h:0<n):powN 0 n=0:=by
  unfold powN
  exact Nat.zero_pow h
theorem powN_succ (a j:Nat):powN a (j+1)=powN a j*a:=rfl
theorem one_big:1<big:=by decide
theorem zero_big:0<big:=by decide
theorem pow_yes {a n:Nat} (h:powN a n<big):powV a n=powN a n∧powB a n=true:=by unfold powV powB;simp [h]
theorem pow_no {a n:Nat} (h:¬ powN a n<big):powV a n=0∧powB a n=false:=by unfold powV powB;simp [h]
theorem pow_over {a j n:Nat} (ha:2≤a) (hj:j+1≤n) (h:¬ powN a j*a<big):powV a n=0∧powB a n=false:=by
  refine pow_no ?_
  intro k
  apply h
  have:a ^ (j+1)≤a ^ n:=Nat.pow_le_pow_right (by omega) hj
  exact Nat.lt_of_le_of_lt this k
end Go.Proofs.YtdipoojjlddohaaGreat
end
section
/- Counters with polynomial decay: which states are valid, what the operations answer; plain. -/
namespace Go.Proofs.YtdipoojjlddohaaGreat
structure POut where
  p:Int
  land:Int
  now:Int
  ms:List Nat
  f:Int
def qzero (f:Int):POut:=⟨0,0,0,[],f⟩
def ageN (land now:Int):Nat:=(now-land+1).toNat
def momAt (ms:List Nat) (i:Nat):Nat:=ms.getD i 0
def linkOK (a:Nat) (ms:List Nat) (i:Nat):Bool:=decide (i=0∨momAt ms (i-1)≤momAt ms i∧momAt ms i≤momAt ms (i-1)*a)
def pOK (p land now:Int) (ms:List Nat):Bool :=
  decide (0≤p∧p≤4∧0≤now∧now≤16777216∧0≤land∧land≤now∧(ms.length:Int)=p+1∧∀ i,i<ms.length→linkOK (ageN land now) ms i=true)
def pvalE (p land now:Int) (ms:List Nat):Int:=if pOK p land now ms=true then 0 else 2
section
variable {p land now:Int} {ms:List Nat} {i:Nat}
theorem pvalE_no (h:¬ (0≤p∧p≤4∧0≤now∧now≤16777216∧0≤land∧land≤now∧(ms.length:Int)=p+1∧∀ i,i<ms.length→linkOK (ageN land now) ms i=true)):pvalE p land now ms=2:=by
  unfold pvalE pOK
  rw [if_neg]
  rw [decide_eq_true_eq]
  exact h
theorem pvalE_yes (h:0≤p∧p≤4∧0≤now∧now≤16777216∧0≤land∧land≤now∧(ms.length:Int)=p+1∧∀ i,i<ms.length→linkOK (ageN land now) ms i=true):pvalE p land now ms=0:=by
  unfold pvalE pOK
  rw [if_pos]
  rw [decide_eq_true_eq]
  exact h
theorem of_pvalE (h:pvalE p land now ms=0):0≤p∧p≤4∧0≤now∧now≤16777216∧0≤land∧land≤now∧(ms.length:Int)=p+1∧∀ i,i<ms.length→linkOK (ageN land now) ms i=true:=by
  unfold pvalE at h
  split at h
  · rename_i hs
    unfold pOK at hs
    rw [decide_eq_true_eq] at hs
    exact hs
  · cases h
theorem linkOK_no {a:Nat} (h0:i≠0) (h:¬ (momAt ms (i-1)≤momAt ms i∧momAt ms i≤momAt ms (i-1)*a)):linkOK a ms i=false:=by
  unfold linkOK
  rw [decide_eq_false_iff_not]
  intro k
  rcases k with k | k
  · exact h0 k
  · exact h k
theorem linkOK_yes {a:Nat} (h:i=0∨momAt ms (i-1)≤momAt ms i∧momAt ms i≤momAt ms (i-1)*a):linkOK a ms i=true:=by
  unfold linkOK
  rw [decide_eq_true_eq]
  exact h
theorem pvalE_bad (hi:i<ms.length) (h:linkOK (ageN land now) ms i=false):pvalE p land now ms=2:=pvalE_no (by
  intro a
  have:=a.2.2.2.2.2.2.2 i hi
  rw [h] at this
  cases this)
theorem ageN_bound (h0:0≤land) (h1:land≤now) (h2:now≤16777216):1≤ageN land now∧ageN land now≤16777217:=by
  unfold ageN
  omega
theorem ageN_int (h1:land≤now):((ageN land now:Nat):Int)=now-land+1:=by
  unfold ageN
  omega
end
def upto (f:Nat→Nat) (k:Nat):List Nat:=(List.range k).map f
theorem upto_succ (f:Nat→Nat) (k:Nat):upto f (k+1)=upto f k ++ [f k]:=by
  unfold upto
  rw [List.range_succ,List.map_append]
  rfl
theorem upto_len (f:Nat→Nat) (k:Nat):(upto f k).length=k:=by unfold upto;simp
theorem upto_at {f:Nat→Nat} {k j:Nat} (h:j<k):momAt (upto f k) j=f j:=by
  unfold momAt upto
  rw [List.getD_eq_getElem?_getD,List.getElem?_map,List.getElem?_range h]
  rfl
theorem mom_out {ms:List Nat} {i:Nat} (h:ms.length≤i):momAt ms i=0:=by
  unfold momAt
  rw [List.getD_eq_getElem?_getD,List.getElem?_eq_none h]
  rfl
theorem upto_congr {f g:Nat→Nat} {k:Nat} (h:∀ j,j<k→f j=g j):upto f k=upto g k:=by
  unfold upto
  apply List.map_congr_left
  intro j hj
  exact h j (List.mem_range.1 hj)
def fitB (f:Nat→Nat) (k:Nat):Bool:=decide (∀ j,j<k→f j<big)
theorem fitB_yes {f:Nat→Nat} {k:Nat} (h:∀ j,j<k→f j<big):fitB f k=true:=by
  unfold fitB
  rw [decide_eq_true_eq]
  exact h
theorem fitB_no {f:Nat→Nat} {k j:Nat} (hj:j<k) (h:¬ f j<big):fitB f k=false:=by
  unfold fitB
  rw [decide_eq_false_iff_not]
  intro a
  exact h (a j hj)
theorem upto_big {f:Nat→Nat} {k:Nat} (h:∀ j,j<k→f j<big) (i:Nat):momAt (upto f k) i<big:=by
  by_cases hi:i<k
  · rw [upto_at hi]
    exact h i hi
  · rw [mom_out (by rw [upto_len];omega)]
    decide
def qnew (p now:Int):POut:=if 0≤p∧p≤4∧0≤now∧now≤16777216 then ⟨p,now,now,List.replicate (p+1).toNat 0,0⟩ else qzero 1
def qadv (p land now:Int) (ms:List Nat) (tt9:Int):POut :=
  if pvalE p land now ms≠0 then qzero 2 else if tt9<now∨16777216<tt9 then qzero 3 else ⟨p,land,tt9,ms,0⟩
def powT (a v j:Nat):Nat:=powN a j*v
def padT (a v:Nat) (ms:List Nat) (j:Nat):Nat:=momAt ms j+powT a v j
def qadd (p land now:Int) (ms:List Nat) (v:Int):POut :=
  if pvalE p land now ms≠0 then qzero 2 else if v<0∨4096<v then qzero 4 else
    if fitB (padT (ageN land now) v.toNat ms) ms.length=true then ⟨p,land,now,upto (padT (ageN land now) v.toNat ms) ms.length,0⟩ else qzero 6
structure FOut where
  num:Nat
  den:Nat
  f:Int
def qask (p land now:Int) (ms:List Nat):FOut :=
  if pvalE p land now ms≠0 then ⟨0,0,2⟩ else ⟨momAt ms p.toNat,powN (ageN land now) p.toNat,0⟩
def cN:Nat→Nat→Nat
  | _,0=>1
  | 0,_+1=>0
  | n+1,k+1=>cN n k+cN n (k+1)
def rebS (d:Nat) (ms:List Nat) (j i:Nat):Nat:=(powN d (j-i)*cN j i)*momAt ms i
def rebT (d:Nat) (ms:List Nat) (j:Nat):Nat→Nat
  | 0=>0
  | i+1=>rebT d ms j i+rebS d ms j i
def rebM (d:Nat) (ms:List Nat) (j:Nat):Nat:=rebT d ms j (j+1)
def qreb (p land now:Int) (ms:List Nat) (tt9:Int):POut :=
  if pvalE p land now ms≠0 then qzero 2 else if tt9<0∨land<tt9 then qzero 1 else
    if fitB (rebM (land-tt9).toNat ms) ms.length=true then ⟨p,tt9,now,upto (rebM (land-tt9).toNat ms) ms.length,0⟩ else qzero 6
def sumT (xs ys:List Nat) (j:Nat):Nat:=momAt xs j+momAt ys j
def qmer (p land now:Int) (ms:List Nat) (p' land' now':Int) (ms':List Nat):POut :=
  if pvalE p land now ms≠0 then qzero 2 else if pvalE p' land' now' ms'≠0 then qzero 2 else if p≠p'∨now≠now' then qzero 1 else
    if fitB (rebM (land-min land land').toNat ms) ms.length=true∧fitB (rebM (land'-min land land').toNat ms') ms'.length=true ∧
      fitB (sumT (upto (rebM (land-min land land').toNat ms) ms.length) (upto (rebM (land'-min land land').toNat ms') ms'.length)) ms.length=true
    then ⟨p,min land land',now,upto (sumT (upto (rebM (land-min land land').toNat ms) ms.length) (upto (rebM (land'-min land land').toNat ms') ms'.length)) ms.length,0⟩
    else qzero 6
section
variable {p land now tt9 v:Int} {ms:List Nat}
theorem qnew_yes (h0:0≤p) (h1:p≤4) (h2:0≤now) (h3:now≤16777216):qnew p now=⟨p,now,now,List.replicate (p+1).toNat 0,0⟩:=by unfold qnew;rw [if_pos ⟨h0,h1,h2,h3⟩]
theorem qadv_ok (hv:pvalE p land now ms=0) (h0:now≤tt9) (h1:tt9≤16777216):qadv p land now ms tt9=⟨p,land,tt9,ms,0⟩:=by unfold qadv;rw [if_neg (by rw [hv];decide),if_neg (by omega)]
theorem qadd_over (hv:pvalE p land now ms=0) (h0:0≤v) (h1:v≤4096) (h:fitB (padT (ageN land now) v.toNat ms) ms.length=false):qadd p land now ms v=qzero 6:=by
  unfold qadd;rw [if_neg (by rw [hv];decide),if_neg (by omega),if_neg (by rw [h];decide)]
theorem qadd_ok (hv:pvalE p land now ms=0) (h0:0≤v) (h1:v≤4096) (h:fitB (padT (ageN land now) v.toNat ms) ms.length=true):qadd p land now ms v=⟨p,land,now,upto (padT (ageN land now) v.toNat ms) ms.length,0⟩:=by
  unfold qadd;rw [if_neg (by rw [hv];decide),if_neg (by omega),if_pos h]
theorem qask_ok (hv:pvalE p land now ms=0):qask p land now ms=⟨momAt ms p.toNat,powN (ageN land now) p.toNat,0⟩:=by unfold qask;rw [if_neg (by rw [hv];decide)]
variable {p' land' now':Int} {ms':List Nat}
end
theorem powN_le {a b:Nat} (h:a≤b) (j:Nat):powN a j≤powN b j:=Nat.pow_le_pow_left h j
theorem powN_mono {a:Nat} (ha:1≤a) {j k:Nat} (h:j≤k):powN a j≤powN a k:=Nat.pow_le_pow_right ha h
theorem powN_small {a j:Nat} (ha:a≤16777217) (hj:j≤4):powN a j≤79228181403575882009617301505*100:=by
  refine Nat.le_trans (powN_le ha j) (Nat.le_trans (powN_mono (by decide) hj) ?_)
  decide
theorem powN_fits {a j:Nat} (ha:a≤16777217) (hj:j≤4):powN a j<big:=Nat.lt_of_le_of_lt (powN_small ha hj) (by decide)
theorem powT_fits {a v j:Nat} (ha:a≤16777217) (hj:j≤4) (hv:v≤4096):powN a j*v<big:=Nat.lt_of_le_of_lt (Nat.mul_le_mul (powN_small ha hj) hv) (by decide)
end Go.Proofs.YtdipoojjlddohaaGreat
end
