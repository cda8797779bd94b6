/- What the law TopExact needs, joined of its texts by a program (slim2.py); part 17. -/
import Derived.Test.YtdipoojjlddohaaGreatZTopExact1
import Derived.Test.YtdipoojjlddohaaGreatZTopExact4
import Derived.Test.YtdipoojjlddohaaGreatZTopExact8
import Derived.Test.YtdipoojjlddohaaGreatZTopExact11
import Derived.Test.YtdipoojjlddohaaGreatZTopExact14
import Derived.Test.YtdipoojjlddohaaGreatZTopExact16
set_option linter.unusedVariables false
set_option linter.unusedSimpArgs false
set_option linter.unusedSectionVars false
set_option linter.unnecessarySimpa false
section
/- Synopses of kind Extreme: the empty ones, and the answer, walked. -/
namespace Go.Proofs.YtdipoojjlddohaaGreat
open Go.RowKit
set_option maxRecDepth 100000 in
set_option maxHeartbeats 4000000 in
theorem pyNewExtreme (g:Bool) (wd cap mx now:Int) (w:World) (IN:Option Addr→Nat→Nat→World→Prop) (hIN:InOK IN) (n0:0≤now) (n1:now≤16777216) (eM:(mx == 1)=g) (HC:RowKit.Hid (∀ w',Calls Tryz.prog 108 #[.agg #[.int .i64 8, .int .i64 0, .int .i64 wd, .int .i64 0, .int .i64 cap, .int .i64 0, .int .i64 0, .int .i64 mx]] w' fun e w''=>e = .returned (.int .i64 0)∧Below w'.heap.size w' w'')) (HA:RowKit.Hid (∀ w',Calls Tryz.prog 116 #[.bool g, .int .i64 wd, .int .i64 cap, .int .i64 now] w' (GRet IN (fun A m c=>#[.bool g, .int .i64 wd, .int .i64 cap, .int .i64 now, .slice A m c]) 0 (fun _=>False) w'))):Calls Tryz.prog 37 #[.agg #[.int .i64 8, .int .i64 0, .int .i64 wd, .int .i64 0, .int .i64 cap, .int .i64 0, .int .i64 0, .int .i64 mx], .int .i64 now] w (GRet IN (fun A m c=>#[.int .i64 8, .int .i64 0, .int .i64 wd, .int .i64 0, .int .i64 cap, .int .i64 0, .int .i64 0, .int .i64 mx, .int .i64 0, .int .i64 0, .int .i64 0, .slice none 0 0, .int .i64 0, .int .i64 0, .int .i64 0, .int .i64 0, .slice none 0 0, .int .i64 0, .int .i64 0, .int .i64 0, .int .i64 0, .int .i64 0, .slice none 0 0, .int .i64 0, .int .i64 0, .int .i64 0, .int .i64 0, .int .i64 0, .int .i64 0, .slice none 0 0, .int .i64 0, .int .i64 0, .int .i64 0, .int .i64 0, .int .i64 0, .slice none 0 0, .int .i64 0, .int .i64 0, .int .i64 0, .slice none 0 0, .int .i64 0, .slice none 0 0, .bool g, .int .i64 wd, .int .i64 cap, .int .i64 now, .slice A m c, .slice none 0 0, .int .i64 0, .int .i64 0, .int .i64 0, .slice none 0 0, .int .i64 0, .int .i64 0, .int .i64 0, .int .i64 0, .slice none 0 0]) 0 (fun _=>False) w):=by
  have PT:=Lib.hid (fun w=>pstick now w n0 n1)
  go_enter Tryz.func37,Tryz.ntmps37
  go_upto_region 1 with (fail)
  refine start2 (fun w1 X R o=>?_)
  obtain ⟨X0,X1,X2,X3,X4,X5,X6,X7,Xf0,Xf1,Xf2,Xf3,Xf4,Xf5,Xf6,Xf7⟩:=row_eight X
  go_wp2_with fail
  refine (HC.out _).mono ?_
  rintro e w2 ⟨rfl,hb⟩
  replace X:=row_call X hb
  replace R:=row_call R hb
  replace o:=o.trans (hb.mono o.size)
  clear hb X0 Xf0 X1 Xf1 X2 Xf2 X3 Xf3 X4 Xf4 X5 Xf5 X6 Xf6 X7 Xf7
  obtain ⟨X0,X1,X2,X3,X4,X5,X6,X7,Xf0,Xf1,Xf2,Xf3,Xf4,Xf5,Xf6,Xf7⟩:=row_eight X
  go_upto_region 6 with (go_at_call 73;with_reducible refine (PT.out _).mono ?_;rintro e w9 ⟨rfl,h9⟩;obtain rfl:=h9.symm)
  have honeZ:(#[.int .i64 8, .int .i64 0, .int .i64 wd, .int .i64 0, .int .i64 cap, .int .i64 0, .int .i64 0, .int .i64 mx, .int .i64 0, .int .i64 0, .int .i64 0, .slice none 0 0, .int .i64 0, .int .i64 0, .int .i64 0, .int .i64 0, .slice none 0 0, .int .i64 0, .int .i64 0, .int .i64 0, .int .i64 0, .int .i64 0, .slice none 0 0, .int .i64 0, .int .i64 0, .int .i64 0, .int .i64 0, .int .i64 0, .int .i64 0, .slice none 0 0, .int .i64 0, .int .i64 0, .int .i64 0, .int .i64 0, .int .i64 0, .slice none 0 0, .int .i64 0, .int .i64 0, .int .i64 0, .slice none 0 0, .int .i64 0, .slice none 0 0, .bool false, .int .i64 0, .int .i64 0, .int .i64 0, .slice none 0 0, .slice none 0 0, .int .i64 0, .int .i64 0, .int .i64 0, .slice none 0 0, .int .i64 0, .int .i64 0, .int .i64 0, .int .i64 0, .slice none 0 0]:Array Value).all (·.oneCell')=true:=all_one rfl
  have SZ:Row (w2.alloc (.cells #[.int .i64 0, .int .i64 0, .int .i64 0, .int .i64 0, .int .i64 0, .int .i64 0, .int .i64 0, .int .i64 0, .int .i64 0, .int .i64 0, .int .i64 0, .slice none 0 0, .int .i64 0, .int .i64 0, .int .i64 0, .int .i64 0, .slice none 0 0, .int .i64 0, .int .i64 0, .int .i64 0, .int .i64 0, .int .i64 0, .slice none 0 0, .int .i64 0, .int .i64 0, .int .i64 0, .int .i64 0, .int .i64 0, .int .i64 0, .slice none 0 0, .int .i64 0, .int .i64 0, .int .i64 0, .int .i64 0, .int .i64 0, .slice none 0 0, .int .i64 0, .int .i64 0, .int .i64 0, .slice none 0 0, .int .i64 0, .slice none 0 0, .bool false, .int .i64 0, .int .i64 0, .int .i64 0, .slice none 0 0, .slice none 0 0, .int .i64 0, .int .i64 0, .int .i64 0, .slice none 0 0, .int .i64 0, .int .i64 0, .int .i64 0, .int .i64 0, .slice none 0 0] 58)) w2.heap.size 58 #[.int .i64 0, .int .i64 0, .int .i64 0, .int .i64 0, .int .i64 0, .int .i64 0, .int .i64 0, .int .i64 0, .int .i64 0, .int .i64 0, .int .i64 0, .slice none 0 0, .int .i64 0, .int .i64 0, .int .i64 0, .int .i64 0, .slice none 0 0, .int .i64 0, .int .i64 0, .int .i64 0, .int .i64 0, .int .i64 0, .slice none 0 0, .int .i64 0, .int .i64 0, .int .i64 0, .int .i64 0, .int .i64 0, .int .i64 0, .slice none 0 0, .int .i64 0, .int .i64 0, .int .i64 0, .int .i64 0, .int .i64 0, .slice none 0 0, .int .i64 0, .int .i64 0, .int .i64 0, .slice none 0 0, .int .i64 0, .slice none 0 0, .bool false, .int .i64 0, .int .i64 0, .int .i64 0, .slice none 0 0, .slice none 0 0, .int .i64 0, .int .i64 0, .int .i64 0, .slice none 0 0, .int .i64 0, .int .i64 0, .int .i64 0, .int .i64 0, .slice none 0 0]:=row_new rfl
  go_upto_region 7 with (first | (with_reducible refine wpList_bsyn (.int .i64 8) (.int .i64 0) (.int .i64 wd) (.int .i64 0) (.int .i64 cap) (.int .i64 0) (.int .i64 0) (.int .i64 mx) rfl _ rfl rfl ?_) | (with_reducible refine wpList_ssyn SZ rfl rfl honeZ rfl _ _ rfl rfl rfl ?_))
  have S:=row_setRow (cs:=#[.int .i64 8, .int .i64 0, .int .i64 wd, .int .i64 0, .int .i64 cap, .int .i64 0, .int .i64 0, .int .i64 mx, .int .i64 0, .int .i64 0, .int .i64 0, .slice none 0 0, .int .i64 0, .int .i64 0, .int .i64 0, .int .i64 0, .slice none 0 0, .int .i64 0, .int .i64 0, .int .i64 0, .int .i64 0, .int .i64 0, .slice none 0 0, .int .i64 0, .int .i64 0, .int .i64 0, .int .i64 0, .int .i64 0, .int .i64 0, .slice none 0 0, .int .i64 0, .int .i64 0, .int .i64 0, .int .i64 0, .int .i64 0, .slice none 0 0, .int .i64 0, .int .i64 0, .int .i64 0, .slice none 0 0, .int .i64 0, .slice none 0 0, .bool false, .int .i64 0, .int .i64 0, .int .i64 0, .slice none 0 0, .slice none 0 0, .int .i64 0, .int .i64 0, .int .i64 0, .slice none 0 0, .int .i64 0, .int .i64 0, .int .i64 0, .int .i64 0, .slice none 0 0]) SZ
  have z2:=row_lt R
  replace X:=row_setRow_other (g:=w2.heap.size) (cs':=#[.int .i64 8, .int .i64 0, .int .i64 wd, .int .i64 0, .int .i64 cap, .int .i64 0, .int .i64 0, .int .i64 mx, .int .i64 0, .int .i64 0, .int .i64 0, .slice none 0 0, .int .i64 0, .int .i64 0, .int .i64 0, .int .i64 0, .slice none 0 0, .int .i64 0, .int .i64 0, .int .i64 0, .int .i64 0, .int .i64 0, .slice none 0 0, .int .i64 0, .int .i64 0, .int .i64 0, .int .i64 0, .int .i64 0, .int .i64 0, .slice none 0 0, .int .i64 0, .int .i64 0, .int .i64 0, .int .i64 0, .int .i64 0, .slice none 0 0, .int .i64 0, .int .i64 0, .int .i64 0, .slice none 0 0, .int .i64 0, .slice none 0 0, .bool false, .int .i64 0, .int .i64 0, .int .i64 0, .slice none 0 0, .slice none 0 0, .int .i64 0, .int .i64 0, .int .i64 0, .slice none 0 0, .int .i64 0, .int .i64 0, .int .i64 0, .int .i64 0, .slice none 0 0]) (row_alloc X (.cells #[.int .i64 0, .int .i64 0, .int .i64 0, .int .i64 0, .int .i64 0, .int .i64 0, .int .i64 0, .int .i64 0, .int .i64 0, .int .i64 0, .int .i64 0, .slice none 0 0, .int .i64 0, .int .i64 0, .int .i64 0, .int .i64 0, .slice none 0 0, .int .i64 0, .int .i64 0, .int .i64 0, .int .i64 0, .int .i64 0, .slice none 0 0, .int .i64 0, .int .i64 0, .int .i64 0, .int .i64 0, .int .i64 0, .int .i64 0, .slice none 0 0, .int .i64 0, .int .i64 0, .int .i64 0, .int .i64 0, .int .i64 0, .slice none 0 0, .int .i64 0, .int .i64 0, .int .i64 0, .slice none 0 0, .int .i64 0, .slice none 0 0, .bool false, .int .i64 0, .int .i64 0, .int .i64 0, .slice none 0 0, .slice none 0 0, .int .i64 0, .int .i64 0, .int .i64 0, .slice none 0 0, .int .i64 0, .int .i64 0, .int .i64 0, .int .i64 0, .slice none 0 0] 58)) (by have:=row_lt X;omega)
  replace R:=row_setRow_other (g:=w2.heap.size) (cs':=#[.int .i64 8, .int .i64 0, .int .i64 wd, .int .i64 0, .int .i64 cap, .int .i64 0, .int .i64 0, .int .i64 mx, .int .i64 0, .int .i64 0, .int .i64 0, .slice none 0 0, .int .i64 0, .int .i64 0, .int .i64 0, .int .i64 0, .slice none 0 0, .int .i64 0, .int .i64 0, .int .i64 0, .int .i64 0, .int .i64 0, .slice none 0 0, .int .i64 0, .int .i64 0, .int .i64 0, .int .i64 0, .int .i64 0, .int .i64 0, .slice none 0 0, .int .i64 0, .int .i64 0, .int .i64 0, .int .i64 0, .int .i64 0, .slice none 0 0, .int .i64 0, .int .i64 0, .int .i64 0, .slice none 0 0, .int .i64 0, .slice none 0 0, .bool false, .int .i64 0, .int .i64 0, .int .i64 0, .slice none 0 0, .slice none 0 0, .int .i64 0, .int .i64 0, .int .i64 0, .slice none 0 0, .int .i64 0, .int .i64 0, .int .i64 0, .int .i64 0, .slice none 0 0]) (row_alloc R (.cells #[.int .i64 0, .int .i64 0, .int .i64 0, .int .i64 0, .int .i64 0, .int .i64 0, .int .i64 0, .int .i64 0, .int .i64 0, .int .i64 0, .int .i64 0, .slice none 0 0, .int .i64 0, .int .i64 0, .int .i64 0, .int .i64 0, .slice none 0 0, .int .i64 0, .int .i64 0, .int .i64 0, .int .i64 0, .int .i64 0, .slice none 0 0, .int .i64 0, .int .i64 0, .int .i64 0, .int .i64 0, .int .i64 0, .int .i64 0, .slice none 0 0, .int .i64 0, .int .i64 0, .int .i64 0, .int .i64 0, .int .i64 0, .slice none 0 0, .int .i64 0, .int .i64 0, .int .i64 0, .slice none 0 0, .int .i64 0, .slice none 0 0, .bool false, .int .i64 0, .int .i64 0, .int .i64 0, .slice none 0 0, .slice none 0 0, .int .i64 0, .int .i64 0, .int .i64 0, .slice none 0 0, .int .i64 0, .int .i64 0, .int .i64 0, .int .i64 0, .slice none 0 0] 58)) (by omega)
  replace o:=below_setRow (g:=w2.heap.size) (o.alloc o.size (.cells #[.int .i64 0, .int .i64 0, .int .i64 0, .int .i64 0, .int .i64 0, .int .i64 0, .int .i64 0, .int .i64 0, .int .i64 0, .int .i64 0, .int .i64 0, .slice none 0 0, .int .i64 0, .int .i64 0, .int .i64 0, .int .i64 0, .slice none 0 0, .int .i64 0, .int .i64 0, .int .i64 0, .int .i64 0, .int .i64 0, .slice none 0 0, .int .i64 0, .int .i64 0, .int .i64 0, .int .i64 0, .int .i64 0, .int .i64 0, .slice none 0 0, .int .i64 0, .int .i64 0, .int .i64 0, .int .i64 0, .int .i64 0, .slice none 0 0, .int .i64 0, .int .i64 0, .int .i64 0, .slice none 0 0, .int .i64 0, .slice none 0 0, .bool false, .int .i64 0, .int .i64 0, .int .i64 0, .slice none 0 0, .slice none 0 0, .int .i64 0, .int .i64 0, .int .i64 0, .slice none 0 0, .int .i64 0, .int .i64 0, .int .i64 0, .int .i64 0, .slice none 0 0] 58)) o.size #[.int .i64 8, .int .i64 0, .int .i64 wd, .int .i64 0, .int .i64 cap, .int .i64 0, .int .i64 0, .int .i64 mx, .int .i64 0, .int .i64 0, .int .i64 0, .slice none 0 0, .int .i64 0, .int .i64 0, .int .i64 0, .int .i64 0, .slice none 0 0, .int .i64 0, .int .i64 0, .int .i64 0, .int .i64 0, .int .i64 0, .slice none 0 0, .int .i64 0, .int .i64 0, .int .i64 0, .int .i64 0, .int .i64 0, .int .i64 0, .slice none 0 0, .int .i64 0, .int .i64 0, .int .i64 0, .int .i64 0, .int .i64 0, .slice none 0 0, .int .i64 0, .int .i64 0, .int .i64 0, .slice none 0 0, .int .i64 0, .slice none 0 0, .bool false, .int .i64 0, .int .i64 0, .int .i64 0, .slice none 0 0, .slice none 0 0, .int .i64 0, .int .i64 0, .int .i64 0, .slice none 0 0, .int .i64 0, .int .i64 0, .int .i64 0, .int .i64 0, .slice none 0 0]
  obtain ⟨w3,hw3⟩:∃ x,x=(w2.alloc (.cells #[.int .i64 0, .int .i64 0, .int .i64 0, .int .i64 0, .int .i64 0, .int .i64 0, .int .i64 0, .int .i64 0, .int .i64 0, .int .i64 0, .int .i64 0, .slice none 0 0, .int .i64 0, .int .i64 0, .int .i64 0, .int .i64 0, .slice none 0 0, .int .i64 0, .int .i64 0, .int .i64 0, .int .i64 0, .int .i64 0, .slice none 0 0, .int .i64 0, .int .i64 0, .int .i64 0, .int .i64 0, .int .i64 0, .int .i64 0, .slice none 0 0, .int .i64 0, .int .i64 0, .int .i64 0, .int .i64 0, .int .i64 0, .slice none 0 0, .int .i64 0, .int .i64 0, .int .i64 0, .slice none 0 0, .int .i64 0, .slice none 0 0, .bool false, .int .i64 0, .int .i64 0, .int .i64 0, .slice none 0 0, .slice none 0 0, .int .i64 0, .int .i64 0, .int .i64 0, .slice none 0 0, .int .i64 0, .int .i64 0, .int .i64 0, .int .i64 0, .slice none 0 0] 58)).setRow w2.heap.size #[.int .i64 8, .int .i64 0, .int .i64 wd, .int .i64 0, .int .i64 cap, .int .i64 0, .int .i64 0, .int .i64 mx, .int .i64 0, .int .i64 0, .int .i64 0, .slice none 0 0, .int .i64 0, .int .i64 0, .int .i64 0, .int .i64 0, .slice none 0 0, .int .i64 0, .int .i64 0, .int .i64 0, .int .i64 0, .int .i64 0, .slice none 0 0, .int .i64 0, .int .i64 0, .int .i64 0, .int .i64 0, .int .i64 0, .int .i64 0, .slice none 0 0, .int .i64 0, .int .i64 0, .int .i64 0, .int .i64 0, .int .i64 0, .slice none 0 0, .int .i64 0, .int .i64 0, .int .i64 0, .slice none 0 0, .int .i64 0, .slice none 0 0, .bool false, .int .i64 0, .int .i64 0, .int .i64 0, .slice none 0 0, .slice none 0 0, .int .i64 0, .int .i64 0, .int .i64 0, .slice none 0 0, .int .i64 0, .int .i64 0, .int .i64 0, .int .i64 0, .slice none 0 0]:=⟨_,rfl⟩
  rw [← hw3] at X R S o ⊢
  clear hw3
  generalize w2.heap.size=sb at S z2 ⊢
  clear SZ
  clear X0 Xf0 X1 Xf1 X2 Xf2 X3 Xf3 X4 Xf4 X5 Xf5 X6 Xf6 X7 Xf7
  obtain ⟨X0,X1,X2,X3,X4,X5,X6,X7,Xf0,Xf1,Xf2,Xf3,Xf4,Xf5,Xf6,Xf7⟩:=row_eight X
  go_wp2_with fail
  refine (HA.out _).mono ?_
  rintro e w4 ⟨A5,m5,c5,rfl,in5,hb,fr5⟩
  have zs:=row_lt S
  have fr6:0<m5→∀ a,A5=some a→(w.heap.size+1≠a.block∧sb≠a.block)∧w.heap.size≤a.block:=fun h0 a e=>by
    have zo:=o.size
    rcases fr5 h0 a e with h | h
    · exact ⟨⟨by omega,by omega⟩,by omega⟩
    · exact h.elim
  replace S:=row_call S hb
  replace R:=row_call R hb
  replace o:=o.trans (hb.mono o.size)
  clear hb fr5 X X0 Xf0 X1 Xf1 X2 Xf2 X3 Xf3 X4 Xf4 X5 Xf5 X6 Xf6 X7 Xf7
  have q0:w4.cell? ⟨sb,42,none⟩=some (.bool false):=row_cell S 42
  have f0:=row_free S 42
  have q1:w4.cell? ⟨sb,43,none⟩=some (.int .i64 0):=row_cell S 43
  have f1:=row_free S 43
  have q2:w4.cell? ⟨sb,44,none⟩=some (.int .i64 0):=row_cell S 44
  have f2:=row_free S 44
  have q3:w4.cell? ⟨sb,45,none⟩=some (.int .i64 0):=row_cell S 45
  have f3:=row_free S 45
  have q4:w4.cell? ⟨sb,46,none⟩=some (.slice none 0 0):=row_cell S 46
  have f4:=row_free S 46
  go_upto_region 31 with (fail)
  clear q0 f0 q1 f1 q2 f2 q3 f3 q4 f4
  show Code.wp _ _ _ _ (setL w4 sb 42 [.bool g, .int .i64 wd, .int .i64 cap, .int .i64 now, .slice A5 m5 c5])
  refine layS 42 [.bool g, .int .i64 wd, .int .i64 cap, .int .i64 now, .slice A5 m5 c5] S R o hIN in5 (fun h0 a e=>(fr6 h0 a e).1.2) (by omega) (by omega) ?_
  clear S R o in5
  intro w5 S R o in5
  replace S:Row w5 sb 58 #[.int .i64 8, .int .i64 0, .int .i64 wd, .int .i64 0, .int .i64 cap, .int .i64 0, .int .i64 0, .int .i64 mx, .int .i64 0, .int .i64 0, .int .i64 0, .slice none 0 0, .int .i64 0, .int .i64 0, .int .i64 0, .int .i64 0, .slice none 0 0, .int .i64 0, .int .i64 0, .int .i64 0, .int .i64 0, .int .i64 0, .slice none 0 0, .int .i64 0, .int .i64 0, .int .i64 0, .int .i64 0, .int .i64 0, .int .i64 0, .slice none 0 0, .int .i64 0, .int .i64 0, .int .i64 0, .int .i64 0, .int .i64 0, .slice none 0 0, .int .i64 0, .int .i64 0, .int .i64 0, .slice none 0 0, .int .i64 0, .slice none 0 0, .bool g, .int .i64 wd, .int .i64 cap, .int .i64 now, .slice A5 m5 c5, .slice none 0 0, .int .i64 0, .int .i64 0, .int .i64 0, .slice none 0 0, .int .i64 0, .int .i64 0, .int .i64 0, .int .i64 0, .slice none 0 0]:=S
  have hone:(#[.int .i64 8, .int .i64 0, .int .i64 wd, .int .i64 0, .int .i64 cap, .int .i64 0, .int .i64 0, .int .i64 mx, .int .i64 0, .int .i64 0, .int .i64 0, .slice none 0 0, .int .i64 0, .int .i64 0, .int .i64 0, .int .i64 0, .slice none 0 0, .int .i64 0, .int .i64 0, .int .i64 0, .int .i64 0, .int .i64 0, .slice none 0 0, .int .i64 0, .int .i64 0, .int .i64 0, .int .i64 0, .int .i64 0, .int .i64 0, .slice none 0 0, .int .i64 0, .int .i64 0, .int .i64 0, .int .i64 0, .int .i64 0, .slice none 0 0, .int .i64 0, .int .i64 0, .int .i64 0, .slice none 0 0, .int .i64 0, .slice none 0 0, .bool g, .int .i64 wd, .int .i64 cap, .int .i64 now, .slice A5 m5 c5, .slice none 0 0, .int .i64 0, .int .i64 0, .int .i64 0, .slice none 0 0, .int .i64 0, .int .i64 0, .int .i64 0, .int .i64 0, .slice none 0 0]:Array Value).all (·.oneCell')=true:=all_one rfl
  go_wp2_with (first | (with_reducible refine wpList_lsyn S rfl rfl _ rfl rfl ?_) | (with_reducible refine wpList_ssyn R rfl rfl hone rfl _ _ rfl rfl rfl ?_))
  have R9:=row_setRow (cs:=#[.int .i64 8, .int .i64 0, .int .i64 wd, .int .i64 0, .int .i64 cap, .int .i64 0, .int .i64 0, .int .i64 mx, .int .i64 0, .int .i64 0, .int .i64 0, .slice none 0 0, .int .i64 0, .int .i64 0, .int .i64 0, .int .i64 0, .slice none 0 0, .int .i64 0, .int .i64 0, .int .i64 0, .int .i64 0, .int .i64 0, .slice none 0 0, .int .i64 0, .int .i64 0, .int .i64 0, .int .i64 0, .int .i64 0, .int .i64 0, .slice none 0 0, .int .i64 0, .int .i64 0, .int .i64 0, .int .i64 0, .int .i64 0, .slice none 0 0, .int .i64 0, .int .i64 0, .int .i64 0, .slice none 0 0, .int .i64 0, .slice none 0 0, .bool g, .int .i64 wd, .int .i64 cap, .int .i64 now, .slice A5 m5 c5, .slice none 0 0, .int .i64 0, .int .i64 0, .int .i64 0, .slice none 0 0, .int .i64 0, .int .i64 0, .int .i64 0, .int .i64 0, .slice none 0 0]) R
  refine bodyPost_ret (v := .tuple #[.agg #[.int .i64 8, .int .i64 0, .int .i64 wd, .int .i64 0, .int .i64 cap, .int .i64 0, .int .i64 0, .int .i64 mx, .int .i64 0, .int .i64 0, .int .i64 0, .slice none 0 0, .int .i64 0, .int .i64 0, .int .i64 0, .int .i64 0, .slice none 0 0, .int .i64 0, .int .i64 0, .int .i64 0, .int .i64 0, .int .i64 0, .slice none 0 0, .int .i64 0, .int .i64 0, .int .i64 0, .int .i64 0, .int .i64 0, .int .i64 0, .slice none 0 0, .int .i64 0, .int .i64 0, .int .i64 0, .int .i64 0, .int .i64 0, .slice none 0 0, .int .i64 0, .int .i64 0, .int .i64 0, .slice none 0 0, .int .i64 0, .slice none 0 0, .bool g, .int .i64 wd, .int .i64 cap, .int .i64 now, .slice A5 m5 c5, .slice none 0 0, .int .i64 0, .int .i64 0, .int .i64 0, .slice none 0 0, .int .i64 0, .int .i64 0, .int .i64 0, .int .i64 0, .slice none 0 0], .int .i64 0]) ?_ rfl ?_
  · exact results_syn (p:=4) (q:=5) rfl _ R9 rfl rfl
  · exact ⟨A5,m5,c5,rfl,hIN.setr _ in5 (fun h0 a e=>(fr6 h0 a e).1.1),below_setRow o (by omega) _,fun h0 a e => .inl (fr6 h0 a e).2⟩
set_option maxRecDepth 100000 in
theorem pansExtreme (wd cap mx:Int) (w:World) (HC:RowKit.Hid (∀ w',Calls Tryz.prog 108 #[.agg #[.int .i64 8, .int .i64 0, .int .i64 wd, .int .i64 0, .int .i64 cap, .int .i64 0, .int .i64 0, .int .i64 mx]] w' fun e w''=>e = .returned (.int .i64 0)∧Below w'.heap.size w' w'')):Calls Tryz.prog 40 #[.agg #[.int .i64 8, .int .i64 0, .int .i64 wd, .int .i64 0, .int .i64 cap, .int .i64 0, .int .i64 0, .int .i64 mx], .int .i64 6] w fun e w'=>e = .returned (.bool true)∧Below w.heap.size w w':=by
  go_enter Tryz.func40,Tryz.ntmps40
  go_upto_region 1 with (fail)
  refine start1 (fun w1 X o=>?_)
  obtain ⟨X0,X1,X2,X3,X4,X5,X6,X7,Xf0,Xf1,Xf2,Xf3,Xf4,Xf5,Xf6,Xf7⟩:=row_eight X
  go_wp2_with fail
  refine (HC.out _).mono ?_
  rintro e w2 ⟨rfl,hb⟩
  replace X:=row_call X hb
  replace o:=o.trans (hb.mono o.size)
  clear hb X0 Xf0 X1 Xf1 X2 Xf2 X3 Xf3 X4 Xf4 X5 Xf5 X6 Xf6 X7 Xf7
  obtain ⟨X0,X1,X2,X3,X4,X5,X6,X7,Xf0,Xf1,Xf2,Xf3,Xf4,Xf5,Xf6,Xf7⟩:=row_eight X
  go_wp2
  go_ret
  exact ⟨by first | rfl | exact ret_bool (by simp) | simp,o⟩
set_option maxRecDepth 100000 in
set_option maxHeartbeats 4000000 in
theorem pyAskExtreme_one (A:Option Addr) (m c:Nat) (g:Bool) (wd cap mx now:Int) (qa qb v:Int) (w:World) (HV:RowKit.Hid (∀ w',Below w.heap.size w w'→Calls Tryz.prog 144 #[.agg #[.bool g, .int .i64 wd, .int .i64 cap, .int .i64 now, .slice A m c]] w' fun e w''=>e = .returned (.int .i64 0)∧Below w'.heap.size w' w'')) (HC:RowKit.Hid (∀ w',Calls Tryz.prog 108 #[.agg #[.int .i64 8, .int .i64 0, .int .i64 wd, .int .i64 0, .int .i64 cap, .int .i64 0, .int .i64 0, .int .i64 mx]] w' fun e w''=>e = .returned (.int .i64 0)∧Below w'.heap.size w' w'')) (eM:(mx == 1)=g) (HN:RowKit.Hid (∀ w',Calls Tryz.prog 40 #[.agg #[.int .i64 8, .int .i64 0, .int .i64 wd, .int .i64 0, .int .i64 cap, .int .i64 0, .int .i64 0, .int .i64 mx], .int .i64 6] w' fun e w''=>e = .returned (.bool true)∧Below w'.heap.size w' w'')) (HQ:RowKit.Hid (∀ w',Below w.heap.size w w'→Calls Tryz.prog 47 #[.agg #[.bool g, .int .i64 wd, .int .i64 cap, .int .i64 now, .slice A m c]] w' fun e w''=>e = .returned (.tuple #[.int .i64 v, .int .i64 0])∧Below w'.heap.size w' w'')):Calls Tryz.prog 12 #[.agg #[.int .i64 8, .int .i64 0, .int .i64 wd, .int .i64 0, .int .i64 cap, .int .i64 0, .int .i64 0, .int .i64 mx, .int .i64 0, .int .i64 0, .int .i64 0, .slice none 0 0, .int .i64 0, .int .i64 0, .int .i64 0, .int .i64 0, .slice none 0 0, .int .i64 0, .int .i64 0, .int .i64 0, .int .i64 0, .int .i64 0, .slice none 0 0, .int .i64 0, .int .i64 0, .int .i64 0, .int .i64 0, .int .i64 0, .int .i64 0, .slice none 0 0, .int .i64 0, .int .i64 0, .int .i64 0, .int .i64 0, .int .i64 0, .slice none 0 0, .int .i64 0, .int .i64 0, .int .i64 0, .slice none 0 0, .int .i64 0, .slice none 0 0, .bool g, .int .i64 wd, .int .i64 cap, .int .i64 now, .slice A m c, .slice none 0 0, .int .i64 0, .int .i64 0, .int .i64 0, .slice none 0 0, .int .i64 0, .int .i64 0, .int .i64 0, .int .i64 0, .slice none 0 0], .agg #[.int .i64 6, .int .i64 qa, .int .i64 qb]] w (fun e w'=>∃ q,e = .returned (.tuple #[.agg #[.int .i64 0, .int .i64 0, .int .i64 0, .int .i64 0, .int .i64 0, .int .i64 0, .slice (some ⟨q,0,none⟩) 1 1, .int .u64 0, .int .u64 0, .int .u64 0, .int .u64 0], .int .i64 0])∧Row w' q 2 #[.int .i64 v]∧w.heap.size≤q∧Below w.heap.size w w'):=by
  have PVd:=Lib.hid (fun w' (hb:Below w.heap.size w w')=>pvExtreme A m c g wd cap mx now eM w' (Lib.hid (fun w'' hb2=>HV.out w'' (hb.trans (hb2.mono hb.size)))) HC)
  go_enter Tryz.func12,Tryz.ntmps12
  go_upto_region 1 with (fail)
  refine start3 (fun w1 X Q R o=>?_)
  go_wp2_with (with_reducible refine wpList_lsyn X rfl rfl _ rfl rfl ?_)
  refine (PVd.out _ o).mono ?_
  rintro e w2 ⟨rfl,hb⟩
  replace X:=row_call X hb
  replace Q:=row_call Q hb
  replace R:=row_call R hb
  replace o:=o.trans (hb.mono o.size)
  clear hb PVd
  have k0:w2.cell? ⟨w.heap.size,0,none⟩=some (.int .i64 8):=row_cell X 0
  have k1:w2.cell? ⟨w.heap.size,1,none⟩=some (.int .i64 0):=row_cell X 1
  have k2:w2.cell? ⟨w.heap.size,2,none⟩=some (.int .i64 wd):=row_cell X 2
  have k3:w2.cell? ⟨w.heap.size,3,none⟩=some (.int .i64 0):=row_cell X 3
  have k4:w2.cell? ⟨w.heap.size,4,none⟩=some (.int .i64 cap):=row_cell X 4
  have k5:w2.cell? ⟨w.heap.size,5,none⟩=some (.int .i64 0):=row_cell X 5
  have k6:w2.cell? ⟨w.heap.size,6,none⟩=some (.int .i64 0):=row_cell X 6
  have k7:w2.cell? ⟨w.heap.size,7,none⟩=some (.int .i64 mx):=row_cell X 7
  obtain ⟨Q0,Q1,Q2,Qf0,Qf1,Qf2⟩:=row_three Q
  go_wp2_with fail
  refine (HN.out _).mono ?_
  rintro e w3 ⟨rfl,hb⟩
  replace X:=row_call X hb
  replace R:=row_call R hb
  replace o:=o.trans (hb.mono o.size)
  clear hb HN Q Q0 Q1 Q2 Qf0 Qf1 Qf2 k0 k1 k2 k3 k4 k5 k6 k7
  go_upto_region 7 with (fail)
  have V:Row (w3.alloc (.cells #[.int .i64 0, .int .i64 0, .int .i64 0, .int .i64 0, .int .i64 0, .int .i64 0, .slice none 0 0, .int .u64 0, .int .u64 0, .int .u64 0, .int .u64 0] 71)) w3.heap.size 71 #[.int .i64 0, .int .i64 0, .int .i64 0, .int .i64 0, .int .i64 0, .int .i64 0, .slice none 0 0, .int .u64 0, .int .u64 0, .int .u64 0, .int .u64 0]:=row_new rfl
  have z3:=row_lt R
  replace X:=row_alloc X (.cells #[.int .i64 0, .int .i64 0, .int .i64 0, .int .i64 0, .int .i64 0, .int .i64 0, .slice none 0 0, .int .u64 0, .int .u64 0, .int .u64 0, .int .u64 0] 71)
  replace R:=row_alloc R (.cells #[.int .i64 0, .int .i64 0, .int .i64 0, .int .i64 0, .int .i64 0, .int .i64 0, .slice none 0 0, .int .u64 0, .int .u64 0, .int .u64 0, .int .u64 0] 71)
  replace o:=o.alloc o.size (.cells #[.int .i64 0, .int .i64 0, .int .i64 0, .int .i64 0, .int .i64 0, .int .i64 0, .slice none 0 0, .int .u64 0, .int .u64 0, .int .u64 0, .int .u64 0] 71)
  generalize w3.alloc (.cells #[.int .i64 0, .int .i64 0, .int .i64 0, .int .i64 0, .int .i64 0, .int .i64 0, .slice none 0 0, .int .u64 0, .int .u64 0, .int .u64 0, .int .u64 0] 71)=w4 at X R V o ⊢
  generalize w3.heap.size=vb at V z3 ⊢
  have k0:w4.cell? ⟨w.heap.size,0,none⟩=some (.int .i64 8):=row_cell X 0
  have q0:w4.cell? ⟨w.heap.size,42,none⟩=some (.bool g):=row_cell X 42
  have q1:w4.cell? ⟨w.heap.size,43,none⟩=some (.int .i64 wd):=row_cell X 43
  have q2:w4.cell? ⟨w.heap.size,44,none⟩=some (.int .i64 cap):=row_cell X 44
  have q3:w4.cell? ⟨w.heap.size,45,none⟩=some (.int .i64 now):=row_cell X 45
  have q4:w4.cell? ⟨w.heap.size,46,none⟩=some (.slice A m c):=row_cell X 46
  go_wp2_with fail
  refine (HQ.out _ o).mono ?_
  rintro e w5 ⟨rfl,hb⟩
  replace V:=row_call V hb
  replace R:=row_call R hb
  replace o:=o.trans (hb.mono o.size)
  clear hb HQ X k0 q0 q1 q2 q3 q4
  go_upto_region 42 with (fail)
  have zv:=row_lt V
  have zR:=row_lt R
  have zo:=o.size
  have v6:=row_cell V 6
  have g6:=row_free V 6
  go_upto_region 43 with (fail)
  clear v6 g6
  obtain ⟨q,hq⟩:∃ q,q=w5.heap.size:=⟨_,rfl⟩
  rw [← hq] at zv zR zo ⊢
  replace V:=row_alloc (row_set V 6 (.slice (some ⟨q,0,none⟩) 1 1)) (.cells #[.int .i64 v] 2)
  replace R:=row_alloc (row_other (p:=⟨vb,6,none⟩) R (by show w.heap.size+2≠vb;omega) (.slice (some ⟨q,0,none⟩) 1 1)) (.cells #[.int .i64 v] 2)
  have NV:Row ((w5.setCell ⟨vb,6,none⟩ (.slice (some ⟨q,0,none⟩) 1 1)).alloc (.cells #[.int .i64 v] 2)) q 2 #[.int .i64 v]:=row_new (by rw [size_setCell];exact hq)
  clear hq
  replace o:=(o.setCell (p:=⟨vb,6,none⟩) (by show w.heap.size≤vb;omega) (.slice (some ⟨q,0,none⟩) 1 1)).alloc (by rw [size_setCell];exact o.size) (.cells #[.int .i64 v] 2)
  replace V:Row ((w5.setCell ⟨vb,6,none⟩ (.slice (some ⟨q,0,none⟩) 1 1)).alloc (.cells #[.int .i64 v] 2)) vb 71 #[.int .i64 0, .int .i64 0, .int .i64 0, .int .i64 0, .int .i64 0, .int .i64 0, .slice (some ⟨q,0,none⟩) 1 1, .int .u64 0, .int .u64 0, .int .u64 0, .int .u64 0]:=V
  generalize (w5.setCell ⟨vb,6,none⟩ (.slice (some ⟨q,0,none⟩) 1 1)).alloc (.cells #[.int .i64 v] 2)=w7 at V R NV o ⊢
  have hone:(#[.int .i64 0, .int .i64 0, .int .i64 0, .int .i64 0, .int .i64 0, .int .i64 0, .slice (some ⟨q,0,none⟩) 1 1, .int .u64 0, .int .u64 0, .int .u64 0, .int .u64 0]:Array Value).all (·.oneCell')=true:=all_one rfl
  go_wp2_with (first | (with_reducible refine wpList_lans V rfl rfl _ rfl rfl ?_) | (with_reducible refine wpList_sans R rfl rfl hone rfl _ _ rfl rfl rfl ?_))
  have R9:=row_setRow (cs:=#[.int .i64 0, .int .i64 0, .int .i64 0, .int .i64 0, .int .i64 0, .int .i64 0, .slice (some ⟨q,0,none⟩) 1 1, .int .u64 0, .int .u64 0, .int .u64 0, .int .u64 0]) R
  refine bodyPost_ret (v := .tuple #[.agg #[.int .i64 0, .int .i64 0, .int .i64 0, .int .i64 0, .int .i64 0, .int .i64 0, .slice (some ⟨q,0,none⟩) 1 1, .int .u64 0, .int .u64 0, .int .u64 0, .int .u64 0], .int .i64 0]) ?_ rfl ?_
  · exact results_ans (p:=4) (q:=5) rfl _ R9 rfl rfl
  · exact ⟨q,rfl,row_setRow_other NV (by omega),by omega,below_setRow o (by omega) _⟩
set_option maxRecDepth 100000 in
set_option maxHeartbeats 4000000 in
theorem pyAskExtreme_nil (A:Option Addr) (m c:Nat) (g:Bool) (wd cap mx now:Int) (qa qb:Int) (w:World) (HV:RowKit.Hid (∀ w',Below w.heap.size w w'→Calls Tryz.prog 144 #[.agg #[.bool g, .int .i64 wd, .int .i64 cap, .int .i64 now, .slice A m c]] w' fun e w''=>e = .returned (.int .i64 0)∧Below w'.heap.size w' w'')) (HC:RowKit.Hid (∀ w',Calls Tryz.prog 108 #[.agg #[.int .i64 8, .int .i64 0, .int .i64 wd, .int .i64 0, .int .i64 cap, .int .i64 0, .int .i64 0, .int .i64 mx]] w' fun e w''=>e = .returned (.int .i64 0)∧Below w'.heap.size w' w'')) (eM:(mx == 1)=g) (HN:RowKit.Hid (∀ w',Calls Tryz.prog 40 #[.agg #[.int .i64 8, .int .i64 0, .int .i64 wd, .int .i64 0, .int .i64 cap, .int .i64 0, .int .i64 0, .int .i64 mx], .int .i64 6] w' fun e w''=>e = .returned (.bool true)∧Below w'.heap.size w' w'')) (HQ:RowKit.Hid (∀ w',Below w.heap.size w w'→Calls Tryz.prog 47 #[.agg #[.bool g, .int .i64 wd, .int .i64 cap, .int .i64 now, .slice A m c]] w' fun e w''=>e = .returned (.tuple #[.int .i64 0, .int .i64 7])∧Below w'.heap.size w' w'')):Calls Tryz.prog 12 #[.agg #[.int .i64 8, .int .i64 0, .int .i64 wd, .int .i64 0, .int .i64 cap, .int .i64 0, .int .i64 0, .int .i64 mx, .int .i64 0, .int .i64 0, .int .i64 0, .slice none 0 0, .int .i64 0, .int .i64 0, .int .i64 0, .int .i64 0, .slice none 0 0, .int .i64 0, .int .i64 0, .int .i64 0, .int .i64 0, .int .i64 0, .slice none 0 0, .int .i64 0, .int .i64 0, .int .i64 0, .int .i64 0, .int .i64 0, .int .i64 0, .slice none 0 0, .int .i64 0, .int .i64 0, .int .i64 0, .int .i64 0, .int .i64 0, .slice none 0 0, .int .i64 0, .int .i64 0, .int .i64 0, .slice none 0 0, .int .i64 0, .slice none 0 0, .bool g, .int .i64 wd, .int .i64 cap, .int .i64 now, .slice A m c, .slice none 0 0, .int .i64 0, .int .i64 0, .int .i64 0, .slice none 0 0, .int .i64 0, .int .i64 0, .int .i64 0, .int .i64 0, .slice none 0 0], .agg #[.int .i64 6, .int .i64 qa, .int .i64 qb]] w (fun e w'=>e = .returned (.tuple #[.agg #[.int .i64 0, .int .i64 0, .int .i64 0, .int .i64 0, .int .i64 0, .int .i64 0, .slice none 0 0, .int .u64 0, .int .u64 0, .int .u64 0, .int .u64 0], .int .i64 7])∧Below w.heap.size w w'):=by
  have PVd:=Lib.hid (fun w' (hb:Below w.heap.size w w')=>pvExtreme A m c g wd cap mx now eM w' (Lib.hid (fun w'' hb2=>HV.out w'' (hb.trans (hb2.mono hb.size)))) HC)
  go_enter Tryz.func12,Tryz.ntmps12
  go_upto_region 1 with (fail)
  refine start3 (fun w1 X Q R o=>?_)
  go_wp2_with (with_reducible refine wpList_lsyn X rfl rfl _ rfl rfl ?_)
  refine (PVd.out _ o).mono ?_
  rintro e w2 ⟨rfl,hb⟩
  replace X:=row_call X hb
  replace Q:=row_call Q hb
  replace R:=row_call R hb
  replace o:=o.trans (hb.mono o.size)
  clear hb PVd
  have k0:w2.cell? ⟨w.heap.size,0,none⟩=some (.int .i64 8):=row_cell X 0
  have k1:w2.cell? ⟨w.heap.size,1,none⟩=some (.int .i64 0):=row_cell X 1
  have k2:w2.cell? ⟨w.heap.size,2,none⟩=some (.int .i64 wd):=row_cell X 2
  have k3:w2.cell? ⟨w.heap.size,3,none⟩=some (.int .i64 0):=row_cell X 3
  have k4:w2.cell? ⟨w.heap.size,4,none⟩=some (.int .i64 cap):=row_cell X 4
  have k5:w2.cell? ⟨w.heap.size,5,none⟩=some (.int .i64 0):=row_cell X 5
  have k6:w2.cell? ⟨w.heap.size,6,none⟩=some (.int .i64 0):=row_cell X 6
  have k7:w2.cell? ⟨w.heap.size,7,none⟩=some (.int .i64 mx):=row_cell X 7
  obtain ⟨Q0,Q1,Q2,Qf0,Qf1,Qf2⟩:=row_three Q
  go_wp2_with fail
  refine (HN.out _).mono ?_
  rintro e w3 ⟨rfl,hb⟩
  replace X:=row_call X hb
  replace R:=row_call R hb
  replace o:=o.trans (hb.mono o.size)
  clear hb HN Q Q0 Q1 Q2 Qf0 Qf1 Qf2 k0 k1 k2 k3 k4 k5 k6 k7
  go_upto_region 7 with (fail)
  have V:Row (w3.alloc (.cells #[.int .i64 0, .int .i64 0, .int .i64 0, .int .i64 0, .int .i64 0, .int .i64 0, .slice none 0 0, .int .u64 0, .int .u64 0, .int .u64 0, .int .u64 0] 71)) w3.heap.size 71 #[.int .i64 0, .int .i64 0, .int .i64 0, .int .i64 0, .int .i64 0, .int .i64 0, .slice none 0 0, .int .u64 0, .int .u64 0, .int .u64 0, .int .u64 0]:=row_new rfl
  have z3:=row_lt R
  replace X:=row_alloc X (.cells #[.int .i64 0, .int .i64 0, .int .i64 0, .int .i64 0, .int .i64 0, .int .i64 0, .slice none 0 0, .int .u64 0, .int .u64 0, .int .u64 0, .int .u64 0] 71)
  replace R:=row_alloc R (.cells #[.int .i64 0, .int .i64 0, .int .i64 0, .int .i64 0, .int .i64 0, .int .i64 0, .slice none 0 0, .int .u64 0, .int .u64 0, .int .u64 0, .int .u64 0] 71)
  replace o:=o.alloc o.size (.cells #[.int .i64 0, .int .i64 0, .int .i64 0, .int .i64 0, .int .i64 0, .int .i64 0, .slice none 0 0, .int .u64 0, .int .u64 0, .int .u64 0, .int .u64 0] 71)
  generalize w3.alloc (.cells #[.int .i64 0, .int .i64 0, .int .i64 0, .int .i64 0, .int .i64 0, .int .i64 0, .slice none 0 0, .int .u64 0, .int .u64 0, .int .u64 0, .int .u64 0] 71)=w4 at X R V o ⊢
  generalize w3.heap.size=vb at V z3 ⊢
  have k0:w4.cell? ⟨w.heap.size,0,none⟩=some (.int .i64 8):=row_cell X 0
  have q0:w4.cell? ⟨w.heap.size,42,none⟩=some (.bool g):=row_cell X 42
  have q1:w4.cell? ⟨w.heap.size,43,none⟩=some (.int .i64 wd):=row_cell X 43
  have q2:w4.cell? ⟨w.heap.size,44,none⟩=some (.int .i64 cap):=row_cell X 44
  have q3:w4.cell? ⟨w.heap.size,45,none⟩=some (.int .i64 now):=row_cell X 45
  have q4:w4.cell? ⟨w.heap.size,46,none⟩=some (.slice A m c):=row_cell X 46
  go_wp2_with fail
  refine (HQ.out _ o).mono ?_
  rintro e w5 ⟨rfl,hb⟩
  replace V:=row_call V hb
  replace R:=row_call R hb
  replace o:=o.trans (hb.mono o.size)
  clear hb HQ X k0 q0 q1 q2 q3 q4
  clear V z3
  have hone:(#[.int .i64 0, .int .i64 0, .int .i64 0, .int .i64 0, .int .i64 0, .int .i64 0, .slice none 0 0, .int .u64 0, .int .u64 0, .int .u64 0, .int .u64 0]:Array Value).all (·.oneCell')=true:=all_one rfl
  go_wp2_with (with_reducible refine wpList_sans R rfl rfl hone rfl _ _ rfl rfl rfl ?_)
  have R9:=row_setRow (cs:=#[.int .i64 0, .int .i64 0, .int .i64 0, .int .i64 0, .int .i64 0, .int .i64 0, .slice none 0 0, .int .u64 0, .int .u64 0, .int .u64 0, .int .u64 0]) R
  have o9:=below_setRow (g:=w.heap.size+2) o (by omega) #[.int .i64 0, .int .i64 0, .int .i64 0, .int .i64 0, .int .i64 0, .int .i64 0, .slice none 0 0, .int .u64 0, .int .u64 0, .int .u64 0, .int .u64 0]
  exact bodyPost_ret (results_ans (p:=4) (q:=5) rfl _ R9 rfl rfl) rfl ⟨rfl,o9⟩
end Go.Proofs.YtdipoojjlddohaaGreat
end
section
/- Smooth histograms: the aggregate of the live items lies between the bounds, which are narrow; few marks; plain. -/
namespace Go.Proofs.YtdipoojjlddohaaGreat
def isum:List Itm→Int
  | []=>0
  | x :: l=>x.v+isum l
def isq:List Itm→Int
  | []=>0
  | x :: l=>x.v*x.v+isq l
def IsMin (l:List Itm) (m:Int):Prop:=(∃ x∈l,x.v=m)∧∀ x∈l,m≤x.v
def IsMax (l:List Itm) (m:Int):Prop:=(∃ x∈l,x.v=m)∧∀ x∈l,x.v≤m
structure MkIs (m:Mk) (l:List Itm):Prop where
  n:m.n=l.length
  s:m.s=isum l
  q:m.q=isq l
  lo:IsMin l m.lo
  hi:IsMax l m.hi
structure Ord (l:List Itm) (now:Int):Prop where
  up:∀ i j,i≤j→j<l.length→(itmAt l i).t≤(itmAt l j).t
  pos:∀ i,i<l.length→0≤(itmAt l i).t
  now:∀ i,i<l.length→(itmAt l i).t≤now
structure HistOf (l:List Mk) (seq now wd:Int) (its:List Itm):Prop where
  seq:seq=its.length
  ord:Ord its now
  mks:∀ m∈l,1≤m.seq∧m.seq≤its.length∧m.t=(itmAt its (m.seq-1).toNat).t∧MkIs m (its.drop (m.seq-1).toNat)
  gone:∀ i:Nat,i<its.length→(l≠[]→(i:Int)<(mkAt l 0).seq-1)→(itmAt its i).t≤now-wd
def liveI (now wd:Int) (its:List Itm):List Itm:=its.filter fun x=>decide (now-wd<x.t∧x.t≤now)
def AggIs (agg:Int) (l:List Itm) (n:Int):Prop :=
  (agg=1→n=l.length)∧(agg=2→n=isum l)∧(agg=3→n=isq l)∧(agg=4→(l=[]∧n=0)∨∃ lo hi,IsMin l lo∧IsMax l hi∧n=hi-lo)
def ValsOK (agg:Int) (l:List Itm):Prop:=∀ x∈l,leastV agg≤x.v∧x.v≤4096
def askLo (agg now wd:Int) (l:List Mk):Int :=
  if l=[] then 0 else if now-wd<(mkAt l 0).t then ofV agg (mkAt l 0) else ofV agg (mkAt l 1)
def askHi (agg now wd:Int) (l:List Mk):Int :=
  if l=[] then 0 else if now-wd<(mkAt l 0).t then ofV agg (mkAt l 0) else if (mkAt l 1).seq=(mkAt l 0).seq+1 then ofV agg (mkAt l 1) else ofV agg (mkAt l 0)
def topF (agg cap:Int):Int:=if agg=2 then cap*4096 else if agg=3 then cap*16777216 else if agg=4 then 8192 else cap
def mostS (agg k cap:Int):Int:=if (1≤agg∧agg≤4)∧1≤k∧k≤64∧1≤cap∧cap≤65536 then 2*k*(Lib.bitLen (topF agg cap).toNat:Nat)+2 else 0
end Go.Proofs.YtdipoojjlddohaaGreat
end
