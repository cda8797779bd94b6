/- What the law TopSummaries needs, joined of its texts by a program (slim2.py); part 27. -/
import Derived.Test.YtdipoojjlddohaaGreatZTopSummaries1
import Derived.Test.YtdipoojjlddohaaGreatZTopSummaries4
import Derived.Test.YtdipoojjlddohaaGreatZTopSummaries7
import Derived.Test.YtdipoojjlddohaaGreatZTopSummaries10
import Derived.Test.YtdipoojjlddohaaGreatZTopSummaries16
import Derived.Test.YtdipoojjlddohaaGreatZTopSummaries25
set_option linter.unusedVariables false
set_option linter.unusedSimpArgs false
set_option linter.unusedSectionVars false
set_option linter.unnecessarySimpa false
section
/- Synopses of kind Quantile: the empty ones, and the answer, walked. -/
namespace Go.Proofs.YtdipoojjlddohaaGreat
open Go.RowKit
set_option maxRecDepth 100000 in
set_option maxHeartbeats 4000000 in
theorem pyNewQuantile (wd:Int) (k cap:Nat) (now:Int) (w:World) (n0:0≤now) (n1:now≤16777216) (HC:RowKit.Hid (∀ w',Calls Tryz.prog 108 #[.agg #[.int .i64 11, .int .i64 0, .int .i64 wd, .int .i64 (k:Nat), .int .i64 (cap:Nat), .int .i64 0, .int .i64 0, .int .i64 0]] w' fun e w''=>e = .returned (.int .i64 0)∧Below w'.heap.size w' w'')) (HA:RowKit.Hid (∀ w',Calls Tryz.prog 119 #[.int .i64 wd, .int .i64 (k:Nat), .int .i64 (cap:Nat), .int .i64 now] w' fun e w''=>e = .returned (.tuple #[.agg #[.int .i64 wd, .int .i64 (k:Nat), .int .i64 (cap:Nat), .int .i64 now, .slice none 0 0], .int .i64 0])∧Below w'.heap.size w' w'')):Calls Tryz.prog 37 #[.agg #[.int .i64 11, .int .i64 0, .int .i64 wd, .int .i64 (k:Nat), .int .i64 (cap:Nat), .int .i64 0, .int .i64 0, .int .i64 0], .int .i64 now] w fun e w'=>e = .returned (.tuple #[.agg #[.int .i64 11, .int .i64 0, .int .i64 wd, .int .i64 (k:Nat), .int .i64 (cap:Nat), .int .i64 0, .int .i64 0, .int .i64 0, .int .i64 0, .int .i64 0, .int .i64 0, .slice none 0 0, .int .i64 0, .int .i64 0, .int .i64 0, .int .i64 0, .slice none 0 0, .int .i64 0, .int .i64 0, .int .i64 0, .int .i64 0, .int .i64 0, .slice none 0 0, .int .i64 0, .int .i64 0, .int .i64 0, .int .i64 0, .int .i64 0, .int .i64 0, .slice none 0 0, .int .i64 0, .int .i64 0, .int .i64 0, .int .i64 0, .int .i64 0, .slice none 0 0, .int .i64 0, .int .i64 0, .int .i64 0, .slice none 0 0, .int .i64 0, .slice none 0 0, .bool false, .int .i64 0, .int .i64 0, .int .i64 0, .slice none 0 0, .slice none 0 0, .int .i64 0, .int .i64 0, .int .i64 0, .slice none 0 0, .int .i64 wd, .int .i64 (k:Nat), .int .i64 (cap:Nat), .int .i64 now, .slice none 0 0], .int .i64 0])∧Below w.heap.size w w':=by
  have PT:=Lib.hid (fun w=>pstick now w n0 n1)
  go_enter Tryz.func37,Tryz.ntmps37
  go_upto_region 1 with (fail)
  refine start2 (fun w1 X R o=>?_)
  obtain ⟨X0,X1,X2,X3,X4,X5,X6,X7,Xf0,Xf1,Xf2,Xf3,Xf4,Xf5,Xf6,Xf7⟩:=row_eight X
  go_wp2_with fail
  refine (HC.out _).mono ?_
  rintro e w2 ⟨rfl,hb⟩
  replace X:=row_call X hb
  replace R:=row_call R hb
  replace o:=o.trans (hb.mono o.size)
  clear hb X0 Xf0 X1 Xf1 X2 Xf2 X3 Xf3 X4 Xf4 X5 Xf5 X6 Xf6 X7 Xf7
  obtain ⟨X0,X1,X2,X3,X4,X5,X6,X7,Xf0,Xf1,Xf2,Xf3,Xf4,Xf5,Xf6,Xf7⟩:=row_eight X
  go_upto_region 6 with (go_at_call 73;with_reducible refine (PT.out _).mono ?_;rintro e w9 ⟨rfl,h9⟩;obtain rfl:=h9.symm)
  have honeZ:(#[.int .i64 11, .int .i64 0, .int .i64 wd, .int .i64 (k:Nat), .int .i64 (cap:Nat), .int .i64 0, .int .i64 0, .int .i64 0, .int .i64 0, .int .i64 0, .int .i64 0, .slice none 0 0, .int .i64 0, .int .i64 0, .int .i64 0, .int .i64 0, .slice none 0 0, .int .i64 0, .int .i64 0, .int .i64 0, .int .i64 0, .int .i64 0, .slice none 0 0, .int .i64 0, .int .i64 0, .int .i64 0, .int .i64 0, .int .i64 0, .int .i64 0, .slice none 0 0, .int .i64 0, .int .i64 0, .int .i64 0, .int .i64 0, .int .i64 0, .slice none 0 0, .int .i64 0, .int .i64 0, .int .i64 0, .slice none 0 0, .int .i64 0, .slice none 0 0, .bool false, .int .i64 0, .int .i64 0, .int .i64 0, .slice none 0 0, .slice none 0 0, .int .i64 0, .int .i64 0, .int .i64 0, .slice none 0 0, .int .i64 0, .int .i64 0, .int .i64 0, .int .i64 0, .slice none 0 0]:Array Value).all (·.oneCell')=true:=all_one rfl
  have SZ:Row (w2.alloc (.cells #[.int .i64 0, .int .i64 0, .int .i64 0, .int .i64 0, .int .i64 0, .int .i64 0, .int .i64 0, .int .i64 0, .int .i64 0, .int .i64 0, .int .i64 0, .slice none 0 0, .int .i64 0, .int .i64 0, .int .i64 0, .int .i64 0, .slice none 0 0, .int .i64 0, .int .i64 0, .int .i64 0, .int .i64 0, .int .i64 0, .slice none 0 0, .int .i64 0, .int .i64 0, .int .i64 0, .int .i64 0, .int .i64 0, .int .i64 0, .slice none 0 0, .int .i64 0, .int .i64 0, .int .i64 0, .int .i64 0, .int .i64 0, .slice none 0 0, .int .i64 0, .int .i64 0, .int .i64 0, .slice none 0 0, .int .i64 0, .slice none 0 0, .bool false, .int .i64 0, .int .i64 0, .int .i64 0, .slice none 0 0, .slice none 0 0, .int .i64 0, .int .i64 0, .int .i64 0, .slice none 0 0, .int .i64 0, .int .i64 0, .int .i64 0, .int .i64 0, .slice none 0 0] 58)) w2.heap.size 58 #[.int .i64 0, .int .i64 0, .int .i64 0, .int .i64 0, .int .i64 0, .int .i64 0, .int .i64 0, .int .i64 0, .int .i64 0, .int .i64 0, .int .i64 0, .slice none 0 0, .int .i64 0, .int .i64 0, .int .i64 0, .int .i64 0, .slice none 0 0, .int .i64 0, .int .i64 0, .int .i64 0, .int .i64 0, .int .i64 0, .slice none 0 0, .int .i64 0, .int .i64 0, .int .i64 0, .int .i64 0, .int .i64 0, .int .i64 0, .slice none 0 0, .int .i64 0, .int .i64 0, .int .i64 0, .int .i64 0, .int .i64 0, .slice none 0 0, .int .i64 0, .int .i64 0, .int .i64 0, .slice none 0 0, .int .i64 0, .slice none 0 0, .bool false, .int .i64 0, .int .i64 0, .int .i64 0, .slice none 0 0, .slice none 0 0, .int .i64 0, .int .i64 0, .int .i64 0, .slice none 0 0, .int .i64 0, .int .i64 0, .int .i64 0, .int .i64 0, .slice none 0 0]:=row_new rfl
  go_upto_region 7 with (first | (with_reducible refine wpList_bsyn (.int .i64 11) (.int .i64 0) (.int .i64 wd) (.int .i64 (k:Nat)) (.int .i64 (cap:Nat)) (.int .i64 0) (.int .i64 0) (.int .i64 0) rfl _ rfl rfl ?_) | (with_reducible refine wpList_ssyn SZ rfl rfl honeZ rfl _ _ rfl rfl rfl ?_))
  have S:=row_setRow (cs:=#[.int .i64 11, .int .i64 0, .int .i64 wd, .int .i64 (k:Nat), .int .i64 (cap:Nat), .int .i64 0, .int .i64 0, .int .i64 0, .int .i64 0, .int .i64 0, .int .i64 0, .slice none 0 0, .int .i64 0, .int .i64 0, .int .i64 0, .int .i64 0, .slice none 0 0, .int .i64 0, .int .i64 0, .int .i64 0, .int .i64 0, .int .i64 0, .slice none 0 0, .int .i64 0, .int .i64 0, .int .i64 0, .int .i64 0, .int .i64 0, .int .i64 0, .slice none 0 0, .int .i64 0, .int .i64 0, .int .i64 0, .int .i64 0, .int .i64 0, .slice none 0 0, .int .i64 0, .int .i64 0, .int .i64 0, .slice none 0 0, .int .i64 0, .slice none 0 0, .bool false, .int .i64 0, .int .i64 0, .int .i64 0, .slice none 0 0, .slice none 0 0, .int .i64 0, .int .i64 0, .int .i64 0, .slice none 0 0, .int .i64 0, .int .i64 0, .int .i64 0, .int .i64 0, .slice none 0 0]) SZ
  have z2:=row_lt R
  replace X:=row_setRow_other (g:=w2.heap.size) (cs':=#[.int .i64 11, .int .i64 0, .int .i64 wd, .int .i64 (k:Nat), .int .i64 (cap:Nat), .int .i64 0, .int .i64 0, .int .i64 0, .int .i64 0, .int .i64 0, .int .i64 0, .slice none 0 0, .int .i64 0, .int .i64 0, .int .i64 0, .int .i64 0, .slice none 0 0, .int .i64 0, .int .i64 0, .int .i64 0, .int .i64 0, .int .i64 0, .slice none 0 0, .int .i64 0, .int .i64 0, .int .i64 0, .int .i64 0, .int .i64 0, .int .i64 0, .slice none 0 0, .int .i64 0, .int .i64 0, .int .i64 0, .int .i64 0, .int .i64 0, .slice none 0 0, .int .i64 0, .int .i64 0, .int .i64 0, .slice none 0 0, .int .i64 0, .slice none 0 0, .bool false, .int .i64 0, .int .i64 0, .int .i64 0, .slice none 0 0, .slice none 0 0, .int .i64 0, .int .i64 0, .int .i64 0, .slice none 0 0, .int .i64 0, .int .i64 0, .int .i64 0, .int .i64 0, .slice none 0 0]) (row_alloc X (.cells #[.int .i64 0, .int .i64 0, .int .i64 0, .int .i64 0, .int .i64 0, .int .i64 0, .int .i64 0, .int .i64 0, .int .i64 0, .int .i64 0, .int .i64 0, .slice none 0 0, .int .i64 0, .int .i64 0, .int .i64 0, .int .i64 0, .slice none 0 0, .int .i64 0, .int .i64 0, .int .i64 0, .int .i64 0, .int .i64 0, .slice none 0 0, .int .i64 0, .int .i64 0, .int .i64 0, .int .i64 0, .int .i64 0, .int .i64 0, .slice none 0 0, .int .i64 0, .int .i64 0, .int .i64 0, .int .i64 0, .int .i64 0, .slice none 0 0, .int .i64 0, .int .i64 0, .int .i64 0, .slice none 0 0, .int .i64 0, .slice none 0 0, .bool false, .int .i64 0, .int .i64 0, .int .i64 0, .slice none 0 0, .slice none 0 0, .int .i64 0, .int .i64 0, .int .i64 0, .slice none 0 0, .int .i64 0, .int .i64 0, .int .i64 0, .int .i64 0, .slice none 0 0] 58)) (by have:=row_lt X;omega)
  replace R:=row_setRow_other (g:=w2.heap.size) (cs':=#[.int .i64 11, .int .i64 0, .int .i64 wd, .int .i64 (k:Nat), .int .i64 (cap:Nat), .int .i64 0, .int .i64 0, .int .i64 0, .int .i64 0, .int .i64 0, .int .i64 0, .slice none 0 0, .int .i64 0, .int .i64 0, .int .i64 0, .int .i64 0, .slice none 0 0, .int .i64 0, .int .i64 0, .int .i64 0, .int .i64 0, .int .i64 0, .slice none 0 0, .int .i64 0, .int .i64 0, .int .i64 0, .int .i64 0, .int .i64 0, .int .i64 0, .slice none 0 0, .int .i64 0, .int .i64 0, .int .i64 0, .int .i64 0, .int .i64 0, .slice none 0 0, .int .i64 0, .int .i64 0, .int .i64 0, .slice none 0 0, .int .i64 0, .slice none 0 0, .bool false, .int .i64 0, .int .i64 0, .int .i64 0, .slice none 0 0, .slice none 0 0, .int .i64 0, .int .i64 0, .int .i64 0, .slice none 0 0, .int .i64 0, .int .i64 0, .int .i64 0, .int .i64 0, .slice none 0 0]) (row_alloc R (.cells #[.int .i64 0, .int .i64 0, .int .i64 0, .int .i64 0, .int .i64 0, .int .i64 0, .int .i64 0, .int .i64 0, .int .i64 0, .int .i64 0, .int .i64 0, .slice none 0 0, .int .i64 0, .int .i64 0, .int .i64 0, .int .i64 0, .slice none 0 0, .int .i64 0, .int .i64 0, .int .i64 0, .int .i64 0, .int .i64 0, .slice none 0 0, .int .i64 0, .int .i64 0, .int .i64 0, .int .i64 0, .int .i64 0, .int .i64 0, .slice none 0 0, .int .i64 0, .int .i64 0, .int .i64 0, .int .i64 0, .int .i64 0, .slice none 0 0, .int .i64 0, .int .i64 0, .int .i64 0, .slice none 0 0, .int .i64 0, .slice none 0 0, .bool false, .int .i64 0, .int .i64 0, .int .i64 0, .slice none 0 0, .slice none 0 0, .int .i64 0, .int .i64 0, .int .i64 0, .slice none 0 0, .int .i64 0, .int .i64 0, .int .i64 0, .int .i64 0, .slice none 0 0] 58)) (by omega)
  replace o:=below_setRow (g:=w2.heap.size) (o.alloc o.size (.cells #[.int .i64 0, .int .i64 0, .int .i64 0, .int .i64 0, .int .i64 0, .int .i64 0, .int .i64 0, .int .i64 0, .int .i64 0, .int .i64 0, .int .i64 0, .slice none 0 0, .int .i64 0, .int .i64 0, .int .i64 0, .int .i64 0, .slice none 0 0, .int .i64 0, .int .i64 0, .int .i64 0, .int .i64 0, .int .i64 0, .slice none 0 0, .int .i64 0, .int .i64 0, .int .i64 0, .int .i64 0, .int .i64 0, .int .i64 0, .slice none 0 0, .int .i64 0, .int .i64 0, .int .i64 0, .int .i64 0, .int .i64 0, .slice none 0 0, .int .i64 0, .int .i64 0, .int .i64 0, .slice none 0 0, .int .i64 0, .slice none 0 0, .bool false, .int .i64 0, .int .i64 0, .int .i64 0, .slice none 0 0, .slice none 0 0, .int .i64 0, .int .i64 0, .int .i64 0, .slice none 0 0, .int .i64 0, .int .i64 0, .int .i64 0, .int .i64 0, .slice none 0 0] 58)) o.size #[.int .i64 11, .int .i64 0, .int .i64 wd, .int .i64 (k:Nat), .int .i64 (cap:Nat), .int .i64 0, .int .i64 0, .int .i64 0, .int .i64 0, .int .i64 0, .int .i64 0, .slice none 0 0, .int .i64 0, .int .i64 0, .int .i64 0, .int .i64 0, .slice none 0 0, .int .i64 0, .int .i64 0, .int .i64 0, .int .i64 0, .int .i64 0, .slice none 0 0, .int .i64 0, .int .i64 0, .int .i64 0, .int .i64 0, .int .i64 0, .int .i64 0, .slice none 0 0, .int .i64 0, .int .i64 0, .int .i64 0, .int .i64 0, .int .i64 0, .slice none 0 0, .int .i64 0, .int .i64 0, .int .i64 0, .slice none 0 0, .int .i64 0, .slice none 0 0, .bool false, .int .i64 0, .int .i64 0, .int .i64 0, .slice none 0 0, .slice none 0 0, .int .i64 0, .int .i64 0, .int .i64 0, .slice none 0 0, .int .i64 0, .int .i64 0, .int .i64 0, .int .i64 0, .slice none 0 0]
  obtain ⟨w3,hw3⟩:∃ x,x=(w2.alloc (.cells #[.int .i64 0, .int .i64 0, .int .i64 0, .int .i64 0, .int .i64 0, .int .i64 0, .int .i64 0, .int .i64 0, .int .i64 0, .int .i64 0, .int .i64 0, .slice none 0 0, .int .i64 0, .int .i64 0, .int .i64 0, .int .i64 0, .slice none 0 0, .int .i64 0, .int .i64 0, .int .i64 0, .int .i64 0, .int .i64 0, .slice none 0 0, .int .i64 0, .int .i64 0, .int .i64 0, .int .i64 0, .int .i64 0, .int .i64 0, .slice none 0 0, .int .i64 0, .int .i64 0, .int .i64 0, .int .i64 0, .int .i64 0, .slice none 0 0, .int .i64 0, .int .i64 0, .int .i64 0, .slice none 0 0, .int .i64 0, .slice none 0 0, .bool false, .int .i64 0, .int .i64 0, .int .i64 0, .slice none 0 0, .slice none 0 0, .int .i64 0, .int .i64 0, .int .i64 0, .slice none 0 0, .int .i64 0, .int .i64 0, .int .i64 0, .int .i64 0, .slice none 0 0] 58)).setRow w2.heap.size #[.int .i64 11, .int .i64 0, .int .i64 wd, .int .i64 (k:Nat), .int .i64 (cap:Nat), .int .i64 0, .int .i64 0, .int .i64 0, .int .i64 0, .int .i64 0, .int .i64 0, .slice none 0 0, .int .i64 0, .int .i64 0, .int .i64 0, .int .i64 0, .slice none 0 0, .int .i64 0, .int .i64 0, .int .i64 0, .int .i64 0, .int .i64 0, .slice none 0 0, .int .i64 0, .int .i64 0, .int .i64 0, .int .i64 0, .int .i64 0, .int .i64 0, .slice none 0 0, .int .i64 0, .int .i64 0, .int .i64 0, .int .i64 0, .int .i64 0, .slice none 0 0, .int .i64 0, .int .i64 0, .int .i64 0, .slice none 0 0, .int .i64 0, .slice none 0 0, .bool false, .int .i64 0, .int .i64 0, .int .i64 0, .slice none 0 0, .slice none 0 0, .int .i64 0, .int .i64 0, .int .i64 0, .slice none 0 0, .int .i64 0, .int .i64 0, .int .i64 0, .int .i64 0, .slice none 0 0]:=⟨_,rfl⟩
  rw [← hw3] at X R S o ⊢
  clear hw3
  generalize w2.heap.size=sb at S z2 ⊢
  clear SZ
  clear X0 Xf0 X1 Xf1 X2 Xf2 X3 Xf3 X4 Xf4 X5 Xf5 X6 Xf6 X7 Xf7
  obtain ⟨X0,X1,X2,X3,X4,X5,X6,X7,Xf0,Xf1,Xf2,Xf3,Xf4,Xf5,Xf6,Xf7⟩:=row_eight X
  go_wp2_with fail
  refine (HA.out _).mono ?_
  rintro e w4 ⟨rfl,hb⟩
  replace S:=row_call S hb
  replace R:=row_call R hb
  replace o:=o.trans (hb.mono o.size)
  clear hb X X0 Xf0 X1 Xf1 X2 Xf2 X3 Xf3 X4 Xf4 X5 Xf5 X6 Xf6 X7 Xf7
  have q0:w4.cell? ⟨sb,52,none⟩=some (.int .i64 0):=row_cell S 52
  have f0:=row_free S 52
  have q1:w4.cell? ⟨sb,53,none⟩=some (.int .i64 0):=row_cell S 53
  have f1:=row_free S 53
  have q2:w4.cell? ⟨sb,54,none⟩=some (.int .i64 0):=row_cell S 54
  have f2:=row_free S 54
  have q3:w4.cell? ⟨sb,55,none⟩=some (.int .i64 0):=row_cell S 55
  have f3:=row_free S 55
  have q4:w4.cell? ⟨sb,56,none⟩=some (.slice none 0 0):=row_cell S 56
  have f4:=row_free S 56
  go_upto_region 31 with (fail)
  clear q0 f0 q1 f1 q2 f2 q3 f3 q4 f4
  show Code.wp _ _ _ _ (setL w4 sb 52 [.int .i64 wd, .int .i64 (k:Nat), .int .i64 (cap:Nat), .int .i64 now, .slice none 0 0])
  refine layT 52 [.int .i64 wd, .int .i64 (k:Nat), .int .i64 (cap:Nat), .int .i64 now, .slice none 0 0] S R o (by omega) (by omega) ?_
  clear S R o
  intro w5 S R o
  replace S:Row w5 sb 58 #[.int .i64 11, .int .i64 0, .int .i64 wd, .int .i64 (k:Nat), .int .i64 (cap:Nat), .int .i64 0, .int .i64 0, .int .i64 0, .int .i64 0, .int .i64 0, .int .i64 0, .slice none 0 0, .int .i64 0, .int .i64 0, .int .i64 0, .int .i64 0, .slice none 0 0, .int .i64 0, .int .i64 0, .int .i64 0, .int .i64 0, .int .i64 0, .slice none 0 0, .int .i64 0, .int .i64 0, .int .i64 0, .int .i64 0, .int .i64 0, .int .i64 0, .slice none 0 0, .int .i64 0, .int .i64 0, .int .i64 0, .int .i64 0, .int .i64 0, .slice none 0 0, .int .i64 0, .int .i64 0, .int .i64 0, .slice none 0 0, .int .i64 0, .slice none 0 0, .bool false, .int .i64 0, .int .i64 0, .int .i64 0, .slice none 0 0, .slice none 0 0, .int .i64 0, .int .i64 0, .int .i64 0, .slice none 0 0, .int .i64 wd, .int .i64 (k:Nat), .int .i64 (cap:Nat), .int .i64 now, .slice none 0 0]:=S
  have hone:(#[.int .i64 11, .int .i64 0, .int .i64 wd, .int .i64 (k:Nat), .int .i64 (cap:Nat), .int .i64 0, .int .i64 0, .int .i64 0, .int .i64 0, .int .i64 0, .int .i64 0, .slice none 0 0, .int .i64 0, .int .i64 0, .int .i64 0, .int .i64 0, .slice none 0 0, .int .i64 0, .int .i64 0, .int .i64 0, .int .i64 0, .int .i64 0, .slice none 0 0, .int .i64 0, .int .i64 0, .int .i64 0, .int .i64 0, .int .i64 0, .int .i64 0, .slice none 0 0, .int .i64 0, .int .i64 0, .int .i64 0, .int .i64 0, .int .i64 0, .slice none 0 0, .int .i64 0, .int .i64 0, .int .i64 0, .slice none 0 0, .int .i64 0, .slice none 0 0, .bool false, .int .i64 0, .int .i64 0, .int .i64 0, .slice none 0 0, .slice none 0 0, .int .i64 0, .int .i64 0, .int .i64 0, .slice none 0 0, .int .i64 wd, .int .i64 (k:Nat), .int .i64 (cap:Nat), .int .i64 now, .slice none 0 0]:Array Value).all (·.oneCell')=true:=all_one rfl
  go_wp2_with (first | (with_reducible refine wpList_lsyn S rfl rfl _ rfl rfl ?_) | (with_reducible refine wpList_ssyn R rfl rfl hone rfl _ _ rfl rfl rfl ?_))
  have R9:=row_setRow (cs:=#[.int .i64 11, .int .i64 0, .int .i64 wd, .int .i64 (k:Nat), .int .i64 (cap:Nat), .int .i64 0, .int .i64 0, .int .i64 0, .int .i64 0, .int .i64 0, .int .i64 0, .slice none 0 0, .int .i64 0, .int .i64 0, .int .i64 0, .int .i64 0, .slice none 0 0, .int .i64 0, .int .i64 0, .int .i64 0, .int .i64 0, .int .i64 0, .slice none 0 0, .int .i64 0, .int .i64 0, .int .i64 0, .int .i64 0, .int .i64 0, .int .i64 0, .slice none 0 0, .int .i64 0, .int .i64 0, .int .i64 0, .int .i64 0, .int .i64 0, .slice none 0 0, .int .i64 0, .int .i64 0, .int .i64 0, .slice none 0 0, .int .i64 0, .slice none 0 0, .bool false, .int .i64 0, .int .i64 0, .int .i64 0, .slice none 0 0, .slice none 0 0, .int .i64 0, .int .i64 0, .int .i64 0, .slice none 0 0, .int .i64 wd, .int .i64 (k:Nat), .int .i64 (cap:Nat), .int .i64 now, .slice none 0 0]) R
  refine bodyPost_ret (v := .tuple #[.agg #[.int .i64 11, .int .i64 0, .int .i64 wd, .int .i64 (k:Nat), .int .i64 (cap:Nat), .int .i64 0, .int .i64 0, .int .i64 0, .int .i64 0, .int .i64 0, .int .i64 0, .slice none 0 0, .int .i64 0, .int .i64 0, .int .i64 0, .int .i64 0, .slice none 0 0, .int .i64 0, .int .i64 0, .int .i64 0, .int .i64 0, .int .i64 0, .slice none 0 0, .int .i64 0, .int .i64 0, .int .i64 0, .int .i64 0, .int .i64 0, .int .i64 0, .slice none 0 0, .int .i64 0, .int .i64 0, .int .i64 0, .int .i64 0, .int .i64 0, .slice none 0 0, .int .i64 0, .int .i64 0, .int .i64 0, .slice none 0 0, .int .i64 0, .slice none 0 0, .bool false, .int .i64 0, .int .i64 0, .int .i64 0, .slice none 0 0, .slice none 0 0, .int .i64 0, .int .i64 0, .int .i64 0, .slice none 0 0, .int .i64 wd, .int .i64 (k:Nat), .int .i64 (cap:Nat), .int .i64 now, .slice none 0 0], .int .i64 0]) ?_ rfl ?_
  · exact results_syn (p:=4) (q:=5) rfl _ R9 rfl rfl
  · exact ⟨rfl,below_setRow o (by omega) _⟩
set_option maxRecDepth 100000 in
theorem pansQuantile (wd:Int) (k cap:Nat) (w:World) (HC:RowKit.Hid (∀ w',Calls Tryz.prog 108 #[.agg #[.int .i64 11, .int .i64 0, .int .i64 wd, .int .i64 (k:Nat), .int .i64 (cap:Nat), .int .i64 0, .int .i64 0, .int .i64 0]] w' fun e w''=>e = .returned (.int .i64 0)∧Below w'.heap.size w' w'')):Calls Tryz.prog 40 #[.agg #[.int .i64 11, .int .i64 0, .int .i64 wd, .int .i64 (k:Nat), .int .i64 (cap:Nat), .int .i64 0, .int .i64 0, .int .i64 0], .int .i64 7] w fun e w'=>e = .returned (.bool true)∧Below w.heap.size w w':=by
  go_enter Tryz.func40,Tryz.ntmps40
  go_upto_region 1 with (fail)
  refine start1 (fun w1 X o=>?_)
  obtain ⟨X0,X1,X2,X3,X4,X5,X6,X7,Xf0,Xf1,Xf2,Xf3,Xf4,Xf5,Xf6,Xf7⟩:=row_eight X
  go_wp2_with fail
  refine (HC.out _).mono ?_
  rintro e w2 ⟨rfl,hb⟩
  replace X:=row_call X hb
  replace o:=o.trans (hb.mono o.size)
  clear hb X0 Xf0 X1 Xf1 X2 Xf2 X3 Xf3 X4 Xf4 X5 Xf5 X6 Xf6 X7 Xf7
  obtain ⟨X0,X1,X2,X3,X4,X5,X6,X7,Xf0,Xf1,Xf2,Xf3,Xf4,Xf5,Xf6,Xf7⟩:=row_eight X
  go_wp2
  go_ret
  exact ⟨by first | rfl | exact ret_bool (by simp) | simp,o⟩
set_option maxRecDepth 100000 in
set_option maxHeartbeats 4000000 in
theorem pyAskQuantile (A:Option Addr) (m c:Nat) (wd:Int) (k cap:Nat) (now:Int) (qa qb b0 b1 b2 b3 b4 b5:Int) (w:World) (HV:RowKit.Hid (∀ w',Below w.heap.size w w'→Calls Tryz.prog 150 #[.agg #[.int .i64 wd, .int .i64 (k:Nat), .int .i64 (cap:Nat), .int .i64 now, .slice A m c]] w' fun e w''=>e = .returned (.int .i64 0)∧Below w'.heap.size w' w'')) (HC:RowKit.Hid (∀ w',Calls Tryz.prog 108 #[.agg #[.int .i64 11, .int .i64 0, .int .i64 wd, .int .i64 (k:Nat), .int .i64 (cap:Nat), .int .i64 0, .int .i64 0, .int .i64 0]] w' fun e w''=>e = .returned (.int .i64 0)∧Below w'.heap.size w' w'')) (HN:RowKit.Hid (∀ w',Calls Tryz.prog 40 #[.agg #[.int .i64 11, .int .i64 0, .int .i64 wd, .int .i64 (k:Nat), .int .i64 (cap:Nat), .int .i64 0, .int .i64 0, .int .i64 0], .int .i64 7] w' fun e w''=>e = .returned (.bool true)∧Below w'.heap.size w' w'')) (HQ:RowKit.Hid (∀ w',Below w.heap.size w w'→Calls Tryz.prog 51 #[.agg #[.int .i64 wd, .int .i64 (k:Nat), .int .i64 (cap:Nat), .int .i64 now, .slice A m c], .int .i64 qa] w' fun e w''=>e = .returned (.tuple #[.agg #[.int .i64 b0, .int .i64 b1, .int .i64 b2, .int .i64 b3, .int .i64 b4, .int .i64 b5], .int .i64 0])∧Below w'.heap.size w' w'')):Calls Tryz.prog 12 #[.agg #[.int .i64 11, .int .i64 0, .int .i64 wd, .int .i64 (k:Nat), .int .i64 (cap:Nat), .int .i64 0, .int .i64 0, .int .i64 0, .int .i64 0, .int .i64 0, .int .i64 0, .slice none 0 0, .int .i64 0, .int .i64 0, .int .i64 0, .int .i64 0, .slice none 0 0, .int .i64 0, .int .i64 0, .int .i64 0, .int .i64 0, .int .i64 0, .slice none 0 0, .int .i64 0, .int .i64 0, .int .i64 0, .int .i64 0, .int .i64 0, .int .i64 0, .slice none 0 0, .int .i64 0, .int .i64 0, .int .i64 0, .int .i64 0, .int .i64 0, .slice none 0 0, .int .i64 0, .int .i64 0, .int .i64 0, .slice none 0 0, .int .i64 0, .slice none 0 0, .bool false, .int .i64 0, .int .i64 0, .int .i64 0, .slice none 0 0, .slice none 0 0, .int .i64 0, .int .i64 0, .int .i64 0, .slice none 0 0, .int .i64 wd, .int .i64 (k:Nat), .int .i64 (cap:Nat), .int .i64 now, .slice A m c], .agg #[.int .i64 7, .int .i64 qa, .int .i64 qb]] w fun e w'=>e = .returned (.tuple #[.agg #[.int .i64 b0, .int .i64 b1, .int .i64 b2, .int .i64 b3, .int .i64 b4, .int .i64 b5, .slice none 0 0, .int .u64 0, .int .u64 0, .int .u64 0, .int .u64 0], .int .i64 0])∧Below w.heap.size w w':=by
  have PVd:=Lib.hid (fun w' (hb:Below w.heap.size w w')=>pvQuantile A m c wd k cap now w' (Lib.hid (fun w'' hb2=>HV.out w'' (hb.trans (hb2.mono hb.size)))) HC)
  go_enter Tryz.func12,Tryz.ntmps12
  go_upto_region 1 with (fail)
  refine start3 (fun w1 X Q R o=>?_)
  go_wp2_with (with_reducible refine wpList_lsyn X rfl rfl _ rfl rfl ?_)
  refine (PVd.out _ o).mono ?_
  rintro e w2 ⟨rfl,hb⟩
  replace X:=row_call X hb
  replace Q:=row_call Q hb
  replace R:=row_call R hb
  replace o:=o.trans (hb.mono o.size)
  clear hb PVd
  have k0:w2.cell? ⟨w.heap.size,0,none⟩=some (.int .i64 11):=row_cell X 0
  have k1:w2.cell? ⟨w.heap.size,1,none⟩=some (.int .i64 0):=row_cell X 1
  have k2:w2.cell? ⟨w.heap.size,2,none⟩=some (.int .i64 wd):=row_cell X 2
  have k3:w2.cell? ⟨w.heap.size,3,none⟩=some (.int .i64 (k:Nat)):=row_cell X 3
  have k4:w2.cell? ⟨w.heap.size,4,none⟩=some (.int .i64 (cap:Nat)):=row_cell X 4
  have k5:w2.cell? ⟨w.heap.size,5,none⟩=some (.int .i64 0):=row_cell X 5
  have k6:w2.cell? ⟨w.heap.size,6,none⟩=some (.int .i64 0):=row_cell X 6
  have k7:w2.cell? ⟨w.heap.size,7,none⟩=some (.int .i64 0):=row_cell X 7
  obtain ⟨Q0,Q1,Q2,Qf0,Qf1,Qf2⟩:=row_three Q
  go_wp2_with fail
  refine (HN.out _).mono ?_
  rintro e w3 ⟨rfl,hb⟩
  replace X:=row_call X hb
  replace R:=row_call R hb
  replace o:=o.trans (hb.mono o.size)
  replace Q:=row_call Q hb
  clear hb HN Q0 Q1 Q2 Qf0 Qf1 Qf2 k0 k1 k2 k3 k4 k5 k6 k7
  go_upto_region 7 with (fail)
  have V:Row (w3.alloc (.cells #[.int .i64 0, .int .i64 0, .int .i64 0, .int .i64 0, .int .i64 0, .int .i64 0, .slice none 0 0, .int .u64 0, .int .u64 0, .int .u64 0, .int .u64 0] 71)) w3.heap.size 71 #[.int .i64 0, .int .i64 0, .int .i64 0, .int .i64 0, .int .i64 0, .int .i64 0, .slice none 0 0, .int .u64 0, .int .u64 0, .int .u64 0, .int .u64 0]:=row_new rfl
  have z3:=row_lt R
  replace X:=row_alloc X (.cells #[.int .i64 0, .int .i64 0, .int .i64 0, .int .i64 0, .int .i64 0, .int .i64 0, .slice none 0 0, .int .u64 0, .int .u64 0, .int .u64 0, .int .u64 0] 71)
  replace R:=row_alloc R (.cells #[.int .i64 0, .int .i64 0, .int .i64 0, .int .i64 0, .int .i64 0, .int .i64 0, .slice none 0 0, .int .u64 0, .int .u64 0, .int .u64 0, .int .u64 0] 71)
  replace Q:=row_alloc Q (.cells #[.int .i64 0, .int .i64 0, .int .i64 0, .int .i64 0, .int .i64 0, .int .i64 0, .slice none 0 0, .int .u64 0, .int .u64 0, .int .u64 0, .int .u64 0] 71)
  replace o:=o.alloc o.size (.cells #[.int .i64 0, .int .i64 0, .int .i64 0, .int .i64 0, .int .i64 0, .int .i64 0, .slice none 0 0, .int .u64 0, .int .u64 0, .int .u64 0, .int .u64 0] 71)
  generalize w3.alloc (.cells #[.int .i64 0, .int .i64 0, .int .i64 0, .int .i64 0, .int .i64 0, .int .i64 0, .slice none 0 0, .int .u64 0, .int .u64 0, .int .u64 0, .int .u64 0] 71)=w4 at X R Q V o ⊢
  generalize w3.heap.size=vb at V z3 ⊢
  have k0:w4.cell? ⟨w.heap.size,0,none⟩=some (.int .i64 11):=row_cell X 0
  have q0:w4.cell? ⟨w.heap.size,52,none⟩=some (.int .i64 wd):=row_cell X 52
  have q1:w4.cell? ⟨w.heap.size,53,none⟩=some (.int .i64 (k:Nat)):=row_cell X 53
  have q2:w4.cell? ⟨w.heap.size,54,none⟩=some (.int .i64 (cap:Nat)):=row_cell X 54
  have q3:w4.cell? ⟨w.heap.size,55,none⟩=some (.int .i64 now):=row_cell X 55
  have q4:w4.cell? ⟨w.heap.size,56,none⟩=some (.slice A m c):=row_cell X 56
  obtain ⟨Q0,Q1,Q2,Qf0,Qf1,Qf2⟩:=row_three Q
  go_wp2_with fail
  refine (HQ.out _ o).mono ?_
  rintro e w5 ⟨rfl,hb⟩
  replace V:=row_call V hb
  replace R:=row_call R hb
  replace o:=o.trans (hb.mono o.size)
  clear hb HQ X k0 Q Q0 Q1 Q2 Qf0 Qf1 Qf2 q0 q1 q2 q3 q4
  have v0:w5.cell? ⟨vb,0,none⟩=some (.int .i64 0):=row_cell V 0
  have v1:w5.cell? ⟨vb,1,none⟩=some (.int .i64 0):=row_cell V 1
  have v2:w5.cell? ⟨vb,2,none⟩=some (.int .i64 0):=row_cell V 2
  have v3:w5.cell? ⟨vb,3,none⟩=some (.int .i64 0):=row_cell V 3
  have v4:w5.cell? ⟨vb,4,none⟩=some (.int .i64 0):=row_cell V 4
  have v5:w5.cell? ⟨vb,5,none⟩=some (.int .i64 0):=row_cell V 5
  have v6:w5.cell? ⟨vb,6,none⟩=some (.slice none 0 0):=row_cell V 6
  have v7:w5.cell? ⟨vb,7,none⟩=some (.int .u64 0):=row_cell V 7
  have v8:w5.cell? ⟨vb,8,none⟩=some (.int .u64 0):=row_cell V 8
  have v9:w5.cell? ⟨vb,9,none⟩=some (.int .u64 0):=row_cell V 9
  have v10:w5.cell? ⟨vb,10,none⟩=some (.int .u64 0):=row_cell V 10
  have g0:=row_free V 0
  have g1:=row_free V 1
  have g2:=row_free V 2
  have g3:=row_free V 3
  have g4:=row_free V 4
  have g5:=row_free V 5
  go_upto_region 39 with (fail)
  clear v0 v1 v2 v3 v4 v5 v6 v7 v8 v9 v10 g0 g1 g2 g3 g4 g5
  replace V:=row_set V 0 (.int .i64 b0)
  replace R:=row_other (p:=⟨vb,0,none⟩) R (by show w.heap.size+2≠vb;omega) (.int .i64 b0)
  replace o:=o.setCell (p:=⟨vb,0,none⟩) (by show w.heap.size≤vb;omega) (.int .i64 b0)
  replace V:=row_set V 1 (.int .i64 b1)
  replace R:=row_other (p:=⟨vb,1,none⟩) R (by show w.heap.size+2≠vb;omega) (.int .i64 b1)
  replace o:=o.setCell (p:=⟨vb,1,none⟩) (by show w.heap.size≤vb;omega) (.int .i64 b1)
  replace V:=row_set V 2 (.int .i64 b2)
  replace R:=row_other (p:=⟨vb,2,none⟩) R (by show w.heap.size+2≠vb;omega) (.int .i64 b2)
  replace o:=o.setCell (p:=⟨vb,2,none⟩) (by show w.heap.size≤vb;omega) (.int .i64 b2)
  replace V:=row_set V 3 (.int .i64 b3)
  replace R:=row_other (p:=⟨vb,3,none⟩) R (by show w.heap.size+2≠vb;omega) (.int .i64 b3)
  replace o:=o.setCell (p:=⟨vb,3,none⟩) (by show w.heap.size≤vb;omega) (.int .i64 b3)
  replace V:=row_set V 4 (.int .i64 b4)
  replace R:=row_other (p:=⟨vb,4,none⟩) R (by show w.heap.size+2≠vb;omega) (.int .i64 b4)
  replace o:=o.setCell (p:=⟨vb,4,none⟩) (by show w.heap.size≤vb;omega) (.int .i64 b4)
  replace V:=row_set V 5 (.int .i64 b5)
  replace R:=row_other (p:=⟨vb,5,none⟩) R (by show w.heap.size+2≠vb;omega) (.int .i64 b5)
  replace o:=o.setCell (p:=⟨vb,5,none⟩) (by show w.heap.size≤vb;omega) (.int .i64 b5)
  replace V:Row ((((((w5.setCell ⟨vb,0,none⟩ (.int .i64 b0)).setCell ⟨vb,1,none⟩ (.int .i64 b1)).setCell ⟨vb,2,none⟩ (.int .i64 b2)).setCell ⟨vb,3,none⟩ (.int .i64 b3)).setCell ⟨vb,4,none⟩ (.int .i64 b4)).setCell ⟨vb,5,none⟩ (.int .i64 b5)) vb 71 #[.int .i64 b0, .int .i64 b1, .int .i64 b2, .int .i64 b3, .int .i64 b4, .int .i64 b5, .slice none 0 0, .int .u64 0, .int .u64 0, .int .u64 0, .int .u64 0]:=V
  generalize ((((((w5.setCell ⟨vb,0,none⟩ (.int .i64 b0)).setCell ⟨vb,1,none⟩ (.int .i64 b1)).setCell ⟨vb,2,none⟩ (.int .i64 b2)).setCell ⟨vb,3,none⟩ (.int .i64 b3)).setCell ⟨vb,4,none⟩ (.int .i64 b4)).setCell ⟨vb,5,none⟩ (.int .i64 b5))=w6 at V R o ⊢
  have hone:(#[.int .i64 b0, .int .i64 b1, .int .i64 b2, .int .i64 b3, .int .i64 b4, .int .i64 b5, .slice none 0 0, .int .u64 0, .int .u64 0, .int .u64 0, .int .u64 0]:Array Value).all (·.oneCell')=true:=all_one rfl
  go_wp2_with (first | (with_reducible refine wpList_lans V rfl rfl _ rfl rfl ?_) | (with_reducible refine wpList_sans R rfl rfl hone rfl _ _ rfl rfl rfl ?_))
  have R9:=row_setRow (cs:=#[.int .i64 b0, .int .i64 b1, .int .i64 b2, .int .i64 b3, .int .i64 b4, .int .i64 b5, .slice none 0 0, .int .u64 0, .int .u64 0, .int .u64 0, .int .u64 0]) R
  refine bodyPost_ret (v := .tuple #[.agg #[.int .i64 b0, .int .i64 b1, .int .i64 b2, .int .i64 b3, .int .i64 b4, .int .i64 b5, .slice none 0 0, .int .u64 0, .int .u64 0, .int .u64 0, .int .u64 0], .int .i64 0]) ?_ rfl ?_
  · exact results_ans (p:=4) (q:=5) rfl _ R9 rfl rfl
  · exact ⟨rfl,below_setRow o (by omega) _⟩
end Go.Proofs.YtdipoojjlddohaaGreat
end
section
/- Rank summaries: which are valid, what merging and pruning keep; plain. -/
namespace Go.Proofs.YtdipoojjlddohaaGreat
structure En where
  v:Int
  mn:Int
  mx:Int
def enAt (l:List En) (i:Nat):En:=l.getD i ⟨0,0,0⟩
def hx (n:Int):List En→Int
  | []=>n+1
  | x :: _=>x.mx
def AscS (n:Int):Int→List En→Prop
  | p,[]=>p=n
  | p,x :: l=>p<x.mn∧x.mn≤x.mx∧x.mx<hx n l∧(∀ y∈l,x.v≤y.v)∧AscS n x.mn l
def GapS (g n:Int):Int→List En→Prop
  | p,[]=>n+1-p≤g
  | p,x :: l=>x.mx-p≤g∧GapS g n x.mn l
def cle (vs:List Int) (v:Int):Nat:=(vs.filter fun x=>decide (x≤v)).length
def clt (vs:List Int) (v:Int):Nat:=(vs.filter fun x=>decide (x<v)).length
theorem cle_append (a b:List Int) (v:Int):cle (a ++ b) v=cle a v+cle b v:=by unfold cle;rw [List.filter_append,List.length_append]
theorem cle_len (a:List Int) (v:Int):cle a v≤a.length:=List.length_filter_le _ _
def Snd (vs:List Int) (l:List En):Prop:=∀ e∈l,e.mn≤(cle vs e.v:Int)∧(clt vs e.v:Int)≤e.mx-1
structure RV (n:Int) (l:List En):Prop where
  asc:AscS n 0 l
  first:hx n l=1
def mrg (na nb:Int):Nat→Int→List En→Int→List En→List En
  | 0,_,_,_,_=>[]
  | f+1,pa,a,pb,b =>
    match a,b with
    | [],[]=>[]
    | x :: a',[]=>⟨x.v,x.mn+pb,x.mx+nb⟩ :: mrg na nb f x.mn a' pb []
    | [],y :: b'=>⟨y.v,y.mn+pa,y.mx+na⟩ :: mrg na nb f pa [] y.mn b'
    | x :: a',y :: b'=>if x.v≤y.v then ⟨x.v,x.mn+pb,x.mx+(y.mx-1)⟩ :: mrg na nb f x.mn a' pb (y :: b') else ⟨y.v,y.mn+pa,y.mx+(x.mx-1)⟩ :: mrg na nb f pa (x :: a') y.mn b'
end Go.Proofs.YtdipoojjlddohaaGreat
end
section
/- Smooth histograms: the aggregate of the live items lies between the bounds, which are narrow; few marks; plain. -/
namespace Go.Proofs.YtdipoojjlddohaaGreat
def isum:List Itm→Int
  | []=>0
  | x :: l=>x.v+isum l
def isq:List Itm→Int
  | []=>0
  | x :: l=>x.v*x.v+isq l
def IsMin (l:List Itm) (m:Int):Prop:=(∃ x∈l,x.v=m)∧∀ x∈l,m≤x.v
def IsMax (l:List Itm) (m:Int):Prop:=(∃ x∈l,x.v=m)∧∀ x∈l,x.v≤m
structure MkIs (m:Mk) (l:List Itm):Prop where
  n:m.n=l.length
  s:m.s=isum l
  q:m.q=isq l
  lo:IsMin l m.lo
  hi:IsMax l m.hi
structure Ord (l:List Itm) (now:Int):Prop where
  up:∀ i j,i≤j→j<l.length→(itmAt l i).t≤(itmAt l j).t
  pos:∀ i,i<l.length→0≤(itmAt l i).t
  now:∀ i,i<l.length→(itmAt l i).t≤now
structure HistOf (l:List Mk) (seq now wd:Int) (its:List Itm):Prop where
  seq:seq=its.length
  ord:Ord its now
  mks:∀ m∈l,1≤m.seq∧m.seq≤its.length∧m.t=(itmAt its (m.seq-1).toNat).t∧MkIs m (its.drop (m.seq-1).toNat)
  gone:∀ i:Nat,i<its.length→(l≠[]→(i:Int)<(mkAt l 0).seq-1)→(itmAt its i).t≤now-wd
def liveI (now wd:Int) (its:List Itm):List Itm:=its.filter fun x=>decide (now-wd<x.t∧x.t≤now)
def AggIs (agg:Int) (l:List Itm) (n:Int):Prop :=
  (agg=1→n=l.length)∧(agg=2→n=isum l)∧(agg=3→n=isq l)∧(agg=4→(l=[]∧n=0)∨∃ lo hi,IsMin l lo∧IsMax l hi∧n=hi-lo)
def ValsOK (agg:Int) (l:List Itm):Prop:=∀ x∈l,leastV agg≤x.v∧x.v≤4096
def askLo (agg now wd:Int) (l:List Mk):Int :=
  if l=[] then 0 else if now-wd<(mkAt l 0).t then ofV agg (mkAt l 0) else ofV agg (mkAt l 1)
def askHi (agg now wd:Int) (l:List Mk):Int :=
  if l=[] then 0 else if now-wd<(mkAt l 0).t then ofV agg (mkAt l 0) else if (mkAt l 1).seq=(mkAt l 0).seq+1 then ofV agg (mkAt l 1) else ofV agg (mkAt l 0)
def topF (agg cap:Int):Int:=if agg=2 then cap*4096 else if agg=3 then cap*16777216 else if agg=4 then 8192 else cap
def mostS (agg k cap:Int):Int:=if (1≤agg∧agg≤4)∧1≤k∧k≤64∧1≤cap∧cap≤65536 then 2*k*(Lib.bitLen (topF agg cap).toNat:Nat)+2 else 0
end Go.Proofs.YtdipoojjlddohaaGreat
end
