/- What the law TopSummaries needs, joined of its texts by a program (slim2.py); part 18. -/
import Derived.Test.YtdipoojjlddohaaGreatZTopSummaries1
import Derived.Test.YtdipoojjlddohaaGreatZTopSummaries4
import Derived.Test.YtdipoojjlddohaaGreatZTopSummaries5
import Derived.Test.YtdipoojjlddohaaGreatZTopSummaries14
import Derived.Test.YtdipoojjlddohaaGreatZTopSummaries16
set_option linter.unusedVariables false
set_option linter.unusedSimpArgs false
set_option linter.unusedSectionVars false
set_option linter.unnecessarySimpa false
section
/- Synopses of kind Summary: the empty ones, and the answer, walked. -/
namespace Go.Proofs.YtdipoojjlddohaaGreat
open Go.RowKit
set_option maxRecDepth 100000 in
set_option maxHeartbeats 4000000 in
theorem pyNewSummary (k cap:Nat) (now:Int) (w:World) (n0:0≤now) (n1:now≤16777216) (HC:RowKit.Hid (∀ w',Calls Tryz.prog 108 #[.agg #[.int .i64 10, .int .i64 0, .int .i64 0, .int .i64 (k:Nat), .int .i64 (cap:Nat), .int .i64 0, .int .i64 0, .int .i64 0]] w' fun e w''=>e = .returned (.int .i64 0)∧Below w'.heap.size w' w'')) (HA:RowKit.Hid (∀ w',Calls Tryz.prog 118 #[.int .i64 (k:Nat), .int .i64 (cap:Nat)] w' fun e w''=>e = .returned (.tuple #[.agg #[.int .i64 (k:Nat), .int .i64 (cap:Nat), .int .i64 0, .slice none 0 0], .int .i64 0])∧Below w'.heap.size w' w'')):Calls Tryz.prog 37 #[.agg #[.int .i64 10, .int .i64 0, .int .i64 0, .int .i64 (k:Nat), .int .i64 (cap:Nat), .int .i64 0, .int .i64 0, .int .i64 0], .int .i64 now] w fun e w'=>e = .returned (.tuple #[.agg #[.int .i64 10, .int .i64 0, .int .i64 0, .int .i64 (k:Nat), .int .i64 (cap:Nat), .int .i64 0, .int .i64 0, .int .i64 0, .int .i64 0, .int .i64 0, .int .i64 0, .slice none 0 0, .int .i64 0, .int .i64 0, .int .i64 0, .int .i64 0, .slice none 0 0, .int .i64 0, .int .i64 0, .int .i64 0, .int .i64 0, .int .i64 0, .slice none 0 0, .int .i64 0, .int .i64 0, .int .i64 0, .int .i64 0, .int .i64 0, .int .i64 0, .slice none 0 0, .int .i64 0, .int .i64 0, .int .i64 0, .int .i64 0, .int .i64 0, .slice none 0 0, .int .i64 0, .int .i64 0, .int .i64 0, .slice none 0 0, .int .i64 0, .slice none 0 0, .bool false, .int .i64 0, .int .i64 0, .int .i64 0, .slice none 0 0, .slice none 0 0, .int .i64 (k:Nat), .int .i64 (cap:Nat), .int .i64 0, .slice none 0 0, .int .i64 0, .int .i64 0, .int .i64 0, .int .i64 0, .slice none 0 0], .int .i64 0])∧Below w.heap.size w w':=by
  have PT:=Lib.hid (fun w=>pstick now w n0 n1)
  go_enter Tryz.func37,Tryz.ntmps37
  go_upto_region 1 with (fail)
  refine start2 (fun w1 X R o=>?_)
  obtain ⟨X0,X1,X2,X3,X4,X5,X6,X7,Xf0,Xf1,Xf2,Xf3,Xf4,Xf5,Xf6,Xf7⟩:=row_eight X
  go_wp2_with fail
  refine (HC.out _).mono ?_
  rintro e w2 ⟨rfl,hb⟩
  replace X:=row_call X hb
  replace R:=row_call R hb
  replace o:=o.trans (hb.mono o.size)
  clear hb X0 Xf0 X1 Xf1 X2 Xf2 X3 Xf3 X4 Xf4 X5 Xf5 X6 Xf6 X7 Xf7
  obtain ⟨X0,X1,X2,X3,X4,X5,X6,X7,Xf0,Xf1,Xf2,Xf3,Xf4,Xf5,Xf6,Xf7⟩:=row_eight X
  go_upto_region 6 with (go_at_call 73;with_reducible refine (PT.out _).mono ?_;rintro e w9 ⟨rfl,h9⟩;obtain rfl:=h9.symm)
  have honeZ:(#[.int .i64 10, .int .i64 0, .int .i64 0, .int .i64 (k:Nat), .int .i64 (cap:Nat), .int .i64 0, .int .i64 0, .int .i64 0, .int .i64 0, .int .i64 0, .int .i64 0, .slice none 0 0, .int .i64 0, .int .i64 0, .int .i64 0, .int .i64 0, .slice none 0 0, .int .i64 0, .int .i64 0, .int .i64 0, .int .i64 0, .int .i64 0, .slice none 0 0, .int .i64 0, .int .i64 0, .int .i64 0, .int .i64 0, .int .i64 0, .int .i64 0, .slice none 0 0, .int .i64 0, .int .i64 0, .int .i64 0, .int .i64 0, .int .i64 0, .slice none 0 0, .int .i64 0, .int .i64 0, .int .i64 0, .slice none 0 0, .int .i64 0, .slice none 0 0, .bool false, .int .i64 0, .int .i64 0, .int .i64 0, .slice none 0 0, .slice none 0 0, .int .i64 0, .int .i64 0, .int .i64 0, .slice none 0 0, .int .i64 0, .int .i64 0, .int .i64 0, .int .i64 0, .slice none 0 0]:Array Value).all (·.oneCell')=true:=all_one rfl
  have SZ:Row (w2.alloc (.cells #[.int .i64 0, .int .i64 0, .int .i64 0, .int .i64 0, .int .i64 0, .int .i64 0, .int .i64 0, .int .i64 0, .int .i64 0, .int .i64 0, .int .i64 0, .slice none 0 0, .int .i64 0, .int .i64 0, .int .i64 0, .int .i64 0, .slice none 0 0, .int .i64 0, .int .i64 0, .int .i64 0, .int .i64 0, .int .i64 0, .slice none 0 0, .int .i64 0, .int .i64 0, .int .i64 0, .int .i64 0, .int .i64 0, .int .i64 0, .slice none 0 0, .int .i64 0, .int .i64 0, .int .i64 0, .int .i64 0, .int .i64 0, .slice none 0 0, .int .i64 0, .int .i64 0, .int .i64 0, .slice none 0 0, .int .i64 0, .slice none 0 0, .bool false, .int .i64 0, .int .i64 0, .int .i64 0, .slice none 0 0, .slice none 0 0, .int .i64 0, .int .i64 0, .int .i64 0, .slice none 0 0, .int .i64 0, .int .i64 0, .int .i64 0, .int .i64 0, .slice none 0 0] 58)) w2.heap.size 58 #[.int .i64 0, .int .i64 0, .int .i64 0, .int .i64 0, .int .i64 0, .int .i64 0, .int .i64 0, .int .i64 0, .int .i64 0, .int .i64 0, .int .i64 0, .slice none 0 0, .int .i64 0, .int .i64 0, .int .i64 0, .int .i64 0, .slice none 0 0, .int .i64 0, .int .i64 0, .int .i64 0, .int .i64 0, .int .i64 0, .slice none 0 0, .int .i64 0, .int .i64 0, .int .i64 0, .int .i64 0, .int .i64 0, .int .i64 0, .slice none 0 0, .int .i64 0, .int .i64 0, .int .i64 0, .int .i64 0, .int .i64 0, .slice none 0 0, .int .i64 0, .int .i64 0, .int .i64 0, .slice none 0 0, .int .i64 0, .slice none 0 0, .bool false, .int .i64 0, .int .i64 0, .int .i64 0, .slice none 0 0, .slice none 0 0, .int .i64 0, .int .i64 0, .int .i64 0, .slice none 0 0, .int .i64 0, .int .i64 0, .int .i64 0, .int .i64 0, .slice none 0 0]:=row_new rfl
  go_upto_region 7 with (first | (with_reducible refine wpList_bsyn (.int .i64 10) (.int .i64 0) (.int .i64 0) (.int .i64 (k:Nat)) (.int .i64 (cap:Nat)) (.int .i64 0) (.int .i64 0) (.int .i64 0) rfl _ rfl rfl ?_) | (with_reducible refine wpList_ssyn SZ rfl rfl honeZ rfl _ _ rfl rfl rfl ?_))
  have S:=row_setRow (cs:=#[.int .i64 10, .int .i64 0, .int .i64 0, .int .i64 (k:Nat), .int .i64 (cap:Nat), .int .i64 0, .int .i64 0, .int .i64 0, .int .i64 0, .int .i64 0, .int .i64 0, .slice none 0 0, .int .i64 0, .int .i64 0, .int .i64 0, .int .i64 0, .slice none 0 0, .int .i64 0, .int .i64 0, .int .i64 0, .int .i64 0, .int .i64 0, .slice none 0 0, .int .i64 0, .int .i64 0, .int .i64 0, .int .i64 0, .int .i64 0, .int .i64 0, .slice none 0 0, .int .i64 0, .int .i64 0, .int .i64 0, .int .i64 0, .int .i64 0, .slice none 0 0, .int .i64 0, .int .i64 0, .int .i64 0, .slice none 0 0, .int .i64 0, .slice none 0 0, .bool false, .int .i64 0, .int .i64 0, .int .i64 0, .slice none 0 0, .slice none 0 0, .int .i64 0, .int .i64 0, .int .i64 0, .slice none 0 0, .int .i64 0, .int .i64 0, .int .i64 0, .int .i64 0, .slice none 0 0]) SZ
  have z2:=row_lt R
  replace X:=row_setRow_other (g:=w2.heap.size) (cs':=#[.int .i64 10, .int .i64 0, .int .i64 0, .int .i64 (k:Nat), .int .i64 (cap:Nat), .int .i64 0, .int .i64 0, .int .i64 0, .int .i64 0, .int .i64 0, .int .i64 0, .slice none 0 0, .int .i64 0, .int .i64 0, .int .i64 0, .int .i64 0, .slice none 0 0, .int .i64 0, .int .i64 0, .int .i64 0, .int .i64 0, .int .i64 0, .slice none 0 0, .int .i64 0, .int .i64 0, .int .i64 0, .int .i64 0, .int .i64 0, .int .i64 0, .slice none 0 0, .int .i64 0, .int .i64 0, .int .i64 0, .int .i64 0, .int .i64 0, .slice none 0 0, .int .i64 0, .int .i64 0, .int .i64 0, .slice none 0 0, .int .i64 0, .slice none 0 0, .bool false, .int .i64 0, .int .i64 0, .int .i64 0, .slice none 0 0, .slice none 0 0, .int .i64 0, .int .i64 0, .int .i64 0, .slice none 0 0, .int .i64 0, .int .i64 0, .int .i64 0, .int .i64 0, .slice none 0 0]) (row_alloc X (.cells #[.int .i64 0, .int .i64 0, .int .i64 0, .int .i64 0, .int .i64 0, .int .i64 0, .int .i64 0, .int .i64 0, .int .i64 0, .int .i64 0, .int .i64 0, .slice none 0 0, .int .i64 0, .int .i64 0, .int .i64 0, .int .i64 0, .slice none 0 0, .int .i64 0, .int .i64 0, .int .i64 0, .int .i64 0, .int .i64 0, .slice none 0 0, .int .i64 0, .int .i64 0, .int .i64 0, .int .i64 0, .int .i64 0, .int .i64 0, .slice none 0 0, .int .i64 0, .int .i64 0, .int .i64 0, .int .i64 0, .int .i64 0, .slice none 0 0, .int .i64 0, .int .i64 0, .int .i64 0, .slice none 0 0, .int .i64 0, .slice none 0 0, .bool false, .int .i64 0, .int .i64 0, .int .i64 0, .slice none 0 0, .slice none 0 0, .int .i64 0, .int .i64 0, .int .i64 0, .slice none 0 0, .int .i64 0, .int .i64 0, .int .i64 0, .int .i64 0, .slice none 0 0] 58)) (by have:=row_lt X;omega)
  replace R:=row_setRow_other (g:=w2.heap.size) (cs':=#[.int .i64 10, .int .i64 0, .int .i64 0, .int .i64 (k:Nat), .int .i64 (cap:Nat), .int .i64 0, .int .i64 0, .int .i64 0, .int .i64 0, .int .i64 0, .int .i64 0, .slice none 0 0, .int .i64 0, .int .i64 0, .int .i64 0, .int .i64 0, .slice none 0 0, .int .i64 0, .int .i64 0, .int .i64 0, .int .i64 0, .int .i64 0, .slice none 0 0, .int .i64 0, .int .i64 0, .int .i64 0, .int .i64 0, .int .i64 0, .int .i64 0, .slice none 0 0, .int .i64 0, .int .i64 0, .int .i64 0, .int .i64 0, .int .i64 0, .slice none 0 0, .int .i64 0, .int .i64 0, .int .i64 0, .slice none 0 0, .int .i64 0, .slice none 0 0, .bool false, .int .i64 0, .int .i64 0, .int .i64 0, .slice none 0 0, .slice none 0 0, .int .i64 0, .int .i64 0, .int .i64 0, .slice none 0 0, .int .i64 0, .int .i64 0, .int .i64 0, .int .i64 0, .slice none 0 0]) (row_alloc R (.cells #[.int .i64 0, .int .i64 0, .int .i64 0, .int .i64 0, .int .i64 0, .int .i64 0, .int .i64 0, .int .i64 0, .int .i64 0, .int .i64 0, .int .i64 0, .slice none 0 0, .int .i64 0, .int .i64 0, .int .i64 0, .int .i64 0, .slice none 0 0, .int .i64 0, .int .i64 0, .int .i64 0, .int .i64 0, .int .i64 0, .slice none 0 0, .int .i64 0, .int .i64 0, .int .i64 0, .int .i64 0, .int .i64 0, .int .i64 0, .slice none 0 0, .int .i64 0, .int .i64 0, .int .i64 0, .int .i64 0, .int .i64 0, .slice none 0 0, .int .i64 0, .int .i64 0, .int .i64 0, .slice none 0 0, .int .i64 0, .slice none 0 0, .bool false, .int .i64 0, .int .i64 0, .int .i64 0, .slice none 0 0, .slice none 0 0, .int .i64 0, .int .i64 0, .int .i64 0, .slice none 0 0, .int .i64 0, .int .i64 0, .int .i64 0, .int .i64 0, .slice none 0 0] 58)) (by omega)
  replace o:=below_setRow (g:=w2.heap.size) (o.alloc o.size (.cells #[.int .i64 0, .int .i64 0, .int .i64 0, .int .i64 0, .int .i64 0, .int .i64 0, .int .i64 0, .int .i64 0, .int .i64 0, .int .i64 0, .int .i64 0, .slice none 0 0, .int .i64 0, .int .i64 0, .int .i64 0, .int .i64 0, .slice none 0 0, .int .i64 0, .int .i64 0, .int .i64 0, .int .i64 0, .int .i64 0, .slice none 0 0, .int .i64 0, .int .i64 0, .int .i64 0, .int .i64 0, .int .i64 0, .int .i64 0, .slice none 0 0, .int .i64 0, .int .i64 0, .int .i64 0, .int .i64 0, .int .i64 0, .slice none 0 0, .int .i64 0, .int .i64 0, .int .i64 0, .slice none 0 0, .int .i64 0, .slice none 0 0, .bool false, .int .i64 0, .int .i64 0, .int .i64 0, .slice none 0 0, .slice none 0 0, .int .i64 0, .int .i64 0, .int .i64 0, .slice none 0 0, .int .i64 0, .int .i64 0, .int .i64 0, .int .i64 0, .slice none 0 0] 58)) o.size #[.int .i64 10, .int .i64 0, .int .i64 0, .int .i64 (k:Nat), .int .i64 (cap:Nat), .int .i64 0, .int .i64 0, .int .i64 0, .int .i64 0, .int .i64 0, .int .i64 0, .slice none 0 0, .int .i64 0, .int .i64 0, .int .i64 0, .int .i64 0, .slice none 0 0, .int .i64 0, .int .i64 0, .int .i64 0, .int .i64 0, .int .i64 0, .slice none 0 0, .int .i64 0, .int .i64 0, .int .i64 0, .int .i64 0, .int .i64 0, .int .i64 0, .slice none 0 0, .int .i64 0, .int .i64 0, .int .i64 0, .int .i64 0, .int .i64 0, .slice none 0 0, .int .i64 0, .int .i64 0, .int .i64 0, .slice none 0 0, .int .i64 0, .slice none 0 0, .bool false, .int .i64 0, .int .i64 0, .int .i64 0, .slice none 0 0, .slice none 0 0, .int .i64 0, .int .i64 0, .int .i64 0, .slice none 0 0, .int .i64 0, .int .i64 0, .int .i64 0, .int .i64 0, .slice none 0 0]
  obtain ⟨w3,hw3⟩:∃ x,x=(w2.alloc (.cells #[.int .i64 0, .int .i64 0, .int .i64 0, .int .i64 0, .int .i64 0, .int .i64 0, .int .i64 0, .int .i64 0, .int .i64 0, .int .i64 0, .int .i64 0, .slice none 0 0, .int .i64 0, .int .i64 0, .int .i64 0, .int .i64 0, .slice none 0 0, .int .i64 0, .int .i64 0, .int .i64 0, .int .i64 0, .int .i64 0, .slice none 0 0, .int .i64 0, .int .i64 0, .int .i64 0, .int .i64 0, .int .i64 0, .int .i64 0, .slice none 0 0, .int .i64 0, .int .i64 0, .int .i64 0, .int .i64 0, .int .i64 0, .slice none 0 0, .int .i64 0, .int .i64 0, .int .i64 0, .slice none 0 0, .int .i64 0, .slice none 0 0, .bool false, .int .i64 0, .int .i64 0, .int .i64 0, .slice none 0 0, .slice none 0 0, .int .i64 0, .int .i64 0, .int .i64 0, .slice none 0 0, .int .i64 0, .int .i64 0, .int .i64 0, .int .i64 0, .slice none 0 0] 58)).setRow w2.heap.size #[.int .i64 10, .int .i64 0, .int .i64 0, .int .i64 (k:Nat), .int .i64 (cap:Nat), .int .i64 0, .int .i64 0, .int .i64 0, .int .i64 0, .int .i64 0, .int .i64 0, .slice none 0 0, .int .i64 0, .int .i64 0, .int .i64 0, .int .i64 0, .slice none 0 0, .int .i64 0, .int .i64 0, .int .i64 0, .int .i64 0, .int .i64 0, .slice none 0 0, .int .i64 0, .int .i64 0, .int .i64 0, .int .i64 0, .int .i64 0, .int .i64 0, .slice none 0 0, .int .i64 0, .int .i64 0, .int .i64 0, .int .i64 0, .int .i64 0, .slice none 0 0, .int .i64 0, .int .i64 0, .int .i64 0, .slice none 0 0, .int .i64 0, .slice none 0 0, .bool false, .int .i64 0, .int .i64 0, .int .i64 0, .slice none 0 0, .slice none 0 0, .int .i64 0, .int .i64 0, .int .i64 0, .slice none 0 0, .int .i64 0, .int .i64 0, .int .i64 0, .int .i64 0, .slice none 0 0]:=⟨_,rfl⟩
  rw [← hw3] at X R S o ⊢
  clear hw3
  generalize w2.heap.size=sb at S z2 ⊢
  clear SZ
  clear X0 Xf0 X1 Xf1 X2 Xf2 X3 Xf3 X4 Xf4 X5 Xf5 X6 Xf6 X7 Xf7
  obtain ⟨X0,X1,X2,X3,X4,X5,X6,X7,Xf0,Xf1,Xf2,Xf3,Xf4,Xf5,Xf6,Xf7⟩:=row_eight X
  go_wp2_with fail
  refine (HA.out _).mono ?_
  rintro e w4 ⟨rfl,hb⟩
  replace S:=row_call S hb
  replace R:=row_call R hb
  replace o:=o.trans (hb.mono o.size)
  clear hb X X0 Xf0 X1 Xf1 X2 Xf2 X3 Xf3 X4 Xf4 X5 Xf5 X6 Xf6 X7 Xf7
  have q0:w4.cell? ⟨sb,48,none⟩=some (.int .i64 0):=row_cell S 48
  have f0:=row_free S 48
  have q1:w4.cell? ⟨sb,49,none⟩=some (.int .i64 0):=row_cell S 49
  have f1:=row_free S 49
  have q2:w4.cell? ⟨sb,50,none⟩=some (.int .i64 0):=row_cell S 50
  have f2:=row_free S 50
  have q3:w4.cell? ⟨sb,51,none⟩=some (.slice none 0 0):=row_cell S 51
  have f3:=row_free S 51
  go_upto_region 31 with (fail)
  clear q0 f0 q1 f1 q2 f2 q3 f3
  show Code.wp _ _ _ _ (setL w4 sb 48 [.int .i64 (k:Nat), .int .i64 (cap:Nat), .int .i64 0, .slice none 0 0])
  refine layT 48 [.int .i64 (k:Nat), .int .i64 (cap:Nat), .int .i64 0, .slice none 0 0] S R o (by omega) (by omega) ?_
  clear S R o
  intro w5 S R o
  replace S:Row w5 sb 58 #[.int .i64 10, .int .i64 0, .int .i64 0, .int .i64 (k:Nat), .int .i64 (cap:Nat), .int .i64 0, .int .i64 0, .int .i64 0, .int .i64 0, .int .i64 0, .int .i64 0, .slice none 0 0, .int .i64 0, .int .i64 0, .int .i64 0, .int .i64 0, .slice none 0 0, .int .i64 0, .int .i64 0, .int .i64 0, .int .i64 0, .int .i64 0, .slice none 0 0, .int .i64 0, .int .i64 0, .int .i64 0, .int .i64 0, .int .i64 0, .int .i64 0, .slice none 0 0, .int .i64 0, .int .i64 0, .int .i64 0, .int .i64 0, .int .i64 0, .slice none 0 0, .int .i64 0, .int .i64 0, .int .i64 0, .slice none 0 0, .int .i64 0, .slice none 0 0, .bool false, .int .i64 0, .int .i64 0, .int .i64 0, .slice none 0 0, .slice none 0 0, .int .i64 (k:Nat), .int .i64 (cap:Nat), .int .i64 0, .slice none 0 0, .int .i64 0, .int .i64 0, .int .i64 0, .int .i64 0, .slice none 0 0]:=S
  have hone:(#[.int .i64 10, .int .i64 0, .int .i64 0, .int .i64 (k:Nat), .int .i64 (cap:Nat), .int .i64 0, .int .i64 0, .int .i64 0, .int .i64 0, .int .i64 0, .int .i64 0, .slice none 0 0, .int .i64 0, .int .i64 0, .int .i64 0, .int .i64 0, .slice none 0 0, .int .i64 0, .int .i64 0, .int .i64 0, .int .i64 0, .int .i64 0, .slice none 0 0, .int .i64 0, .int .i64 0, .int .i64 0, .int .i64 0, .int .i64 0, .int .i64 0, .slice none 0 0, .int .i64 0, .int .i64 0, .int .i64 0, .int .i64 0, .int .i64 0, .slice none 0 0, .int .i64 0, .int .i64 0, .int .i64 0, .slice none 0 0, .int .i64 0, .slice none 0 0, .bool false, .int .i64 0, .int .i64 0, .int .i64 0, .slice none 0 0, .slice none 0 0, .int .i64 (k:Nat), .int .i64 (cap:Nat), .int .i64 0, .slice none 0 0, .int .i64 0, .int .i64 0, .int .i64 0, .int .i64 0, .slice none 0 0]:Array Value).all (·.oneCell')=true:=all_one rfl
  go_wp2_with (first | (with_reducible refine wpList_lsyn S rfl rfl _ rfl rfl ?_) | (with_reducible refine wpList_ssyn R rfl rfl hone rfl _ _ rfl rfl rfl ?_))
  have R9:=row_setRow (cs:=#[.int .i64 10, .int .i64 0, .int .i64 0, .int .i64 (k:Nat), .int .i64 (cap:Nat), .int .i64 0, .int .i64 0, .int .i64 0, .int .i64 0, .int .i64 0, .int .i64 0, .slice none 0 0, .int .i64 0, .int .i64 0, .int .i64 0, .int .i64 0, .slice none 0 0, .int .i64 0, .int .i64 0, .int .i64 0, .int .i64 0, .int .i64 0, .slice none 0 0, .int .i64 0, .int .i64 0, .int .i64 0, .int .i64 0, .int .i64 0, .int .i64 0, .slice none 0 0, .int .i64 0, .int .i64 0, .int .i64 0, .int .i64 0, .int .i64 0, .slice none 0 0, .int .i64 0, .int .i64 0, .int .i64 0, .slice none 0 0, .int .i64 0, .slice none 0 0, .bool false, .int .i64 0, .int .i64 0, .int .i64 0, .slice none 0 0, .slice none 0 0, .int .i64 (k:Nat), .int .i64 (cap:Nat), .int .i64 0, .slice none 0 0, .int .i64 0, .int .i64 0, .int .i64 0, .int .i64 0, .slice none 0 0]) R
  refine bodyPost_ret (v := .tuple #[.agg #[.int .i64 10, .int .i64 0, .int .i64 0, .int .i64 (k:Nat), .int .i64 (cap:Nat), .int .i64 0, .int .i64 0, .int .i64 0, .int .i64 0, .int .i64 0, .int .i64 0, .slice none 0 0, .int .i64 0, .int .i64 0, .int .i64 0, .int .i64 0, .slice none 0 0, .int .i64 0, .int .i64 0, .int .i64 0, .int .i64 0, .int .i64 0, .slice none 0 0, .int .i64 0, .int .i64 0, .int .i64 0, .int .i64 0, .int .i64 0, .int .i64 0, .slice none 0 0, .int .i64 0, .int .i64 0, .int .i64 0, .int .i64 0, .int .i64 0, .slice none 0 0, .int .i64 0, .int .i64 0, .int .i64 0, .slice none 0 0, .int .i64 0, .slice none 0 0, .bool false, .int .i64 0, .int .i64 0, .int .i64 0, .slice none 0 0, .slice none 0 0, .int .i64 (k:Nat), .int .i64 (cap:Nat), .int .i64 0, .slice none 0 0, .int .i64 0, .int .i64 0, .int .i64 0, .int .i64 0, .slice none 0 0], .int .i64 0]) ?_ rfl ?_
  · exact results_syn (p:=4) (q:=5) rfl _ R9 rfl rfl
  · exact ⟨rfl,below_setRow o (by omega) _⟩
set_option maxRecDepth 100000 in
theorem pansSummary (k cap:Nat) (w:World) (HC:RowKit.Hid (∀ w',Calls Tryz.prog 108 #[.agg #[.int .i64 10, .int .i64 0, .int .i64 0, .int .i64 (k:Nat), .int .i64 (cap:Nat), .int .i64 0, .int .i64 0, .int .i64 0]] w' fun e w''=>e = .returned (.int .i64 0)∧Below w'.heap.size w' w'')):Calls Tryz.prog 40 #[.agg #[.int .i64 10, .int .i64 0, .int .i64 0, .int .i64 (k:Nat), .int .i64 (cap:Nat), .int .i64 0, .int .i64 0, .int .i64 0], .int .i64 7] w fun e w'=>e = .returned (.bool true)∧Below w.heap.size w w':=by
  go_enter Tryz.func40,Tryz.ntmps40
  go_upto_region 1 with (fail)
  refine start1 (fun w1 X o=>?_)
  obtain ⟨X0,X1,X2,X3,X4,X5,X6,X7,Xf0,Xf1,Xf2,Xf3,Xf4,Xf5,Xf6,Xf7⟩:=row_eight X
  go_wp2_with fail
  refine (HC.out _).mono ?_
  rintro e w2 ⟨rfl,hb⟩
  replace X:=row_call X hb
  replace o:=o.trans (hb.mono o.size)
  clear hb X0 Xf0 X1 Xf1 X2 Xf2 X3 Xf3 X4 Xf4 X5 Xf5 X6 Xf6 X7 Xf7
  obtain ⟨X0,X1,X2,X3,X4,X5,X6,X7,Xf0,Xf1,Xf2,Xf3,Xf4,Xf5,Xf6,Xf7⟩:=row_eight X
  go_wp2
  go_ret
  exact ⟨by first | rfl | exact ret_bool (by simp) | simp,o⟩
set_option maxRecDepth 100000 in
set_option maxHeartbeats 4000000 in
theorem pyAskSummary (A:Option Addr) (m c:Nat) (k cap n:Nat) (qa qb b0 b1 b2 b3 b4 b5:Int) (w:World) (HV:RowKit.Hid (∀ w',Below w.heap.size w w'→Calls Tryz.prog 147 #[.agg #[.int .i64 (k:Nat), .int .i64 (cap:Nat), .int .i64 (n:Nat), .slice A m c]] w' fun e w''=>e = .returned (.int .i64 0)∧Below w'.heap.size w' w'')) (HC:RowKit.Hid (∀ w',Calls Tryz.prog 108 #[.agg #[.int .i64 10, .int .i64 0, .int .i64 0, .int .i64 (k:Nat), .int .i64 (cap:Nat), .int .i64 0, .int .i64 0, .int .i64 0]] w' fun e w''=>e = .returned (.int .i64 0)∧Below w'.heap.size w' w'')) (HN:RowKit.Hid (∀ w',Calls Tryz.prog 40 #[.agg #[.int .i64 10, .int .i64 0, .int .i64 0, .int .i64 (k:Nat), .int .i64 (cap:Nat), .int .i64 0, .int .i64 0, .int .i64 0], .int .i64 7] w' fun e w''=>e = .returned (.bool true)∧Below w'.heap.size w' w'')) (HQ:RowKit.Hid (∀ w',Below w.heap.size w w'→Calls Tryz.prog 49 #[.agg #[.int .i64 (k:Nat), .int .i64 (cap:Nat), .int .i64 (n:Nat), .slice A m c], .int .i64 qa] w' fun e w''=>e = .returned (.tuple #[.agg #[.int .i64 b0, .int .i64 b1, .int .i64 b2, .int .i64 b3, .int .i64 b4, .int .i64 b5], .int .i64 0])∧Below w'.heap.size w' w'')):Calls Tryz.prog 12 #[.agg #[.int .i64 10, .int .i64 0, .int .i64 0, .int .i64 (k:Nat), .int .i64 (cap:Nat), .int .i64 0, .int .i64 0, .int .i64 0, .int .i64 0, .int .i64 0, .int .i64 0, .slice none 0 0, .int .i64 0, .int .i64 0, .int .i64 0, .int .i64 0, .slice none 0 0, .int .i64 0, .int .i64 0, .int .i64 0, .int .i64 0, .int .i64 0, .slice none 0 0, .int .i64 0, .int .i64 0, .int .i64 0, .int .i64 0, .int .i64 0, .int .i64 0, .slice none 0 0, .int .i64 0, .int .i64 0, .int .i64 0, .int .i64 0, .int .i64 0, .slice none 0 0, .int .i64 0, .int .i64 0, .int .i64 0, .slice none 0 0, .int .i64 0, .slice none 0 0, .bool false, .int .i64 0, .int .i64 0, .int .i64 0, .slice none 0 0, .slice none 0 0, .int .i64 (k:Nat), .int .i64 (cap:Nat), .int .i64 (n:Nat), .slice A m c, .int .i64 0, .int .i64 0, .int .i64 0, .int .i64 0, .slice none 0 0], .agg #[.int .i64 7, .int .i64 qa, .int .i64 qb]] w fun e w'=>e = .returned (.tuple #[.agg #[.int .i64 b0, .int .i64 b1, .int .i64 b2, .int .i64 b3, .int .i64 b4, .int .i64 b5, .slice none 0 0, .int .u64 0, .int .u64 0, .int .u64 0, .int .u64 0], .int .i64 0])∧Below w.heap.size w w':=by
  have PVd:=Lib.hid (fun w' (hb:Below w.heap.size w w')=>pvSummary A m c k cap n w' (Lib.hid (fun w'' hb2=>HV.out w'' (hb.trans (hb2.mono hb.size)))) HC)
  go_enter Tryz.func12,Tryz.ntmps12
  go_upto_region 1 with (fail)
  refine start3 (fun w1 X Q R o=>?_)
  go_wp2_with (with_reducible refine wpList_lsyn X rfl rfl _ rfl rfl ?_)
  refine (PVd.out _ o).mono ?_
  rintro e w2 ⟨rfl,hb⟩
  replace X:=row_call X hb
  replace Q:=row_call Q hb
  replace R:=row_call R hb
  replace o:=o.trans (hb.mono o.size)
  clear hb PVd
  have k0:w2.cell? ⟨w.heap.size,0,none⟩=some (.int .i64 10):=row_cell X 0
  have k1:w2.cell? ⟨w.heap.size,1,none⟩=some (.int .i64 0):=row_cell X 1
  have k2:w2.cell? ⟨w.heap.size,2,none⟩=some (.int .i64 0):=row_cell X 2
  have k3:w2.cell? ⟨w.heap.size,3,none⟩=some (.int .i64 (k:Nat)):=row_cell X 3
  have k4:w2.cell? ⟨w.heap.size,4,none⟩=some (.int .i64 (cap:Nat)):=row_cell X 4
  have k5:w2.cell? ⟨w.heap.size,5,none⟩=some (.int .i64 0):=row_cell X 5
  have k6:w2.cell? ⟨w.heap.size,6,none⟩=some (.int .i64 0):=row_cell X 6
  have k7:w2.cell? ⟨w.heap.size,7,none⟩=some (.int .i64 0):=row_cell X 7
  obtain ⟨Q0,Q1,Q2,Qf0,Qf1,Qf2⟩:=row_three Q
  go_wp2_with fail
  refine (HN.out _).mono ?_
  rintro e w3 ⟨rfl,hb⟩
  replace X:=row_call X hb
  replace R:=row_call R hb
  replace o:=o.trans (hb.mono o.size)
  replace Q:=row_call Q hb
  clear hb HN Q0 Q1 Q2 Qf0 Qf1 Qf2 k0 k1 k2 k3 k4 k5 k6 k7
  go_upto_region 7 with (fail)
  have V:Row (w3.alloc (.cells #[.int .i64 0, .int .i64 0, .int .i64 0, .int .i64 0, .int .i64 0, .int .i64 0, .slice none 0 0, .int .u64 0, .int .u64 0, .int .u64 0, .int .u64 0] 71)) w3.heap.size 71 #[.int .i64 0, .int .i64 0, .int .i64 0, .int .i64 0, .int .i64 0, .int .i64 0, .slice none 0 0, .int .u64 0, .int .u64 0, .int .u64 0, .int .u64 0]:=row_new rfl
  have z3:=row_lt R
  replace X:=row_alloc X (.cells #[.int .i64 0, .int .i64 0, .int .i64 0, .int .i64 0, .int .i64 0, .int .i64 0, .slice none 0 0, .int .u64 0, .int .u64 0, .int .u64 0, .int .u64 0] 71)
  replace R:=row_alloc R (.cells #[.int .i64 0, .int .i64 0, .int .i64 0, .int .i64 0, .int .i64 0, .int .i64 0, .slice none 0 0, .int .u64 0, .int .u64 0, .int .u64 0, .int .u64 0] 71)
  replace Q:=row_alloc Q (.cells #[.int .i64 0, .int .i64 0, .int .i64 0, .int .i64 0, .int .i64 0, .int .i64 0, .slice none 0 0, .int .u64 0, .int .u64 0, .int .u64 0, .int .u64 0] 71)
  replace o:=o.alloc o.size (.cells #[.int .i64 0, .int .i64 0, .int .i64 0, .int .i64 0, .int .i64 0, .int .i64 0, .slice none 0 0, .int .u64 0, .int .u64 0, .int .u64 0, .int .u64 0] 71)
  generalize w3.alloc (.cells #[.int .i64 0, .int .i64 0, .int .i64 0, .int .i64 0, .int .i64 0, .int .i64 0, .slice none 0 0, .int .u64 0, .int .u64 0, .int .u64 0, .int .u64 0] 71)=w4 at X R Q V o ⊢
  generalize w3.heap.size=vb at V z3 ⊢
  have k0:w4.cell? ⟨w.heap.size,0,none⟩=some (.int .i64 10):=row_cell X 0
  have q0:w4.cell? ⟨w.heap.size,48,none⟩=some (.int .i64 (k:Nat)):=row_cell X 48
  have q1:w4.cell? ⟨w.heap.size,49,none⟩=some (.int .i64 (cap:Nat)):=row_cell X 49
  have q2:w4.cell? ⟨w.heap.size,50,none⟩=some (.int .i64 (n:Nat)):=row_cell X 50
  have q3:w4.cell? ⟨w.heap.size,51,none⟩=some (.slice A m c):=row_cell X 51
  obtain ⟨Q0,Q1,Q2,Qf0,Qf1,Qf2⟩:=row_three Q
  go_wp2_with fail
  refine (HQ.out _ o).mono ?_
  rintro e w5 ⟨rfl,hb⟩
  replace V:=row_call V hb
  replace R:=row_call R hb
  replace o:=o.trans (hb.mono o.size)
  clear hb HQ X k0 Q Q0 Q1 Q2 Qf0 Qf1 Qf2 q0 q1 q2 q3
  have v0:w5.cell? ⟨vb,0,none⟩=some (.int .i64 0):=row_cell V 0
  have v1:w5.cell? ⟨vb,1,none⟩=some (.int .i64 0):=row_cell V 1
  have v2:w5.cell? ⟨vb,2,none⟩=some (.int .i64 0):=row_cell V 2
  have v3:w5.cell? ⟨vb,3,none⟩=some (.int .i64 0):=row_cell V 3
  have v4:w5.cell? ⟨vb,4,none⟩=some (.int .i64 0):=row_cell V 4
  have v5:w5.cell? ⟨vb,5,none⟩=some (.int .i64 0):=row_cell V 5
  have v6:w5.cell? ⟨vb,6,none⟩=some (.slice none 0 0):=row_cell V 6
  have v7:w5.cell? ⟨vb,7,none⟩=some (.int .u64 0):=row_cell V 7
  have v8:w5.cell? ⟨vb,8,none⟩=some (.int .u64 0):=row_cell V 8
  have v9:w5.cell? ⟨vb,9,none⟩=some (.int .u64 0):=row_cell V 9
  have v10:w5.cell? ⟨vb,10,none⟩=some (.int .u64 0):=row_cell V 10
  have g0:=row_free V 0
  have g1:=row_free V 1
  have g2:=row_free V 2
  have g3:=row_free V 3
  have g4:=row_free V 4
  have g5:=row_free V 5
  go_upto_region 39 with (fail)
  clear v0 v1 v2 v3 v4 v5 v6 v7 v8 v9 v10 g0 g1 g2 g3 g4 g5
  replace V:=row_set V 0 (.int .i64 b0)
  replace R:=row_other (p:=⟨vb,0,none⟩) R (by show w.heap.size+2≠vb;omega) (.int .i64 b0)
  replace o:=o.setCell (p:=⟨vb,0,none⟩) (by show w.heap.size≤vb;omega) (.int .i64 b0)
  replace V:=row_set V 1 (.int .i64 b1)
  replace R:=row_other (p:=⟨vb,1,none⟩) R (by show w.heap.size+2≠vb;omega) (.int .i64 b1)
  replace o:=o.setCell (p:=⟨vb,1,none⟩) (by show w.heap.size≤vb;omega) (.int .i64 b1)
  replace V:=row_set V 2 (.int .i64 b2)
  replace R:=row_other (p:=⟨vb,2,none⟩) R (by show w.heap.size+2≠vb;omega) (.int .i64 b2)
  replace o:=o.setCell (p:=⟨vb,2,none⟩) (by show w.heap.size≤vb;omega) (.int .i64 b2)
  replace V:=row_set V 3 (.int .i64 b3)
  replace R:=row_other (p:=⟨vb,3,none⟩) R (by show w.heap.size+2≠vb;omega) (.int .i64 b3)
  replace o:=o.setCell (p:=⟨vb,3,none⟩) (by show w.heap.size≤vb;omega) (.int .i64 b3)
  replace V:=row_set V 4 (.int .i64 b4)
  replace R:=row_other (p:=⟨vb,4,none⟩) R (by show w.heap.size+2≠vb;omega) (.int .i64 b4)
  replace o:=o.setCell (p:=⟨vb,4,none⟩) (by show w.heap.size≤vb;omega) (.int .i64 b4)
  replace V:=row_set V 5 (.int .i64 b5)
  replace R:=row_other (p:=⟨vb,5,none⟩) R (by show w.heap.size+2≠vb;omega) (.int .i64 b5)
  replace o:=o.setCell (p:=⟨vb,5,none⟩) (by show w.heap.size≤vb;omega) (.int .i64 b5)
  replace V:Row ((((((w5.setCell ⟨vb,0,none⟩ (.int .i64 b0)).setCell ⟨vb,1,none⟩ (.int .i64 b1)).setCell ⟨vb,2,none⟩ (.int .i64 b2)).setCell ⟨vb,3,none⟩ (.int .i64 b3)).setCell ⟨vb,4,none⟩ (.int .i64 b4)).setCell ⟨vb,5,none⟩ (.int .i64 b5)) vb 71 #[.int .i64 b0, .int .i64 b1, .int .i64 b2, .int .i64 b3, .int .i64 b4, .int .i64 b5, .slice none 0 0, .int .u64 0, .int .u64 0, .int .u64 0, .int .u64 0]:=V
  generalize ((((((w5.setCell ⟨vb,0,none⟩ (.int .i64 b0)).setCell ⟨vb,1,none⟩ (.int .i64 b1)).setCell ⟨vb,2,none⟩ (.int .i64 b2)).setCell ⟨vb,3,none⟩ (.int .i64 b3)).setCell ⟨vb,4,none⟩ (.int .i64 b4)).setCell ⟨vb,5,none⟩ (.int .i64 b5))=w6 at V R o ⊢
  have hone:(#[.int .i64 b0, .int .i64 b1, .int .i64 b2, .int .i64 b3, .int .i64 b4, .int .i64 b5, .slice none 0 0, .int .u64 0, .int .u64 0, .int .u64 0, .int .u64 0]:Array Value).all (·.oneCell')=true:=all_one rfl
  go_wp2_with (first | (with_reducible refine wpList_lans V rfl rfl _ rfl rfl ?_) | (with_reducible refine wpList_sans R rfl rfl hone rfl _ _ rfl rfl rfl ?_))
  have R9:=row_setRow (cs:=#[.int .i64 b0, .int .i64 b1, .int .i64 b2, .int .i64 b3, .int .i64 b4, .int .i64 b5, .slice none 0 0, .int .u64 0, .int .u64 0, .int .u64 0, .int .u64 0]) R
  refine bodyPost_ret (v := .tuple #[.agg #[.int .i64 b0, .int .i64 b1, .int .i64 b2, .int .i64 b3, .int .i64 b4, .int .i64 b5, .slice none 0 0, .int .u64 0, .int .u64 0, .int .u64 0, .int .u64 0], .int .i64 0]) ?_ rfl ?_
  · exact results_ans (p:=4) (q:=5) rfl _ R9 rfl rfl
  · exact ⟨rfl,below_setRow o (by omega) _⟩
end Go.Proofs.YtdipoojjlddohaaGreat
end
section
/- Configurations of summaries, walked. -/
namespace Go.Proofs.YtdipoojjlddohaaGreat
open Go.RowKit
set_option maxRecDepth 100000 in
theorem ptake2 (sb cb ob j1 j2:Nat) (cs:Array Value) (x1 x2:Value) (w:World) (S:Row w sb 291 #[.pointer (some ⟨cb,j1,none⟩), .pointer (some ⟨cb,j2,none⟩)]) (C:Row w cb 27 cs) (O:Row w ob 4 #[.bool true]) (hx1:cs[j1]?=some x1) (hx2:cs[j2]?=some x2) (hj:j1≠j2) (n1:cb≠ob) (n2:sb≠ob) (n3:sb≠cb) :
    Calls Tryz.prog 200 #[.bool true, .slice (some ⟨sb,0,none⟩) 2 2, .pointer (some ⟨ob,0,none⟩)] w fun e w'=>e = .returned (.tuple #[])∧w'=((w.setCell ⟨ob,0,none⟩ (.bool true)).setCell ⟨cb,j1,none⟩ (.int .i64 0)).setCell ⟨cb,j2,none⟩ (.int .i64 0):=by
  obtain ⟨O0,O1⟩:=row_one O
  go_enter Tryz.func200,Tryz.ntmps200
  go_upto_region 1 with (fail)
  have S':=row_other (p:=⟨ob,0,none⟩) S n2 (.bool true)
  have C':=row_other (p:=⟨ob,0,none⟩) C n1 (.bool true)
  generalize hw1:w.setCell ⟨ob,0,none⟩ (.bool true)=w1 at S' C' ⊢
  replace hw1:=Lib.hid hw1
  clear S C O O0 O1
  have S2:=row_other (p:=⟨cb,j1,none⟩) S' n3 (.int .i64 0)
  have C2:=row_set C' j1 (.int .i64 0)
  obtain ⟨S0,S1,_,_⟩:=row_two S'
  obtain ⟨_,T1,_,_⟩:=row_two S2
  have C0:=(row_cell C' j1).trans hx1
  have C1:=row_free C' j1
  have D0:=(row_cell C2 j2).trans ((Array.getElem?_setIfInBounds_ne hj).trans hx2)
  have D1:=row_free C2 j2
  clear S' C' S2 C2
  go_wp2
  generalize hw2:w1.setCell ⟨cb,j1,none⟩ (.int .i64 0)=w2 at T1 D0 D1
  replace hw2:=Lib.hid hw2
  go_loopw [6,13] (fun _ i wr=>(i = .int .i64 0∧wr=w1)∨(i = .int .i64 1∧wr=w2)∨(i = .int .i64 2∧wr=w2.setCell ⟨cb,j2,none⟩ (.int .i64 0))) (fun _ i _=>3-(intOf i).toNat)
  case atStart=>exact .inl ⟨rfl,rfl⟩
  case round =>
    rcases hrel with ⟨rfl,rfl⟩ | ⟨rfl,rfl⟩ | ⟨rfl,rfl⟩
    · go_wp2
      go_roundw
      case rel=>exact .inr (.inl ⟨by go_num,hw2.out⟩)
      case measure=>simp [intOf]
    · go_wp2
      go_roundw
      case rel=>exact .inr (.inr ⟨by go_num,by first | rfl | trivial⟩)
      case measure=>simp [intOf]
    · go_wp2
      go_end0
      exact ⟨rfl,by rw [hw1.out,hw2.out]⟩
set_option maxRecDepth 100000 in
set_option maxHeartbeats 2000000 in
theorem pcfgSummary (kk cp:Int) (w:World) (hkk0:1≤kk) (hkk1:kk≤64) (hcp0:2≤cp) (hcp1:cp≤65536):Calls Tryz.prog 108 #[.agg #[.int .i64 10, .int .i64 0, .int .i64 0, .int .i64 kk, .int .i64 cp, .int .i64 0, .int .i64 0, .int .i64 0]] w fun e w'=>e = .returned (.int .i64 0)∧Below w.heap.size w w':=by
  have Pkk:=Lib.hid (fun w=>pcin kk 1 64 w hkk0 hkk1)
  have Pcp:=Lib.hid (fun w=>pcin cp 2 65536 w hcp0 hcp1)
  clear hkk0 hkk1 hcp0 hcp1
  go_enter Tryz.func108,Tryz.ntmps108
  go_upto_region 4 with (fail)
  have C:Row ((w.alloc (.cells #[.int .i64 10, .int .i64 0, .int .i64 0, .int .i64 kk, .int .i64 cp, .int .i64 0, .int .i64 0, .int .i64 0] 27)).alloc (.cells #[.bool true] 4)) (w.heap.size) 27 #[.int .i64 10, .int .i64 0, .int .i64 0, .int .i64 kk, .int .i64 cp, .int .i64 0, .int .i64 0, .int .i64 0]:=row_alloc (row_new rfl) _
  have O:Row ((w.alloc (.cells #[.int .i64 10, .int .i64 0, .int .i64 0, .int .i64 kk, .int .i64 cp, .int .i64 0, .int .i64 0, .int .i64 0] 27)).alloc (.cells #[.bool true] 4)) (w.heap.size+1) 4 #[.bool true]:=row_new (by simp)
  have o:Below w.heap.size w ((w.alloc (.cells #[.int .i64 10, .int .i64 0, .int .i64 0, .int .i64 kk, .int .i64 cp, .int .i64 0, .int .i64 0, .int .i64 0] 27)).alloc (.cells #[.bool true] 4)):=by (repeat (first | exact Below.refl _ _ | refine Below.setCell ?_ (by (try simp)<;>omega) _ | refine Below.alloc ?_ (by (try simp)<;>omega) _ | refine Below.drew ?_ | refine Below.trans ?_ (Below.mono (by assumption) (by (try simp)<;>omega))))
  generalize ((w.alloc (.cells #[.int .i64 10, .int .i64 0, .int .i64 0, .int .i64 kk, .int .i64 cp, .int .i64 0, .int .i64 0, .int .i64 0] 27)).alloc (.cells #[.bool true] 4))=w1 at C O o ⊢
  obtain ⟨C0,C1,C2,C3,C4,C5,C6,C7,Cf0,Cf1,Cf2,Cf3,Cf4,Cf5,Cf6,Cf7⟩:=row_eight C
  obtain ⟨O0,Of0⟩:=row_one O
  go_wp2_with fail
  refine (Pkk.out _).mono ?_
  rintro e wx ⟨rfl,hx⟩
  obtain rfl:=hx.symm
  go_wp2_with fail
  refine (Pcp.out _).mono ?_
  rintro e wx ⟨rfl,hx⟩
  obtain rfl:=hx.symm
  go_wp2_with fail
  have S:Row (w1.alloc (.cells #[.pointer (some ⟨w.heap.size,3,none⟩), .pointer (some ⟨w.heap.size,4,none⟩)] 291)) w1.heap.size 291 #[.pointer (some ⟨w.heap.size,3,none⟩), .pointer (some ⟨w.heap.size,4,none⟩)]:=row_new rfl
  have zs:=row_lt O
  replace C:=row_alloc C (.cells #[.pointer (some ⟨w.heap.size,3,none⟩), .pointer (some ⟨w.heap.size,4,none⟩)] 291)
  replace O:=row_alloc O (.cells #[.pointer (some ⟨w.heap.size,3,none⟩), .pointer (some ⟨w.heap.size,4,none⟩)] 291)
  replace o:=o.alloc o.size (.cells #[.pointer (some ⟨w.heap.size,3,none⟩), .pointer (some ⟨w.heap.size,4,none⟩)] 291)
  generalize w1.alloc (.cells #[.pointer (some ⟨w.heap.size,3,none⟩), .pointer (some ⟨w.heap.size,4,none⟩)] 291)=w2 at S C O o ⊢
  generalize w1.heap.size=sb at S zs ⊢
  refine (ptake2 sb (w.heap.size) (w.heap.size+1) 3 4 #[.int .i64 10, .int .i64 0, .int .i64 0, .int .i64 kk, .int .i64 cp, .int .i64 0, .int .i64 0, .int .i64 0] (.int .i64 kk) (.int .i64 cp) w2 S C O rfl rfl (by decide) (by omega) (by omega) (by omega)).mono ?_
  rintro e w3 ⟨rfl,hw3⟩
  replace C:Row w3 (w.heap.size) 27 #[.int .i64 10, .int .i64 0, .int .i64 0, .int .i64 0, .int .i64 0, .int .i64 0, .int .i64 0, .int .i64 0]:=by rw [hw3];exact row_set (row_set (row_other (p:=⟨w.heap.size+1,0,none⟩) C (by show w.heap.size≠w.heap.size+1;omega) (.bool true)) 3 (.int .i64 0)) 4 (.int .i64 0)
  replace O:Row w3 (w.heap.size+1) 4 #[.bool true]:=by rw [hw3];exact row_other (p:=⟨w.heap.size,4,none⟩) (row_other (p:=⟨w.heap.size,3,none⟩) (row_set O 0 (.bool true)) (by show w.heap.size+1≠w.heap.size;omega) (.int .i64 0)) (by show w.heap.size+1≠w.heap.size;omega) (.int .i64 0)
  replace o:Below w.heap.size w w3:=by rw [hw3];exact ((o.setCell (p:=⟨w.heap.size+1,0,none⟩) (by show w.heap.size≤w.heap.size+1;omega) (.bool true)).setCell (p:=⟨w.heap.size,3,none⟩) (Nat.le_refl _) (.int .i64 0)).setCell (p:=⟨w.heap.size,4,none⟩) (Nat.le_refl _) (.int .i64 0)
  clear hw3 S zs C0 C1 C2 C3 C4 C5 C6 C7 Cf0 Cf1 Cf2 Cf3 Cf4 Cf5 Cf6 Cf7 O0 Of0
  obtain ⟨C0,C1,C2,C3,C4,C5,C6,C7,Cf0,Cf1,Cf2,Cf3,Cf4,Cf5,Cf6,Cf7⟩:=row_eight C
  obtain ⟨O0,Of0⟩:=row_one O
  go_wp2
  go_ret
  exact ⟨rfl,o⟩
end Go.Proofs.YtdipoojjlddohaaGreat
end
