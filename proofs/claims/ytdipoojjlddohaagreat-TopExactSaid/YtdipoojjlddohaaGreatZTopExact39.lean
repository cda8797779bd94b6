/- What the law TopExact needs, joined of its texts by a program (slim2.py); part 39. -/
import Derived.Test.YtdipoojjlddohaaGreatZTopExact1
import Derived.Test.YtdipoojjlddohaaGreatZTopExact4
import Derived.Test.YtdipoojjlddohaaGreatZTopExact10
import Derived.Test.YtdipoojjlddohaaGreatZTopExact16
import Derived.Test.YtdipoojjlddohaaGreatZTopExact37
set_option linter.unusedVariables false
set_option linter.unusedSimpArgs false
set_option linter.unusedSectionVars false
set_option linter.unnecessarySimpa false
section
/- Synopses of kind Halve: the empty ones, and the answer, walked. -/
namespace Go.Proofs.YtdipoojjlddohaaGreat
open Go.RowKit
set_option maxRecDepth 100000 in
set_option maxHeartbeats 4000000 in
theorem pyNewHalve (wd now:Int) (w:World) (IN:Option Addr→Nat→Nat→World→Prop) (hIN:InOK IN) (n0:0≤now) (n1:now≤16777216) (ww:IntKind.i64.wrap wd=wd) (HC:RowKit.Hid (∀ w',Calls Tryz.prog 108 #[.agg #[.int .i64 7, .int .i64 0, .int .i64 wd, .int .i64 0, .int .i64 0, .int .i64 0, .int .i64 0, .int .i64 0]] w' fun e w''=>e = .returned (.int .i64 0)∧Below w'.heap.size w' w'')) (HA:RowKit.Hid (∀ w',Calls Tryz.prog 115 #[.int .i64 wd, .int .i64 now] w' (GRet IN (fun A m c=>#[.int .i64 now, .slice A m c]) 0 (fun _=>False) w'))):Calls Tryz.prog 37 #[.agg #[.int .i64 7, .int .i64 0, .int .i64 wd, .int .i64 0, .int .i64 0, .int .i64 0, .int .i64 0, .int .i64 0], .int .i64 now] w (GRet IN (fun A m c=>#[.int .i64 7, .int .i64 0, .int .i64 wd, .int .i64 0, .int .i64 0, .int .i64 0, .int .i64 0, .int .i64 0, .int .i64 0, .int .i64 0, .int .i64 0, .slice none 0 0, .int .i64 0, .int .i64 0, .int .i64 0, .int .i64 0, .slice none 0 0, .int .i64 0, .int .i64 0, .int .i64 0, .int .i64 0, .int .i64 0, .slice none 0 0, .int .i64 0, .int .i64 0, .int .i64 0, .int .i64 0, .int .i64 0, .int .i64 0, .slice none 0 0, .int .i64 0, .int .i64 0, .int .i64 0, .int .i64 0, .int .i64 0, .slice none 0 0, .int .i64 0, .int .i64 0, .int .i64 0, .slice none 0 0, .int .i64 now, .slice A m c, .bool false, .int .i64 0, .int .i64 0, .int .i64 0, .slice none 0 0, .slice none 0 0, .int .i64 0, .int .i64 0, .int .i64 0, .slice none 0 0, .int .i64 0, .int .i64 0, .int .i64 0, .int .i64 0, .slice none 0 0]) 0 (fun _=>False) w):=by
  have PT:=Lib.hid (fun w=>pstick now w n0 n1)
  go_enter Tryz.func37,Tryz.ntmps37
  go_upto_region 1 with (fail)
  refine start2 (fun w1 X R o=>?_)
  obtain ⟨X0,X1,X2,X3,X4,X5,X6,X7,Xf0,Xf1,Xf2,Xf3,Xf4,Xf5,Xf6,Xf7⟩:=row_eight X
  go_wp2_with fail
  refine (HC.out _).mono ?_
  rintro e w2 ⟨rfl,hb⟩
  replace X:=row_call X hb
  replace R:=row_call R hb
  replace o:=o.trans (hb.mono o.size)
  clear hb X0 Xf0 X1 Xf1 X2 Xf2 X3 Xf3 X4 Xf4 X5 Xf5 X6 Xf6 X7 Xf7
  obtain ⟨X0,X1,X2,X3,X4,X5,X6,X7,Xf0,Xf1,Xf2,Xf3,Xf4,Xf5,Xf6,Xf7⟩:=row_eight X
  go_upto_region 6 with (go_at_call 73;with_reducible refine (PT.out _).mono ?_;rintro e w9 ⟨rfl,h9⟩;obtain rfl:=h9.symm)
  have honeZ:(#[.int .i64 7, .int .i64 0, .int .i64 wd, .int .i64 0, .int .i64 0, .int .i64 0, .int .i64 0, .int .i64 0, .int .i64 0, .int .i64 0, .int .i64 0, .slice none 0 0, .int .i64 0, .int .i64 0, .int .i64 0, .int .i64 0, .slice none 0 0, .int .i64 0, .int .i64 0, .int .i64 0, .int .i64 0, .int .i64 0, .slice none 0 0, .int .i64 0, .int .i64 0, .int .i64 0, .int .i64 0, .int .i64 0, .int .i64 0, .slice none 0 0, .int .i64 0, .int .i64 0, .int .i64 0, .int .i64 0, .int .i64 0, .slice none 0 0, .int .i64 0, .int .i64 0, .int .i64 0, .slice none 0 0, .int .i64 0, .slice none 0 0, .bool false, .int .i64 0, .int .i64 0, .int .i64 0, .slice none 0 0, .slice none 0 0, .int .i64 0, .int .i64 0, .int .i64 0, .slice none 0 0, .int .i64 0, .int .i64 0, .int .i64 0, .int .i64 0, .slice none 0 0]:Array Value).all (·.oneCell')=true:=all_one rfl
  have SZ:Row (w2.alloc (.cells #[.int .i64 0, .int .i64 0, .int .i64 0, .int .i64 0, .int .i64 0, .int .i64 0, .int .i64 0, .int .i64 0, .int .i64 0, .int .i64 0, .int .i64 0, .slice none 0 0, .int .i64 0, .int .i64 0, .int .i64 0, .int .i64 0, .slice none 0 0, .int .i64 0, .int .i64 0, .int .i64 0, .int .i64 0, .int .i64 0, .slice none 0 0, .int .i64 0, .int .i64 0, .int .i64 0, .int .i64 0, .int .i64 0, .int .i64 0, .slice none 0 0, .int .i64 0, .int .i64 0, .int .i64 0, .int .i64 0, .int .i64 0, .slice none 0 0, .int .i64 0, .int .i64 0, .int .i64 0, .slice none 0 0, .int .i64 0, .slice none 0 0, .bool false, .int .i64 0, .int .i64 0, .int .i64 0, .slice none 0 0, .slice none 0 0, .int .i64 0, .int .i64 0, .int .i64 0, .slice none 0 0, .int .i64 0, .int .i64 0, .int .i64 0, .int .i64 0, .slice none 0 0] 58)) w2.heap.size 58 #[.int .i64 0, .int .i64 0, .int .i64 0, .int .i64 0, .int .i64 0, .int .i64 0, .int .i64 0, .int .i64 0, .int .i64 0, .int .i64 0, .int .i64 0, .slice none 0 0, .int .i64 0, .int .i64 0, .int .i64 0, .int .i64 0, .slice none 0 0, .int .i64 0, .int .i64 0, .int .i64 0, .int .i64 0, .int .i64 0, .slice none 0 0, .int .i64 0, .int .i64 0, .int .i64 0, .int .i64 0, .int .i64 0, .int .i64 0, .slice none 0 0, .int .i64 0, .int .i64 0, .int .i64 0, .int .i64 0, .int .i64 0, .slice none 0 0, .int .i64 0, .int .i64 0, .int .i64 0, .slice none 0 0, .int .i64 0, .slice none 0 0, .bool false, .int .i64 0, .int .i64 0, .int .i64 0, .slice none 0 0, .slice none 0 0, .int .i64 0, .int .i64 0, .int .i64 0, .slice none 0 0, .int .i64 0, .int .i64 0, .int .i64 0, .int .i64 0, .slice none 0 0]:=row_new rfl
  go_upto_region 7 with (first | (with_reducible refine wpList_bsyn (.int .i64 7) (.int .i64 0) (.int .i64 wd) (.int .i64 0) (.int .i64 0) (.int .i64 0) (.int .i64 0) (.int .i64 0) rfl _ rfl rfl ?_) | (with_reducible refine wpList_ssyn SZ rfl rfl honeZ rfl _ _ rfl rfl rfl ?_))
  have S:=row_setRow (cs:=#[.int .i64 7, .int .i64 0, .int .i64 wd, .int .i64 0, .int .i64 0, .int .i64 0, .int .i64 0, .int .i64 0, .int .i64 0, .int .i64 0, .int .i64 0, .slice none 0 0, .int .i64 0, .int .i64 0, .int .i64 0, .int .i64 0, .slice none 0 0, .int .i64 0, .int .i64 0, .int .i64 0, .int .i64 0, .int .i64 0, .slice none 0 0, .int .i64 0, .int .i64 0, .int .i64 0, .int .i64 0, .int .i64 0, .int .i64 0, .slice none 0 0, .int .i64 0, .int .i64 0, .int .i64 0, .int .i64 0, .int .i64 0, .slice none 0 0, .int .i64 0, .int .i64 0, .int .i64 0, .slice none 0 0, .int .i64 0, .slice none 0 0, .bool false, .int .i64 0, .int .i64 0, .int .i64 0, .slice none 0 0, .slice none 0 0, .int .i64 0, .int .i64 0, .int .i64 0, .slice none 0 0, .int .i64 0, .int .i64 0, .int .i64 0, .int .i64 0, .slice none 0 0]) SZ
  have z2:=row_lt R
  replace X:=row_setRow_other (g:=w2.heap.size) (cs':=#[.int .i64 7, .int .i64 0, .int .i64 wd, .int .i64 0, .int .i64 0, .int .i64 0, .int .i64 0, .int .i64 0, .int .i64 0, .int .i64 0, .int .i64 0, .slice none 0 0, .int .i64 0, .int .i64 0, .int .i64 0, .int .i64 0, .slice none 0 0, .int .i64 0, .int .i64 0, .int .i64 0, .int .i64 0, .int .i64 0, .slice none 0 0, .int .i64 0, .int .i64 0, .int .i64 0, .int .i64 0, .int .i64 0, .int .i64 0, .slice none 0 0, .int .i64 0, .int .i64 0, .int .i64 0, .int .i64 0, .int .i64 0, .slice none 0 0, .int .i64 0, .int .i64 0, .int .i64 0, .slice none 0 0, .int .i64 0, .slice none 0 0, .bool false, .int .i64 0, .int .i64 0, .int .i64 0, .slice none 0 0, .slice none 0 0, .int .i64 0, .int .i64 0, .int .i64 0, .slice none 0 0, .int .i64 0, .int .i64 0, .int .i64 0, .int .i64 0, .slice none 0 0]) (row_alloc X (.cells #[.int .i64 0, .int .i64 0, .int .i64 0, .int .i64 0, .int .i64 0, .int .i64 0, .int .i64 0, .int .i64 0, .int .i64 0, .int .i64 0, .int .i64 0, .slice none 0 0, .int .i64 0, .int .i64 0, .int .i64 0, .int .i64 0, .slice none 0 0, .int .i64 0, .int .i64 0, .int .i64 0, .int .i64 0, .int .i64 0, .slice none 0 0, .int .i64 0, .int .i64 0, .int .i64 0, .int .i64 0, .int .i64 0, .int .i64 0, .slice none 0 0, .int .i64 0, .int .i64 0, .int .i64 0, .int .i64 0, .int .i64 0, .slice none 0 0, .int .i64 0, .int .i64 0, .int .i64 0, .slice none 0 0, .int .i64 0, .slice none 0 0, .bool false, .int .i64 0, .int .i64 0, .int .i64 0, .slice none 0 0, .slice none 0 0, .int .i64 0, .int .i64 0, .int .i64 0, .slice none 0 0, .int .i64 0, .int .i64 0, .int .i64 0, .int .i64 0, .slice none 0 0] 58)) (by have:=row_lt X;omega)
  replace R:=row_setRow_other (g:=w2.heap.size) (cs':=#[.int .i64 7, .int .i64 0, .int .i64 wd, .int .i64 0, .int .i64 0, .int .i64 0, .int .i64 0, .int .i64 0, .int .i64 0, .int .i64 0, .int .i64 0, .slice none 0 0, .int .i64 0, .int .i64 0, .int .i64 0, .int .i64 0, .slice none 0 0, .int .i64 0, .int .i64 0, .int .i64 0, .int .i64 0, .int .i64 0, .slice none 0 0, .int .i64 0, .int .i64 0, .int .i64 0, .int .i64 0, .int .i64 0, .int .i64 0, .slice none 0 0, .int .i64 0, .int .i64 0, .int .i64 0, .int .i64 0, .int .i64 0, .slice none 0 0, .int .i64 0, .int .i64 0, .int .i64 0, .slice none 0 0, .int .i64 0, .slice none 0 0, .bool false, .int .i64 0, .int .i64 0, .int .i64 0, .slice none 0 0, .slice none 0 0, .int .i64 0, .int .i64 0, .int .i64 0, .slice none 0 0, .int .i64 0, .int .i64 0, .int .i64 0, .int .i64 0, .slice none 0 0]) (row_alloc R (.cells #[.int .i64 0, .int .i64 0, .int .i64 0, .int .i64 0, .int .i64 0, .int .i64 0, .int .i64 0, .int .i64 0, .int .i64 0, .int .i64 0, .int .i64 0, .slice none 0 0, .int .i64 0, .int .i64 0, .int .i64 0, .int .i64 0, .slice none 0 0, .int .i64 0, .int .i64 0, .int .i64 0, .int .i64 0, .int .i64 0, .slice none 0 0, .int .i64 0, .int .i64 0, .int .i64 0, .int .i64 0, .int .i64 0, .int .i64 0, .slice none 0 0, .int .i64 0, .int .i64 0, .int .i64 0, .int .i64 0, .int .i64 0, .slice none 0 0, .int .i64 0, .int .i64 0, .int .i64 0, .slice none 0 0, .int .i64 0, .slice none 0 0, .bool false, .int .i64 0, .int .i64 0, .int .i64 0, .slice none 0 0, .slice none 0 0, .int .i64 0, .int .i64 0, .int .i64 0, .slice none 0 0, .int .i64 0, .int .i64 0, .int .i64 0, .int .i64 0, .slice none 0 0] 58)) (by omega)
  replace o:=below_setRow (g:=w2.heap.size) (o.alloc o.size (.cells #[.int .i64 0, .int .i64 0, .int .i64 0, .int .i64 0, .int .i64 0, .int .i64 0, .int .i64 0, .int .i64 0, .int .i64 0, .int .i64 0, .int .i64 0, .slice none 0 0, .int .i64 0, .int .i64 0, .int .i64 0, .int .i64 0, .slice none 0 0, .int .i64 0, .int .i64 0, .int .i64 0, .int .i64 0, .int .i64 0, .slice none 0 0, .int .i64 0, .int .i64 0, .int .i64 0, .int .i64 0, .int .i64 0, .int .i64 0, .slice none 0 0, .int .i64 0, .int .i64 0, .int .i64 0, .int .i64 0, .int .i64 0, .slice none 0 0, .int .i64 0, .int .i64 0, .int .i64 0, .slice none 0 0, .int .i64 0, .slice none 0 0, .bool false, .int .i64 0, .int .i64 0, .int .i64 0, .slice none 0 0, .slice none 0 0, .int .i64 0, .int .i64 0, .int .i64 0, .slice none 0 0, .int .i64 0, .int .i64 0, .int .i64 0, .int .i64 0, .slice none 0 0] 58)) o.size #[.int .i64 7, .int .i64 0, .int .i64 wd, .int .i64 0, .int .i64 0, .int .i64 0, .int .i64 0, .int .i64 0, .int .i64 0, .int .i64 0, .int .i64 0, .slice none 0 0, .int .i64 0, .int .i64 0, .int .i64 0, .int .i64 0, .slice none 0 0, .int .i64 0, .int .i64 0, .int .i64 0, .int .i64 0, .int .i64 0, .slice none 0 0, .int .i64 0, .int .i64 0, .int .i64 0, .int .i64 0, .int .i64 0, .int .i64 0, .slice none 0 0, .int .i64 0, .int .i64 0, .int .i64 0, .int .i64 0, .int .i64 0, .slice none 0 0, .int .i64 0, .int .i64 0, .int .i64 0, .slice none 0 0, .int .i64 0, .slice none 0 0, .bool false, .int .i64 0, .int .i64 0, .int .i64 0, .slice none 0 0, .slice none 0 0, .int .i64 0, .int .i64 0, .int .i64 0, .slice none 0 0, .int .i64 0, .int .i64 0, .int .i64 0, .int .i64 0, .slice none 0 0]
  obtain ⟨w3,hw3⟩:∃ x,x=(w2.alloc (.cells #[.int .i64 0, .int .i64 0, .int .i64 0, .int .i64 0, .int .i64 0, .int .i64 0, .int .i64 0, .int .i64 0, .int .i64 0, .int .i64 0, .int .i64 0, .slice none 0 0, .int .i64 0, .int .i64 0, .int .i64 0, .int .i64 0, .slice none 0 0, .int .i64 0, .int .i64 0, .int .i64 0, .int .i64 0, .int .i64 0, .slice none 0 0, .int .i64 0, .int .i64 0, .int .i64 0, .int .i64 0, .int .i64 0, .int .i64 0, .slice none 0 0, .int .i64 0, .int .i64 0, .int .i64 0, .int .i64 0, .int .i64 0, .slice none 0 0, .int .i64 0, .int .i64 0, .int .i64 0, .slice none 0 0, .int .i64 0, .slice none 0 0, .bool false, .int .i64 0, .int .i64 0, .int .i64 0, .slice none 0 0, .slice none 0 0, .int .i64 0, .int .i64 0, .int .i64 0, .slice none 0 0, .int .i64 0, .int .i64 0, .int .i64 0, .int .i64 0, .slice none 0 0] 58)).setRow w2.heap.size #[.int .i64 7, .int .i64 0, .int .i64 wd, .int .i64 0, .int .i64 0, .int .i64 0, .int .i64 0, .int .i64 0, .int .i64 0, .int .i64 0, .int .i64 0, .slice none 0 0, .int .i64 0, .int .i64 0, .int .i64 0, .int .i64 0, .slice none 0 0, .int .i64 0, .int .i64 0, .int .i64 0, .int .i64 0, .int .i64 0, .slice none 0 0, .int .i64 0, .int .i64 0, .int .i64 0, .int .i64 0, .int .i64 0, .int .i64 0, .slice none 0 0, .int .i64 0, .int .i64 0, .int .i64 0, .int .i64 0, .int .i64 0, .slice none 0 0, .int .i64 0, .int .i64 0, .int .i64 0, .slice none 0 0, .int .i64 0, .slice none 0 0, .bool false, .int .i64 0, .int .i64 0, .int .i64 0, .slice none 0 0, .slice none 0 0, .int .i64 0, .int .i64 0, .int .i64 0, .slice none 0 0, .int .i64 0, .int .i64 0, .int .i64 0, .int .i64 0, .slice none 0 0]:=⟨_,rfl⟩
  rw [← hw3] at X R S o ⊢
  clear hw3
  generalize w2.heap.size=sb at S z2 ⊢
  clear SZ
  clear X0 Xf0 X1 Xf1 X2 Xf2 X3 Xf3 X4 Xf4 X5 Xf5 X6 Xf6 X7 Xf7
  obtain ⟨X0,X1,X2,X3,X4,X5,X6,X7,Xf0,Xf1,Xf2,Xf3,Xf4,Xf5,Xf6,Xf7⟩:=row_eight X
  go_wp2_with fail
  refine (HA.out _).mono ?_
  rintro e w4 ⟨A5,m5,c5,rfl,in5,hb,fr5⟩
  have zs:=row_lt S
  have fr6:0<m5→∀ a,A5=some a→(w.heap.size+1≠a.block∧sb≠a.block)∧w.heap.size≤a.block:=fun h0 a e=>by
    have zo:=o.size
    rcases fr5 h0 a e with h | h
    · exact ⟨⟨by omega,by omega⟩,by omega⟩
    · exact h.elim
  replace S:=row_call S hb
  replace R:=row_call R hb
  replace o:=o.trans (hb.mono o.size)
  clear hb fr5 X X0 Xf0 X1 Xf1 X2 Xf2 X3 Xf3 X4 Xf4 X5 Xf5 X6 Xf6 X7 Xf7
  have q0:w4.cell? ⟨sb,40,none⟩=some (.int .i64 0):=row_cell S 40
  have f0:=row_free S 40
  have q1:w4.cell? ⟨sb,41,none⟩=some (.slice none 0 0):=row_cell S 41
  have f1:=row_free S 41
  go_upto_region 31 with (fail)
  clear q0 f0 q1 f1
  show Code.wp _ _ _ _ (setL w4 sb 40 [.int .i64 now, .slice A5 m5 c5])
  refine layS 40 [.int .i64 now, .slice A5 m5 c5] S R o hIN in5 (fun h0 a e=>(fr6 h0 a e).1.2) (by omega) (by omega) ?_
  clear S R o in5
  intro w5 S R o in5
  replace S:Row w5 sb 58 #[.int .i64 7, .int .i64 0, .int .i64 wd, .int .i64 0, .int .i64 0, .int .i64 0, .int .i64 0, .int .i64 0, .int .i64 0, .int .i64 0, .int .i64 0, .slice none 0 0, .int .i64 0, .int .i64 0, .int .i64 0, .int .i64 0, .slice none 0 0, .int .i64 0, .int .i64 0, .int .i64 0, .int .i64 0, .int .i64 0, .slice none 0 0, .int .i64 0, .int .i64 0, .int .i64 0, .int .i64 0, .int .i64 0, .int .i64 0, .slice none 0 0, .int .i64 0, .int .i64 0, .int .i64 0, .int .i64 0, .int .i64 0, .slice none 0 0, .int .i64 0, .int .i64 0, .int .i64 0, .slice none 0 0, .int .i64 now, .slice A5 m5 c5, .bool false, .int .i64 0, .int .i64 0, .int .i64 0, .slice none 0 0, .slice none 0 0, .int .i64 0, .int .i64 0, .int .i64 0, .slice none 0 0, .int .i64 0, .int .i64 0, .int .i64 0, .int .i64 0, .slice none 0 0]:=S
  have hone:(#[.int .i64 7, .int .i64 0, .int .i64 wd, .int .i64 0, .int .i64 0, .int .i64 0, .int .i64 0, .int .i64 0, .int .i64 0, .int .i64 0, .int .i64 0, .slice none 0 0, .int .i64 0, .int .i64 0, .int .i64 0, .int .i64 0, .slice none 0 0, .int .i64 0, .int .i64 0, .int .i64 0, .int .i64 0, .int .i64 0, .slice none 0 0, .int .i64 0, .int .i64 0, .int .i64 0, .int .i64 0, .int .i64 0, .int .i64 0, .slice none 0 0, .int .i64 0, .int .i64 0, .int .i64 0, .int .i64 0, .int .i64 0, .slice none 0 0, .int .i64 0, .int .i64 0, .int .i64 0, .slice none 0 0, .int .i64 now, .slice A5 m5 c5, .bool false, .int .i64 0, .int .i64 0, .int .i64 0, .slice none 0 0, .slice none 0 0, .int .i64 0, .int .i64 0, .int .i64 0, .slice none 0 0, .int .i64 0, .int .i64 0, .int .i64 0, .int .i64 0, .slice none 0 0]:Array Value).all (·.oneCell')=true:=all_one rfl
  go_wp2_with (first | (with_reducible refine wpList_lsyn S rfl rfl _ rfl rfl ?_) | (with_reducible refine wpList_ssyn R rfl rfl hone rfl _ _ rfl rfl rfl ?_))
  have R9:=row_setRow (cs:=#[.int .i64 7, .int .i64 0, .int .i64 wd, .int .i64 0, .int .i64 0, .int .i64 0, .int .i64 0, .int .i64 0, .int .i64 0, .int .i64 0, .int .i64 0, .slice none 0 0, .int .i64 0, .int .i64 0, .int .i64 0, .int .i64 0, .slice none 0 0, .int .i64 0, .int .i64 0, .int .i64 0, .int .i64 0, .int .i64 0, .slice none 0 0, .int .i64 0, .int .i64 0, .int .i64 0, .int .i64 0, .int .i64 0, .int .i64 0, .slice none 0 0, .int .i64 0, .int .i64 0, .int .i64 0, .int .i64 0, .int .i64 0, .slice none 0 0, .int .i64 0, .int .i64 0, .int .i64 0, .slice none 0 0, .int .i64 now, .slice A5 m5 c5, .bool false, .int .i64 0, .int .i64 0, .int .i64 0, .slice none 0 0, .slice none 0 0, .int .i64 0, .int .i64 0, .int .i64 0, .slice none 0 0, .int .i64 0, .int .i64 0, .int .i64 0, .int .i64 0, .slice none 0 0]) R
  refine bodyPost_ret (v := .tuple #[.agg #[.int .i64 7, .int .i64 0, .int .i64 wd, .int .i64 0, .int .i64 0, .int .i64 0, .int .i64 0, .int .i64 0, .int .i64 0, .int .i64 0, .int .i64 0, .slice none 0 0, .int .i64 0, .int .i64 0, .int .i64 0, .int .i64 0, .slice none 0 0, .int .i64 0, .int .i64 0, .int .i64 0, .int .i64 0, .int .i64 0, .slice none 0 0, .int .i64 0, .int .i64 0, .int .i64 0, .int .i64 0, .int .i64 0, .int .i64 0, .slice none 0 0, .int .i64 0, .int .i64 0, .int .i64 0, .int .i64 0, .int .i64 0, .slice none 0 0, .int .i64 0, .int .i64 0, .int .i64 0, .slice none 0 0, .int .i64 now, .slice A5 m5 c5, .bool false, .int .i64 0, .int .i64 0, .int .i64 0, .slice none 0 0, .slice none 0 0, .int .i64 0, .int .i64 0, .int .i64 0, .slice none 0 0, .int .i64 0, .int .i64 0, .int .i64 0, .int .i64 0, .slice none 0 0], .int .i64 0]) ?_ rfl ?_
  · exact results_syn (p:=4) (q:=5) rfl _ R9 rfl rfl
  · exact ⟨A5,m5,c5,rfl,hIN.setr _ in5 (fun h0 a e=>(fr6 h0 a e).1.1),below_setRow o (by omega) _,fun h0 a e => .inl (fr6 h0 a e).2⟩
set_option maxRecDepth 100000 in
theorem pansHalve (wd:Int) (w:World) (HC:RowKit.Hid (∀ w',Calls Tryz.prog 108 #[.agg #[.int .i64 7, .int .i64 0, .int .i64 wd, .int .i64 0, .int .i64 0, .int .i64 0, .int .i64 0, .int .i64 0]] w' fun e w''=>e = .returned (.int .i64 0)∧Below w'.heap.size w' w'')):Calls Tryz.prog 40 #[.agg #[.int .i64 7, .int .i64 0, .int .i64 wd, .int .i64 0, .int .i64 0, .int .i64 0, .int .i64 0, .int .i64 0], .int .i64 9] w fun e w'=>e = .returned (.bool true)∧Below w.heap.size w w':=by
  go_enter Tryz.func40,Tryz.ntmps40
  go_upto_region 1 with (fail)
  refine start1 (fun w1 X o=>?_)
  obtain ⟨X0,X1,X2,X3,X4,X5,X6,X7,Xf0,Xf1,Xf2,Xf3,Xf4,Xf5,Xf6,Xf7⟩:=row_eight X
  go_wp2_with fail
  refine (HC.out _).mono ?_
  rintro e w2 ⟨rfl,hb⟩
  replace X:=row_call X hb
  replace o:=o.trans (hb.mono o.size)
  clear hb X0 Xf0 X1 Xf1 X2 Xf2 X3 Xf3 X4 Xf4 X5 Xf5 X6 Xf6 X7 Xf7
  obtain ⟨X0,X1,X2,X3,X4,X5,X6,X7,Xf0,Xf1,Xf2,Xf3,Xf4,Xf5,Xf6,Xf7⟩:=row_eight X
  go_wp2
  go_ret
  exact ⟨by first | rfl | exact ret_bool (by simp) | simp,o⟩
set_option maxRecDepth 100000 in
set_option maxHeartbeats 4000000 in
theorem pyAskHalve (A:Option Addr) (m c:Nat) (wd now:Int) (qa qb b0 b1 b2 b3:Int) (w:World) (HV:RowKit.Hid (∀ w',Below w.heap.size w w'→Calls Tryz.prog 143 #[.agg #[.int .i64 now, .slice A m c]] w' fun e w''=>e = .returned (.int .i64 0)∧Below w'.heap.size w' w'')) (HC:RowKit.Hid (∀ w',Calls Tryz.prog 108 #[.agg #[.int .i64 7, .int .i64 0, .int .i64 wd, .int .i64 0, .int .i64 0, .int .i64 0, .int .i64 0, .int .i64 0]] w' fun e w''=>e = .returned (.int .i64 0)∧Below w'.heap.size w' w'')) (eW:((m:Int) == wd)=true) (HN:RowKit.Hid (∀ w',Calls Tryz.prog 40 #[.agg #[.int .i64 7, .int .i64 0, .int .i64 wd, .int .i64 0, .int .i64 0, .int .i64 0, .int .i64 0, .int .i64 0], .int .i64 9] w' fun e w''=>e = .returned (.bool true)∧Below w'.heap.size w' w'')) (HQ:RowKit.Hid (∀ w',Below w.heap.size w w'→Calls Tryz.prog 46 #[.agg #[.int .i64 now, .slice A m c]] w' fun e w''=>e = .returned (.tuple #[.agg #[.int .u64 b0, .int .u64 b1, .int .u64 b2, .int .u64 b3], .int .i64 0])∧Below w'.heap.size w' w'')):Calls Tryz.prog 12 #[.agg #[.int .i64 7, .int .i64 0, .int .i64 wd, .int .i64 0, .int .i64 0, .int .i64 0, .int .i64 0, .int .i64 0, .int .i64 0, .int .i64 0, .int .i64 0, .slice none 0 0, .int .i64 0, .int .i64 0, .int .i64 0, .int .i64 0, .slice none 0 0, .int .i64 0, .int .i64 0, .int .i64 0, .int .i64 0, .int .i64 0, .slice none 0 0, .int .i64 0, .int .i64 0, .int .i64 0, .int .i64 0, .int .i64 0, .int .i64 0, .slice none 0 0, .int .i64 0, .int .i64 0, .int .i64 0, .int .i64 0, .int .i64 0, .slice none 0 0, .int .i64 0, .int .i64 0, .int .i64 0, .slice none 0 0, .int .i64 now, .slice A m c, .bool false, .int .i64 0, .int .i64 0, .int .i64 0, .slice none 0 0, .slice none 0 0, .int .i64 0, .int .i64 0, .int .i64 0, .slice none 0 0, .int .i64 0, .int .i64 0, .int .i64 0, .int .i64 0, .slice none 0 0], .agg #[.int .i64 9, .int .i64 qa, .int .i64 qb]] w fun e w'=>e = .returned (.tuple #[.agg #[.int .i64 0, .int .i64 0, .int .i64 0, .int .i64 0, .int .i64 0, .int .i64 0, .slice none 0 0, .int .u64 b0, .int .u64 b1, .int .u64 b2, .int .u64 b3], .int .i64 0])∧Below w.heap.size w w':=by
  have PVd:=Lib.hid (fun w' (hb:Below w.heap.size w w')=>pvHalve A m c wd now eW w' (Lib.hid (fun w'' hb2=>HV.out w'' (hb.trans (hb2.mono hb.size)))) HC)
  go_enter Tryz.func12,Tryz.ntmps12
  go_upto_region 1 with (fail)
  refine start3 (fun w1 X Q R o=>?_)
  go_wp2_with (with_reducible refine wpList_lsyn X rfl rfl _ rfl rfl ?_)
  refine (PVd.out _ o).mono ?_
  rintro e w2 ⟨rfl,hb⟩
  replace X:=row_call X hb
  replace Q:=row_call Q hb
  replace R:=row_call R hb
  replace o:=o.trans (hb.mono o.size)
  clear hb PVd
  have k0:w2.cell? ⟨w.heap.size,0,none⟩=some (.int .i64 7):=row_cell X 0
  have k1:w2.cell? ⟨w.heap.size,1,none⟩=some (.int .i64 0):=row_cell X 1
  have k2:w2.cell? ⟨w.heap.size,2,none⟩=some (.int .i64 wd):=row_cell X 2
  have k3:w2.cell? ⟨w.heap.size,3,none⟩=some (.int .i64 0):=row_cell X 3
  have k4:w2.cell? ⟨w.heap.size,4,none⟩=some (.int .i64 0):=row_cell X 4
  have k5:w2.cell? ⟨w.heap.size,5,none⟩=some (.int .i64 0):=row_cell X 5
  have k6:w2.cell? ⟨w.heap.size,6,none⟩=some (.int .i64 0):=row_cell X 6
  have k7:w2.cell? ⟨w.heap.size,7,none⟩=some (.int .i64 0):=row_cell X 7
  obtain ⟨Q0,Q1,Q2,Qf0,Qf1,Qf2⟩:=row_three Q
  go_wp2_with fail
  refine (HN.out _).mono ?_
  rintro e w3 ⟨rfl,hb⟩
  replace X:=row_call X hb
  replace R:=row_call R hb
  replace o:=o.trans (hb.mono o.size)
  clear hb HN Q Q0 Q1 Q2 Qf0 Qf1 Qf2 k0 k1 k2 k3 k4 k5 k6 k7
  go_upto_region 7 with (fail)
  have V:Row (w3.alloc (.cells #[.int .i64 0, .int .i64 0, .int .i64 0, .int .i64 0, .int .i64 0, .int .i64 0, .slice none 0 0, .int .u64 0, .int .u64 0, .int .u64 0, .int .u64 0] 71)) w3.heap.size 71 #[.int .i64 0, .int .i64 0, .int .i64 0, .int .i64 0, .int .i64 0, .int .i64 0, .slice none 0 0, .int .u64 0, .int .u64 0, .int .u64 0, .int .u64 0]:=row_new rfl
  have z3:=row_lt R
  replace X:=row_alloc X (.cells #[.int .i64 0, .int .i64 0, .int .i64 0, .int .i64 0, .int .i64 0, .int .i64 0, .slice none 0 0, .int .u64 0, .int .u64 0, .int .u64 0, .int .u64 0] 71)
  replace R:=row_alloc R (.cells #[.int .i64 0, .int .i64 0, .int .i64 0, .int .i64 0, .int .i64 0, .int .i64 0, .slice none 0 0, .int .u64 0, .int .u64 0, .int .u64 0, .int .u64 0] 71)
  replace o:=o.alloc o.size (.cells #[.int .i64 0, .int .i64 0, .int .i64 0, .int .i64 0, .int .i64 0, .int .i64 0, .slice none 0 0, .int .u64 0, .int .u64 0, .int .u64 0, .int .u64 0] 71)
  generalize w3.alloc (.cells #[.int .i64 0, .int .i64 0, .int .i64 0, .int .i64 0, .int .i64 0, .int .i64 0, .slice none 0 0, .int .u64 0, .int .u64 0, .int .u64 0, .int .u64 0] 71)=w4 at X R V o ⊢
  generalize w3.heap.size=vb at V z3 ⊢
  have k0:w4.cell? ⟨w.heap.size,0,none⟩=some (.int .i64 7):=row_cell X 0
  have q0:w4.cell? ⟨w.heap.size,40,none⟩=some (.int .i64 now):=row_cell X 40
  have q1:w4.cell? ⟨w.heap.size,41,none⟩=some (.slice A m c):=row_cell X 41
  go_wp2_with fail
  refine (HQ.out _ o).mono ?_
  rintro e w5 ⟨rfl,hb⟩
  replace V:=row_call V hb
  replace R:=row_call R hb
  replace o:=o.trans (hb.mono o.size)
  clear hb HQ X k0 q0 q1
  have v0:w5.cell? ⟨vb,0,none⟩=some (.int .i64 0):=row_cell V 0
  have v1:w5.cell? ⟨vb,1,none⟩=some (.int .i64 0):=row_cell V 1
  have v2:w5.cell? ⟨vb,2,none⟩=some (.int .i64 0):=row_cell V 2
  have v3:w5.cell? ⟨vb,3,none⟩=some (.int .i64 0):=row_cell V 3
  have v4:w5.cell? ⟨vb,4,none⟩=some (.int .i64 0):=row_cell V 4
  have v5:w5.cell? ⟨vb,5,none⟩=some (.int .i64 0):=row_cell V 5
  have v6:w5.cell? ⟨vb,6,none⟩=some (.slice none 0 0):=row_cell V 6
  have v7:w5.cell? ⟨vb,7,none⟩=some (.int .u64 0):=row_cell V 7
  have v8:w5.cell? ⟨vb,8,none⟩=some (.int .u64 0):=row_cell V 8
  have v9:w5.cell? ⟨vb,9,none⟩=some (.int .u64 0):=row_cell V 9
  have v10:w5.cell? ⟨vb,10,none⟩=some (.int .u64 0):=row_cell V 10
  have g7:=row_free V 7
  have g8:=row_free V 8
  have g9:=row_free V 9
  have g10:=row_free V 10
  go_upto_region 39 with (fail)
  clear v0 v1 v2 v3 v4 v5 v6 v7 v8 v9 v10 g7 g8 g9 g10
  replace V:=row_set V 7 (.int .u64 b0)
  replace R:=row_other (p:=⟨vb,7,none⟩) R (by show w.heap.size+2≠vb;omega) (.int .u64 b0)
  replace o:=o.setCell (p:=⟨vb,7,none⟩) (by show w.heap.size≤vb;omega) (.int .u64 b0)
  replace V:=row_set V 8 (.int .u64 b1)
  replace R:=row_other (p:=⟨vb,8,none⟩) R (by show w.heap.size+2≠vb;omega) (.int .u64 b1)
  replace o:=o.setCell (p:=⟨vb,8,none⟩) (by show w.heap.size≤vb;omega) (.int .u64 b1)
  replace V:=row_set V 9 (.int .u64 b2)
  replace R:=row_other (p:=⟨vb,9,none⟩) R (by show w.heap.size+2≠vb;omega) (.int .u64 b2)
  replace o:=o.setCell (p:=⟨vb,9,none⟩) (by show w.heap.size≤vb;omega) (.int .u64 b2)
  replace V:=row_set V 10 (.int .u64 b3)
  replace R:=row_other (p:=⟨vb,10,none⟩) R (by show w.heap.size+2≠vb;omega) (.int .u64 b3)
  replace o:=o.setCell (p:=⟨vb,10,none⟩) (by show w.heap.size≤vb;omega) (.int .u64 b3)
  replace V:Row ((((w5.setCell ⟨vb,7,none⟩ (.int .u64 b0)).setCell ⟨vb,8,none⟩ (.int .u64 b1)).setCell ⟨vb,9,none⟩ (.int .u64 b2)).setCell ⟨vb,10,none⟩ (.int .u64 b3)) vb 71 #[.int .i64 0, .int .i64 0, .int .i64 0, .int .i64 0, .int .i64 0, .int .i64 0, .slice none 0 0, .int .u64 b0, .int .u64 b1, .int .u64 b2, .int .u64 b3]:=V
  generalize ((((w5.setCell ⟨vb,7,none⟩ (.int .u64 b0)).setCell ⟨vb,8,none⟩ (.int .u64 b1)).setCell ⟨vb,9,none⟩ (.int .u64 b2)).setCell ⟨vb,10,none⟩ (.int .u64 b3))=w6 at V R o ⊢
  have hone:(#[.int .i64 0, .int .i64 0, .int .i64 0, .int .i64 0, .int .i64 0, .int .i64 0, .slice none 0 0, .int .u64 b0, .int .u64 b1, .int .u64 b2, .int .u64 b3]:Array Value).all (·.oneCell')=true:=all_one rfl
  go_wp2_with (first | (with_reducible refine wpList_lans V rfl rfl _ rfl rfl ?_) | (with_reducible refine wpList_sans R rfl rfl hone rfl _ _ rfl rfl rfl ?_))
  have R9:=row_setRow (cs:=#[.int .i64 0, .int .i64 0, .int .i64 0, .int .i64 0, .int .i64 0, .int .i64 0, .slice none 0 0, .int .u64 b0, .int .u64 b1, .int .u64 b2, .int .u64 b3]) R
  refine bodyPost_ret (v := .tuple #[.agg #[.int .i64 0, .int .i64 0, .int .i64 0, .int .i64 0, .int .i64 0, .int .i64 0, .slice none 0 0, .int .u64 b0, .int .u64 b1, .int .u64 b2, .int .u64 b3], .int .i64 0]) ?_ rfl ?_
  · exact results_ans (p:=4) (q:=5) rfl _ R9 rfl rfl
  · exact ⟨rfl,below_setRow o (by omega) _⟩
end Go.Proofs.YtdipoojjlddohaaGreat
end
section
/- Plain arithmetic of products with powers of two in two words: no program is in sight. -/
namespace Go.Proofs.YtdipoojjlddohaaGreat
open Go.RowKit
def leftN (a:Nat) (n:Int):Nat:=a*2 ^ n.toNat
def leftB (a:Nat) (n:Int):Bool:=decide (0≤n∧leftN a n<big)
def leftV (a:Nat) (n:Int):Nat:=if 0≤n∧leftN a n<big then leftN a n else 0
theorem left_yes {a:Nat} {n:Int} (h0:0≤n) (h:leftN a n<big):leftV a n=leftN a n∧leftB a n=true:=by unfold leftV leftB;simp [h0,h]
theorem left_no {a:Nat} {n:Int} (h:¬ (0≤n∧leftN a n<big)):leftV a n=0∧leftB a n=false:=by unfold leftV leftB;simp only [h,if_false,decide_false,and_self]
theorem bitLen_low:∀ (f x:Nat),x≠0→x<2 ^ f→2 ^ Lib.bitLenAux f x≤2*x
  | 0,x,h,k=>by simp at k;exact absurd k h
  | f+1,x,h,k=>by
    unfold Lib.bitLenAux
    rw [if_neg h,Nat.add_comm,Nat.pow_succ]
    by_cases hx:x / 2=0
    · rw [hx]
      have:Lib.bitLenAux f 0=0:=by cases f<;>simp [Lib.bitLenAux]
      rw [this]
      omega
    · have:=bitLen_low f (x / 2) hx (by rw [Nat.pow_succ] at k;omega)
      omega
theorem blen_low {a:Nat} (h:a≠0) (hb:a<big):2 ^ blen a≤2*a:=by
  unfold blen
  unfold big at hb
  split
  · have:=bitLen_low 64 (a % 18446744073709551616) (by omega) (by omega)
    unfold Lib.bitLen
    omega
  · have:=bitLen_low 64 (a / 18446744073709551616) (by omega) (by omega)
    rw [Nat.pow_add]
    unfold Lib.bitLen
    generalize 2 ^ Lib.bitLenAux 64 (a / 18446744073709551616)=z at *
    omega
theorem big_pow:big=2 ^ 128:=by decide
theorem left_fits {a:Nat} {n:Int} (h:a≠0) (hb:a<big) (h0:0≤n):leftN a n<big↔n≤128-blenI a:=by
  have l:=lt_blen hb
  have u:=blen_low h hb
  have b:=blen_le hb
  unfold leftN blenI
  constructor
  · intro hf
    rcases Int.lt_or_le (128-(blen a:Int)) n with hc | hc
    · exfalso
      have h1:2 ^ 129≤2 ^ (blen a+n.toNat):=Nat.pow_le_pow_right (by decide) (by omega)
      rw [Nat.pow_add] at h1
      have h2:=Nat.mul_le_mul_right (2 ^ n.toNat) u
      rw [Nat.mul_assoc] at h2
      rw [big_pow] at hf
      have:(2:Nat) ^ 129=2*2 ^ 128:=by decide
      omega
    · exact hc
  · intro hc
    have h1:2 ^ (blen a+n.toNat)≤2 ^ 128:=Nat.pow_le_pow_right (by decide) (by omega)
    rw [Nat.pow_add] at h1
    have h2:=Nat.mul_lt_mul_of_pos_right l (Nat.two_pow_pos n.toNat)
    rw [big_pow]
    omega
theorem natpow (k:Nat):(2:Int) ^ k=((2 ^ k:Nat):Int):=by simp
theorem left_hi64 {a:Nat} {n:Int} (h:64≤n) (hf:leftN a n<big):IntKind.u64.wrap (lo a*2 ^ (n-64).toNat)=hi (leftN a n)∧lo (leftN a n)=0:=by
  have e:2 ^ n.toNat=18446744073709551616*2 ^ (n-64).toNat:=by
    rw [show (18446744073709551616:Nat)=2 ^ 64 from by decide,← Nat.pow_add]
    congr 1;omega
  have p:=Nat.two_pow_pos (n-64).toNat
  rw [natpow]
  unfold leftN at *
  rw [e] at hf ⊢
  generalize 2 ^ (n-64).toNat=z at *
  have ha:a<18446744073709551616:=by
    rcases Nat.lt_or_ge a 18446744073709551616 with h | h
    · exact h
    · exfalso
      have:=Nat.mul_le_mul h (Nat.le_mul_of_pos_right 18446744073709551616 p)
      unfold big at hf
      omega
  have hz:a*(18446744073709551616*z)=(a*z)*18446744073709551616:=by rw [Nat.mul_comm 18446744073709551616 z,Nat.mul_assoc]
  rw [hz] at hf ⊢
  have hl:lo a=a:=lo_small ha
  rw [hl,← Int.natCast_mul]
  generalize a*z=q at *
  rw [IntKind.wrap_u64]
  unfold hi lo big at *
  omega
theorem shl_or {x y k:Nat} (hy:y<2 ^ k) (hx:2 ^ k*x+y<18446744073709551616):bits BinOp.or IntKind.u64 ((2 ^ k*x:Nat):Int) (y:Int)=((2 ^ k*x+y:Nat):Int):=by
  rw [bits_or_u64_nat _ y (by omega) (by omega),← Nat.two_pow_add_eq_or_of_lt hy]
theorem left_lo64 {a:Nat} {n:Int} (h0:0≤n) (h:n<64) (hf:leftN a n<big) :
    bits BinOp.or IntKind.u64 (IntKind.u64.wrap (hi a*2 ^ n.toNat)) (lo a / 2 ^ (64-n).toNat)=hi (leftN a n)∧IntKind.u64.wrap (lo a*2 ^ n.toNat)=lo (leftN a n):=by
  have e:2 ^ n.toNat*2 ^ (64-n).toNat=18446744073709551616:=by
    rw [show (18446744073709551616:Nat)=2 ^ 64 from by decide,← Nat.pow_add]
    congr 1;omega
  have p:=Nat.two_pow_pos (64-n).toNat
  have q:=Nat.two_pow_pos n.toNat
  rw [natpow,natpow]
  have hor:=fun x y=>@shl_or x y n.toNat
  unfold leftN at *
  generalize 2 ^ n.toNat=z at *
  generalize 2 ^ (64-n).toNat=u at *
  have d:=Nat.div_add_mod a 18446744073709551616
  have hsplit:a*z=(a / 18446744073709551616*z)*18446744073709551616+(a % 18446744073709551616)*z:=by
    conv=>lhs;rw [← d]
    rw [Nat.add_mul,Nat.mul_assoc,Nat.mul_comm 18446744073709551616]
  have hdiv:(a % 18446744073709551616)*z / 18446744073709551616=(a % 18446744073709551616) / u:=by
    rw [← e,Nat.mul_comm z u,Nat.mul_div_mul_right _ _ q]
  have hlt:(a % 18446744073709551616) / u<z:=by
    rw [Nat.div_lt_iff_lt_mul p,e]
    exact Nat.mod_lt _ (by decide)
  unfold hi lo
  rw [← Int.natCast_mul,← Int.natCast_mul,← Int.natCast_ediv]
  have hm:=Nat.div_add_mod ((a % 18446744073709551616)*z) 18446744073709551616
  rw [hdiv] at hm
  rw [hsplit] at hf ⊢
  generalize (a % 18446744073709551616)*z=lz at *
  have hc:a / 18446744073709551616*z=z*(a / 18446744073709551616):=Nat.mul_comm _ _
  rw [hc] at hf ⊢
  generalize a % 18446744073709551616 / u=t at *
  have hb:z*(a / 18446744073709551616)+t<18446744073709551616:=by unfold big at hf;omega
  have ho:=hor (a / 18446744073709551616) t hlt hb
  generalize z*(a / 18446744073709551616)=hz at *
  have hw:IntKind.u64.wrap (hz:Int)=hz:=by rw [IntKind.wrap_u64];omega
  rw [hw,ho,IntKind.wrap_u64]
  constructor<;>omega
end Go.Proofs.YtdipoojjlddohaaGreat
end
