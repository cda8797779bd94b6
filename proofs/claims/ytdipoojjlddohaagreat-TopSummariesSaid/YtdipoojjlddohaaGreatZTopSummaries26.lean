/- What the law TopSummaries needs, joined of its texts by a program (slim2.py); part 26. -/
import Derived.Test.YtdipoojjlddohaaGreatZTopSummaries1
import Derived.Test.YtdipoojjlddohaaGreatZTopSummaries4
import Derived.Test.YtdipoojjlddohaaGreatZTopSummaries14
import Derived.Test.YtdipoojjlddohaaGreatZTopSummaries25
set_option linter.unusedVariables false
set_option linter.unusedSimpArgs false
set_option linter.unusedSectionVars false
set_option linter.unnecessarySimpa false
section
/- Synopses of kind Quantile: the clock moved on, an item more, walked. -/
namespace Go.Proofs.YtdipoojjlddohaaGreat
open Go.RowKit
set_option maxRecDepth 100000 in
set_option maxHeartbeats 4000000 in
theorem pyAdvanceQuantile (A:Option Addr) (m c:Nat) (wd:Int) (k cap:Nat) (now:Int) (tt:Int) (w:World) {γ:Type} (IN:Option Addr→Nat→Nat→γ→World→Prop) (T:Option Addr→Nat→γ→Nat→Prop) (hIN:InT IN T) (Fr:Nat→Prop) (hFr:∀ b,Fr b→b<w.heap.size) (HV:RowKit.Hid (∀ w',Below w.heap.size w w'→Calls Tryz.prog 150 #[.agg #[.int .i64 wd, .int .i64 (k:Nat), .int .i64 (cap:Nat), .int .i64 now, .slice A m c]] w' fun e w''=>e = .returned (.int .i64 0)∧Below w'.heap.size w' w'')) (HC:RowKit.Hid (∀ w',Calls Tryz.prog 108 #[.agg #[.int .i64 11, .int .i64 0, .int .i64 wd, .int .i64 (k:Nat), .int .i64 (cap:Nat), .int .i64 0, .int .i64 0, .int .i64 0]] w' fun e w''=>e = .returned (.int .i64 0)∧Below w'.heap.size w' w'')) (HA:RowKit.Hid (∀ w',Below w.heap.size w w'→Calls Tryz.prog 72 #[.agg #[.int .i64 wd, .int .i64 (k:Nat), .int .i64 (cap:Nat), .int .i64 now, .slice A m c], .int .i64 tt] w' (GRetT IN T (fun A m c=>#[.int .i64 wd, .int .i64 (k:Nat), .int .i64 (cap:Nat), .int .i64 tt, .slice A m c]) 0 Fr w'))):Calls Tryz.prog 21 #[.agg #[.int .i64 11, .int .i64 0, .int .i64 wd, .int .i64 (k:Nat), .int .i64 (cap:Nat), .int .i64 0, .int .i64 0, .int .i64 0, .int .i64 0, .int .i64 0, .int .i64 0, .slice none 0 0, .int .i64 0, .int .i64 0, .int .i64 0, .int .i64 0, .slice none 0 0, .int .i64 0, .int .i64 0, .int .i64 0, .int .i64 0, .int .i64 0, .slice none 0 0, .int .i64 0, .int .i64 0, .int .i64 0, .int .i64 0, .int .i64 0, .int .i64 0, .slice none 0 0, .int .i64 0, .int .i64 0, .int .i64 0, .int .i64 0, .int .i64 0, .slice none 0 0, .int .i64 0, .int .i64 0, .int .i64 0, .slice none 0 0, .int .i64 0, .slice none 0 0, .bool false, .int .i64 0, .int .i64 0, .int .i64 0, .slice none 0 0, .slice none 0 0, .int .i64 0, .int .i64 0, .int .i64 0, .slice none 0 0, .int .i64 wd, .int .i64 (k:Nat), .int .i64 (cap:Nat), .int .i64 now, .slice A m c], .int .i64 tt] w (GRetT IN T (fun A m c=>#[.int .i64 11, .int .i64 0, .int .i64 wd, .int .i64 (k:Nat), .int .i64 (cap:Nat), .int .i64 0, .int .i64 0, .int .i64 0, .int .i64 0, .int .i64 0, .int .i64 0, .slice none 0 0, .int .i64 0, .int .i64 0, .int .i64 0, .int .i64 0, .slice none 0 0, .int .i64 0, .int .i64 0, .int .i64 0, .int .i64 0, .int .i64 0, .slice none 0 0, .int .i64 0, .int .i64 0, .int .i64 0, .int .i64 0, .int .i64 0, .int .i64 0, .slice none 0 0, .int .i64 0, .int .i64 0, .int .i64 0, .int .i64 0, .int .i64 0, .slice none 0 0, .int .i64 0, .int .i64 0, .int .i64 0, .slice none 0 0, .int .i64 0, .slice none 0 0, .bool false, .int .i64 0, .int .i64 0, .int .i64 0, .slice none 0 0, .slice none 0 0, .int .i64 0, .int .i64 0, .int .i64 0, .slice none 0 0, .int .i64 wd, .int .i64 (k:Nat), .int .i64 (cap:Nat), .int .i64 tt, .slice A m c]) 0 Fr w):=by
  have PVd:=Lib.hid (fun w' (hb:Below w.heap.size w w')=>pvQuantile A m c wd k cap now w' (Lib.hid (fun w'' hb2=>HV.out w'' (hb.trans (hb2.mono hb.size)))) HC)
  go_enter Tryz.func21,Tryz.ntmps21
  go_upto_region 1 with (fail)
  refine start2 (fun w1 X R o=>?_)
  go_wp2_with (with_reducible refine wpList_lsyn X rfl rfl _ rfl rfl ?_)
  refine (PVd.out _ o).mono ?_
  rintro e w2 ⟨rfl,hb⟩
  replace X:=row_call X hb
  replace R:=row_call R hb
  replace o:=o.trans (hb.mono o.size)
  clear hb PVd
  have k0:w2.cell? ⟨w.heap.size,0,none⟩=some (.int .i64 11):=row_cell X 0
  have q0:w2.cell? ⟨w.heap.size,52,none⟩=some (.int .i64 wd):=row_cell X 52
  have q1:w2.cell? ⟨w.heap.size,53,none⟩=some (.int .i64 (k:Nat)):=row_cell X 53
  have q2:w2.cell? ⟨w.heap.size,54,none⟩=some (.int .i64 (cap:Nat)):=row_cell X 54
  have q3:w2.cell? ⟨w.heap.size,55,none⟩=some (.int .i64 now):=row_cell X 55
  have q4:w2.cell? ⟨w.heap.size,56,none⟩=some (.slice A m c):=row_cell X 56
  go_wp2_with fail
  refine (HA.out _ o).mono ?_
  rintro e w3 ⟨A5,m5,c5,x5,rfl,in5,hb,fr5⟩
  have z6:=row_lt R
  have zo:=o.size
  have fr6:∀ g,T A5 m5 x5 g→(w.heap.size≠g∧w.heap.size+1≠g)∧(w.heap.size≤g∨Fr g):=fun g hg=>by
    rcases fr5 g hg with h | h
    · exact ⟨by omega, .inl (by omega)⟩
    · have:=hFr _ h
      exact ⟨by omega, .inr h⟩
  replace X:=row_call X hb
  replace R:=row_call R hb
  replace o:=o.trans (hb.mono o.size)
  clear hb fr5 HA q0 q1 q2 q3 q4 k0
  have q0:w3.cell? ⟨w.heap.size,52,none⟩=some (.int .i64 wd):=row_cell X 52
  have q1:w3.cell? ⟨w.heap.size,53,none⟩=some (.int .i64 (k:Nat)):=row_cell X 53
  have q2:w3.cell? ⟨w.heap.size,54,none⟩=some (.int .i64 (cap:Nat)):=row_cell X 54
  have q3:w3.cell? ⟨w.heap.size,55,none⟩=some (.int .i64 now):=row_cell X 55
  have q4:w3.cell? ⟨w.heap.size,56,none⟩=some (.slice A m c):=row_cell X 56
  have f0:=row_free X 52
  have f1:=row_free X 53
  have f2:=row_free X 54
  have f3:=row_free X 55
  have f4:=row_free X 56
  go_upto_region 25 with (fail)
  clear q0 f0 q1 f1 q2 f2 q3 f3 q4 f4
  show Code.wp _ _ _ _ (setL w3 (w.heap.size) 52 [.int .i64 wd, .int .i64 (k:Nat), .int .i64 (cap:Nat), .int .i64 tt, .slice A5 m5 c5])
  refine laySt 52 [.int .i64 wd, .int .i64 (k:Nat), .int .i64 (cap:Nat), .int .i64 tt, .slice A5 m5 c5] X R o hIN in5 (fun g hg=>(fr6 g hg).1.1) (by omega) (Nat.le_refl _) ?_
  clear X R o in5
  intro w4 X R o in5
  replace X:Row w4 (w.heap.size) 58 #[.int .i64 11, .int .i64 0, .int .i64 wd, .int .i64 (k:Nat), .int .i64 (cap:Nat), .int .i64 0, .int .i64 0, .int .i64 0, .int .i64 0, .int .i64 0, .int .i64 0, .slice none 0 0, .int .i64 0, .int .i64 0, .int .i64 0, .int .i64 0, .slice none 0 0, .int .i64 0, .int .i64 0, .int .i64 0, .int .i64 0, .int .i64 0, .slice none 0 0, .int .i64 0, .int .i64 0, .int .i64 0, .int .i64 0, .int .i64 0, .int .i64 0, .slice none 0 0, .int .i64 0, .int .i64 0, .int .i64 0, .int .i64 0, .int .i64 0, .slice none 0 0, .int .i64 0, .int .i64 0, .int .i64 0, .slice none 0 0, .int .i64 0, .slice none 0 0, .bool false, .int .i64 0, .int .i64 0, .int .i64 0, .slice none 0 0, .slice none 0 0, .int .i64 0, .int .i64 0, .int .i64 0, .slice none 0 0, .int .i64 wd, .int .i64 (k:Nat), .int .i64 (cap:Nat), .int .i64 tt, .slice A5 m5 c5]:=X
  have k0:w4.cell? ⟨w.heap.size,0,none⟩=some (.int .i64 11):=row_cell X 0
  have hone:(#[.int .i64 11, .int .i64 0, .int .i64 wd, .int .i64 (k:Nat), .int .i64 (cap:Nat), .int .i64 0, .int .i64 0, .int .i64 0, .int .i64 0, .int .i64 0, .int .i64 0, .slice none 0 0, .int .i64 0, .int .i64 0, .int .i64 0, .int .i64 0, .slice none 0 0, .int .i64 0, .int .i64 0, .int .i64 0, .int .i64 0, .int .i64 0, .slice none 0 0, .int .i64 0, .int .i64 0, .int .i64 0, .int .i64 0, .int .i64 0, .int .i64 0, .slice none 0 0, .int .i64 0, .int .i64 0, .int .i64 0, .int .i64 0, .int .i64 0, .slice none 0 0, .int .i64 0, .int .i64 0, .int .i64 0, .slice none 0 0, .int .i64 0, .slice none 0 0, .bool false, .int .i64 0, .int .i64 0, .int .i64 0, .slice none 0 0, .slice none 0 0, .int .i64 0, .int .i64 0, .int .i64 0, .slice none 0 0, .int .i64 wd, .int .i64 (k:Nat), .int .i64 (cap:Nat), .int .i64 tt, .slice A5 m5 c5]:Array Value).all (·.oneCell')=true:=all_one rfl
  go_wp2_with (first | (with_reducible refine wpList_lsyn X rfl rfl _ rfl rfl ?_) | (with_reducible refine wpList_ssyn R rfl rfl hone rfl _ _ rfl rfl rfl ?_))
  have R9:=row_setRow (cs:=#[.int .i64 11, .int .i64 0, .int .i64 wd, .int .i64 (k:Nat), .int .i64 (cap:Nat), .int .i64 0, .int .i64 0, .int .i64 0, .int .i64 0, .int .i64 0, .int .i64 0, .slice none 0 0, .int .i64 0, .int .i64 0, .int .i64 0, .int .i64 0, .slice none 0 0, .int .i64 0, .int .i64 0, .int .i64 0, .int .i64 0, .int .i64 0, .slice none 0 0, .int .i64 0, .int .i64 0, .int .i64 0, .int .i64 0, .int .i64 0, .int .i64 0, .slice none 0 0, .int .i64 0, .int .i64 0, .int .i64 0, .int .i64 0, .int .i64 0, .slice none 0 0, .int .i64 0, .int .i64 0, .int .i64 0, .slice none 0 0, .int .i64 0, .slice none 0 0, .bool false, .int .i64 0, .int .i64 0, .int .i64 0, .slice none 0 0, .slice none 0 0, .int .i64 0, .int .i64 0, .int .i64 0, .slice none 0 0, .int .i64 wd, .int .i64 (k:Nat), .int .i64 (cap:Nat), .int .i64 tt, .slice A5 m5 c5]) R
  refine bodyPost_ret (v := .tuple #[.agg #[.int .i64 11, .int .i64 0, .int .i64 wd, .int .i64 (k:Nat), .int .i64 (cap:Nat), .int .i64 0, .int .i64 0, .int .i64 0, .int .i64 0, .int .i64 0, .int .i64 0, .slice none 0 0, .int .i64 0, .int .i64 0, .int .i64 0, .int .i64 0, .slice none 0 0, .int .i64 0, .int .i64 0, .int .i64 0, .int .i64 0, .int .i64 0, .slice none 0 0, .int .i64 0, .int .i64 0, .int .i64 0, .int .i64 0, .int .i64 0, .int .i64 0, .slice none 0 0, .int .i64 0, .int .i64 0, .int .i64 0, .int .i64 0, .int .i64 0, .slice none 0 0, .int .i64 0, .int .i64 0, .int .i64 0, .slice none 0 0, .int .i64 0, .slice none 0 0, .bool false, .int .i64 0, .int .i64 0, .int .i64 0, .slice none 0 0, .slice none 0 0, .int .i64 0, .int .i64 0, .int .i64 0, .slice none 0 0, .int .i64 wd, .int .i64 (k:Nat), .int .i64 (cap:Nat), .int .i64 tt, .slice A5 m5 c5], .int .i64 0]) ?_ rfl ?_
  · exact results_syn (p:=4) (q:=5) rfl _ R9 rfl rfl
  · exact ⟨A5,m5,c5,x5,rfl,hIN.setr _ in5 (fun g hg=>(fr6 g hg).1.2),below_setRow o (by omega) _,fun g hg=>(fr6 g hg).2⟩
set_option maxRecDepth 100000 in
set_option maxHeartbeats 4000000 in
theorem pyAddQuantile (A:Option Addr) (m c:Nat) (wd:Int) (k cap:Nat) (now:Int) (v:Int) (w:World) {γ:Type} (IN:Option Addr→Nat→Nat→γ→World→Prop) (T:Option Addr→Nat→γ→Nat→Prop) (hIN:InT IN T) (Fr:Nat→Prop) (hFr:∀ b,Fr b→b<w.heap.size) (HV:RowKit.Hid (∀ w',Below w.heap.size w w'→Calls Tryz.prog 150 #[.agg #[.int .i64 wd, .int .i64 (k:Nat), .int .i64 (cap:Nat), .int .i64 now, .slice A m c]] w' fun e w''=>e = .returned (.int .i64 0)∧Below w'.heap.size w' w'')) (HC:RowKit.Hid (∀ w',Calls Tryz.prog 108 #[.agg #[.int .i64 11, .int .i64 0, .int .i64 wd, .int .i64 (k:Nat), .int .i64 (cap:Nat), .int .i64 0, .int .i64 0, .int .i64 0]] w' fun e w''=>e = .returned (.int .i64 0)∧Below w'.heap.size w' w'')) (HA:RowKit.Hid (∀ w',Below w.heap.size w w'→Calls Tryz.prog 130 #[.agg #[.int .i64 wd, .int .i64 (k:Nat), .int .i64 (cap:Nat), .int .i64 now, .slice A m c], .int .i64 v] w' (GRetT IN T (fun A m c=>#[.int .i64 wd, .int .i64 (k:Nat), .int .i64 (cap:Nat), .int .i64 now, .slice A m c]) 0 Fr w'))):Calls Tryz.prog 38 #[.agg #[.int .i64 11, .int .i64 0, .int .i64 wd, .int .i64 (k:Nat), .int .i64 (cap:Nat), .int .i64 0, .int .i64 0, .int .i64 0, .int .i64 0, .int .i64 0, .int .i64 0, .slice none 0 0, .int .i64 0, .int .i64 0, .int .i64 0, .int .i64 0, .slice none 0 0, .int .i64 0, .int .i64 0, .int .i64 0, .int .i64 0, .int .i64 0, .slice none 0 0, .int .i64 0, .int .i64 0, .int .i64 0, .int .i64 0, .int .i64 0, .int .i64 0, .slice none 0 0, .int .i64 0, .int .i64 0, .int .i64 0, .int .i64 0, .int .i64 0, .slice none 0 0, .int .i64 0, .int .i64 0, .int .i64 0, .slice none 0 0, .int .i64 0, .slice none 0 0, .bool false, .int .i64 0, .int .i64 0, .int .i64 0, .slice none 0 0, .slice none 0 0, .int .i64 0, .int .i64 0, .int .i64 0, .slice none 0 0, .int .i64 wd, .int .i64 (k:Nat), .int .i64 (cap:Nat), .int .i64 now, .slice A m c], .int .i64 v, .slice none 0 0] w (GRetT IN T (fun A m c=>#[.int .i64 11, .int .i64 0, .int .i64 wd, .int .i64 (k:Nat), .int .i64 (cap:Nat), .int .i64 0, .int .i64 0, .int .i64 0, .int .i64 0, .int .i64 0, .int .i64 0, .slice none 0 0, .int .i64 0, .int .i64 0, .int .i64 0, .int .i64 0, .slice none 0 0, .int .i64 0, .int .i64 0, .int .i64 0, .int .i64 0, .int .i64 0, .slice none 0 0, .int .i64 0, .int .i64 0, .int .i64 0, .int .i64 0, .int .i64 0, .int .i64 0, .slice none 0 0, .int .i64 0, .int .i64 0, .int .i64 0, .int .i64 0, .int .i64 0, .slice none 0 0, .int .i64 0, .int .i64 0, .int .i64 0, .slice none 0 0, .int .i64 0, .slice none 0 0, .bool false, .int .i64 0, .int .i64 0, .int .i64 0, .slice none 0 0, .slice none 0 0, .int .i64 0, .int .i64 0, .int .i64 0, .slice none 0 0, .int .i64 wd, .int .i64 (k:Nat), .int .i64 (cap:Nat), .int .i64 now, .slice A m c]) 0 Fr w):=by
  have PVd:=Lib.hid (fun w' (hb:Below w.heap.size w w')=>pvQuantile A m c wd k cap now w' (Lib.hid (fun w'' hb2=>HV.out w'' (hb.trans (hb2.mono hb.size)))) HC)
  go_enter Tryz.func38,Tryz.ntmps38
  go_upto_region 1 with (fail)
  refine start2 (fun w1 X R o=>?_)
  go_wp2_with (with_reducible refine wpList_lsyn X rfl rfl _ rfl rfl ?_)
  refine (PVd.out _ o).mono ?_
  rintro e w2 ⟨rfl,hb⟩
  replace X:=row_call X hb
  replace R:=row_call R hb
  replace o:=o.trans (hb.mono o.size)
  clear hb PVd
  have k0:w2.cell? ⟨w.heap.size,0,none⟩=some (.int .i64 11):=row_cell X 0
  have q0:w2.cell? ⟨w.heap.size,52,none⟩=some (.int .i64 wd):=row_cell X 52
  have q1:w2.cell? ⟨w.heap.size,53,none⟩=some (.int .i64 (k:Nat)):=row_cell X 53
  have q2:w2.cell? ⟨w.heap.size,54,none⟩=some (.int .i64 (cap:Nat)):=row_cell X 54
  have q3:w2.cell? ⟨w.heap.size,55,none⟩=some (.int .i64 now):=row_cell X 55
  have q4:w2.cell? ⟨w.heap.size,56,none⟩=some (.slice A m c):=row_cell X 56
  go_wp2_with fail
  refine (HA.out _ o).mono ?_
  rintro e w3 ⟨A5,m5,c5,x5,rfl,in5,hb,fr5⟩
  have z6:=row_lt R
  have zo:=o.size
  have fr6:∀ g,T A5 m5 x5 g→(w.heap.size≠g∧w.heap.size+1≠g)∧(w.heap.size≤g∨Fr g):=fun g hg=>by
    rcases fr5 g hg with h | h
    · exact ⟨by omega, .inl (by omega)⟩
    · have:=hFr _ h
      exact ⟨by omega, .inr h⟩
  replace X:=row_call X hb
  replace R:=row_call R hb
  replace o:=o.trans (hb.mono o.size)
  clear hb fr5 HA q0 q1 q2 q3 q4 k0
  have q0:w3.cell? ⟨w.heap.size,52,none⟩=some (.int .i64 wd):=row_cell X 52
  have q1:w3.cell? ⟨w.heap.size,53,none⟩=some (.int .i64 (k:Nat)):=row_cell X 53
  have q2:w3.cell? ⟨w.heap.size,54,none⟩=some (.int .i64 (cap:Nat)):=row_cell X 54
  have q3:w3.cell? ⟨w.heap.size,55,none⟩=some (.int .i64 now):=row_cell X 55
  have q4:w3.cell? ⟨w.heap.size,56,none⟩=some (.slice A m c):=row_cell X 56
  have f0:=row_free X 52
  have f1:=row_free X 53
  have f2:=row_free X 54
  have f3:=row_free X 55
  have f4:=row_free X 56
  go_upto_region 29 with (fail)
  clear q0 f0 q1 f1 q2 f2 q3 f3 q4 f4
  show Code.wp _ _ _ _ (setL w3 (w.heap.size) 52 [.int .i64 wd, .int .i64 (k:Nat), .int .i64 (cap:Nat), .int .i64 now, .slice A5 m5 c5])
  refine laySt 52 [.int .i64 wd, .int .i64 (k:Nat), .int .i64 (cap:Nat), .int .i64 now, .slice A5 m5 c5] X R o hIN in5 (fun g hg=>(fr6 g hg).1.1) (by omega) (Nat.le_refl _) ?_
  clear X R o in5
  intro w4 X R o in5
  replace X:Row w4 (w.heap.size) 58 #[.int .i64 11, .int .i64 0, .int .i64 wd, .int .i64 (k:Nat), .int .i64 (cap:Nat), .int .i64 0, .int .i64 0, .int .i64 0, .int .i64 0, .int .i64 0, .int .i64 0, .slice none 0 0, .int .i64 0, .int .i64 0, .int .i64 0, .int .i64 0, .slice none 0 0, .int .i64 0, .int .i64 0, .int .i64 0, .int .i64 0, .int .i64 0, .slice none 0 0, .int .i64 0, .int .i64 0, .int .i64 0, .int .i64 0, .int .i64 0, .int .i64 0, .slice none 0 0, .int .i64 0, .int .i64 0, .int .i64 0, .int .i64 0, .int .i64 0, .slice none 0 0, .int .i64 0, .int .i64 0, .int .i64 0, .slice none 0 0, .int .i64 0, .slice none 0 0, .bool false, .int .i64 0, .int .i64 0, .int .i64 0, .slice none 0 0, .slice none 0 0, .int .i64 0, .int .i64 0, .int .i64 0, .slice none 0 0, .int .i64 wd, .int .i64 (k:Nat), .int .i64 (cap:Nat), .int .i64 now, .slice A5 m5 c5]:=X
  have k0:w4.cell? ⟨w.heap.size,0,none⟩=some (.int .i64 11):=row_cell X 0
  have hone:(#[.int .i64 11, .int .i64 0, .int .i64 wd, .int .i64 (k:Nat), .int .i64 (cap:Nat), .int .i64 0, .int .i64 0, .int .i64 0, .int .i64 0, .int .i64 0, .int .i64 0, .slice none 0 0, .int .i64 0, .int .i64 0, .int .i64 0, .int .i64 0, .slice none 0 0, .int .i64 0, .int .i64 0, .int .i64 0, .int .i64 0, .int .i64 0, .slice none 0 0, .int .i64 0, .int .i64 0, .int .i64 0, .int .i64 0, .int .i64 0, .int .i64 0, .slice none 0 0, .int .i64 0, .int .i64 0, .int .i64 0, .int .i64 0, .int .i64 0, .slice none 0 0, .int .i64 0, .int .i64 0, .int .i64 0, .slice none 0 0, .int .i64 0, .slice none 0 0, .bool false, .int .i64 0, .int .i64 0, .int .i64 0, .slice none 0 0, .slice none 0 0, .int .i64 0, .int .i64 0, .int .i64 0, .slice none 0 0, .int .i64 wd, .int .i64 (k:Nat), .int .i64 (cap:Nat), .int .i64 now, .slice A5 m5 c5]:Array Value).all (·.oneCell')=true:=all_one rfl
  go_wp2_with (first | (with_reducible refine wpList_lsyn X rfl rfl _ rfl rfl ?_) | (with_reducible refine wpList_ssyn R rfl rfl hone rfl _ _ rfl rfl rfl ?_))
  have R9:=row_setRow (cs:=#[.int .i64 11, .int .i64 0, .int .i64 wd, .int .i64 (k:Nat), .int .i64 (cap:Nat), .int .i64 0, .int .i64 0, .int .i64 0, .int .i64 0, .int .i64 0, .int .i64 0, .slice none 0 0, .int .i64 0, .int .i64 0, .int .i64 0, .int .i64 0, .slice none 0 0, .int .i64 0, .int .i64 0, .int .i64 0, .int .i64 0, .int .i64 0, .slice none 0 0, .int .i64 0, .int .i64 0, .int .i64 0, .int .i64 0, .int .i64 0, .int .i64 0, .slice none 0 0, .int .i64 0, .int .i64 0, .int .i64 0, .int .i64 0, .int .i64 0, .slice none 0 0, .int .i64 0, .int .i64 0, .int .i64 0, .slice none 0 0, .int .i64 0, .slice none 0 0, .bool false, .int .i64 0, .int .i64 0, .int .i64 0, .slice none 0 0, .slice none 0 0, .int .i64 0, .int .i64 0, .int .i64 0, .slice none 0 0, .int .i64 wd, .int .i64 (k:Nat), .int .i64 (cap:Nat), .int .i64 now, .slice A5 m5 c5]) R
  refine bodyPost_ret (v := .tuple #[.agg #[.int .i64 11, .int .i64 0, .int .i64 wd, .int .i64 (k:Nat), .int .i64 (cap:Nat), .int .i64 0, .int .i64 0, .int .i64 0, .int .i64 0, .int .i64 0, .int .i64 0, .slice none 0 0, .int .i64 0, .int .i64 0, .int .i64 0, .int .i64 0, .slice none 0 0, .int .i64 0, .int .i64 0, .int .i64 0, .int .i64 0, .int .i64 0, .slice none 0 0, .int .i64 0, .int .i64 0, .int .i64 0, .int .i64 0, .int .i64 0, .int .i64 0, .slice none 0 0, .int .i64 0, .int .i64 0, .int .i64 0, .int .i64 0, .int .i64 0, .slice none 0 0, .int .i64 0, .int .i64 0, .int .i64 0, .slice none 0 0, .int .i64 0, .slice none 0 0, .bool false, .int .i64 0, .int .i64 0, .int .i64 0, .slice none 0 0, .slice none 0 0, .int .i64 0, .int .i64 0, .int .i64 0, .slice none 0 0, .int .i64 wd, .int .i64 (k:Nat), .int .i64 (cap:Nat), .int .i64 now, .slice A5 m5 c5], .int .i64 0]) ?_ rfl ?_
  · exact results_syn (p:=6) (q:=7) rfl _ R9 rfl rfl
  · exact ⟨A5,m5,c5,x5,rfl,hIN.setr _ in5 (fun g hg=>(fr6 g hg).1.2),below_setRow o (by omega) _,fun g hg=>(fr6 g hg).2⟩
end Go.Proofs.YtdipoojjlddohaaGreat
end
