/- What the law TopExact needs, joined of its texts by a program (slim2.py); part 29. -/
import Derived.Test.YtdipoojjlddohaaGreatZTopExact1
import Derived.Test.YtdipoojjlddohaaGreatZTopExact4
import Derived.Test.YtdipoojjlddohaaGreatZTopExact28
set_option linter.unusedVariables false
set_option linter.unusedSimpArgs false
set_option linter.unusedSectionVars false
set_option linter.unnecessarySimpa false
section
/- Synopses of kind Poly: the clock moved on, an item more, walked. -/
namespace Go.Proofs.YtdipoojjlddohaaGreat
open Go.RowKit
set_option maxRecDepth 100000 in
set_option maxHeartbeats 4000000 in
theorem pyAdvancePoly (A:Option Addr) (m c:Nat) (p land now:Int) (tt:Int) (w:World) (IN:Option Addr→Nat→Nat→World→Prop) (hIN:InOK IN) (Fr:Nat→Prop) (hFr:∀ b,Fr b→b<w.heap.size) (HV:RowKit.Hid (∀ w',Below w.heap.size w w'→Calls Tryz.prog 142 #[.agg #[.int .i64 p, .int .i64 land, .int .i64 now, .slice A m c]] w' fun e w''=>e = .returned (.int .i64 0)∧Below w'.heap.size w' w'')) (HC:RowKit.Hid (∀ w',Calls Tryz.prog 108 #[.agg #[.int .i64 6, .int .i64 0, .int .i64 0, .int .i64 0, .int .i64 0, .int .i64 p, .int .i64 0, .int .i64 0]] w' fun e w''=>e = .returned (.int .i64 0)∧Below w'.heap.size w' w'')) (HA:RowKit.Hid (∀ w',Below w.heap.size w w'→Calls Tryz.prog 69 #[.agg #[.int .i64 p, .int .i64 land, .int .i64 now, .slice A m c], .int .i64 tt] w' (GRet IN (fun A m c=>#[.int .i64 p, .int .i64 land, .int .i64 tt, .slice A m c]) 0 Fr w'))):Calls Tryz.prog 21 #[.agg #[.int .i64 6, .int .i64 0, .int .i64 0, .int .i64 0, .int .i64 0, .int .i64 p, .int .i64 0, .int .i64 0, .int .i64 0, .int .i64 0, .int .i64 0, .slice none 0 0, .int .i64 0, .int .i64 0, .int .i64 0, .int .i64 0, .slice none 0 0, .int .i64 0, .int .i64 0, .int .i64 0, .int .i64 0, .int .i64 0, .slice none 0 0, .int .i64 0, .int .i64 0, .int .i64 0, .int .i64 0, .int .i64 0, .int .i64 0, .slice none 0 0, .int .i64 0, .int .i64 0, .int .i64 0, .int .i64 0, .int .i64 0, .slice none 0 0, .int .i64 p, .int .i64 land, .int .i64 now, .slice A m c, .int .i64 0, .slice none 0 0, .bool false, .int .i64 0, .int .i64 0, .int .i64 0, .slice none 0 0, .slice none 0 0, .int .i64 0, .int .i64 0, .int .i64 0, .slice none 0 0, .int .i64 0, .int .i64 0, .int .i64 0, .int .i64 0, .slice none 0 0], .int .i64 tt] w (GRet IN (fun A m c=>#[.int .i64 6, .int .i64 0, .int .i64 0, .int .i64 0, .int .i64 0, .int .i64 p, .int .i64 0, .int .i64 0, .int .i64 0, .int .i64 0, .int .i64 0, .slice none 0 0, .int .i64 0, .int .i64 0, .int .i64 0, .int .i64 0, .slice none 0 0, .int .i64 0, .int .i64 0, .int .i64 0, .int .i64 0, .int .i64 0, .slice none 0 0, .int .i64 0, .int .i64 0, .int .i64 0, .int .i64 0, .int .i64 0, .int .i64 0, .slice none 0 0, .int .i64 0, .int .i64 0, .int .i64 0, .int .i64 0, .int .i64 0, .slice none 0 0, .int .i64 p, .int .i64 land, .int .i64 tt, .slice A m c, .int .i64 0, .slice none 0 0, .bool false, .int .i64 0, .int .i64 0, .int .i64 0, .slice none 0 0, .slice none 0 0, .int .i64 0, .int .i64 0, .int .i64 0, .slice none 0 0, .int .i64 0, .int .i64 0, .int .i64 0, .int .i64 0, .slice none 0 0]) 0 Fr w):=by
  have PVd:=Lib.hid (fun w' (hb:Below w.heap.size w w')=>pvPoly A m c p land now w' (Lib.hid (fun w'' hb2=>HV.out w'' (hb.trans (hb2.mono hb.size)))) HC)
  go_enter Tryz.func21,Tryz.ntmps21
  go_upto_region 1 with (fail)
  refine start2 (fun w1 X R o=>?_)
  go_wp2_with (with_reducible refine wpList_lsyn X rfl rfl _ rfl rfl ?_)
  refine (PVd.out _ o).mono ?_
  rintro e w2 ⟨rfl,hb⟩
  replace X:=row_call X hb
  replace R:=row_call R hb
  replace o:=o.trans (hb.mono o.size)
  clear hb PVd
  have k0:w2.cell? ⟨w.heap.size,0,none⟩=some (.int .i64 6):=row_cell X 0
  have q0:w2.cell? ⟨w.heap.size,36,none⟩=some (.int .i64 p):=row_cell X 36
  have q1:w2.cell? ⟨w.heap.size,37,none⟩=some (.int .i64 land):=row_cell X 37
  have q2:w2.cell? ⟨w.heap.size,38,none⟩=some (.int .i64 now):=row_cell X 38
  have q3:w2.cell? ⟨w.heap.size,39,none⟩=some (.slice A m c):=row_cell X 39
  go_wp2_with fail
  refine (HA.out _ o).mono ?_
  rintro e w3 ⟨A5,m5,c5,rfl,in5,hb,fr5⟩
  have z6:=row_lt R
  have zo:=o.size
  have fr6:0<m5→∀ a,A5=some a→(w.heap.size≠a.block∧w.heap.size+1≠a.block)∧(w.heap.size≤a.block∨Fr a.block):=fun h0 a e=>by
    rcases fr5 h0 a e with h | h
    · exact ⟨by omega, .inl (by omega)⟩
    · have:=hFr _ h
      exact ⟨by omega, .inr h⟩
  replace X:=row_call X hb
  replace R:=row_call R hb
  replace o:=o.trans (hb.mono o.size)
  clear hb fr5 HA q0 q1 q2 q3 k0
  have q0:w3.cell? ⟨w.heap.size,36,none⟩=some (.int .i64 p):=row_cell X 36
  have q1:w3.cell? ⟨w.heap.size,37,none⟩=some (.int .i64 land):=row_cell X 37
  have q2:w3.cell? ⟨w.heap.size,38,none⟩=some (.int .i64 now):=row_cell X 38
  have q3:w3.cell? ⟨w.heap.size,39,none⟩=some (.slice A m c):=row_cell X 39
  have f0:=row_free X 36
  have f1:=row_free X 37
  have f2:=row_free X 38
  have f3:=row_free X 39
  go_upto_region 25 with (fail)
  clear q0 f0 q1 f1 q2 f2 q3 f3
  show Code.wp _ _ _ _ (setL w3 (w.heap.size) 36 [.int .i64 p, .int .i64 land, .int .i64 tt, .slice A5 m5 c5])
  refine layS 36 [.int .i64 p, .int .i64 land, .int .i64 tt, .slice A5 m5 c5] X R o hIN in5 (fun h0 a e=>(fr6 h0 a e).1.1) (by omega) (Nat.le_refl _) ?_
  clear X R o in5
  intro w4 X R o in5
  replace X:Row w4 (w.heap.size) 58 #[.int .i64 6, .int .i64 0, .int .i64 0, .int .i64 0, .int .i64 0, .int .i64 p, .int .i64 0, .int .i64 0, .int .i64 0, .int .i64 0, .int .i64 0, .slice none 0 0, .int .i64 0, .int .i64 0, .int .i64 0, .int .i64 0, .slice none 0 0, .int .i64 0, .int .i64 0, .int .i64 0, .int .i64 0, .int .i64 0, .slice none 0 0, .int .i64 0, .int .i64 0, .int .i64 0, .int .i64 0, .int .i64 0, .int .i64 0, .slice none 0 0, .int .i64 0, .int .i64 0, .int .i64 0, .int .i64 0, .int .i64 0, .slice none 0 0, .int .i64 p, .int .i64 land, .int .i64 tt, .slice A5 m5 c5, .int .i64 0, .slice none 0 0, .bool false, .int .i64 0, .int .i64 0, .int .i64 0, .slice none 0 0, .slice none 0 0, .int .i64 0, .int .i64 0, .int .i64 0, .slice none 0 0, .int .i64 0, .int .i64 0, .int .i64 0, .int .i64 0, .slice none 0 0]:=X
  have k0:w4.cell? ⟨w.heap.size,0,none⟩=some (.int .i64 6):=row_cell X 0
  have hone:(#[.int .i64 6, .int .i64 0, .int .i64 0, .int .i64 0, .int .i64 0, .int .i64 p, .int .i64 0, .int .i64 0, .int .i64 0, .int .i64 0, .int .i64 0, .slice none 0 0, .int .i64 0, .int .i64 0, .int .i64 0, .int .i64 0, .slice none 0 0, .int .i64 0, .int .i64 0, .int .i64 0, .int .i64 0, .int .i64 0, .slice none 0 0, .int .i64 0, .int .i64 0, .int .i64 0, .int .i64 0, .int .i64 0, .int .i64 0, .slice none 0 0, .int .i64 0, .int .i64 0, .int .i64 0, .int .i64 0, .int .i64 0, .slice none 0 0, .int .i64 p, .int .i64 land, .int .i64 tt, .slice A5 m5 c5, .int .i64 0, .slice none 0 0, .bool false, .int .i64 0, .int .i64 0, .int .i64 0, .slice none 0 0, .slice none 0 0, .int .i64 0, .int .i64 0, .int .i64 0, .slice none 0 0, .int .i64 0, .int .i64 0, .int .i64 0, .int .i64 0, .slice none 0 0]:Array Value).all (·.oneCell')=true:=all_one rfl
  go_wp2_with (first | (with_reducible refine wpList_lsyn X rfl rfl _ rfl rfl ?_) | (with_reducible refine wpList_ssyn R rfl rfl hone rfl _ _ rfl rfl rfl ?_))
  have R9:=row_setRow (cs:=#[.int .i64 6, .int .i64 0, .int .i64 0, .int .i64 0, .int .i64 0, .int .i64 p, .int .i64 0, .int .i64 0, .int .i64 0, .int .i64 0, .int .i64 0, .slice none 0 0, .int .i64 0, .int .i64 0, .int .i64 0, .int .i64 0, .slice none 0 0, .int .i64 0, .int .i64 0, .int .i64 0, .int .i64 0, .int .i64 0, .slice none 0 0, .int .i64 0, .int .i64 0, .int .i64 0, .int .i64 0, .int .i64 0, .int .i64 0, .slice none 0 0, .int .i64 0, .int .i64 0, .int .i64 0, .int .i64 0, .int .i64 0, .slice none 0 0, .int .i64 p, .int .i64 land, .int .i64 tt, .slice A5 m5 c5, .int .i64 0, .slice none 0 0, .bool false, .int .i64 0, .int .i64 0, .int .i64 0, .slice none 0 0, .slice none 0 0, .int .i64 0, .int .i64 0, .int .i64 0, .slice none 0 0, .int .i64 0, .int .i64 0, .int .i64 0, .int .i64 0, .slice none 0 0]) R
  refine bodyPost_ret (v := .tuple #[.agg #[.int .i64 6, .int .i64 0, .int .i64 0, .int .i64 0, .int .i64 0, .int .i64 p, .int .i64 0, .int .i64 0, .int .i64 0, .int .i64 0, .int .i64 0, .slice none 0 0, .int .i64 0, .int .i64 0, .int .i64 0, .int .i64 0, .slice none 0 0, .int .i64 0, .int .i64 0, .int .i64 0, .int .i64 0, .int .i64 0, .slice none 0 0, .int .i64 0, .int .i64 0, .int .i64 0, .int .i64 0, .int .i64 0, .int .i64 0, .slice none 0 0, .int .i64 0, .int .i64 0, .int .i64 0, .int .i64 0, .int .i64 0, .slice none 0 0, .int .i64 p, .int .i64 land, .int .i64 tt, .slice A5 m5 c5, .int .i64 0, .slice none 0 0, .bool false, .int .i64 0, .int .i64 0, .int .i64 0, .slice none 0 0, .slice none 0 0, .int .i64 0, .int .i64 0, .int .i64 0, .slice none 0 0, .int .i64 0, .int .i64 0, .int .i64 0, .int .i64 0, .slice none 0 0], .int .i64 0]) ?_ rfl ?_
  · exact results_syn (p:=4) (q:=5) rfl _ R9 rfl rfl
  · exact ⟨A5,m5,c5,rfl,hIN.setr _ in5 (fun h0 a e=>(fr6 h0 a e).1.2),below_setRow o (by omega) _,fun h0 a e=>(fr6 h0 a e).2⟩
set_option maxRecDepth 100000 in
set_option maxHeartbeats 4000000 in
theorem pyAddPoly (A:Option Addr) (m c:Nat) (p land now:Int) (v:Int) (w:World) (IN:Option Addr→Nat→Nat→World→Prop) (hIN:InOK IN) (Fr:Nat→Prop) (hFr:∀ b,Fr b→b<w.heap.size) (HV:RowKit.Hid (∀ w',Below w.heap.size w w'→Calls Tryz.prog 142 #[.agg #[.int .i64 p, .int .i64 land, .int .i64 now, .slice A m c]] w' fun e w''=>e = .returned (.int .i64 0)∧Below w'.heap.size w' w'')) (HC:RowKit.Hid (∀ w',Calls Tryz.prog 108 #[.agg #[.int .i64 6, .int .i64 0, .int .i64 0, .int .i64 0, .int .i64 0, .int .i64 p, .int .i64 0, .int .i64 0]] w' fun e w''=>e = .returned (.int .i64 0)∧Below w'.heap.size w' w'')) (HA:RowKit.Hid (∀ w',Below w.heap.size w w'→Calls Tryz.prog 125 #[.agg #[.int .i64 p, .int .i64 land, .int .i64 now, .slice A m c], .int .i64 v] w' (GRet IN (fun A m c=>#[.int .i64 p, .int .i64 land, .int .i64 now, .slice A m c]) 0 Fr w'))):Calls Tryz.prog 38 #[.agg #[.int .i64 6, .int .i64 0, .int .i64 0, .int .i64 0, .int .i64 0, .int .i64 p, .int .i64 0, .int .i64 0, .int .i64 0, .int .i64 0, .int .i64 0, .slice none 0 0, .int .i64 0, .int .i64 0, .int .i64 0, .int .i64 0, .slice none 0 0, .int .i64 0, .int .i64 0, .int .i64 0, .int .i64 0, .int .i64 0, .slice none 0 0, .int .i64 0, .int .i64 0, .int .i64 0, .int .i64 0, .int .i64 0, .int .i64 0, .slice none 0 0, .int .i64 0, .int .i64 0, .int .i64 0, .int .i64 0, .int .i64 0, .slice none 0 0, .int .i64 p, .int .i64 land, .int .i64 now, .slice A m c, .int .i64 0, .slice none 0 0, .bool false, .int .i64 0, .int .i64 0, .int .i64 0, .slice none 0 0, .slice none 0 0, .int .i64 0, .int .i64 0, .int .i64 0, .slice none 0 0, .int .i64 0, .int .i64 0, .int .i64 0, .int .i64 0, .slice none 0 0], .int .i64 v, .slice none 0 0] w (GRet IN (fun A m c=>#[.int .i64 6, .int .i64 0, .int .i64 0, .int .i64 0, .int .i64 0, .int .i64 p, .int .i64 0, .int .i64 0, .int .i64 0, .int .i64 0, .int .i64 0, .slice none 0 0, .int .i64 0, .int .i64 0, .int .i64 0, .int .i64 0, .slice none 0 0, .int .i64 0, .int .i64 0, .int .i64 0, .int .i64 0, .int .i64 0, .slice none 0 0, .int .i64 0, .int .i64 0, .int .i64 0, .int .i64 0, .int .i64 0, .int .i64 0, .slice none 0 0, .int .i64 0, .int .i64 0, .int .i64 0, .int .i64 0, .int .i64 0, .slice none 0 0, .int .i64 p, .int .i64 land, .int .i64 now, .slice A m c, .int .i64 0, .slice none 0 0, .bool false, .int .i64 0, .int .i64 0, .int .i64 0, .slice none 0 0, .slice none 0 0, .int .i64 0, .int .i64 0, .int .i64 0, .slice none 0 0, .int .i64 0, .int .i64 0, .int .i64 0, .int .i64 0, .slice none 0 0]) 0 Fr w):=by
  have PVd:=Lib.hid (fun w' (hb:Below w.heap.size w w')=>pvPoly A m c p land now w' (Lib.hid (fun w'' hb2=>HV.out w'' (hb.trans (hb2.mono hb.size)))) HC)
  go_enter Tryz.func38,Tryz.ntmps38
  go_upto_region 1 with (fail)
  refine start2 (fun w1 X R o=>?_)
  go_wp2_with (with_reducible refine wpList_lsyn X rfl rfl _ rfl rfl ?_)
  refine (PVd.out _ o).mono ?_
  rintro e w2 ⟨rfl,hb⟩
  replace X:=row_call X hb
  replace R:=row_call R hb
  replace o:=o.trans (hb.mono o.size)
  clear hb PVd
  have k0:w2.cell? ⟨w.heap.size,0,none⟩=some (.int .i64 6):=row_cell X 0
  have q0:w2.cell? ⟨w.heap.size,36,none⟩=some (.int .i64 p):=row_cell X 36
  have q1:w2.cell? ⟨w.heap.size,37,none⟩=some (.int .i64 land):=row_cell X 37
  have q2:w2.cell? ⟨w.heap.size,38,none⟩=some (.int .i64 now):=row_cell X 38
  have q3:w2.cell? ⟨w.heap.size,39,none⟩=some (.slice A m c):=row_cell X 39
  go_wp2_with fail
  refine (HA.out _ o).mono ?_
  rintro e w3 ⟨A5,m5,c5,rfl,in5,hb,fr5⟩
  have z6:=row_lt R
  have zo:=o.size
  have fr6:0<m5→∀ a,A5=some a→(w.heap.size≠a.block∧w.heap.size+1≠a.block)∧(w.heap.size≤a.block∨Fr a.block):=fun h0 a e=>by
    rcases fr5 h0 a e with h | h
    · exact ⟨by omega, .inl (by omega)⟩
    · have:=hFr _ h
      exact ⟨by omega, .inr h⟩
  replace X:=row_call X hb
  replace R:=row_call R hb
  replace o:=o.trans (hb.mono o.size)
  clear hb fr5 HA q0 q1 q2 q3 k0
  have q0:w3.cell? ⟨w.heap.size,36,none⟩=some (.int .i64 p):=row_cell X 36
  have q1:w3.cell? ⟨w.heap.size,37,none⟩=some (.int .i64 land):=row_cell X 37
  have q2:w3.cell? ⟨w.heap.size,38,none⟩=some (.int .i64 now):=row_cell X 38
  have q3:w3.cell? ⟨w.heap.size,39,none⟩=some (.slice A m c):=row_cell X 39
  have f0:=row_free X 36
  have f1:=row_free X 37
  have f2:=row_free X 38
  have f3:=row_free X 39
  go_upto_region 29 with (fail)
  clear q0 f0 q1 f1 q2 f2 q3 f3
  show Code.wp _ _ _ _ (setL w3 (w.heap.size) 36 [.int .i64 p, .int .i64 land, .int .i64 now, .slice A5 m5 c5])
  refine layS 36 [.int .i64 p, .int .i64 land, .int .i64 now, .slice A5 m5 c5] X R o hIN in5 (fun h0 a e=>(fr6 h0 a e).1.1) (by omega) (Nat.le_refl _) ?_
  clear X R o in5
  intro w4 X R o in5
  replace X:Row w4 (w.heap.size) 58 #[.int .i64 6, .int .i64 0, .int .i64 0, .int .i64 0, .int .i64 0, .int .i64 p, .int .i64 0, .int .i64 0, .int .i64 0, .int .i64 0, .int .i64 0, .slice none 0 0, .int .i64 0, .int .i64 0, .int .i64 0, .int .i64 0, .slice none 0 0, .int .i64 0, .int .i64 0, .int .i64 0, .int .i64 0, .int .i64 0, .slice none 0 0, .int .i64 0, .int .i64 0, .int .i64 0, .int .i64 0, .int .i64 0, .int .i64 0, .slice none 0 0, .int .i64 0, .int .i64 0, .int .i64 0, .int .i64 0, .int .i64 0, .slice none 0 0, .int .i64 p, .int .i64 land, .int .i64 now, .slice A5 m5 c5, .int .i64 0, .slice none 0 0, .bool false, .int .i64 0, .int .i64 0, .int .i64 0, .slice none 0 0, .slice none 0 0, .int .i64 0, .int .i64 0, .int .i64 0, .slice none 0 0, .int .i64 0, .int .i64 0, .int .i64 0, .int .i64 0, .slice none 0 0]:=X
  have k0:w4.cell? ⟨w.heap.size,0,none⟩=some (.int .i64 6):=row_cell X 0
  have hone:(#[.int .i64 6, .int .i64 0, .int .i64 0, .int .i64 0, .int .i64 0, .int .i64 p, .int .i64 0, .int .i64 0, .int .i64 0, .int .i64 0, .int .i64 0, .slice none 0 0, .int .i64 0, .int .i64 0, .int .i64 0, .int .i64 0, .slice none 0 0, .int .i64 0, .int .i64 0, .int .i64 0, .int .i64 0, .int .i64 0, .slice none 0 0, .int .i64 0, .int .i64 0, .int .i64 0, .int .i64 0, .int .i64 0, .int .i64 0, .slice none 0 0, .int .i64 0, .int .i64 0, .int .i64 0, .int .i64 0, .int .i64 0, .slice none 0 0, .int .i64 p, .int .i64 land, .int .i64 now, .slice A5 m5 c5, .int .i64 0, .slice none 0 0, .bool false, .int .i64 0, .int .i64 0, .int .i64 0, .slice none 0 0, .slice none 0 0, .int .i64 0, .int .i64 0, .int .i64 0, .slice none 0 0, .int .i64 0, .int .i64 0, .int .i64 0, .int .i64 0, .slice none 0 0]:Array Value).all (·.oneCell')=true:=all_one rfl
  go_wp2_with (first | (with_reducible refine wpList_lsyn X rfl rfl _ rfl rfl ?_) | (with_reducible refine wpList_ssyn R rfl rfl hone rfl _ _ rfl rfl rfl ?_))
  have R9:=row_setRow (cs:=#[.int .i64 6, .int .i64 0, .int .i64 0, .int .i64 0, .int .i64 0, .int .i64 p, .int .i64 0, .int .i64 0, .int .i64 0, .int .i64 0, .int .i64 0, .slice none 0 0, .int .i64 0, .int .i64 0, .int .i64 0, .int .i64 0, .slice none 0 0, .int .i64 0, .int .i64 0, .int .i64 0, .int .i64 0, .int .i64 0, .slice none 0 0, .int .i64 0, .int .i64 0, .int .i64 0, .int .i64 0, .int .i64 0, .int .i64 0, .slice none 0 0, .int .i64 0, .int .i64 0, .int .i64 0, .int .i64 0, .int .i64 0, .slice none 0 0, .int .i64 p, .int .i64 land, .int .i64 now, .slice A5 m5 c5, .int .i64 0, .slice none 0 0, .bool false, .int .i64 0, .int .i64 0, .int .i64 0, .slice none 0 0, .slice none 0 0, .int .i64 0, .int .i64 0, .int .i64 0, .slice none 0 0, .int .i64 0, .int .i64 0, .int .i64 0, .int .i64 0, .slice none 0 0]) R
  refine bodyPost_ret (v := .tuple #[.agg #[.int .i64 6, .int .i64 0, .int .i64 0, .int .i64 0, .int .i64 0, .int .i64 p, .int .i64 0, .int .i64 0, .int .i64 0, .int .i64 0, .int .i64 0, .slice none 0 0, .int .i64 0, .int .i64 0, .int .i64 0, .int .i64 0, .slice none 0 0, .int .i64 0, .int .i64 0, .int .i64 0, .int .i64 0, .int .i64 0, .slice none 0 0, .int .i64 0, .int .i64 0, .int .i64 0, .int .i64 0, .int .i64 0, .int .i64 0, .slice none 0 0, .int .i64 0, .int .i64 0, .int .i64 0, .int .i64 0, .int .i64 0, .slice none 0 0, .int .i64 p, .int .i64 land, .int .i64 now, .slice A5 m5 c5, .int .i64 0, .slice none 0 0, .bool false, .int .i64 0, .int .i64 0, .int .i64 0, .slice none 0 0, .slice none 0 0, .int .i64 0, .int .i64 0, .int .i64 0, .slice none 0 0, .int .i64 0, .int .i64 0, .int .i64 0, .int .i64 0, .slice none 0 0], .int .i64 0]) ?_ rfl ?_
  · exact results_syn (p:=6) (q:=7) rfl _ R9 rfl rfl
  · exact ⟨A5,m5,c5,rfl,hIN.setr _ in5 (fun h0 a e=>(fr6 h0 a e).1.2),below_setRow o (by omega) _,fun h0 a e=>(fr6 h0 a e).2⟩
end Go.Proofs.YtdipoojjlddohaaGreat
end
