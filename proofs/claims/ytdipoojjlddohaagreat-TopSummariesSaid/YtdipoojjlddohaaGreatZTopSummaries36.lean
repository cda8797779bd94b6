/- What the law TopSummaries needs, joined of its texts by a program (slim2.py); part 36. -/
import Derived.Test.YtdipoojjlddohaaGreatZTopSummaries1
import Derived.Test.YtdipoojjlddohaaGreatZTopSummaries10
import Derived.Test.YtdipoojjlddohaaGreatZTopSummaries32
import Derived.Test.YtdipoojjlddohaaGreatZTopSummaries35
set_option linter.unusedVariables false
set_option linter.unusedSimpArgs false
set_option linter.unusedSectionVars false
set_option linter.unnecessarySimpa false
section
/- Windowed quantiles: the state, walked. -/
namespace Go.Proofs.YtdipoojjlddohaaGreat
open Go.RowKit
def qsz (k cap:Nat):Nat:=2*k*(Lib.bitLen cap+2)
theorem qsz_le {k cap:Nat} (hk:1≤k∧k≤64) (hc:cap≤65536):1≤qsz k cap∧qsz k cap≤65536:=by
  have hb:Lib.bitLen cap≤17:=Lib.bitLen_le cap 17 (by decide) (by omega)
  unfold qsz
  have h1:2*k*(Lib.bitLen cap+2)≤128*19:=Nat.mul_le_mul (by omega) (by omega)
  have h2:2*1≤2*k*(Lib.bitLen cap+2):=Nat.le_trans (by omega) (Nat.le_mul_of_pos_right _ (by omega))
  omega
structure QtS (wd:Int) (k cap:Nat) (now:Int) (l:List Bq):Prop where
  good:1≤wd∧wd≤1048576∧1≤k∧k≤64∧1≤cap∧cap≤65536∧0≤now∧now≤16777216
  val:BV (2*k) (bqs l)
  ok:∀ b∈l,BqOK (qsz k cap) b
  cap:btot (bqs l)≤cap
  live:∀ b∈l,now-wd<b.t∧b.t≤now
theorem pqtgood (wd:Int) (k cap:Nat) (now:Int) (w:World) (h:1≤wd∧wd≤1048576∧1≤k∧k≤64∧1≤cap∧cap≤65536∧0≤now∧now≤16777216):Calls Tryz.prog 209 #[.int .i64 wd, .int .i64 (k:Nat), .int .i64 (cap:Nat), .int .i64 now] w fun e w'=>e = .returned (.bool true)∧w'=w:=by
  obtain ⟨g0,g1,g2,g3,g4,g5,g6,g7⟩:=h
  have q2:(1:Int)≤(k:Int):=by omega
  have q3:(k:Int)≤64:=by omega
  have q4:(1:Int)≤(cap:Int):=by omega
  have q5:(cap:Int)≤65536:=by omega
  go_enter Tryz.func209,Tryz.ntmps209
  go_wp2_with fail
  go_ret
  exact ⟨by first | rfl | exact ret_bool (by simp;omega) | exact ret_bool (by simp [*]),rfl⟩
theorem pqtsize (k cap:Nat) (w:World) (hk:1≤k∧k≤64) (hc:1≤cap∧cap≤65536):Calls Tryz.prog 226 #[.int .i64 (k:Nat), .int .i64 (cap:Nat)] w fun e w'=>e = .returned (.int .i64 (qsz k cap:Nat))∧w'=w:=by
  have PG:=Lib.hid (fun w=>pqtgood 1 k cap 0 w (by omega))
  have PB:=Lib.hid (fun w=>nbits cap (by omega) w)
  have hq:=qsz_le hk hc.2
  have hb:Lib.bitLen cap≤17:=Lib.bitLen_le cap 17 (by decide) (by omega)
  have e1:((qsz k cap:Nat):Int)=2*(k:Int)*((Lib.bitLen cap:Nat)+2:Int):=by unfold qsz;simp
  rw [e1]
  generalize Lib.bitLen cap=n at PB hb e1 ⊢
  have w1:IntKind.i64.wrap (2*(k:Int))=2*(k:Int):=IntWalk.i64_in _ (by omega)
  have w2:IntKind.i64.wrap ((n:Int)+2)=(n:Int)+2:=IntWalk.i64_in _ (by omega)
  have w3:IntKind.i64.wrap (2*(k:Int)*((n:Int)+2))=2*(k:Int)*((n:Int)+2):=IntWalk.i64_in _ (by omega)
  clear e1 hq
  go_enter Tryz.func226,Tryz.ntmps226
  go_wp2_with (first | (go_at_call 209;with_reducible refine (PG.out _).mono ?_;rintro e w9 ⟨rfl,h9⟩;obtain rfl:=h9.symm) | (go_at_call 266;with_reducible refine (PB.out _).mono ?_;rintro e w9 ⟨rfl,h9⟩;obtain rfl:=h9.symm))
  go_ret
  exact ⟨by first | rfl | exact ret_i64 (by simp [*]),rfl⟩
set_option maxRecDepth 100000 in
set_option maxHeartbeats 4000000 in
theorem pqtval (A:Option Addr) (m c:Nat) (l:List Bq) (wd:Int) (k cap:Nat) (now:Int) (w:World) (hin:QIn A m c l w) (hs:QtS wd k cap now l):Calls Tryz.prog 150 #[.agg #[.int .i64 wd, .int .i64 (k:Nat), .int .i64 (cap:Nat), .int .i64 now, .slice A m c]] w fun e w'=>e = .returned (.int .i64 0)∧Below w.heap.size w w':=by
  have HS:=Lib.hid hs
  have hlN:=Lib.hid hin.len
  have hG:=hs.good
  obtain ⟨g0,g1,g2,g3,g4,g5,g6,g7⟩:=hs.good
  have hlt:=tot_len (bqs l)
  rw [bqs_len] at hlt
  have hcap:=hs.cap
  have hm:m≤65536:=by have:=hin.len;omega
  have hq:=qsz_le ⟨g2,g3⟩ g5
  have PG:=Lib.hid (fun w=>pqtgood wd k cap now w hG)
  have PS:=fun w=>pqtsize k cap w ⟨g2,g3⟩ ⟨g4,g5⟩
  have PV:=fun w' (hb:Below w.heap.size w w')=>pqvalid A m c l (2*k) (qsz k cap) w' (hin.below hb) hs.val hs.ok ⟨by omega,by omega⟩ hq.1 hq.2 (by omega)
  have PT:=Lib.hid (fun w' (hb:Below w.heap.size w w')=>pqtotal A m c l w' (hin.below hb) (by omega) (fun b hb=>hs.val.lev b.bk (List.mem_map_of_mem hb)) (by omega))
  have HR:=Lib.hid hin
  have hcc:¬ (cap:Int)<(btot (bqs l):Int):=by omega
  have hcc2:¬ cap<btot (bqs l):=by omega
  have w2k:IntKind.i64.wrap (2*(k:Int))=((2*k:Nat):Int):=by rw [IntWalk.i64_in _ (by omega)];omega
  generalize btot (bqs l)=N at PT hcc hcc2 hcap hlt
  generalize qsz k cap=sz at PS PV hq
  obtain ⟨k2,hk2⟩:∃ x:Nat,x=2*k:=⟨_,rfl⟩
  rw [← hk2] at PV w2k
  replace PS:=Lib.hid PS
  replace PV:=Lib.hid PV
  clear hs hin hG hk2
  go_enter Tryz.func150,Tryz.ntmps150
  go_upto_region 1 with (fail)
  have X:Row (w.alloc (.cells #[.int .i64 wd, .int .i64 (k:Nat), .int .i64 (cap:Nat), .int .i64 now, .slice A m c] 56)) w.heap.size 56 #[.int .i64 wd, .int .i64 (k:Nat), .int .i64 (cap:Nat), .int .i64 now, .slice A m c]:=row_new rfl
  have o:Below w.heap.size w (w.alloc (.cells #[.int .i64 wd, .int .i64 (k:Nat), .int .i64 (cap:Nat), .int .i64 now, .slice A m c] 56)):=by (repeat (first | exact Below.refl _ _ | refine Below.setCell ?_ (by (try simp)<;>omega) _ | refine Below.alloc ?_ (by (try simp)<;>omega) _ | refine Below.drew ?_ | refine Below.trans ?_ (Below.mono (by assumption) (by (try simp)<;>omega))))
  generalize (w.alloc (.cells #[.int .i64 wd, .int .i64 (k:Nat), .int .i64 (cap:Nat), .int .i64 now, .slice A m c] 56))=w1 at X o ⊢
  refine wp_region_free0 [0,1,2,3,4,5,6,7,8,9,10,11,12,13,14,15,16,17,18,19,20,21,22,23,24,25,26,27,28,29,30] [] [0,1,2,3,4,5,6,7,8,9,10,11,12,13,14,15,16,17,18,19,20,21,22,23,24,25,26,27,28,29,30] 31 (fun w'=>Below w1.heap.size w1 w') (by kernel_rfl) (by kernel_rfl) (fun _ _ d _ _ h=>by cases d<;>exact h) ?_ ?_
  · exact (Below.refl _ _).drew
  (refine plan_pure ?_ rfl rfl (fun w'=>?_) ?_;rotate_left;(go_simp;try with_reducible rfl);simp only [put9])
  (refine plan_val ?_ rfl rfl rfl (fun w' hS=>?_) ?_;rotate_left;(obtain ⟨X0,X1,X2,X3,X4,Xf0,Xf1,Xf2,Xf3,Xf4⟩:=row_five (row_call X hS);go_simp;try with_reducible rfl);simp only [put9])
  (refine plan_pure ?_ rfl rfl (fun w'=>?_) ?_;rotate_left;(go_simp;try with_reducible rfl);simp only [put9])
  (refine plan_val ?_ rfl rfl rfl (fun w' hS=>?_) ?_;rotate_left;(obtain ⟨X0,X1,X2,X3,X4,Xf0,Xf1,Xf2,Xf3,Xf4⟩:=row_five (row_call X hS);go_simp;try with_reducible rfl);simp only [put9])
  (refine plan_pure ?_ rfl rfl (fun w'=>?_) ?_;rotate_left;(go_simp;try with_reducible rfl);simp only [put9])
  (refine plan_val ?_ rfl rfl rfl (fun w' hS=>?_) ?_;rotate_left;(obtain ⟨X0,X1,X2,X3,X4,Xf0,Xf1,Xf2,Xf3,Xf4⟩:=row_five (row_call X hS);go_simp;try with_reducible rfl);simp only [put9])
  (refine plan_pure ?_ rfl rfl (fun w'=>?_) ?_;rotate_left;(go_simp;try with_reducible rfl);simp only [put9])
  (refine plan_val ?_ rfl rfl rfl (fun w' hS=>?_) ?_;rotate_left;(obtain ⟨X0,X1,X2,X3,X4,Xf0,Xf1,Xf2,Xf3,Xf4⟩:=row_five (row_call X hS);go_simp;try with_reducible rfl);simp only [put9])
  refine plan_call (.bool true) 209 #[.int .i64 wd, .int .i64 (k:Nat), .int .i64 (cap:Nat), .int .i64 now] rfl rfl rfl (fun _ _ h hb=>h.trans (hb.mono h.size)) (fun w' hS=>by obtain ⟨X0,X1,X2,X3,X4,Xf0,Xf1,Xf2,Xf3,Xf4⟩:=row_five (row_call X hS);go_simp) (fun w' hS=>(PG.out w').mono (fun e w'' h=>⟨h.1,by rw [h.2];exact Below.refl _ _⟩)) ?_
  simp only [put9]
  (refine plan_pure ?_ rfl rfl (fun w'=>?_) ?_;rotate_left;(go_simp;try with_reducible rfl);simp only [put9])
  (refine plan_pure ?_ rfl rfl (fun w'=>?_) ?_;rotate_left;(go_simp;try with_reducible rfl);simp only [put9])
  (refine plan_pure ?_ rfl rfl (fun w'=>?_) ?_;rotate_left;(go_simp;try with_reducible rfl);simp only [put9])
  (refine plan_val ?_ rfl rfl rfl (fun w' hS=>?_) ?_;rotate_left;(obtain ⟨X0,X1,X2,X3,X4,Xf0,Xf1,Xf2,Xf3,Xf4⟩:=row_five (row_call X hS);go_simp;try with_reducible rfl);simp only [put9])
  (refine plan_pure ?_ rfl rfl (fun w'=>?_) ?_;rotate_left;(go_simp;try with_reducible rfl);simp only [put9])
  (refine plan_val ?_ rfl rfl rfl (fun w' hS=>?_) ?_;rotate_left;(obtain ⟨X0,X1,X2,X3,X4,Xf0,Xf1,Xf2,Xf3,Xf4⟩:=row_five (row_call X hS);go_simp;try with_reducible rfl);simp only [put9])
  (refine plan_pure ?_ rfl rfl (fun w'=>?_) ?_;rotate_left;(go_simp;try with_reducible rfl);simp only [put9])
  (refine plan_pure ?_ rfl rfl (fun w'=>?_) ?_;rotate_left;(go_simp;try with_reducible rfl);simp only [put9])
  (refine plan_val ?_ rfl rfl rfl (fun w' hS=>?_) ?_;rotate_left;(obtain ⟨X0,X1,X2,X3,X4,Xf0,Xf1,Xf2,Xf3,Xf4⟩:=row_five (row_call X hS);go_simp;try with_reducible rfl);simp only [put9])
  (refine plan_pure ?_ rfl rfl (fun w'=>?_) ?_;rotate_left;(go_simp;try with_reducible rfl);simp only [put9])
  (refine plan_val ?_ rfl rfl rfl (fun w' hS=>?_) ?_;rotate_left;(obtain ⟨X0,X1,X2,X3,X4,Xf0,Xf1,Xf2,Xf3,Xf4⟩:=row_five (row_call X hS);go_simp;try with_reducible rfl);simp only [put9])
  refine plan_call (.int .i64 (sz:Nat)) 226 #[.int .i64 (k:Nat), .int .i64 (cap:Nat)] rfl rfl rfl (fun _ _ h hb=>h.trans (hb.mono h.size)) (fun w' hS=>by obtain ⟨X0,X1,X2,X3,X4,Xf0,Xf1,Xf2,Xf3,Xf4⟩:=row_five (row_call X hS);go_simp) (fun w' hS=>(PS.out w').mono (fun e w'' h=>⟨h.1,by rw [h.2];exact Below.refl _ _⟩)) ?_
  simp only [put9]
  refine plan_call (.bool true) 237 #[.slice A m c, .int .i64 (k2:Nat), .int .i64 (sz:Nat)] rfl rfl rfl (fun _ _ h hb=>h.trans (hb.mono h.size)) (fun w' hS=>by obtain ⟨X0,X1,X2,X3,X4,Xf0,Xf1,Xf2,Xf3,Xf4⟩:=row_five (row_call X hS);go_simp) (fun w' hS=>PV.out _ (o.trans (hS.mono o.size))) ?_
  simp only [put9]
  (refine plan_pure ?_ rfl rfl (fun w'=>?_) ?_;rotate_left;(go_simp;try with_reducible rfl);simp only [put9])
  (refine plan_pure ?_ rfl rfl (fun w'=>?_) ?_;rotate_left;(go_simp;try with_reducible rfl);simp only [put9])
  (refine plan_pure ?_ rfl rfl (fun w'=>?_) ?_;rotate_left;(go_simp;try with_reducible rfl);simp only [put9])
  (refine plan_pure ?_ rfl rfl (fun w'=>?_) ?_;rotate_left;(go_simp;try with_reducible rfl);simp only [put9])
  (refine plan_val ?_ rfl rfl rfl (fun w' hS=>?_) ?_;rotate_left;(obtain ⟨X0,X1,X2,X3,X4,Xf0,Xf1,Xf2,Xf3,Xf4⟩:=row_five (row_call X hS);go_simp;try with_reducible rfl);simp only [put9])
  refine plan_call (.int .i64 (N:Nat)) 224 #[.slice A m c] rfl rfl rfl (fun _ _ h hb=>h.trans (hb.mono h.size)) (fun w' hS=>by obtain ⟨X0,X1,X2,X3,X4,Xf0,Xf1,Xf2,Xf3,Xf4⟩:=row_five (row_call X hS);go_simp) (fun w' hS=>PT.out _ (o.trans (hS.mono o.size))) ?_
  simp only [put9]
  (refine plan_pure ?_ rfl rfl (fun w'=>?_) ?_;rotate_left;(go_simp;try with_reducible rfl);simp only [put9])
  (refine plan_val ?_ rfl rfl rfl (fun w' hS=>?_) ?_;rotate_left;(obtain ⟨X0,X1,X2,X3,X4,Xf0,Xf1,Xf2,Xf3,Xf4⟩:=row_five (row_call X hS);go_simp;try with_reducible rfl);simp only [put9])
  (refine plan_pure ?_ rfl rfl (fun w'=>?_) ?_;rotate_left;(go_simp;try with_reducible rfl);simp only [put9])
  refine plan_nil ?_
  intro w3 L3
  simp only [List.drop_succ_cons,List.drop_zero]
  try simp only [put9]
  replace X:=row_call X L3
  replace o:=o.trans (L3.mono o.size)
  clear L3 PG PV PT PS
  obtain ⟨X0,X1,X2,X3,X4,Xf0,Xf1,Xf2,Xf3,Xf4⟩:=row_five X
  go_wp2
  go_loopw [4,40] (fun _ i wr=>∃ j:Nat,j≤m∧i = .int .i64 (j:Nat)∧Row wr w.heap.size 56 #[.int .i64 wd, .int .i64 (k:Nat), .int .i64 (cap:Nat), .int .i64 now, .slice A m c]∧Below w.heap.size w wr) (fun _ i _=>m-(intOf i).toNat)
  case atStart=>exact ⟨0,Nat.zero_le _,rfl,X,o⟩
  case round =>
    clear X o X0 Xf0 X1 Xf1 X2 Xf2 X3 Xf3 X4 Xf4
    obtain ⟨j,hj,rfl,X,o⟩:=hrel
    by_cases hlt:j<m
    · obtain ⟨ad,rfl,hadb,hi0⟩:=HR.out.reads.bq hlt
      have hi0:=hi0.below o (by rw [block_of_add];exact hadb)
      have jl:j<l.length:=by rw [hlN.out];exact hlt
      have lB:=HS.out.live _ (bq_mem jl)
      have tB:=HS.out.val.tick (bqAt l j).bk (List.mem_map_of_mem (bq_mem jl))
      obtain ⟨⟨tj,lj,vj,us,Aj,cj⟩,hx⟩:∃ x,x=bqAt l j:=⟨_,rfl⟩
      rw [← hx] at hi0 lB tB
      unfold BqCells at hi0
      dsimp only [Bq.bk] at hi0 lB tB
      have PL:=fun w=>plive now wd tj w (by omega) (by omega) (by omega) (by omega) tB.1 lB.2
      rw [decide_eq_true lB.1] at PL
      replace PL:=Lib.hid PL
      generalize us.length=nj at hi0
      obtain ⟨c0,c1,c2,c3,c4⟩:=hi0
      have i1:(j:Int)<(m:Int):=by omega
      have i2:(0:Int)≤(j:Int):=by omega
      have z0:=o.size
      clear jl hx lB tB
      obtain ⟨X0,X1,X2,X3,X4,Xf0,Xf1,Xf2,Xf3,Xf4⟩:=row_five X
      go_upto_region 6 with (fail)
      clear X0 Xf0 X1 Xf1 X2 Xf2 X3 Xf3 X4 Xf4
      have B:Row (wr.alloc (.cells #[.int .i64 tj, .int .i64 lj, .int .i64 (vj:Nat), .int .i64 (nj:Nat), .slice Aj nj cj] 190)) wr.heap.size 190 #[.int .i64 tj, .int .i64 lj, .int .i64 (vj:Nat), .int .i64 (nj:Nat), .slice Aj nj cj]:=row_new rfl
      replace X:=row_alloc X (.cells #[.int .i64 tj, .int .i64 lj, .int .i64 (vj:Nat), .int .i64 (nj:Nat), .slice Aj nj cj] 190)
      replace o:=o.alloc o.size (.cells #[.int .i64 tj, .int .i64 lj, .int .i64 (vj:Nat), .int .i64 (nj:Nat), .slice Aj nj cj] 190)
      clear c0 c1 c2 c3 c4
      generalize wr.alloc (.cells #[.int .i64 tj, .int .i64 lj, .int .i64 (vj:Nat), .int .i64 (nj:Nat), .slice Aj nj cj] 190)=w5 at X B o ⊢
      generalize wr.heap.size=bb at B ⊢
      obtain ⟨B0,B1,B2,B3,B4,Bf0,Bf1,Bf2,Bf3,Bf4⟩:=row_five B
      obtain ⟨X0,X1,X2,X3,X4,Xf0,Xf1,Xf2,Xf3,Xf4⟩:=row_five X
      go_wp2_with (go_at_call 137;with_reducible refine (PL.out _).mono ?_;rintro e w9 ⟨rfl,h9⟩;obtain rfl:=h9.symm)
      go_roundw
      case rel=>exact ⟨j+1,by omega,by go_num,X,o⟩
      case measure=>simp [intOf];omega
    · have i1:¬ (j:Int)<(m:Int):=by omega
      obtain ⟨X0,X1,X2,X3,X4,Xf0,Xf1,Xf2,Xf3,Xf4⟩:=row_five X
      go_wp2
      go_ret
      exact ⟨rfl,o⟩
set_option maxRecDepth 100000 in
theorem pqtnew (wd:Int) (k cap:Nat) (now:Int) (w:World) (h:1≤wd∧wd≤1048576∧1≤k∧k≤64∧1≤cap∧cap≤65536∧0≤now∧now≤16777216):Calls Tryz.prog 119 #[.int .i64 wd, .int .i64 (k:Nat), .int .i64 (cap:Nat), .int .i64 now] w fun e w'=>e = .returned (.tuple #[.agg #[.int .i64 wd, .int .i64 (k:Nat), .int .i64 (cap:Nat), .int .i64 now, .slice none 0 0], .int .i64 0])∧Below w.heap.size w w':=by
  have PG:=Lib.hid (fun w=>pqtgood wd k cap now w h)
  clear h
  go_enter Tryz.func119,Tryz.ntmps119
  go_upto_region 1 with (fail)
  have R:Row (w.alloc (.cells #[.int .i64 0, .int .i64 0, .int .i64 0, .int .i64 0, .slice none 0 0] 56)) w.heap.size 56 #[.int .i64 0, .int .i64 0, .int .i64 0, .int .i64 0, .slice none 0 0]:=row_new rfl
  have o:Below w.heap.size w (w.alloc (.cells #[.int .i64 0, .int .i64 0, .int .i64 0, .int .i64 0, .slice none 0 0] 56)):=by (repeat (first | exact Below.refl _ _ | refine Below.setCell ?_ (by (try simp)<;>omega) _ | refine Below.alloc ?_ (by (try simp)<;>omega) _ | refine Below.drew ?_ | refine Below.trans ?_ (Below.mono (by assumption) (by (try simp)<;>omega))))
  generalize w.alloc (.cells #[.int .i64 0, .int .i64 0, .int .i64 0, .int .i64 0, .slice none 0 0] 56)=w1 at R o ⊢
  go_upto_region 3 with (go_at_call 209;with_reducible refine (PG.out _).mono ?_;rintro e w9 ⟨rfl,h9⟩;obtain rfl:=h9.symm)
  obtain ⟨R0,R1,R2,R3,R4,Rf0,Rf1,Rf2,Rf3,Rf4⟩:=row_five R
  go_wp2
  have Sr0:=row_set R 0 (.int .i64 wd)
  have Sr1:=row_set Sr0 1 (.int .i64 (k:Nat))
  have Sr2:=row_set Sr1 2 (.int .i64 (cap:Nat))
  have Sr3:=row_set Sr2 3 (.int .i64 now)
  have Sr4:=row_set Sr3 4 (.slice none 0 0)
  have o90:=o.setCell (p:=⟨w.heap.size,0,none⟩) (Nat.le_refl _) (.int .i64 wd)
  have o91:=o90.setCell (p:=⟨w.heap.size,1,none⟩) (Nat.le_refl _) (.int .i64 (k:Nat))
  have o92:=o91.setCell (p:=⟨w.heap.size,2,none⟩) (Nat.le_refl _) (.int .i64 (cap:Nat))
  have o93:=o92.setCell (p:=⟨w.heap.size,3,none⟩) (Nat.le_refl _) (.int .i64 now)
  have o94:=o93.setCell (p:=⟨w.heap.size,4,none⟩) (Nat.le_refl _) (.slice none 0 0)
  obtain ⟨S0,S1,S2,S3,S4,_,_,_,_,_⟩:=row_five Sr4
  exact bodyPost_ret (v := .tuple #[.agg #[.int .i64 wd, .int .i64 (k:Nat), .int .i64 (cap:Nat), .int .i64 now, .slice none 0 0], .int .i64 0]) (by simp [results,Tryz.results119,go_sem,S0,S1,S2,S3,S4]) rfl ⟨rfl,o94⟩
def QtRet (P:List Bq→Prop) (cs:Option Addr→Nat→Nat→Array Value) (er:Int) (A0:Option Addr) (m0:Nat) (l0:List Bq) (w:World) (e:Ending) (w':World):Prop :=
  ∃ (A:Option Addr) (m c:Nat) (l:List Bq),e = .returned (.tuple #[.agg (cs A m c), .int .i64 er])∧QIn A m c l w'∧P l∧Below w.heap.size w w'∧∀ g,QB A m l g→w.heap.size≤g∨QB A0 m0 l0 g
def QExp (l:List Bq) (fst:Int) (l':List Bq):Prop:=∃ j,l'=l.drop j∧(∀ b∈l.take j,b.t<fst)∧∀ b∈l.drop j,fst≤b.t
set_option maxRecDepth 100000 in
set_option maxHeartbeats 4000000 in
theorem pqtadv (A:Option Addr) (m c:Nat) (l:List Bq) (wd:Int) (k cap:Nat) (now:Int) (tt:Int) (w:World) (hin:QIn A m c l w) (hs:QtS wd k cap now l) (h1:now≤tt) (h2:tt≤16777216):Calls Tryz.prog 72 #[.agg #[.int .i64 wd, .int .i64 (k:Nat), .int .i64 (cap:Nat), .int .i64 now, .slice A m c], .int .i64 tt] w (QtRet (QExp l (max 0 (tt-wd+1))) (fun A m c=>#[.int .i64 wd, .int .i64 (k:Nat), .int .i64 (cap:Nat), .int .i64 tt, .slice A m c]) 0 A m l w):=by
  have P:=Lib.hid (fun w' (hb:Below w.heap.size w w')=>pqtval A m c l wd k cap now w' (hin.below hb) hs)
  have hln:=hin.len
  have hm:m≤65536:=by have:=tot_len (bqs l);rw [bqs_len] at this;have:=hs.cap;have:=hs.good;omega
  have hG:=hs.good
  obtain ⟨g0,g1,g2,g3,g4,g5,g6,g7⟩:=hs.good
  have PC:=Lib.hid (fun w=>pclk_yes now tt w (by omega) (by omega) h1 h2)
  have PF:=Lib.hid (fun w=>pfirstM tt wd w (by omega) h2 (by omega) (by omega))
  generalize max 0 (tt-wd+1)=fst at PF ⊢
  have PE:=Lib.hid (fun w' (hb:Below w.heap.size w w')=>pqexpire A m c l fst w' (hin.below hb) hs.val.ord (by omega))
  have HLT:=Lib.hid (fun g (hg:QB A m l g)=>hin.lt hg)
  clear hin hs hG
  go_enter Tryz.func72,Tryz.ntmps72
  go_upto_region 1 with (fail)
  have X:Row ((w.alloc (.cells #[.int .i64 wd, .int .i64 (k:Nat), .int .i64 (cap:Nat), .int .i64 now, .slice A m c] 56)).alloc (.cells #[.int .i64 0, .int .i64 0, .int .i64 0, .int .i64 0, .slice none 0 0] 56)) w.heap.size 56 #[.int .i64 wd, .int .i64 (k:Nat), .int .i64 (cap:Nat), .int .i64 now, .slice A m c]:=row_alloc (row_new rfl) _
  have R:Row ((w.alloc (.cells #[.int .i64 wd, .int .i64 (k:Nat), .int .i64 (cap:Nat), .int .i64 now, .slice A m c] 56)).alloc (.cells #[.int .i64 0, .int .i64 0, .int .i64 0, .int .i64 0, .slice none 0 0] 56)) (w.heap.size+1) 56 #[.int .i64 0, .int .i64 0, .int .i64 0, .int .i64 0, .slice none 0 0]:=row_new (by simp)
  have o:Below w.heap.size w ((w.alloc (.cells #[.int .i64 wd, .int .i64 (k:Nat), .int .i64 (cap:Nat), .int .i64 now, .slice A m c] 56)).alloc (.cells #[.int .i64 0, .int .i64 0, .int .i64 0, .int .i64 0, .slice none 0 0] 56)):=by (repeat (first | exact Below.refl _ _ | refine Below.setCell ?_ (by (try simp)<;>omega) _ | refine Below.alloc ?_ (by (try simp)<;>omega) _ | refine Below.drew ?_ | refine Below.trans ?_ (Below.mono (by assumption) (by (try simp)<;>omega))))
  generalize ((w.alloc (.cells #[.int .i64 wd, .int .i64 (k:Nat), .int .i64 (cap:Nat), .int .i64 now, .slice A m c] 56)).alloc (.cells #[.int .i64 0, .int .i64 0, .int .i64 0, .int .i64 0, .slice none 0 0] 56))=w1 at X R o ⊢
  obtain ⟨X0,X1,X2,X3,X4,Xf0,Xf1,Xf2,Xf3,Xf4⟩:=row_five X
  go_wp2_with fail
  refine (P.out _ o).mono ?_
  rintro e w2 ⟨rfl,hb⟩
  replace X:=row_call X hb
  replace R:=row_call R hb
  replace o:=o.trans (hb.mono o.size)
  clear hb P X0 Xf0 X1 Xf1 X2 Xf2 X3 Xf3 X4 Xf4
  obtain ⟨X0,X1,X2,X3,X4,Xf0,Xf1,Xf2,Xf3,Xf4⟩:=row_five X
  go_wp2_with fail
  refine (PC.out _).mono ?_
  rintro e w3 ⟨rfl,hx⟩
  obtain rfl:=hx.symm
  go_upto_region 8 with (fail)
  replace X:=row_set X 3 (.int .i64 tt)
  replace X:Row (w2.setCell ⟨w.heap.size,3,none⟩ (.int .i64 tt)) (w.heap.size) 56 #[.int .i64 wd, .int .i64 (k:Nat), .int .i64 (cap:Nat), .int .i64 tt, .slice A m c]:=X
  replace R:=row_other (p:=⟨w.heap.size,3,none⟩) R (by show w.heap.size+1≠w.heap.size;omega) (.int .i64 tt)
  replace o:=o.setCell (p:=⟨w.heap.size,3,none⟩) (Nat.le_refl _) (.int .i64 tt)
  generalize w2.setCell ⟨w.heap.size,3,none⟩ (.int .i64 tt)=w5 at X R o ⊢
  clear X0 Xf0 X1 Xf1 X2 Xf2 X3 Xf3 X4 Xf4 PC
  refine wp_region_phase 7 (fun w'=>Row w' (w.heap.size) 56 #[.int .i64 wd, .int .i64 (k:Nat), .int .i64 (cap:Nat), .int .i64 tt, .slice A m c]∧Row w' (w.heap.size+1) 56 #[.int .i64 0, .int .i64 0, .int .i64 0, .int .i64 0, .slice none 0 0]∧Below w.heap.size w w') (by kernel_rfl) (by kernel_rfl) (by kernel_rfl) (by kernel_rfl) (by kernel_rfl) (fun HOK=>?_)
  have HS:=(⟨row_drew X,row_drew R,o.drew⟩:Row w5.drew (w.heap.size) 56 #[.int .i64 wd, .int .i64 (k:Nat), .int .i64 (cap:Nat), .int .i64 tt, .slice A m c]∧Row w5.drew (w.heap.size+1) 56 #[.int .i64 0, .int .i64 0, .int .i64 0, .int .i64 0, .slice none 0 0]∧Below w.heap.size w w5.drew)
  (refine hw_take HOK (i:=0) ?_ rfl (by decide) (by kernel_rfl) (by kernel_rfl) (by exact fun _ _ _ h=>h) (Or.inl ⟨by rfl,fun w' hS=>?_⟩) HS ?_;rotate_left;(go_simp;try with_reducible rfl);simp only [put9])
  (refine hw_take HOK (i:=1) ?_ rfl (by decide) (by kernel_rfl) (by kernel_rfl) (by exact fun _ _ _ h=>h) (Or.inl ⟨by rfl,fun w' hS=>?_⟩) HS ?_;rotate_left;(obtain ⟨X0,X1,X2,X3,X4,Xf0,Xf1,Xf2,Xf3,Xf4⟩:=row_five hS.1;go_simp;try with_reducible rfl);simp only [put9])
  (refine hw_take HOK (i:=2) ?_ rfl (by decide) (by kernel_rfl) (by kernel_rfl) (by exact fun _ _ _ h=>h) (Or.inl ⟨by rfl,fun w' hS=>?_⟩) HS ?_;rotate_left;(go_simp;try with_reducible rfl);simp only [put9])
  (refine hw_take HOK (i:=3) ?_ rfl (by decide) (by kernel_rfl) (by kernel_rfl) (by exact fun _ _ _ h=>h) (Or.inl ⟨by rfl,fun w' hS=>?_⟩) HS ?_;rotate_left;(go_simp;try with_reducible rfl);simp only [put9])
  (refine hw_take HOK (i:=4) ?_ rfl (by decide) (by kernel_rfl) (by kernel_rfl) (by exact fun _ _ _ h=>h) (Or.inl ⟨by rfl,fun w' hS=>?_⟩) HS ?_;rotate_left;(obtain ⟨X0,X1,X2,X3,X4,Xf0,Xf1,Xf2,Xf3,Xf4⟩:=row_five hS.1;go_simp;try with_reducible rfl);simp only [put9])
  replace X:Row w5.drew (w.heap.size) 56 #[.int .i64 wd, .int .i64 (k:Nat), .int .i64 (cap:Nat), .int .i64 tt, .slice A m c]:=X
  replace R:Row w5.drew (w.heap.size+1) 56 #[.int .i64 0, .int .i64 0, .int .i64 0, .int .i64 0, .slice none 0 0]:=R
  replace o:=o.drew
  clear HS
  generalize w5.drew=w6 at X R o ⊢
  refine hw_one (i:=5) rfl (by decide) (by kernel_rfl) (fun K hK=>?_)
  go_simp
  refine (PF.out _).mono ?_
  rintro e wx ⟨rfl,hx⟩
  obtain rfl:=hx.symm
  refine hK _ _ ⟨X,R,o⟩ ?_
  clear hK K
  try simp only [put9]
  refine hw_one (i:=6) rfl (by decide) (by kernel_rfl) (fun K hK=>?_)
  go_simp
  refine (PE.out _ o).mono ?_
  rintro e w7 ⟨g5,c5,j5,m5,rfl,in5,hE1,hE2,hg5,hb5⟩
  have z6:=row_lt R
  have z6':=o.size
  have fr7:=Lib.hid (show ∀ g,QB (some ⟨g5,0,none⟩) m5 (l.drop j5) g→w.heap.size≤g∨QB A m l g from fun g hg=>by
    rcases hg with ⟨_,a,e,rfl⟩ | ⟨b,hb,a,e,rfl⟩
    · cases e
      exact .inl (by show w.heap.size≤g5;omega)
    · exact .inr (.inr ⟨b,List.mem_of_mem_drop hb,a,e,rfl⟩))
  have fr6:∀ g,QB (some ⟨g5,0,none⟩) m5 (l.drop j5) g→g<w.heap.size∨w.heap.size+2≤g:=fun g hg=>by
    rcases hg with ⟨_,a,e,rfl⟩ | ⟨b,hb,a,e,rfl⟩
    · cases e
      exact .inr (by show w.heap.size+2≤g5;omega)
    · exact .inl (HLT.out _ (.inr ⟨b,List.mem_of_mem_drop hb,a,e,rfl⟩))
  have hP5:=Lib.hid (show QExp l fst (l.drop j5) from ⟨j5,rfl,hE1,hE2⟩)
  generalize l.drop j5=l5 at in5 fr6 fr7 hP5
  obtain ⟨A5,hA5⟩:∃ x,x=some (⟨g5,0,none⟩:Addr):=⟨_,rfl⟩
  rw [← hA5] at in5 fr6 fr7 ⊢
  replace X:=row_call X hb5
  replace R:=row_call R hb5
  replace o:=o.trans (hb5.mono o.size)
  refine hK _ _ ⟨X,R,o⟩ ?_
  clear hK K hE1 hE2
  try simp only [put9]
  refine hw_done (by kernel_rfl) ?_
  try simp only [List.drop_succ_cons,List.drop_zero]
  clear HOK hA5
  obtain ⟨X0,X1,X2,X3,X4,Xf0,Xf1,Xf2,Xf3,Xf4⟩:=row_five X
  go_upto_region 9 with (fail)
  replace X:=row_set X 4 (.slice A5 m5 c5)
  replace X:Row (w7.setCell ⟨w.heap.size,4,none⟩ (.slice A5 m5 c5)) (w.heap.size) 56 #[.int .i64 wd, .int .i64 (k:Nat), .int .i64 (cap:Nat), .int .i64 tt, .slice A5 m5 c5]:=X
  replace R:=row_other (p:=⟨w.heap.size,4,none⟩) R (by show w.heap.size+1≠w.heap.size;omega) (.slice A5 m5 c5)
  replace o:=o.setCell (p:=⟨w.heap.size,4,none⟩) (Nat.le_refl _) (.slice A5 m5 c5)
  replace in5:=in5.setc (p:=⟨w.heap.size,4,none⟩) (fun g hg=>by have:=fr6 g hg;show w.heap.size≠g;omega) (.slice A5 m5 c5)
  generalize w7.setCell ⟨w.heap.size,4,none⟩ (.slice A5 m5 c5)=w8 at X R o in5 ⊢
  clear X0 Xf0 X1 Xf1 X2 Xf2 X3 Xf3 X4 Xf4 hb5
  obtain ⟨X0,X1,X2,X3,X4,Xf0,Xf1,Xf2,Xf3,Xf4⟩:=row_five X
  obtain ⟨R0,R1,R2,R3,R4,Rf0,Rf1,Rf2,Rf3,Rf4⟩:=row_five R
  go_wp2
  have Sr0:=row_set R 0 (.int .i64 wd)
  have Sr1:=row_set Sr0 1 (.int .i64 (k:Nat))
  have Sr2:=row_set Sr1 2 (.int .i64 (cap:Nat))
  have Sr3:=row_set Sr2 3 (.int .i64 tt)
  have Sr4:=row_set Sr3 4 (.slice A5 m5 c5)
  have o90:=o.setCell (p:=⟨w.heap.size+1,0,none⟩) (by show w.heap.size≤w.heap.size+1;omega) (.int .i64 wd)
  have o91:=o90.setCell (p:=⟨w.heap.size+1,1,none⟩) (by show w.heap.size≤w.heap.size+1;omega) (.int .i64 (k:Nat))
  have o92:=o91.setCell (p:=⟨w.heap.size+1,2,none⟩) (by show w.heap.size≤w.heap.size+1;omega) (.int .i64 (cap:Nat))
  have o93:=o92.setCell (p:=⟨w.heap.size+1,3,none⟩) (by show w.heap.size≤w.heap.size+1;omega) (.int .i64 tt)
  have o94:=o93.setCell (p:=⟨w.heap.size+1,4,none⟩) (by show w.heap.size≤w.heap.size+1;omega) (.slice A5 m5 c5)
  have b90:=in5.setc (p:=⟨w.heap.size+1,0,none⟩) (fun g hg=>by have:=fr6 g hg;show w.heap.size+1≠g;omega) (.int .i64 wd)
  have b91:=b90.setc (p:=⟨w.heap.size+1,1,none⟩) (fun g hg=>by have:=fr6 g hg;show w.heap.size+1≠g;omega) (.int .i64 (k:Nat))
  have b92:=b91.setc (p:=⟨w.heap.size+1,2,none⟩) (fun g hg=>by have:=fr6 g hg;show w.heap.size+1≠g;omega) (.int .i64 (cap:Nat))
  have b93:=b92.setc (p:=⟨w.heap.size+1,3,none⟩) (fun g hg=>by have:=fr6 g hg;show w.heap.size+1≠g;omega) (.int .i64 tt)
  have b94:=b93.setc (p:=⟨w.heap.size+1,4,none⟩) (fun g hg=>by have:=fr6 g hg;show w.heap.size+1≠g;omega) (.slice A5 m5 c5)
  obtain ⟨S0,S1,S2,S3,S4,_,_,_,_,_⟩:=row_five Sr4
  exact bodyPost_ret (v := .tuple #[.agg #[.int .i64 wd, .int .i64 (k:Nat), .int .i64 (cap:Nat), .int .i64 tt, .slice A5 m5 c5], .int .i64 0]) (by simp [results,Tryz.results72,go_sem,S0,S1,S2,S3,S4]) rfl ⟨A5,m5,c5,l5,rfl,b94,hP5.out,o94,fr7.out⟩
end Go.Proofs.YtdipoojjlddohaaGreat
end
