/- What the law TopSummaries needs, joined of its texts by a program (slim2.py); part 12. -/
import Derived.Test.YtdipoojjlddohaaGreatZTopSummaries1
import Derived.Test.YtdipoojjlddohaaGreatZTopSummaries2
import Derived.Test.YtdipoojjlddohaaGreatZTopSummaries3
import Derived.Test.YtdipoojjlddohaaGreatZTopSummaries6
import Derived.Test.YtdipoojjlddohaaGreatZTopSummaries11
set_option linter.unusedVariables false
set_option linter.unusedSimpArgs false
set_option linter.unusedSectionVars false
set_option linter.unnecessarySimpa false
section
/- Smooth histograms: the clock moved on, walked. -/
namespace Go.Proofs.YtdipoojjlddohaaGreat
open Go.RowKit
theorem pclk_yes (now tt:Int) (w:World) (n0:0≤now) (n1:now≤16777216) (h1:now≤tt) (h2:tt≤16777216):Calls Tryz.prog 157 #[.int .i64 now, .int .i64 tt] w fun e w'=>e = .returned (.tuple #[.int .i64 tt, .int .i64 0])∧w'=w:=by
  have PT:=Lib.hid (fun w=>ptick_2 now w n0 n1)
  clear n0 n1
  go_enter Tryz.func157,Tryz.ntmps157
  go_wp2_with (go_at_call 230;with_reducible refine (PT.out _).mono ?_;rintro e w9 ⟨rfl,h9⟩;obtain rfl:=h9.symm)
  go_ret2
  exact ⟨rfl,rfl⟩
end Go.Proofs.YtdipoojjlddohaaGreat
end
section
/- Histograms of buckets (count): walked. -/
namespace Go.Proofs.YtdipoojjlddohaaGreat
open Go.RowKit
theorem BIn.setc {A:Option Addr} {m c:Nat} {l:List Bk} {w:World} (h:BIn A m c l w) {p:Addr} (hne:∀ a,A=some a→p.block≠a.block) (u:Value):BIn A m c l (w.setCell p u) :=
  ⟨by rw [size_setCell];exact reads_set h.reads (fun a e=>fun x=>hne a e x.symm) u,h.mc,h.cB⟩
theorem row_five {w:World} {b:Nat} {t:TypeId} {x0 x1 x2 x3 x4:Value} (h:Row w b t #[x0,x1,x2,x3,x4]):w.cell? ⟨b,0,none⟩=some x0∧w.cell? ⟨b,1,none⟩=some x1∧w.cell? ⟨b,2,none⟩=some x2∧w.cell? ⟨b,3,none⟩=some x3∧w.cell? ⟨b,4,none⟩=some x4 ∧
    w.frozen? ⟨b,0,none⟩=false∧w.frozen? ⟨b,1,none⟩=false∧w.frozen? ⟨b,2,none⟩=false∧w.frozen? ⟨b,3,none⟩=false∧w.frozen? ⟨b,4,none⟩=false :=
  ⟨row_cell h 0,row_cell h 1,row_cell h 2,row_cell h 3,row_cell h 4,row_free h 0,row_free h 1,row_free h 2,row_free h 3,row_free h 4⟩
theorem pfirstM (now wd:Int) (w:World) (n0:0≤now) (n1:now≤16777216) (d0:1≤wd) (d1:wd≤1048576):Calls Tryz.prog 160 #[.int .i64 now, .int .i64 wd] w fun e w'=>e = .returned (.int .i64 (max 0 (now-wd+1)))∧w'=w:=by
  by_cases h:0≤now-wd+1
  · rw [show max 0 (now-wd+1)=now-wd+1 by omega]
    exact pfirst_yes now wd w n0 n1 d0 d1 h
  · rw [show max 0 (now-wd+1)=0 by omega]
    exact pfirst_no now wd w n0 n1 d0 d1 (by omega)
structure CtS (wd:Int) (k cap:Nat) (now:Int) (l:List Bk):Prop where
  good:1≤wd∧wd≤1048576∧1≤k∧k≤64∧1≤cap∧cap≤65536∧0≤now∧now≤16777216
  val:BV k l
  cap:btot l≤cap
  live:∀ b∈l,now-wd<b.t∧b.t≤now
theorem pctgood (wd:Int) (k cap:Nat) (now:Int) (w:World) (h:1≤wd∧wd≤1048576∧1≤k∧k≤64∧1≤cap∧cap≤65536∧0≤now∧now≤16777216):Calls Tryz.prog 202 #[.int .i64 wd, .int .i64 (k:Nat), .int .i64 (cap:Nat), .int .i64 now] w fun e w'=>e = .returned (.bool true)∧Below w.heap.size w w':=by
  obtain ⟨g0,g1,g2,g3,g4,g5,g6,g7⟩:=h
  have q0:(1:Int)≤wd:=by omega
  have q1:wd≤1048576:=by omega
  have q2:(1:Int)≤(k:Int):=by omega
  have q3:(k:Int)≤64:=by omega
  have q4:(1:Int)≤(cap:Int):=by omega
  have q5:(cap:Int)≤65536:=by omega
  have q6:(0:Int)≤now:=by omega
  have q7:now≤16777216:=by omega
  go_enter Tryz.func202,Tryz.ntmps202
  go_wp2_with fail
  go_ret
  exact ⟨by first | rfl | exact ret_bool (by simp;omega) | exact ret_bool (by simp [*]),Below.refl _ _⟩
set_option maxRecDepth 100000 in
set_option maxHeartbeats 4000000 in
theorem pctval (A:Option Addr) (m c:Nat) (l:List Bk) (wd:Int) (k cap:Nat) (now:Int) (w:World) (hin:BIn A m c l w) (hs:CtS wd k cap now l):Calls Tryz.prog 133 #[.agg #[.int .i64 wd, .int .i64 (k:Nat), .int .i64 (cap:Nat), .int .i64 now, .slice A m c]] w fun e w'=>e = .returned (.int .i64 0)∧Below w.heap.size w w':=by
  have HS:=Lib.hid hs
  have hlN:=Lib.hid hin.len
  have hG:=hs.good
  obtain ⟨g0,g1,g2,g3,g4,g5,g6,g7⟩:=hs.good
  have hlt:=tot_len l
  have hcap:=hs.cap
  have hm:m≤65536:=by have:=hin.len;omega
  have PG:=Lib.hid (fun w=>pctgood wd k cap now w hG)
  have PV:=Lib.hid (fun w' (hb:Below w.heap.size w w')=>pbvalidL A m c l k w' (hin.below hb) hs.val ⟨by omega,by omega⟩ (by omega))
  have PT:=Lib.hid (fun w' (hb:Below w.heap.size w w')=>pbtotal A m c l w' (hin.below hb) hs.val.lev (by omega))
  have HR:=Lib.hid hin
  have hcc:¬ (cap:Int)<(btot l:Int):=by omega
  generalize btot l=N at PT hcc hcap hlt
  clear hs hin hG
  go_enter Tryz.func133,Tryz.ntmps133
  go_upto_region 1 with (fail)
  have X:Row (w.alloc (.cells #[.int .i64 wd, .int .i64 (k:Nat), .int .i64 (cap:Nat), .int .i64 now, .slice A m c] 32)) w.heap.size 32 #[.int .i64 wd, .int .i64 (k:Nat), .int .i64 (cap:Nat), .int .i64 now, .slice A m c]:=row_new rfl
  have o:Below w.heap.size w (w.alloc (.cells #[.int .i64 wd, .int .i64 (k:Nat), .int .i64 (cap:Nat), .int .i64 now, .slice A m c] 32)):=by (repeat (first | exact Below.refl _ _ | refine Below.setCell ?_ (by (try simp)<;>omega) _ | refine Below.alloc ?_ (by (try simp)<;>omega) _ | refine Below.drew ?_ | refine Below.trans ?_ (Below.mono (by assumption) (by (try simp)<;>omega))))
  generalize (w.alloc (.cells #[.int .i64 wd, .int .i64 (k:Nat), .int .i64 (cap:Nat), .int .i64 now, .slice A m c] 32))=w1 at X o ⊢
  refine wp_region_free0 [0,1,2,3,4,5,6,7,8,9,10,11,12,13,14,15,16,17,18,19,20,21,22,23,24] [] [0,1,2,3,4,5,6,7,8,9,10,11,12,13,14,15,16,17,18,19,20,21,22,23,24] 25 (fun w'=>Below w1.heap.size w1 w') (by kernel_rfl) (by kernel_rfl) (fun _ _ d _ _ h=>by cases d<;>exact h) ?_ ?_
  · exact (Below.refl _ _).drew
  (refine plan_pure ?_ rfl rfl (fun w'=>?_) ?_;rotate_left;(go_simp;try with_reducible rfl);simp only [put9])
  (refine plan_val ?_ rfl rfl rfl (fun w' hS=>?_) ?_;rotate_left;(obtain ⟨X0,X1,X2,X3,X4,Xf0,Xf1,Xf2,Xf3,Xf4⟩:=row_five (row_call X hS);go_simp;try with_reducible rfl);simp only [put9])
  (refine plan_pure ?_ rfl rfl (fun w'=>?_) ?_;rotate_left;(go_simp;try with_reducible rfl);simp only [put9])
  (refine plan_val ?_ rfl rfl rfl (fun w' hS=>?_) ?_;rotate_left;(obtain ⟨X0,X1,X2,X3,X4,Xf0,Xf1,Xf2,Xf3,Xf4⟩:=row_five (row_call X hS);go_simp;try with_reducible rfl);simp only [put9])
  (refine plan_pure ?_ rfl rfl (fun w'=>?_) ?_;rotate_left;(go_simp;try with_reducible rfl);simp only [put9])
  (refine plan_val ?_ rfl rfl rfl (fun w' hS=>?_) ?_;rotate_left;(obtain ⟨X0,X1,X2,X3,X4,Xf0,Xf1,Xf2,Xf3,Xf4⟩:=row_five (row_call X hS);go_simp;try with_reducible rfl);simp only [put9])
  (refine plan_pure ?_ rfl rfl (fun w'=>?_) ?_;rotate_left;(go_simp;try with_reducible rfl);simp only [put9])
  (refine plan_val ?_ rfl rfl rfl (fun w' hS=>?_) ?_;rotate_left;(obtain ⟨X0,X1,X2,X3,X4,Xf0,Xf1,Xf2,Xf3,Xf4⟩:=row_five (row_call X hS);go_simp;try with_reducible rfl);simp only [put9])
  refine plan_call (.bool true) 202 #[.int .i64 wd, .int .i64 (k:Nat), .int .i64 (cap:Nat), .int .i64 now] rfl rfl rfl (fun _ _ h hb=>h.trans (hb.mono h.size)) (fun w' hS=>by obtain ⟨X0,X1,X2,X3,X4,Xf0,Xf1,Xf2,Xf3,Xf4⟩:=row_five (row_call X hS);go_simp) (fun w' hS=>PG.out w') ?_
  simp only [put9]
  (refine plan_pure ?_ rfl rfl (fun w'=>?_) ?_;rotate_left;(go_simp;try with_reducible rfl);simp only [put9])
  (refine plan_pure ?_ rfl rfl (fun w'=>?_) ?_;rotate_left;(go_simp;try with_reducible rfl);simp only [put9])
  (refine plan_pure ?_ rfl rfl (fun w'=>?_) ?_;rotate_left;(go_simp;try with_reducible rfl);simp only [put9])
  (refine plan_val ?_ rfl rfl rfl (fun w' hS=>?_) ?_;rotate_left;(obtain ⟨X0,X1,X2,X3,X4,Xf0,Xf1,Xf2,Xf3,Xf4⟩:=row_five (row_call X hS);go_simp;try with_reducible rfl);simp only [put9])
  (refine plan_pure ?_ rfl rfl (fun w'=>?_) ?_;rotate_left;(go_simp;try with_reducible rfl);simp only [put9])
  (refine plan_val ?_ rfl rfl rfl (fun w' hS=>?_) ?_;rotate_left;(obtain ⟨X0,X1,X2,X3,X4,Xf0,Xf1,Xf2,Xf3,Xf4⟩:=row_five (row_call X hS);go_simp;try with_reducible rfl);simp only [put9])
  refine plan_call (.bool true) 227 #[.slice A m c, .int .i64 (k:Nat)] rfl rfl rfl (fun _ _ h hb=>h.trans (hb.mono h.size)) (fun w' hS=>by obtain ⟨X0,X1,X2,X3,X4,Xf0,Xf1,Xf2,Xf3,Xf4⟩:=row_five (row_call X hS);go_simp) (fun w' hS=>PV.out _ (o.trans (hS.mono o.size))) ?_
  simp only [put9]
  (refine plan_pure ?_ rfl rfl (fun w'=>?_) ?_;rotate_left;(go_simp;try with_reducible rfl);simp only [put9])
  (refine plan_pure ?_ rfl rfl (fun w'=>?_) ?_;rotate_left;(go_simp;try with_reducible rfl);simp only [put9])
  (refine plan_pure ?_ rfl rfl (fun w'=>?_) ?_;rotate_left;(go_simp;try with_reducible rfl);simp only [put9])
  (refine plan_pure ?_ rfl rfl (fun w'=>?_) ?_;rotate_left;(go_simp;try with_reducible rfl);simp only [put9])
  (refine plan_val ?_ rfl rfl rfl (fun w' hS=>?_) ?_;rotate_left;(obtain ⟨X0,X1,X2,X3,X4,Xf0,Xf1,Xf2,Xf3,Xf4⟩:=row_five (row_call X hS);go_simp;try with_reducible rfl);simp only [put9])
  refine plan_call (.int .i64 (N:Nat)) 210 #[.slice A m c] rfl rfl rfl (fun _ _ h hb=>h.trans (hb.mono h.size)) (fun w' hS=>by obtain ⟨X0,X1,X2,X3,X4,Xf0,Xf1,Xf2,Xf3,Xf4⟩:=row_five (row_call X hS);go_simp) (fun w' hS=>PT.out _ (o.trans (hS.mono o.size))) ?_
  simp only [put9]
  (refine plan_pure ?_ rfl rfl (fun w'=>?_) ?_;rotate_left;(go_simp;try with_reducible rfl);simp only [put9])
  (refine plan_val ?_ rfl rfl rfl (fun w' hS=>?_) ?_;rotate_left;(obtain ⟨X0,X1,X2,X3,X4,Xf0,Xf1,Xf2,Xf3,Xf4⟩:=row_five (row_call X hS);go_simp;try with_reducible rfl);simp only [put9])
  (refine plan_pure ?_ rfl rfl (fun w'=>?_) ?_;rotate_left;(go_simp;try with_reducible rfl);simp only [put9])
  refine plan_nil ?_
  intro w3 L3
  simp only [List.drop_succ_cons,List.drop_zero]
  try simp only [put9]
  replace X:=row_call X L3
  replace o:=o.trans (L3.mono o.size)
  clear L3 PG PV PT
  have hcc2:¬ cap<N:=by omega
  obtain ⟨X0,X1,X2,X3,X4,Xf0,Xf1,Xf2,Xf3,Xf4⟩:=row_five X
  go_wp2
  go_loopw [4,34] (fun u4 i wr=>∃ j:Nat,j≤m∧i = .int .i64 (j:Nat)∧Row wr w.heap.size 32 #[.int .i64 wd, .int .i64 (k:Nat), .int .i64 (cap:Nat), .int .i64 now, .slice A m c]∧Below w.heap.size w wr) (fun _ i _=>m-(intOf i).toNat)
  case atStart=>exact ⟨0,Nat.zero_le _,rfl,X,o⟩
  case round =>
    clear X o X0 Xf0 X1 Xf1 X2 Xf2 X3 Xf3 X4 Xf4
    obtain ⟨j,hj,rfl,X,o⟩:=hrel
    by_cases hlt:j<m
    · obtain ⟨ad,rfl,hadb,hi0⟩:=HR.out.reads.bk hlt
      obtain ⟨c0,c1⟩:=hi0.below o (by rw [block_of_add];exact hadb)
      have jl:j<l.length:=by rw [hlN.out];exact hlt
      have lB:=HS.out.live _ (bk_mem jl)
      have tB:=HS.out.val.tick _ (bk_mem jl)
      have PL:=fun w=>plive now wd (bkAt l j).t w (by omega) (by omega) (by omega) (by omega) tB.1 lB.2
      rw [decide_eq_true lB.1] at PL
      replace PL:=Lib.hid PL
      generalize (bkAt l j).t=tj at c0 PL tB lB
      generalize (bkAt l j).lv=lv at c1
      have i1:(j:Int)<(m:Int):=by omega
      have i2:(0:Int)≤(j:Int):=by omega
      have z0:=o.size
      clear hi0 jl
      obtain ⟨X0,X1,X2,X3,X4,Xf0,Xf1,Xf2,Xf3,Xf4⟩:=row_five X
      go_upto_region 6 with (fail)
      have B:Row (wr.alloc (.cells #[.int .i64 tj, .int .i64 (lv:Nat)] 318)) wr.heap.size 318 #[.int .i64 tj, .int .i64 (lv:Nat)]:=row_new rfl
      replace X:=row_alloc X (.cells #[.int .i64 tj, .int .i64 (lv:Nat)] 318)
      replace o:=o.alloc o.size (.cells #[.int .i64 tj, .int .i64 (lv:Nat)] 318)
      clear c0 c1 X0 Xf0 X1 Xf1 X2 Xf2 X3 Xf3 X4 Xf4
      generalize wr.alloc (.cells #[.int .i64 tj, .int .i64 (lv:Nat)] 318)=w5 at X B o ⊢
      generalize wr.heap.size=bb at B ⊢
      obtain ⟨X0,X1,X2,X3,X4,Xf0,Xf1,Xf2,Xf3,Xf4⟩:=row_five X
      obtain ⟨B0,B1,_,_⟩:=row_two B
      go_wp2_with (go_at_call 137;with_reducible refine (PL.out _).mono ?_;rintro e w9 ⟨rfl,h9⟩;obtain rfl:=h9.symm)
      go_roundw
      case rel=>exact ⟨j+1,by omega,by go_num,X,o⟩
      case measure=>simp [intOf];omega
    · have i1:¬ (j:Int)<(m:Int):=by omega
      obtain ⟨X0,X1,X2,X3,X4,Xf0,Xf1,Xf2,Xf3,Xf4⟩:=row_five X
      go_wp2
      go_ret
      exact ⟨rfl,o⟩
set_option maxRecDepth 100000 in
theorem pctnew (wd:Int) (k cap:Nat) (now:Int) (w:World) (h:1≤wd∧wd≤1048576∧1≤k∧k≤64∧1≤cap∧cap≤65536∧0≤now∧now≤16777216):Calls Tryz.prog 110 #[.int .i64 wd, .int .i64 (k:Nat), .int .i64 (cap:Nat), .int .i64 now] w fun e w'=>e = .returned (.tuple #[.agg #[.int .i64 wd, .int .i64 (k:Nat), .int .i64 (cap:Nat), .int .i64 now, .slice none 0 0], .int .i64 0])∧Below w.heap.size w w':=by
  have PG:=Lib.hid (fun w=>pctgood wd k cap now w h)
  clear h
  go_enter Tryz.func110,Tryz.ntmps110
  go_upto_region 1 with (fail)
  have R:Row (w.alloc (.cells #[.int .i64 0, .int .i64 0, .int .i64 0, .int .i64 0, .slice none 0 0] 32)) w.heap.size 32 #[.int .i64 0, .int .i64 0, .int .i64 0, .int .i64 0, .slice none 0 0]:=row_new rfl
  have o:Below w.heap.size w (w.alloc (.cells #[.int .i64 0, .int .i64 0, .int .i64 0, .int .i64 0, .slice none 0 0] 32)):=by (repeat (first | exact Below.refl _ _ | refine Below.setCell ?_ (by (try simp)<;>omega) _ | refine Below.alloc ?_ (by (try simp)<;>omega) _ | refine Below.drew ?_ | refine Below.trans ?_ (Below.mono (by assumption) (by (try simp)<;>omega))))
  generalize w.alloc (.cells #[.int .i64 0, .int .i64 0, .int .i64 0, .int .i64 0, .slice none 0 0] 32)=w1 at R o ⊢
  go_wp2_with fail
  refine (PG.out _).mono ?_
  rintro e w2 ⟨rfl,hb⟩
  replace R:=row_call R hb
  replace o:=o.trans (hb.mono o.size)
  clear hb
  obtain ⟨R0,R1,R2,R3,R4,Rf0,Rf1,Rf2,Rf3,Rf4⟩:=row_five R
  go_wp2
  have Sr0:=row_set R 0 (.int .i64 wd)
  have Sr1:=row_set Sr0 1 (.int .i64 (k:Nat))
  have Sr2:=row_set Sr1 2 (.int .i64 (cap:Nat))
  have Sr3:=row_set Sr2 3 (.int .i64 now)
  have Sr4:=row_set Sr3 4 (.slice none 0 0)
  have o90:=o.setCell (p:=⟨w.heap.size,0,none⟩) (Nat.le_refl _) (.int .i64 wd)
  have o91:=o90.setCell (p:=⟨w.heap.size,1,none⟩) (Nat.le_refl _) (.int .i64 (k:Nat))
  have o92:=o91.setCell (p:=⟨w.heap.size,2,none⟩) (Nat.le_refl _) (.int .i64 (cap:Nat))
  have o93:=o92.setCell (p:=⟨w.heap.size,3,none⟩) (Nat.le_refl _) (.int .i64 now)
  have o94:=o93.setCell (p:=⟨w.heap.size,4,none⟩) (Nat.le_refl _) (.slice none 0 0)
  obtain ⟨S0,S1,S2,S3,S4,_,_,_,_,_⟩:=row_five Sr4
  exact bodyPost_ret (v := .tuple #[.agg #[.int .i64 wd, .int .i64 (k:Nat), .int .i64 (cap:Nat), .int .i64 now, .slice none 0 0], .int .i64 0]) (by simp [results,Tryz.results110,go_sem,S0,S1,S2,S3,S4]) rfl ⟨rfl,o94⟩
set_option maxRecDepth 100000 in
theorem pctask (A:Option Addr) (m c:Nat) (l:List Bk) (wd:Int) (k cap:Nat) (now:Int) (w:World) (hin:BIn A m c l w) (hs:CtS wd k cap now l):Calls Tryz.prog 41 #[.agg #[.int .i64 wd, .int .i64 (k:Nat), .int .i64 (cap:Nat), .int .i64 now, .slice A m c]] w fun e w'=>e = .returned (.tuple #[qV (qLo l) (btot l), .int .i64 0])∧Below w.heap.size w w':=by
  have P:=Lib.hid (fun w' (hb:Below w.heap.size w w')=>pctval A m c l wd k cap now w' (hin.below hb) hs)
  have PQ:=fun w' (hb:Below w.heap.size w w')=>pbQuery A m c l w' (hin.below hb) hs.val.lev (by have:=hs.cap;have:=hs.good;omega)
  unfold qV at PQ ⊢
  generalize (qLo l+btot l) / 2=md at PQ ⊢
  generalize qLo l=lo at PQ ⊢
  generalize btot l=N at PQ ⊢
  replace PQ:=Lib.hid PQ
  clear hin hs
  go_enter Tryz.func41,Tryz.ntmps41
  go_upto_region 1 with (fail)
  have X:Row ((w.alloc (.cells #[.int .i64 wd, .int .i64 (k:Nat), .int .i64 (cap:Nat), .int .i64 now, .slice A m c] 32)).alloc (.cells #[.int .i64 0, .int .i64 0, .int .i64 0, .int .i64 0, .int .i64 0, .int .i64 0] 64)) w.heap.size 32 #[.int .i64 wd, .int .i64 (k:Nat), .int .i64 (cap:Nat), .int .i64 now, .slice A m c]:=row_alloc (row_new rfl) _
  have R:Row ((w.alloc (.cells #[.int .i64 wd, .int .i64 (k:Nat), .int .i64 (cap:Nat), .int .i64 now, .slice A m c] 32)).alloc (.cells #[.int .i64 0, .int .i64 0, .int .i64 0, .int .i64 0, .int .i64 0, .int .i64 0] 64)) (w.heap.size+1) 64 #[.int .i64 0, .int .i64 0, .int .i64 0, .int .i64 0, .int .i64 0, .int .i64 0]:=row_new (by simp)
  have o:Below w.heap.size w ((w.alloc (.cells #[.int .i64 wd, .int .i64 (k:Nat), .int .i64 (cap:Nat), .int .i64 now, .slice A m c] 32)).alloc (.cells #[.int .i64 0, .int .i64 0, .int .i64 0, .int .i64 0, .int .i64 0, .int .i64 0] 64)):=by (repeat (first | exact Below.refl _ _ | refine Below.setCell ?_ (by (try simp)<;>omega) _ | refine Below.alloc ?_ (by (try simp)<;>omega) _ | refine Below.drew ?_ | refine Below.trans ?_ (Below.mono (by assumption) (by (try simp)<;>omega))))
  generalize ((w.alloc (.cells #[.int .i64 wd, .int .i64 (k:Nat), .int .i64 (cap:Nat), .int .i64 now, .slice A m c] 32)).alloc (.cells #[.int .i64 0, .int .i64 0, .int .i64 0, .int .i64 0, .int .i64 0, .int .i64 0] 64))=w1 at X R o ⊢
  obtain ⟨X0,X1,X2,X3,X4,Xf0,Xf1,Xf2,Xf3,Xf4⟩:=row_five X
  go_wp2_with fail
  refine (P.out _ o).mono ?_
  rintro e w2 ⟨rfl,hb⟩
  replace X:=row_call X hb
  replace R:=row_call R hb
  replace o:=o.trans (hb.mono o.size)
  clear hb P X0 Xf0 X1 Xf1 X2 Xf2 X3 Xf3 X4 Xf4
  obtain ⟨X0,X1,X2,X3,X4,Xf0,Xf1,Xf2,Xf3,Xf4⟩:=row_five X
  go_wp2_with fail
  refine (PQ.out _ o).mono ?_
  rintro e w3 ⟨rfl,hb⟩
  replace R:=row_call R hb
  replace o:=o.trans (hb.mono o.size)
  clear hb X PQ X0 Xf0 X1 Xf1 X2 Xf2 X3 Xf3 X4 Xf4
  obtain ⟨R0,R1,R2,R3,R4,R5,Rf0,Rf1,Rf2,Rf3,Rf4,Rf5⟩:=row_six R
  go_wp2
  have Sr0:=row_set R 0 (.int .i64 (lo:Nat))
  have Sr1:=row_set Sr0 1 (.int .i64 1)
  have Sr2:=row_set Sr1 2 (.int .i64 (md:Nat))
  have Sr3:=row_set Sr2 3 (.int .i64 1)
  have Sr4:=row_set Sr3 4 (.int .i64 (N:Nat))
  have Sr5:=row_set Sr4 5 (.int .i64 1)
  have o90:=o.setCell (p:=⟨w.heap.size+1,0,none⟩) (by show w.heap.size≤w.heap.size+1;omega) (.int .i64 (lo:Nat))
  have o91:=o90.setCell (p:=⟨w.heap.size+1,1,none⟩) (by show w.heap.size≤w.heap.size+1;omega) (.int .i64 1)
  have o92:=o91.setCell (p:=⟨w.heap.size+1,2,none⟩) (by show w.heap.size≤w.heap.size+1;omega) (.int .i64 (md:Nat))
  have o93:=o92.setCell (p:=⟨w.heap.size+1,3,none⟩) (by show w.heap.size≤w.heap.size+1;omega) (.int .i64 1)
  have o94:=o93.setCell (p:=⟨w.heap.size+1,4,none⟩) (by show w.heap.size≤w.heap.size+1;omega) (.int .i64 (N:Nat))
  have o95:=o94.setCell (p:=⟨w.heap.size+1,5,none⟩) (by show w.heap.size≤w.heap.size+1;omega) (.int .i64 1)
  obtain ⟨S0,S1,S2,S3,S4,S5,_,_,_,_,_,_⟩:=row_six Sr5
  exact bodyPost_ret (v := .tuple #[.agg #[.int .i64 (lo:Nat), .int .i64 1, .int .i64 (md:Nat), .int .i64 1, .int .i64 (N:Nat), .int .i64 1], .int .i64 0]) (by simp [results,Tryz.results41,go_sem,S0,S1,S2,S3,S4,S5]) rfl ⟨rfl,o95⟩
def CtSRet (P:List Bk→Prop) (cs:Option Addr→Nat→Nat→Array Value) (er:Int) (w:World) (e:Ending) (w':World):Prop :=
  ∃ (A:Option Addr) (m c:Nat) (l:List Bk),e = .returned (.tuple #[.agg (cs A m c), .int .i64 er])∧BIn A m c l w'∧P l∧Below w.heap.size w w'∧∀ a,A=some a→w.heap.size≤a.block
set_option maxRecDepth 100000 in
set_option maxHeartbeats 4000000 in
theorem pctadd (A:Option Addr) (m c:Nat) (l:List Bk) (wd:Int) (k cap:Nat) (now:Int) (w:World) (hin:BIn A m c l w) (hs:CtS wd k cap now l) (hf:btot l<cap):Calls Tryz.prog 121 #[.agg #[.int .i64 wd, .int .i64 (k:Nat), .int .i64 (cap:Nat), .int .i64 now, .slice A m c]] w (CtSRet (Ins k l now 1) (fun A m c=>#[.int .i64 wd, .int .i64 (k:Nat), .int .i64 (cap:Nat), .int .i64 now, .slice A m c]) 0 w):=by
  have P:=Lib.hid (fun w' (hb:Below w.heap.size w w')=>pctval A m c l wd k cap now w' (hin.below hb) hs)
  have hln:=hin.len
  have hcp:=hs.cap
  have htl:=tot_len l
  obtain ⟨g0,g1,g2,g3,g4,g5,g6,g7⟩:=hs.good
  have hm:m≤65536:=by omega
  have PT:=Lib.hid (fun w' (hb:Below w.heap.size w w')=>pbtotal A m c l w' (hin.below hb) hs.val.lev (by omega))
  have PI:=Lib.hid (fun w' (hb:Below w.heap.size w w')=>pbIns A m c l k now w' (hin.below hb) hs.val (by omega) (by omega) (by omega) (by omega) (by omega) (fun b hb=>(hs.live b hb).2) (by omega))
  clear htl
  generalize btot l=N at PT hcp hf
  have t1:((N:Int) == (cap:Int))=false:=by simp;omega
  clear hin hs hf
  go_enter Tryz.func121,Tryz.ntmps121
  go_upto_region 1 with (fail)
  have X:Row ((w.alloc (.cells #[.int .i64 wd, .int .i64 (k:Nat), .int .i64 (cap:Nat), .int .i64 now, .slice A m c] 32)).alloc (.cells #[.int .i64 0, .int .i64 0, .int .i64 0, .int .i64 0, .slice none 0 0] 32)) w.heap.size 32 #[.int .i64 wd, .int .i64 (k:Nat), .int .i64 (cap:Nat), .int .i64 now, .slice A m c]:=row_alloc (row_new rfl) _
  have R:Row ((w.alloc (.cells #[.int .i64 wd, .int .i64 (k:Nat), .int .i64 (cap:Nat), .int .i64 now, .slice A m c] 32)).alloc (.cells #[.int .i64 0, .int .i64 0, .int .i64 0, .int .i64 0, .slice none 0 0] 32)) (w.heap.size+1) 32 #[.int .i64 0, .int .i64 0, .int .i64 0, .int .i64 0, .slice none 0 0]:=row_new (by simp)
  have o:Below w.heap.size w ((w.alloc (.cells #[.int .i64 wd, .int .i64 (k:Nat), .int .i64 (cap:Nat), .int .i64 now, .slice A m c] 32)).alloc (.cells #[.int .i64 0, .int .i64 0, .int .i64 0, .int .i64 0, .slice none 0 0] 32)):=by (repeat (first | exact Below.refl _ _ | refine Below.setCell ?_ (by (try simp)<;>omega) _ | refine Below.alloc ?_ (by (try simp)<;>omega) _ | refine Below.drew ?_ | refine Below.trans ?_ (Below.mono (by assumption) (by (try simp)<;>omega))))
  generalize ((w.alloc (.cells #[.int .i64 wd, .int .i64 (k:Nat), .int .i64 (cap:Nat), .int .i64 now, .slice A m c] 32)).alloc (.cells #[.int .i64 0, .int .i64 0, .int .i64 0, .int .i64 0, .slice none 0 0] 32))=w1 at X R o ⊢
  obtain ⟨X0,X1,X2,X3,X4,Xf0,Xf1,Xf2,Xf3,Xf4⟩:=row_five X
  go_wp2_with fail
  refine (P.out _ o).mono ?_
  rintro e w2 ⟨rfl,hb⟩
  replace X:=row_call X hb
  replace R:=row_call R hb
  replace o:=o.trans (hb.mono o.size)
  clear hb P X0 Xf0 X1 Xf1 X2 Xf2 X3 Xf3 X4 Xf4
  obtain ⟨X0,X1,X2,X3,X4,Xf0,Xf1,Xf2,Xf3,Xf4⟩:=row_five X
  go_upto_region 4 with (fail)
  clear X0 Xf0 X1 Xf1 X2 Xf2 X3 Xf3 X4 Xf4
  refine wp_region_free0 [0,1,3,2,4] [] [0,1,2,3,4] 5 (fun w'=>Below w2.heap.size w2 w') (by kernel_rfl) (by kernel_rfl) (fun _ _ d _ _ h=>by cases d<;>exact h) ?_ ?_
  · exact (Below.refl _ _).drew
  (refine plan_pure ?_ rfl rfl (fun w'=>?_) ?_;rotate_left;(go_simp;try with_reducible rfl);simp only [put9])
  (refine plan_val ?_ rfl rfl rfl (fun w' hS=>?_) ?_;rotate_left;(obtain ⟨X0,X1,X2,X3,X4,Xf0,Xf1,Xf2,Xf3,Xf4⟩:=row_five (row_call X hS);go_simp;try with_reducible rfl);simp only [put9])
  (refine plan_pure ?_ rfl rfl (fun w'=>?_) ?_;rotate_left;(go_simp;try with_reducible rfl);simp only [put9])
  refine plan_call (.int .i64 (N:Nat)) 210 #[.slice A m c] rfl rfl rfl (fun _ _ h hb=>h.trans (hb.mono h.size)) (fun w' hS=>by obtain ⟨X0,X1,X2,X3,X4,Xf0,Xf1,Xf2,Xf3,Xf4⟩:=row_five (row_call X hS);go_simp) (fun w' hS=>PT.out _ (o.trans (hS.mono o.size))) ?_
  simp only [put9]
  (refine plan_val ?_ rfl rfl rfl (fun w' hS=>?_) ?_;rotate_left;(obtain ⟨X0,X1,X2,X3,X4,Xf0,Xf1,Xf2,Xf3,Xf4⟩:=row_five (row_call X hS);go_simp;try with_reducible rfl);simp only [put9])
  refine plan_nil ?_
  intro w3 L3
  simp only [List.drop_succ_cons,List.drop_zero]
  try simp only [put9]
  replace X:=row_call X L3
  replace R:=row_call R L3
  replace o:=o.trans (L3.mono o.size)
  clear L3 PT
  obtain ⟨X0,X1,X2,X3,X4,Xf0,Xf1,Xf2,Xf3,Xf4⟩:=row_five X
  go_wp2_with fail
  refine (PI.out _ o).mono ?_
  rintro e w7 ⟨A5,m5,c5,l5,rfl,in5,hP5,hb5,fr5⟩
  have z6:=row_lt R
  have fr6:∀ a,A5=some a→w.heap.size+2≤a.block:=fun a e=>by
    have:=fr5 a e
    omega
  replace X:=row_call X hb5
  replace R:=row_call R hb5
  replace o:=o.trans (hb5.mono o.size)
  clear X0 Xf0 X1 Xf1 X2 Xf2 X3 Xf3 X4 Xf4 hb5 fr5 PI
  obtain ⟨X0,X1,X2,X3,X4,Xf0,Xf1,Xf2,Xf3,Xf4⟩:=row_five X
  go_upto_region 7 with (fail)
  replace X:=row_set X 4 (.slice A5 m5 c5)
  replace X:Row (w7.setCell ⟨w.heap.size,4,none⟩ (.slice A5 m5 c5)) w.heap.size 32 #[.int .i64 wd, .int .i64 (k:Nat), .int .i64 (cap:Nat), .int .i64 now, .slice A5 m5 c5]:=X
  replace R:=row_other (p:=⟨w.heap.size,4,none⟩) R (by show w.heap.size+1≠w.heap.size;omega) (.slice A5 m5 c5)
  replace o:=o.setCell (p:=⟨w.heap.size,4,none⟩) (Nat.le_refl _) (.slice A5 m5 c5)
  replace in5:=in5.setc (p:=⟨w.heap.size,4,none⟩) (fun a e=>by have:=fr6 a e;show w.heap.size≠a.block;omega) (.slice A5 m5 c5)
  generalize w7.setCell ⟨w.heap.size,4,none⟩ (.slice A5 m5 c5)=w8 at X R o in5 ⊢
  clear X0 Xf0 X1 Xf1 X2 Xf2 X3 Xf3 X4 Xf4
  obtain ⟨X0,X1,X2,X3,X4,Xf0,Xf1,Xf2,Xf3,Xf4⟩:=row_five X
  obtain ⟨R0,R1,R2,R3,R4,Rf0,Rf1,Rf2,Rf3,Rf4⟩:=row_five R
  replace hP5:=Lib.hid hP5
  go_wp2
  have Sr0:=row_set R 0 (.int .i64 wd)
  have Sr1:=row_set Sr0 1 (.int .i64 (k:Nat))
  have Sr2:=row_set Sr1 2 (.int .i64 (cap:Nat))
  have Sr3:=row_set Sr2 3 (.int .i64 now)
  have Sr4:=row_set Sr3 4 (.slice A5 m5 c5)
  have o90:=o.setCell (p:=⟨w.heap.size+1,0,none⟩) (by show w.heap.size≤w.heap.size+1;omega) (.int .i64 wd)
  have o91:=o90.setCell (p:=⟨w.heap.size+1,1,none⟩) (by show w.heap.size≤w.heap.size+1;omega) (.int .i64 (k:Nat))
  have o92:=o91.setCell (p:=⟨w.heap.size+1,2,none⟩) (by show w.heap.size≤w.heap.size+1;omega) (.int .i64 (cap:Nat))
  have o93:=o92.setCell (p:=⟨w.heap.size+1,3,none⟩) (by show w.heap.size≤w.heap.size+1;omega) (.int .i64 now)
  have o94:=o93.setCell (p:=⟨w.heap.size+1,4,none⟩) (by show w.heap.size≤w.heap.size+1;omega) (.slice A5 m5 c5)
  have b90:=in5.setc (p:=⟨w.heap.size+1,0,none⟩) (fun a e=>by have:=fr6 a e;show w.heap.size+1≠a.block;omega) (.int .i64 wd)
  have b91:=b90.setc (p:=⟨w.heap.size+1,1,none⟩) (fun a e=>by have:=fr6 a e;show w.heap.size+1≠a.block;omega) (.int .i64 (k:Nat))
  have b92:=b91.setc (p:=⟨w.heap.size+1,2,none⟩) (fun a e=>by have:=fr6 a e;show w.heap.size+1≠a.block;omega) (.int .i64 (cap:Nat))
  have b93:=b92.setc (p:=⟨w.heap.size+1,3,none⟩) (fun a e=>by have:=fr6 a e;show w.heap.size+1≠a.block;omega) (.int .i64 now)
  have b94:=b93.setc (p:=⟨w.heap.size+1,4,none⟩) (fun a e=>by have:=fr6 a e;show w.heap.size+1≠a.block;omega) (.slice A5 m5 c5)
  obtain ⟨S0,S1,S2,S3,S4,_,_,_,_,_⟩:=row_five Sr4
  exact bodyPost_ret (v := .tuple #[.agg #[.int .i64 wd, .int .i64 (k:Nat), .int .i64 (cap:Nat), .int .i64 now, .slice A5 m5 c5], .int .i64 0]) (by simp [results,Tryz.results121,go_sem,S0,S1,S2,S3,S4]) rfl ⟨A5,m5,c5,l5,rfl,b94,hP5.out,o94,fun a e=>by have:=fr6 a e;omega⟩
end Go.Proofs.YtdipoojjlddohaaGreat
end
