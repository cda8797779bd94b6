/- What the law TopRelative needs, joined of its texts by a program (slim2.py); part 24. -/
import Derived.Test.YtdipoojjlddohaaGreatZTopRelative1
import Derived.Test.YtdipoojjlddohaaGreatZTopRelative14
import Derived.Test.YtdipoojjlddohaaGreatZTopRelative16
import Derived.Test.YtdipoojjlddohaaGreatZTopRelative17
import Derived.Test.YtdipoojjlddohaaGreatZTopRelative23
set_option linter.unusedVariables false
set_option linter.unusedSimpArgs false
set_option linter.unusedSectionVars false
set_option linter.unnecessarySimpa false
set_option maxRecDepth 100000
namespace Go.Proofs.YtdipoojjlddohaaGreat
open MC
open MT
open Go.RowKit
theorem BIn.setc {A:Option Addr} {m c:Nat} {l:List Bk} {w:World} (h:BIn A m c l w) {p:Addr} (hne:∀ a,A=some a->p.block≠a.block) (u:Value):BIn A m c l (w.setCell p u) :=
  ⟨by rw [size_setCell];exact reads_set h.reads (fun a e=>fun x=>hne a e x.symm) u,h.mc,h.cB⟩
theorem row_five {w:World} {b:Nat} {t:TypeId} {x0 x1 x2 x3 x4:Value} (h:Row w b t (J21 x0 x1 x2 x3 x4)):w.cell? ⟨b,0,none⟩=some x0/\w.cell? ⟨b,1,none⟩=some x1/\w.cell? ⟨b,2,none⟩=some x2/\w.cell? ⟨b,3,none⟩=some x3/\w.cell? ⟨b,4,none⟩=some x4 /\
    w.frozen? ⟨b,0,none⟩=false/\w.frozen? ⟨b,1,none⟩=false/\w.frozen? ⟨b,2,none⟩=false/\w.frozen? ⟨b,3,none⟩=false/\w.frozen? ⟨b,4,none⟩=false :=
  ⟨row_cell h 0,row_cell h 1,row_cell h 2,row_cell h 3,row_cell h 4,row_free h 0,row_free h 1,row_free h 2,row_free h 3,row_free h 4⟩
theorem pfirstM (now wd:Int) (w:World) (n0:0<=now) (n1:now<=16777216) (d0:1<=wd) (d1:wd<=1048576):Calls Tryz.prog 160 #[now,wd] w (Rd (.int .i64 (max 0 (now-wd+1))) w):=by
  by_cases h:0<=now-wd+1
  · rw [show max 0 (now-wd+1)=now-wd+1 by omega];exact pfirst_yes now wd w n0 n1 d0 d1 h
  · rw [show max 0 (now-wd+1)=0 by omega];exact pfirst_no now wd w n0 n1 d0 d1 (by omega)
structure CtS (wd:Int) (k cap:Nat) (now:Int) (l:List Bk):Prop where
  good:1<=wd/\wd<=1048576/\1<=k/\k<=64/\1<=cap/\cap<=65536/\0<=now/\now<=16777216
  val:BV k l
  cap:btot l<=cap
  live:∀ b∈l,now-wd<b.t/\b.t<=now
theorem pctgood (wd:Int) (k cap:Nat) (now:Int) (w:World) (h:1<=wd/\wd<=1048576/\1<=k/\k<=64/\1<=cap/\cap<=65536/\0<=now/\now<=16777216):Calls Tryz.prog 202 (J25 wd (k:Nat) (cap:Nat) now) w (Rr (.bool true) w):=by
  obtain ⟨g0,g1,g2,g3,g4,g5,g6,g7⟩:=h;have q0:(1:Int)<=wd:=by omega
  have q1:wd<=1048576:=by omega
  have q2:(1:Int)<=(k:Int):=by omega
  have q3:(k:Int)<=64:=by omega
  have q4:(1:Int)<=(cap:Int):=by omega
  have q5:(cap:Int)<=65536:=by omega
  have q6:(0:Int)<=now:=by omega
  have q7:now<=16777216:=by omega
  go_enter Tryz.func202,Tryz.ntmps202;go_wp2_with fail;go_ret;exact ⟨by first | rfl | exact ret_bool (by simp;omega) | exact ret_bool (by simp [*]),Below.refl _ _⟩
set_option maxRecDepth 100000 in
set_option maxHeartbeats 4000000 in
theorem pctval (A:Option Addr) (m c:Nat) (l:List Bk) (wd:Int) (k cap:Nat) (now:Int) (w:World) (hin:BIn A m c l w) (hs:CtS wd k cap now l):Calls Tryz.prog 133 #[.agg (J21 wd (k:Nat) (cap:Nat) now (.slice A m c))] w (Rr (.int .i64 0) w):=by
  have HS:=Lib.hid hs;have hlN:=Lib.hid hin.len;have hG:=hs.good;obtain ⟨g0,g1,g2,g3,g4,g5,g6,g7⟩:=hs.good;have hlt:=tot_len l;have hcap:=hs.cap;have hm:m<=65536:=by have:=hin.len;omega
  have PG:=Lib.hid (fun w=>pctgood wd k cap now w hG);have PV:=Lib.hid (fun w' (hb:Below w w w')=>pbvalidL A m c l k w' (hin.below hb) hs.val ⟨by omega,by omega⟩ (by omega));have PT:=Lib.hid (fun w' (hb:Below w w w')=>pbtotal A m c l w' (hin.below hb) hs.val.lev (by omega));have HR:=Lib.hid hin;have hcc:¬ (cap:Int)<(btot l:Int):=by omega
  generalize btot l=N at PT hcc hcap hlt;clear hs hin hG;go_enter Tryz.func133,Tryz.ntmps133;go_upto_region 1 with (fail)
  have X:Row (w.alloc (.cells (J21 wd (k:Nat) (cap:Nat) now (.slice A m c)) 32)) w.heap.size 32 (J21 wd (k:Nat) (cap:Nat) now (.slice A m c)):=row_new rfl;have o:Below w w (w.alloc (.cells (J21 wd (k:Nat) (cap:Nat) now (.slice A m c)) 32)):=bel9;generalize (w.alloc (.cells (J21 wd (k:Nat) (cap:Nat) now (.slice A m c)) 32))=w1 at X o |-
  refine wp_region_free0 [0,1,2,3,4,5,6,7,8,9,10,11,12,13,14,15,16,17,18,19,20,21,22,23,24] [] [0,1,2,3,4,5,6,7,8,9,10,11,12,13,14,15,16,17,18,19,20,21,22,23,24] 25 (fun w'=>Below w1 w1 w') (by kernel_rfl) (by kernel_rfl) (fun _ _ d _ _ h=>by cases d<;>exact h) ?_ ?_
  · exact (Below.refl _ _).drew
  (refine plp rfl rfl ?_;simp only [put9]);(refine plv rfl rfl rfl (fun w' hS=>by obtain ⟨X0,X1,X2,X3,X4,Xf0,Xf1,Xf2,Xf3,Xf4⟩:=row_five (row_call X hS);exact gs9) ?_;simp only [put9]);(refine plp rfl rfl ?_;simp only [put9]);(refine plv rfl rfl rfl (fun w' hS=>by obtain ⟨X0,X1,X2,X3,X4,Xf0,Xf1,Xf2,Xf3,Xf4⟩:=row_five (row_call X hS);exact gs9) ?_;simp only [put9]);(refine plp rfl rfl ?_;simp only [put9]);(refine plv rfl rfl rfl (fun w' hS=>by obtain ⟨X0,X1,X2,X3,X4,Xf0,Xf1,Xf2,Xf3,Xf4⟩:=row_five (row_call X hS);exact gs9) ?_;simp only [put9]);(refine plp rfl rfl ?_;simp only [put9]);(refine plv rfl rfl rfl (fun w' hS=>by obtain ⟨X0,X1,X2,X3,X4,Xf0,Xf1,Xf2,Xf3,Xf4⟩:=row_five (row_call X hS);exact gs9) ?_;simp only [put9]);refine plan_call (.bool true) 202 (J25 wd (k:Nat) (cap:Nat) now) rfl rfl rfl (fun _ _ h hb=>h.trans (hb.mono h.size)) (fun w' hS=>by obtain ⟨X0,X1,X2,X3,X4,Xf0,Xf1,Xf2,Xf3,Xf4⟩:=row_five (row_call X hS);go_simp) (fun w' hS=>PG.out w') ?_;simp only [put9];iterate 3 (refine plp rfl rfl ?_;simp only [put9])
  (refine plv rfl rfl rfl (fun w' hS=>by obtain ⟨X0,X1,X2,X3,X4,Xf0,Xf1,Xf2,Xf3,Xf4⟩:=row_five (row_call X hS);exact gs9) ?_;simp only [put9]);(refine plp rfl rfl ?_;simp only [put9]);(refine plv rfl rfl rfl (fun w' hS=>by obtain ⟨X0,X1,X2,X3,X4,Xf0,Xf1,Xf2,Xf3,Xf4⟩:=row_five (row_call X hS);exact gs9) ?_;simp only [put9]);refine plan_call (.bool true) 227 #[.slice A m c, .int .i64 (k:Nat)] rfl rfl rfl (fun _ _ h hb=>h.trans (hb.mono h.size)) (fun w' hS=>by obtain ⟨X0,X1,X2,X3,X4,Xf0,Xf1,Xf2,Xf3,Xf4⟩:=row_five (row_call X hS);go_simp) (fun w' hS=>PV.out _ (o.trans (hS.mono o.size))) ?_;simp only [put9];iterate 4 (refine plp rfl rfl ?_;simp only [put9])
  (refine plv rfl rfl rfl (fun w' hS=>by obtain ⟨X0,X1,X2,X3,X4,Xf0,Xf1,Xf2,Xf3,Xf4⟩:=row_five (row_call X hS);exact gs9) ?_;simp only [put9]);refine plan_call (.int .i64 (N:Nat)) 210 #[.slice A m c] rfl rfl rfl (fun _ _ h hb=>h.trans (hb.mono h.size)) (fun w' hS=>by obtain ⟨X0,X1,X2,X3,X4,Xf0,Xf1,Xf2,Xf3,Xf4⟩:=row_five (row_call X hS);go_simp) (fun w' hS=>PT.out _ (o.trans (hS.mono o.size))) ?_;simp only [put9];(refine plp rfl rfl ?_;simp only [put9]);(refine plv rfl rfl rfl (fun w' hS=>by obtain ⟨X0,X1,X2,X3,X4,Xf0,Xf1,Xf2,Xf3,Xf4⟩:=row_five (row_call X hS);exact gs9) ?_;simp only [put9]);(refine plp rfl rfl ?_;simp only [put9]);refine plan_nil ?_;intro w3 L3;simp only [List.drop_succ_cons,List.drop_zero];try simp only [put9]
  replace X:=row_call X L3;replace o:=o.trans (L3.mono o.size);clear L3 PG PV PT;have hcc2:¬ cap<N:=by omega
  obtain ⟨X0,X1,X2,X3,X4,Xf0,Xf1,Xf2,Xf3,Xf4⟩:=row_five X;go_wp2;go_loopw [4,34] (fun u4 i wr=>∃ j:Nat,j<=m/\i = .int .i64 (j:Nat)/\Row wr w 32 (J21 wd (k:Nat) (cap:Nat) now (.slice A m c))/\Below w w wr) (fun _ i _=>m-(intOf i).toNat)
  case atStart=>exact ⟨0,Nat.zero_le _,rfl,X,o⟩
  case round =>
    clear X o X0 Xf0 X1 Xf1 X2 Xf2 X3 Xf3 X4 Xf4;obtain ⟨j,hj,rfl,X,o⟩:=hrel;by_cases hlt:j<m
    · obtain ⟨ad,rfl,hadb,hi0⟩:=HR.out.reads.bk hlt;obtain ⟨c0,c1⟩:=hi0.below o (by rw [block_of_add];exact hadb);have jl:j<l.length:=by rw [hlN.out];exact hlt
      have lB:=HS.out.live _ (bk_mem jl);have tB:=HS.out.val.tick _ (bk_mem jl);have PL:=fun w=>plive now wd (bkAt l j).t w (by omega) (by omega) (by omega) (by omega) tB.1 lB.2;rw [decide_eq_true lB.1] at PL;replace PL:=Lib.hid PL;generalize (bkAt l j).t=tj at c0 PL tB lB;generalize (bkAt l j).lv=lv at c1;have i1:(j:Int)<(m:Int):=by omega
      have i2:(0:Int)<=(j:Int):=by omega
      have z0:=o.size;clear hi0 jl;obtain ⟨X0,X1,X2,X3,X4,Xf0,Xf1,Xf2,Xf3,Xf4⟩:=row_five X;go_upto_region 6 with (fail)
      have B:Row (wr.alloc (.cells #[tj, .int .i64 (lv:Nat)] 318)) wr.heap.size 318 #[tj, .int .i64 (lv:Nat)]:=row_new rfl;replace X:=row_alloc X (.cells #[tj, .int .i64 (lv:Nat)] 318);replace o:=o.alloc o.size (.cells #[tj, .int .i64 (lv:Nat)] 318);clear c0 c1 X0 Xf0 X1 Xf1 X2 Xf2 X3 Xf3 X4 Xf4;generalize wr.alloc (.cells #[tj, .int .i64 (lv:Nat)] 318)=w5 at X B o |-
      generalize wr.heap.size=bb at B |-
      obtain ⟨X0,X1,X2,X3,X4,Xf0,Xf1,Xf2,Xf3,Xf4⟩:=row_five X;obtain ⟨B0,B1,_,_⟩:=row_two B;go_wp2_with (go_at_call 137;with_reducible refine (PL.out _).mono ?_;rintro e w9 ⟨rfl,h9⟩;obtain rfl:=h9.symm);go_roundw
      case rel=>exact ⟨j+1,by omega,by go_num,X,o⟩
      case measure=>simp [intOf];omega
    · have i1:¬ (j:Int)<(m:Int):=by omega
      obtain ⟨X0,X1,X2,X3,X4,Xf0,Xf1,Xf2,Xf3,Xf4⟩:=row_five X;go_wp2;go_ret;exact ⟨rfl,o⟩
set_option maxRecDepth 100000 in
theorem pctnew (wd : Int) (k cap : Nat) (now : Int) (w : World) (h : 1 <= wd /\ wd <= 1048576 /\ 1 <= k /\ k <= 64 /\ 1 <= cap /\ cap <= 65536 /\ 0 <= now /\ now <= 16777216) : Calls Tryz.prog 110 (J25 wd (k : Nat) (cap : Nat) now) w (Rr (.tuple #[.agg #[wd, .int .i64 (k : Nat), .int .i64 (cap : Nat), now,""], .int .i64 0]) w) := by
  have PG:=Lib.hid (fun w=>pctgood wd k cap now w h);clear h;go_enter Tryz.func110,Tryz.ntmps110;go_upto_region 1 with (fail)
  have R:Row (w.alloc (.cells J35 32)) w.heap.size 32 J35:=row_new rfl;have o:Below w w (w.alloc (.cells J35 32)):=bel9;generalize w.alloc (.cells J35 32)=w1 at R o |-
  go_wp2_with fail;refine (PG.out _).mono ?_;rintro e w2 ⟨rfl,hb⟩;replace R:=row_call R hb;replace o:=o.trans (hb.mono o.size);clear hb;cases r5 R;go_wp2;have Sr0:=row_set R 0 (.int .i64 wd);have Sr1:=row_set Sr0 1 (.int .i64 (k:Nat));have Sr2:=row_set Sr1 2 (.int .i64 (cap:Nat));have Sr3:=row_set Sr2 3 (.int .i64 now);have Sr4:=row_set Sr3 4 (.slice none 0 0);have o90:=o.setCell (p:=⟨w,0,none⟩) (Nat.le_refl _) (.int .i64 wd);have o91:=o90.setCell (p:=⟨w,1,none⟩) (Nat.le_refl _) (.int .i64 (k:Nat));have o92:=o91.setCell (p:=⟨w,2,none⟩) (Nat.le_refl _) (.int .i64 (cap:Nat));have o93:=o92.setCell (p:=⟨w,3,none⟩) (Nat.le_refl _) (.int .i64 now);have o94:=o93.setCell (p:=⟨w,4,none⟩) (Nat.le_refl _) (.slice none 0 0);obtain ⟨S0,S1,S2,S3,S4,_,_,_,_,_⟩:=row_five Sr4;exact bodyPost_ret (v := .tuple #[.agg #[wd, .int .i64 (k : Nat), .int .i64 (cap : Nat), now,""], .int .i64 0]) (by simp [results, Tryz.results110, go_sem, S0, S1, S2, S3, S4]) rfl ⟨rfl, o94⟩
set_option maxRecDepth 100000 in
theorem pctask (A:Option Addr) (m c:Nat) (l:List Bk) (wd:Int) (k cap:Nat) (now:Int) (w:World) (hin:BIn A m c l w) (hs:CtS wd k cap now l):Calls Tryz.prog 41 #[.agg (J21 wd (k:Nat) (cap:Nat) now (.slice A m c))] w (Rr (.tuple #[qV (qLo l) (btot l),()]) w):=by
  have P:=Lib.hid (fun w' (hb:Below w w w')=>pctval A m c l wd k cap now w' (hin.below hb) hs);have PQ:=fun w' (hb:Below w w w')=>pbQuery A m c l w' (hin.below hb) hs.val.lev (by have:=hs.cap;have:=hs.good;omega);unfold qV at PQ |-
  generalize (qLo l+btot l) / 2=md at PQ |-
  generalize qLo l=lo at PQ |-
  generalize btot l=N at PQ |-
  replace PQ:=Lib.hid PQ;clear hin hs;go_enter Tryz.func41,Tryz.ntmps41;go_upto_region 1 with (fail)
  have X:Row ((w.alloc (.cells (J21 wd (k:Nat) (cap:Nat) now (.slice A m c)) 32)).alloc (.cells J29 64)) w.heap.size 32 (J21 wd (k:Nat) (cap:Nat) now (.slice A m c)):=row_alloc (row_new rfl) _;have R:Row ((w.alloc (.cells (J21 wd (k:Nat) (cap:Nat) now (.slice A m c)) 32)).alloc (.cells J29 64)) (w.heap.size+1) 64 J29:=row_new (by simp);have o:Below w w ((w.alloc (.cells (J21 wd (k:Nat) (cap:Nat) now (.slice A m c)) 32)).alloc (.cells J29 64)):=bel9;generalize ((w.alloc (.cells (J21 wd (k:Nat) (cap:Nat) now (.slice A m c)) 32)).alloc (.cells J29 64))=w1 at X R o |-
  obtain ⟨X0,X1,X2,X3,X4,Xf0,Xf1,Xf2,Xf3,Xf4⟩:=row_five X;go_wp2_with fail;refine (P.out _ o).mono ?_;rintro e w2 ⟨rfl,hb⟩;replace X:=row_call X hb;replace R:=row_call R hb;replace o:=o.trans (hb.mono o.size);clear hb P X0 Xf0 X1 Xf1 X2 Xf2 X3 Xf3 X4 Xf4;obtain ⟨X0,X1,X2,X3,X4,Xf0,Xf1,Xf2,Xf3,Xf4⟩:=row_five X;go_wp2_with fail;refine (PQ.out _ o).mono ?_;rintro e w3 ⟨rfl,hb⟩;replace R:=row_call R hb;replace o:=o.trans (hb.mono o.size);clear hb X PQ X0 Xf0 X1 Xf1 X2 Xf2 X3 Xf3 X4 Xf4;cases r6 R;go_wp2;have Sr0:=row_set R 0 (.int .i64 (lo:Nat));have Sr1:=row_set Sr0 1 (.int .i64 1);have Sr2:=row_set Sr1 2 (.int .i64 (md:Nat));have Sr3:=row_set Sr2 3 (.int .i64 1);have Sr4:=row_set Sr3 4 (.int .i64 (N:Nat));have Sr5:=row_set Sr4 5 (.int .i64 1);have o90:=o.setCell (p:=⟨w.heap.size+1,0,none⟩) (by show w.heap.size<=w.heap.size+1;omega) (.int .i64 (lo:Nat));have o91:=o90.setCell (p:=⟨w.heap.size+1,1,none⟩) (by show w.heap.size<=w.heap.size+1;omega) (.int .i64 1);have o92:=o91.setCell (p:=⟨w.heap.size+1,2,none⟩) (by show w.heap.size<=w.heap.size+1;omega) (.int .i64 (md:Nat));have o93:=o92.setCell (p:=⟨w.heap.size+1,3,none⟩) (by show w.heap.size<=w.heap.size+1;omega) (.int .i64 1);have o94:=o93.setCell (p:=⟨w.heap.size+1,4,none⟩) (by show w.heap.size<=w.heap.size+1;omega) (.int .i64 (N:Nat));have o95:=o94.setCell (p:=⟨w.heap.size+1,5,none⟩) (by show w.heap.size<=w.heap.size+1;omega) (.int .i64 1);obtain ⟨S0,S1,S2,S3,S4,S5,_,_,_,_,_,_⟩:=row_six Sr5;exact bodyPost_ret (v := .tuple #[.agg (J30 (lo:Nat) (md:Nat) (N:Nat)),()]) (by simp [results,Tryz.results41,go_sem,S0,S1,S2,S3,S4,S5]) rfl ⟨rfl,o95⟩
def CtSRet (P:List Bk->Prop) (cs:Option Addr->Nat->Nat->Array Value) (er:Int) (w:World) (e:Ending) (w':World):Prop :=
  ∃ (A:Option Addr) (m c:Nat) (l:List Bk),e = .returned (.tuple #[.agg (cs A m c),er])/\BIn A m c l w'/\P l/\Below w w w'/\∀ a,A=some a->w.heap.size<=a.block
set_option maxRecDepth 100000 in
set_option maxHeartbeats 4000000 in
theorem pctadv (A:Option Addr) (m c:Nat) (l:List Bk) (wd:Int) (k cap:Nat) (now:Int) (tt:Int) (w:World) (hin:BIn A m c l w) (hs:CtS wd k cap now l) (h1:now<=tt) (h2:tt<=16777216):Calls Tryz.prog 65 #[.agg (J21 wd (k:Nat) (cap:Nat) now (.slice A m c)),tt] w (CtSRet (ExpP l (max 0 (tt-wd+1))) (fun A m c=>(J21 wd (k:Nat) (cap:Nat) tt (.slice A m c))) 0 w):=by
  have P:=Lib.hid (fun w' (hb:Below w w w')=>pctval A m c l wd k cap now w' (hin.below hb) hs);have hln:=hin.len;have hm:m<=65536:=by have:=tot_len l;have:=hs.cap;have:=hs.good;omega
  have hG:=hs.good;obtain ⟨g0,g1,g2,g3,g4,g5,g6,g7⟩:=hs.good;have PC:=Lib.hid (fun w=>pclk_yes now tt w (by omega) (by omega) h1 h2);have PF:=Lib.hid (fun w=>pfirstM tt wd w (by omega) h2 (by omega) (by omega));generalize max 0 (tt-wd+1)=fst at PF |-
  have PE:=Lib.hid (fun w' (hb:Below w w w')=>pbExpire A m c l fst w' (hin.below hb) hs.val.ord (by omega));clear hin hs hG;go_enter Tryz.func65,Tryz.ntmps65;go_upto_region 1 with (fail)
  have X:Row ((w.alloc (.cells (J21 wd (k:Nat) (cap:Nat) now (.slice A m c)) 32)).alloc (.cells J35 32)) w.heap.size 32 (J21 wd (k:Nat) (cap:Nat) now (.slice A m c)):=row_alloc (row_new rfl) _;have R:Row ((w.alloc (.cells (J21 wd (k:Nat) (cap:Nat) now (.slice A m c)) 32)).alloc (.cells J35 32)) (w.heap.size+1) 32 J35:=row_new (by simp);have o:Below w w ((w.alloc (.cells (J21 wd (k:Nat) (cap:Nat) now (.slice A m c)) 32)).alloc (.cells J35 32)):=bel9;generalize ((w.alloc (.cells (J21 wd (k:Nat) (cap:Nat) now (.slice A m c)) 32)).alloc (.cells J35 32))=w1 at X R o |-
  obtain ⟨X0,X1,X2,X3,X4,Xf0,Xf1,Xf2,Xf3,Xf4⟩:=row_five X;go_wp2_with fail;refine (P.out _ o).mono ?_;rintro e w2 ⟨rfl,hb⟩;replace X:=row_call X hb;replace R:=row_call R hb;replace o:=o.trans (hb.mono o.size);clear hb P X0 Xf0 X1 Xf1 X2 Xf2 X3 Xf3 X4 Xf4;obtain ⟨X0,X1,X2,X3,X4,Xf0,Xf1,Xf2,Xf3,Xf4⟩:=row_five X;go_wp2_with fail;refine (PC.out _).mono ?_;rintro e w3 ⟨rfl,hx⟩;obtain rfl:=hx.symm;go_upto_region 8 with (fail)
  replace X:=row_set X 3 (.int .i64 tt);replace X:Row (w2.setCell ⟨w,3,none⟩ (.int .i64 tt)) w.heap.size 32 (J21 wd (k:Nat) (cap:Nat) tt (.slice A m c)):=X;replace R:=row_other (p:=⟨w,3,none⟩) R (by show w.heap.size+1≠w.heap.size;omega) (.int .i64 tt);replace o:=o.setCell (p:=⟨w,3,none⟩) (Nat.le_refl _) (.int .i64 tt);generalize w2.setCell ⟨w,3,none⟩ (.int .i64 tt)=w5 at X R o |-
  clear X0 Xf0 X1 Xf1 X2 Xf2 X3 Xf3 X4 Xf4 PC;refine wp_region_phase 7 (fun w'=>Row w' w 32 (J21 wd (k:Nat) (cap:Nat) tt (.slice A m c))/\Row w' (w.heap.size+1) 32 J35/\Below w w w') (by kernel_rfl) (by kernel_rfl) (by kernel_rfl) (by kernel_rfl) (by kernel_rfl) (fun HOK=>?_);have HS:=(⟨row_drew X,row_drew R,o.drew⟩:Row w5.drew w.heap.size 32 (J21 wd (k:Nat) (cap:Nat) tt (.slice A m c))/\Row w5.drew (w.heap.size+1) 32 J35/\Below w w w5.drew)
  (refine hwt HOK 0 HS rfl (fun w' hS=>gs9) ?_;simp only [put9]);(refine hwt HOK 1 HS rfl (fun w' hS=>by obtain ⟨X0,X1,X2,X3,X4,Xf0,Xf1,Xf2,Xf3,Xf4⟩:=row_five hS.1;exact gs9) ?_;simp only [put9]);(refine hwt HOK 2 HS rfl (fun w' hS=>gs9) ?_;simp only [put9]);(refine hwt HOK 3 HS rfl (fun w' hS=>gs9) ?_;simp only [put9]);(refine hwt HOK 4 HS rfl (fun w' hS=>by obtain ⟨X0,X1,X2,X3,X4,Xf0,Xf1,Xf2,Xf3,Xf4⟩:=row_five hS.1;exact gs9) ?_;simp only [put9]);replace X:Row w5.drew w.heap.size 32 (J21 wd (k:Nat) (cap:Nat) tt (.slice A m c)):=X;replace R:Row w5.drew (w.heap.size+1) 32 J35:=R;replace o:=o.drew;clear HS;generalize w5.drew=w6 at X R o |-
  refine hw_one (i:=5) rfl (by decide) (by kernel_rfl) (fun K hK=>?_);go_simp;refine (PF.out _).mono ?_;rintro e wx ⟨rfl,hx⟩;obtain rfl:=hx.symm;refine hK _ _ ⟨X,R,o⟩ ?_;clear hK K;try simp only [put9]
  refine hw_one (i:=6) rfl (by decide) (by kernel_rfl) (fun K hK=>?_);go_simp;refine (PE.out _ o).mono ?_;rintro e w7 ⟨A5,m5,c5,l5,rfl,in5,hP5,hb5,fr5⟩;have z6:=row_lt R
  have fr6:∀ a,A5=some a->w.heap.size+2<=a.block:=fun a e=>by
    have:=fr5 a e;omega
  replace X:=row_call X hb5;replace R:=row_call R hb5;replace o:=o.trans (hb5.mono o.size);refine hK _ _ ⟨X,R,o⟩ ?_;clear hK K;try simp only [put9]
  refine hw_done (by kernel_rfl) ?_;try simp only [List.drop_succ_cons,List.drop_zero]
  clear HOK;obtain ⟨X0,X1,X2,X3,X4,Xf0,Xf1,Xf2,Xf3,Xf4⟩:=row_five X;go_upto_region 9 with (fail)
  replace X:=row_set X 4 (.slice A5 m5 c5);replace X:Row (w7.setCell ⟨w,4,none⟩ (.slice A5 m5 c5)) w.heap.size 32 (J21 wd (k:Nat) (cap:Nat) tt (.slice A5 m5 c5)):=X;replace R:=row_other (p:=⟨w,4,none⟩) R (by show w.heap.size+1≠w.heap.size;omega) (.slice A5 m5 c5);replace o:=o.setCell (p:=⟨w,4,none⟩) (Nat.le_refl _) (.slice A5 m5 c5);replace in5:=in5.setc (p:=⟨w,4,none⟩) (fun a e=>by have:=fr6 a e;show w.heap.size≠a.block;omega) (.slice A5 m5 c5);generalize w7.setCell ⟨w,4,none⟩ (.slice A5 m5 c5)=w8 at X R o in5 |-
  clear X0 Xf0 X1 Xf1 X2 Xf2 X3 Xf3 X4 Xf4 hb5;obtain ⟨X0,X1,X2,X3,X4,Xf0,Xf1,Xf2,Xf3,Xf4⟩:=row_five X;cases r5 R;replace hP5:=Lib.hid hP5;go_wp2;have Sr0:=row_set R 0 (.int .i64 wd);have Sr1:=row_set Sr0 1 (.int .i64 (k:Nat));have Sr2:=row_set Sr1 2 (.int .i64 (cap:Nat));have Sr3:=row_set Sr2 3 (.int .i64 tt);have Sr4:=row_set Sr3 4 (.slice A5 m5 c5);have o90:=o.setCell (p:=⟨w.heap.size+1,0,none⟩) (by show w.heap.size<=w.heap.size+1;omega) (.int .i64 wd);have o91:=o90.setCell (p:=⟨w.heap.size+1,1,none⟩) (by show w.heap.size<=w.heap.size+1;omega) (.int .i64 (k:Nat));have o92:=o91.setCell (p:=⟨w.heap.size+1,2,none⟩) (by show w.heap.size<=w.heap.size+1;omega) (.int .i64 (cap:Nat));have o93:=o92.setCell (p:=⟨w.heap.size+1,3,none⟩) (by show w.heap.size<=w.heap.size+1;omega) (.int .i64 tt);have o94:=o93.setCell (p:=⟨w.heap.size+1,4,none⟩) (by show w.heap.size<=w.heap.size+1;omega) (.slice A5 m5 c5);have b90:=in5.setc (p:=⟨w.heap.size+1,0,none⟩) (fun a e=>by have:=fr6 a e;show w.heap.size+1≠a.block;omega) (.int .i64 wd);have b91:=b90.setc (p:=⟨w.heap.size+1,1,none⟩) (fun a e=>by have:=fr6 a e;show w.heap.size+1≠a.block;omega) (.int .i64 (k:Nat));have b92:=b91.setc (p:=⟨w.heap.size+1,2,none⟩) (fun a e=>by have:=fr6 a e;show w.heap.size+1≠a.block;omega) (.int .i64 (cap:Nat));have b93:=b92.setc (p:=⟨w.heap.size+1,3,none⟩) (fun a e=>by have:=fr6 a e;show w.heap.size+1≠a.block;omega) (.int .i64 tt);have b94:=b93.setc (p:=⟨w.heap.size+1,4,none⟩) (fun a e=>by have:=fr6 a e;show w.heap.size+1≠a.block;omega) (.slice A5 m5 c5);obtain ⟨S0,S1,S2,S3,S4,_,_,_,_,_⟩:=row_five Sr4;exact bodyPost_ret (v := .tuple #[.agg (J21 wd (k:Nat) (cap:Nat) tt (.slice A5 m5 c5)),()]) (by simp [results,Tryz.results65,go_sem,S0,S1,S2,S3,S4]) rfl ⟨A5,m5,c5,l5,rfl,b94,hP5.out,o94,fun a e=>by have:=fr6 a e;omega⟩
set_option maxRecDepth 100000 in
set_option maxHeartbeats 4000000 in
theorem pctadd (A:Option Addr) (m c:Nat) (l:List Bk) (wd:Int) (k cap:Nat) (now:Int) (w:World) (hin:BIn A m c l w) (hs:CtS wd k cap now l) (hf:btot l<cap):Calls Tryz.prog 121 #[.agg (J21 wd (k:Nat) (cap:Nat) now (.slice A m c))] w (CtSRet (Ins k l now 1) (fun A m c=>(J21 wd (k:Nat) (cap:Nat) now (.slice A m c))) 0 w):=by
  have P:=Lib.hid (fun w' (hb:Below w w w')=>pctval A m c l wd k cap now w' (hin.below hb) hs);have hln:=hin.len;have hcp:=hs.cap;have htl:=tot_len l;obtain ⟨g0,g1,g2,g3,g4,g5,g6,g7⟩:=hs.good;have hm:m<=65536:=by omega
  have PT:=Lib.hid (fun w' (hb:Below w w w')=>pbtotal A m c l w' (hin.below hb) hs.val.lev (by omega));have PI:=Lib.hid (fun w' (hb:Below w w w')=>pbIns A m c l k now w' (hin.below hb) hs.val (by omega) (by omega) (by omega) (by omega) (by omega) (fun b hb=>(hs.live b hb).2) (by omega));clear htl;generalize btot l=N at PT hcp hf;have t1:((N:Int) == (cap:Int))=false:=by simp;omega
  clear hin hs hf;go_enter Tryz.func121,Tryz.ntmps121;go_upto_region 1 with (fail)
  have X:Row ((w.alloc (.cells (J21 wd (k:Nat) (cap:Nat) now (.slice A m c)) 32)).alloc (.cells J35 32)) w.heap.size 32 (J21 wd (k:Nat) (cap:Nat) now (.slice A m c)):=row_alloc (row_new rfl) _;have R:Row ((w.alloc (.cells (J21 wd (k:Nat) (cap:Nat) now (.slice A m c)) 32)).alloc (.cells J35 32)) (w.heap.size+1) 32 J35:=row_new (by simp);have o:Below w w ((w.alloc (.cells (J21 wd (k:Nat) (cap:Nat) now (.slice A m c)) 32)).alloc (.cells J35 32)):=bel9;generalize ((w.alloc (.cells (J21 wd (k:Nat) (cap:Nat) now (.slice A m c)) 32)).alloc (.cells J35 32))=w1 at X R o |-
  obtain ⟨X0,X1,X2,X3,X4,Xf0,Xf1,Xf2,Xf3,Xf4⟩:=row_five X;go_wp2_with fail;refine (P.out _ o).mono ?_;rintro e w2 ⟨rfl,hb⟩;replace X:=row_call X hb;replace R:=row_call R hb;replace o:=o.trans (hb.mono o.size);clear hb P X0 Xf0 X1 Xf1 X2 Xf2 X3 Xf3 X4 Xf4;obtain ⟨X0,X1,X2,X3,X4,Xf0,Xf1,Xf2,Xf3,Xf4⟩:=row_five X;go_upto_region 4 with (fail)
  clear X0 Xf0 X1 Xf1 X2 Xf2 X3 Xf3 X4 Xf4;refine wp_region_free0 [0,1,3,2,4] [] [0,1,2,3,4] 5 (fun w'=>Below w2 w2 w') (by kernel_rfl) (by kernel_rfl) (fun _ _ d _ _ h=>by cases d<;>exact h) ?_ ?_
  · exact (Below.refl _ _).drew
  (refine plp rfl rfl ?_;simp only [put9]);(refine plv rfl rfl rfl (fun w' hS=>by obtain ⟨X0,X1,X2,X3,X4,Xf0,Xf1,Xf2,Xf3,Xf4⟩:=row_five (row_call X hS);exact gs9) ?_;simp only [put9]);(refine plp rfl rfl ?_;simp only [put9]);refine plan_call (.int .i64 (N:Nat)) 210 #[.slice A m c] rfl rfl rfl (fun _ _ h hb=>h.trans (hb.mono h.size)) (fun w' hS=>by obtain ⟨X0,X1,X2,X3,X4,Xf0,Xf1,Xf2,Xf3,Xf4⟩:=row_five (row_call X hS);go_simp) (fun w' hS=>PT.out _ (o.trans (hS.mono o.size))) ?_;simp only [put9];(refine plv rfl rfl rfl (fun w' hS=>by obtain ⟨X0,X1,X2,X3,X4,Xf0,Xf1,Xf2,Xf3,Xf4⟩:=row_five (row_call X hS);exact gs9) ?_;simp only [put9]);refine plan_nil ?_;intro w3 L3;simp only [List.drop_succ_cons,List.drop_zero];try simp only [put9]
  replace X:=row_call X L3;replace R:=row_call R L3;replace o:=o.trans (L3.mono o.size);clear L3 PT;obtain ⟨X0,X1,X2,X3,X4,Xf0,Xf1,Xf2,Xf3,Xf4⟩:=row_five X;go_wp2_with fail;refine (PI.out _ o).mono ?_;rintro e w7 ⟨A5,m5,c5,l5,rfl,in5,hP5,hb5,fr5⟩;have z6:=row_lt R
  have fr6:∀ a,A5=some a->w.heap.size+2<=a.block:=fun a e=>by
    have:=fr5 a e;omega
  replace X:=row_call X hb5;replace R:=row_call R hb5;replace o:=o.trans (hb5.mono o.size);clear X0 Xf0 X1 Xf1 X2 Xf2 X3 Xf3 X4 Xf4 hb5 fr5 PI;obtain ⟨X0,X1,X2,X3,X4,Xf0,Xf1,Xf2,Xf3,Xf4⟩:=row_five X;go_upto_region 7 with (fail)
  replace X:=row_set X 4 (.slice A5 m5 c5);replace X:Row (w7.setCell ⟨w,4,none⟩ (.slice A5 m5 c5)) w.heap.size 32 (J21 wd (k:Nat) (cap:Nat) now (.slice A5 m5 c5)):=X;replace R:=row_other (p:=⟨w,4,none⟩) R (by show w.heap.size+1≠w.heap.size;omega) (.slice A5 m5 c5);replace o:=o.setCell (p:=⟨w,4,none⟩) (Nat.le_refl _) (.slice A5 m5 c5);replace in5:=in5.setc (p:=⟨w,4,none⟩) (fun a e=>by have:=fr6 a e;show w.heap.size≠a.block;omega) (.slice A5 m5 c5);generalize w7.setCell ⟨w,4,none⟩ (.slice A5 m5 c5)=w8 at X R o in5 |-
  clear X0 Xf0 X1 Xf1 X2 Xf2 X3 Xf3 X4 Xf4;obtain ⟨X0,X1,X2,X3,X4,Xf0,Xf1,Xf2,Xf3,Xf4⟩:=row_five X;cases r5 R;replace hP5:=Lib.hid hP5;go_wp2;have Sr0:=row_set R 0 (.int .i64 wd);have Sr1:=row_set Sr0 1 (.int .i64 (k:Nat));have Sr2:=row_set Sr1 2 (.int .i64 (cap:Nat));have Sr3:=row_set Sr2 3 (.int .i64 now);have Sr4:=row_set Sr3 4 (.slice A5 m5 c5);have o90:=o.setCell (p:=⟨w.heap.size+1,0,none⟩) (by show w.heap.size<=w.heap.size+1;omega) (.int .i64 wd);have o91:=o90.setCell (p:=⟨w.heap.size+1,1,none⟩) (by show w.heap.size<=w.heap.size+1;omega) (.int .i64 (k:Nat));have o92:=o91.setCell (p:=⟨w.heap.size+1,2,none⟩) (by show w.heap.size<=w.heap.size+1;omega) (.int .i64 (cap:Nat));have o93:=o92.setCell (p:=⟨w.heap.size+1,3,none⟩) (by show w.heap.size<=w.heap.size+1;omega) (.int .i64 now);have o94:=o93.setCell (p:=⟨w.heap.size+1,4,none⟩) (by show w.heap.size<=w.heap.size+1;omega) (.slice A5 m5 c5);have b90:=in5.setc (p:=⟨w.heap.size+1,0,none⟩) (fun a e=>by have:=fr6 a e;show w.heap.size+1≠a.block;omega) (.int .i64 wd);have b91:=b90.setc (p:=⟨w.heap.size+1,1,none⟩) (fun a e=>by have:=fr6 a e;show w.heap.size+1≠a.block;omega) (.int .i64 (k:Nat));have b92:=b91.setc (p:=⟨w.heap.size+1,2,none⟩) (fun a e=>by have:=fr6 a e;show w.heap.size+1≠a.block;omega) (.int .i64 (cap:Nat));have b93:=b92.setc (p:=⟨w.heap.size+1,3,none⟩) (fun a e=>by have:=fr6 a e;show w.heap.size+1≠a.block;omega) (.int .i64 now);have b94:=b93.setc (p:=⟨w.heap.size+1,4,none⟩) (fun a e=>by have:=fr6 a e;show w.heap.size+1≠a.block;omega) (.slice A5 m5 c5);obtain ⟨S0,S1,S2,S3,S4,_,_,_,_,_⟩:=row_five Sr4;exact bodyPost_ret (v := .tuple #[.agg (J21 wd (k:Nat) (cap:Nat) now (.slice A5 m5 c5)),()]) (by simp [results,Tryz.results121,go_sem,S0,S1,S2,S3,S4]) rfl ⟨A5,m5,c5,l5,rfl,b94,hP5.out,o94,fun a e=>by have:=fr6 a e;omega⟩
set_option maxRecDepth 100000 in
set_option maxHeartbeats 4000000 in
theorem pctfull (A:Option Addr) (m c:Nat) (l:List Bk) (wd:Int) (k cap:Nat) (now:Int) (w:World) (hin:BIn A m c l w) (hs:CtS wd k cap now l) (hf:¬ btot l<cap):Calls Tryz.prog 121 #[.agg (J21 wd (k:Nat) (cap:Nat) now (.slice A m c))] w (Rr (.tuple #[.agg J35, .int .i64 5]) w):=by
  have P:=Lib.hid (fun w' (hb:Below w w w')=>pctval A m c l wd k cap now w' (hin.below hb) hs);have hln:=hin.len;have hcp:=hs.cap;have htl:=tot_len l;obtain ⟨g0,g1,g2,g3,g4,g5,g6,g7⟩:=hs.good;have hm:m<=65536:=by omega
  have PT:=Lib.hid (fun w' (hb:Below w w w')=>pbtotal A m c l w' (hin.below hb) hs.val.lev (by omega));clear htl;generalize btot l=N at PT hcp hf;have t1:((N:Int) == (cap:Int))=true:=by simp;omega
  clear hin hs hf;go_enter Tryz.func121,Tryz.ntmps121;go_upto_region 1 with (fail)
  have X:Row ((w.alloc (.cells (J21 wd (k:Nat) (cap:Nat) now (.slice A m c)) 32)).alloc (.cells J35 32)) w.heap.size 32 (J21 wd (k:Nat) (cap:Nat) now (.slice A m c)):=row_alloc (row_new rfl) _;have R:Row ((w.alloc (.cells (J21 wd (k:Nat) (cap:Nat) now (.slice A m c)) 32)).alloc (.cells J35 32)) (w.heap.size+1) 32 J35:=row_new (by simp);have o:Below w w ((w.alloc (.cells (J21 wd (k:Nat) (cap:Nat) now (.slice A m c)) 32)).alloc (.cells J35 32)):=bel9;generalize ((w.alloc (.cells (J21 wd (k:Nat) (cap:Nat) now (.slice A m c)) 32)).alloc (.cells J35 32))=w1 at X R o |-
  obtain ⟨X0,X1,X2,X3,X4,Xf0,Xf1,Xf2,Xf3,Xf4⟩:=row_five X;go_wp2_with fail;refine (P.out _ o).mono ?_;rintro e w2 ⟨rfl,hb⟩;replace X:=row_call X hb;replace R:=row_call R hb;replace o:=o.trans (hb.mono o.size);clear hb P X0 Xf0 X1 Xf1 X2 Xf2 X3 Xf3 X4 Xf4;obtain ⟨X0,X1,X2,X3,X4,Xf0,Xf1,Xf2,Xf3,Xf4⟩:=row_five X;go_upto_region 4 with (fail)
  clear X0 Xf0 X1 Xf1 X2 Xf2 X3 Xf3 X4 Xf4;refine wp_region_free0 [0,1,3,2,4] [] [0,1,2,3,4] 5 (fun w'=>Below w2 w2 w') (by kernel_rfl) (by kernel_rfl) (fun _ _ d _ _ h=>by cases d<;>exact h) ?_ ?_
  · exact (Below.refl _ _).drew
  (refine plp rfl rfl ?_;simp only [put9]);(refine plv rfl rfl rfl (fun w' hS=>by obtain ⟨X0,X1,X2,X3,X4,Xf0,Xf1,Xf2,Xf3,Xf4⟩:=row_five (row_call X hS);exact gs9) ?_;simp only [put9]);(refine plp rfl rfl ?_;simp only [put9]);refine plan_call (.int .i64 (N:Nat)) 210 #[.slice A m c] rfl rfl rfl (fun _ _ h hb=>h.trans (hb.mono h.size)) (fun w' hS=>by obtain ⟨X0,X1,X2,X3,X4,Xf0,Xf1,Xf2,Xf3,Xf4⟩:=row_five (row_call X hS);go_simp) (fun w' hS=>PT.out _ (o.trans (hS.mono o.size))) ?_;simp only [put9];(refine plv rfl rfl rfl (fun w' hS=>by obtain ⟨X0,X1,X2,X3,X4,Xf0,Xf1,Xf2,Xf3,Xf4⟩:=row_five (row_call X hS);exact gs9) ?_;simp only [put9]);refine plan_nil ?_;intro w3 L3;simp only [List.drop_succ_cons,List.drop_zero];try simp only [put9]
  replace X:=row_call X L3;replace R:=row_call R L3;replace o:=o.trans (L3.mono o.size);clear L3 PT;cases r5 R;go_wp2;have Sr0:=row_set R 0 (.int .i64 0);have Sr1:=row_set Sr0 1 (.int .i64 0);have Sr2:=row_set Sr1 2 (.int .i64 0);have Sr3:=row_set Sr2 3 (.int .i64 0);have Sr4:=row_set Sr3 4 (.slice none 0 0);have o90:=o.setCell (p:=⟨w.heap.size+1,0,none⟩) (by show w.heap.size<=w.heap.size+1;omega) (.int .i64 0);have o91:=o90.setCell (p:=⟨w.heap.size+1,1,none⟩) (by show w.heap.size<=w.heap.size+1;omega) (.int .i64 0);have o92:=o91.setCell (p:=⟨w.heap.size+1,2,none⟩) (by show w.heap.size<=w.heap.size+1;omega) (.int .i64 0);have o93:=o92.setCell (p:=⟨w.heap.size+1,3,none⟩) (by show w.heap.size<=w.heap.size+1;omega) (.int .i64 0);have o94:=o93.setCell (p:=⟨w.heap.size+1,4,none⟩) (by show w.heap.size<=w.heap.size+1;omega) (.slice none 0 0);obtain ⟨S0,S1,S2,S3,S4,_,_,_,_,_⟩:=row_five Sr4;exact bodyPost_ret (v := .tuple #[.agg J35, .int .i64 5]) (by simp [results,Tryz.results121,go_sem,S0,S1,S2,S3,S4]) rfl ⟨rfl,o94⟩
def exFold (g:Bool) (l:List Itm) (k:Nat):Int:=(l.take k).foldl (fun a x=>if g then max a x.v else min a x.v) (itmAt l 0).v
theorem exFold_step {g:Bool} {l:List Itm} {k:Nat} (h:k<l.length):exFold g l (k+1)=if g then max (exFold g l k) (itmAt l k).v else min (exFold g l k) (itmAt l k).v:=by
  unfold exFold;rw [List.take_succ_eq_append_getElem h,itm_eq h,List.foldl_append];rfl
theorem exFold_is {g:Bool} {l:List Itm}:∀ k,k<=l.length->0<l.length->(∃ x∈l,x.v=exFold g l k)/\(∀ i,i<k->exKey g (itmAt l i).v<=exKey g (exFold g l k))
  | 0,_,h=>⟨⟨itmAt l 0,by rw [<- itm_eq h];exact List.getElem_mem _,rfl⟩,fun i hi=>by omega⟩
  | k+1,hk,h=>by
    obtain ⟨⟨x,hx,e⟩,h2⟩:=exFold_is (g:=g) k (by omega) h;have hm:itmAt l k∈l:=by rw [<- itm_eq (show k<l.length by omega)];exact List.getElem_mem _
    rw [exFold_step (by omega)];cases g
    · simp only [Bool.false_eq_true,if_false,exKey] at h2 |-
      refine ⟨?_,fun i hi=>?_⟩
      · rcases Int.le_total (exFold false l k) (itmAt l k).v with c | c
        · exact ⟨x,hx,by omega⟩
        · exact ⟨_,hm,by omega⟩
      · by_cases e2:i=k
        · rw [e2];omega
        · have:=h2 i (by omega);omega
    · simp only [if_true,exKey] at h2 |-
      refine ⟨?_,fun i hi=>?_⟩
      · rcases Int.le_total (exFold true l k) (itmAt l k).v with c | c
        · exact ⟨_,hm,by omega⟩
        · exact ⟨x,hx,by omega⟩
      · by_cases e2:i=k
        · rw [e2];omega
        · have:=h2 i (by omega);omega
set_option maxRecDepth 100000 in
set_option maxHeartbeats 2000000 in
theorem pleastE0 (A:Option Addr) (c:Nat) (w:World):Calls Tryz.prog 22 #[.slice A 0 c] w (Rr (.tuple #[(), .bool false]) w):=by
  go_enter Tryz.func22,Tryz.ntmps22;go_wp2;exact bodyPost_ret (v := .tuple #[(), .bool false]) (by simp [results,Tryz.results22,go_sem]) rfl ⟨rfl,Below.refl _ _⟩
set_option maxRecDepth 100000 in
set_option maxHeartbeats 2000000 in
theorem pleastE (A:Option Addr) (m c:Nat) (l:List Itm) (w:World) (hr:Reads w w.heap.size 2 A m (icells l)) (h0:0<m) (hmB:m<=1000000):Calls Tryz.prog 22 #[.slice A m c] w (Rr (.tuple #[.int .i64 (exFold false l l.length), .bool true]) w):=by
  have HL:=Lib.hid hr.itm_len;have HR:=Lib.hid hr;obtain ⟨ad,rfl,hadb,hi0⟩:=hr.itm (i:=0) h0;have hi0:ItmCells w ad (itmAt l 0):=hi0;obtain ⟨c0,c1⟩:=hi0;have hz:exFold false l 0=(itmAt l 0).v:=rfl;rw [<- hz] at c1;clear hz hr;have e0:((m:Int) == 0)=false:=by simp;omega
  have e1:(0:Int)<(m:Int):=by omega
  go_enter Tryz.func22,Tryz.ntmps22;go_wp2;clear c0 c1 e0 e1;go_loopw [4,16] (fun u i wr=>∃ k:Nat,k<=m/\i = .int .i64 (k:Nat)/\u = .int .i64 (exFold false l k)/\Below w w wr) (fun _ i _=>m-(intOf i).toNat)
  case atStart=>exact ⟨0,by omega,rfl,rfl,Below.refl _ _⟩
  case round =>
    obtain ⟨k,hk,rfl,rfl,o⟩:=hrel;by_cases hlt:k<m
    · obtain ⟨ad',ea,hadb',ht0⟩:=HR.out.itm hlt;obtain rfl:ad=ad':=by injection ea
      obtain ⟨g0,g1⟩:=ht0.below o (by rw [block_of_add];exact hadb');have hst:=exFold_step (g:=false) (show k<l.length by rw [HL.out];exact hlt);simp only [Bool.false_eq_true,if_false,if_true] at hst;generalize hx0:exFold false l k=x0 at hst;generalize (itmAt l k).v=vk at g1 hst;generalize (itmAt l k).t=tk at g0;replace hst:=Lib.hid hst;have i1:(k:Int)<(m:Int):=by omega
      have i2:(0:Int)<=(k:Int):=by omega
      clear ht0 hx0 ea;go_upto_region 7 with (fail)
      have ti:Row (wr.alloc (.cells #[tk,vk] 90)) wr.heap.size 90 #[tk,vk]:=row_new rfl;replace o:=o.alloc o.size (.cells #[tk,vk] 90);clear g0 g1;generalize wr.alloc (.cells #[tk,vk] 90)=wq at ti o |-
      generalize wr.heap.size=tb at ti |-
      cases r2 ti;go_wp2;go_roundw
      case rel=>exact ⟨k+1,by omega,by go_num,(by rw [hst.out]),o⟩
      case measure=>simp [intOf];omega
    · have i1:¬ (k:Int)<(m:Int):=by omega
      obtain rfl:k=l.length:=by have:=HL.out;omega
      go_wp2;exact bodyPost_ret (v := .tuple #[.int .i64 (exFold false l l.length), .bool true]) (by simp [results,Tryz.results22,go_sem]) rfl ⟨rfl,o⟩
set_option maxRecDepth 100000 in
set_option maxHeartbeats 2000000 in
theorem pgreatE0 (A:Option Addr) (c:Nat) (w:World):Calls Tryz.prog 24 #[.slice A 0 c] w (Rr (.tuple #[(), .bool false]) w):=by
  go_enter Tryz.func24,Tryz.ntmps24;go_wp2;exact bodyPost_ret (v := .tuple #[(), .bool false]) (by simp [results,Tryz.results24,go_sem]) rfl ⟨rfl,Below.refl _ _⟩
set_option maxRecDepth 100000 in
set_option maxHeartbeats 2000000 in
theorem pgreatE (A:Option Addr) (m c:Nat) (l:List Itm) (w:World) (hr:Reads w w.heap.size 2 A m (icells l)) (h0:0<m) (hmB:m<=1000000):Calls Tryz.prog 24 #[.slice A m c] w (Rr (.tuple #[.int .i64 (exFold true l l.length), .bool true]) w):=by
  have HL:=Lib.hid hr.itm_len;have HR:=Lib.hid hr;obtain ⟨ad,rfl,hadb,hi0⟩:=hr.itm (i:=0) h0;have hi0:ItmCells w ad (itmAt l 0):=hi0;obtain ⟨c0,c1⟩:=hi0;have hz:exFold true l 0=(itmAt l 0).v:=rfl;rw [<- hz] at c1;clear hz hr;have e0:((m:Int) == 0)=false:=by simp;omega
  have e1:(0:Int)<(m:Int):=by omega
  go_enter Tryz.func24,Tryz.ntmps24;go_wp2;clear c0 c1 e0 e1;go_loopw [4,16] (fun u i wr=>∃ k:Nat,k<=m/\i = .int .i64 (k:Nat)/\u = .int .i64 (exFold true l k)/\Below w w wr) (fun _ i _=>m-(intOf i).toNat)
  case atStart=>exact ⟨0,by omega,rfl,rfl,Below.refl _ _⟩
  case round =>
    obtain ⟨k,hk,rfl,rfl,o⟩:=hrel;by_cases hlt:k<m
    · obtain ⟨ad',ea,hadb',ht0⟩:=HR.out.itm hlt;obtain rfl:ad=ad':=by injection ea
      obtain ⟨g0,g1⟩:=ht0.below o (by rw [block_of_add];exact hadb');have hst:=exFold_step (g:=true) (show k<l.length by rw [HL.out];exact hlt);simp only [Bool.false_eq_true,if_false,if_true] at hst;generalize hx0:exFold true l k=x0 at hst;generalize (itmAt l k).v=vk at g1 hst;generalize (itmAt l k).t=tk at g0;replace hst:=Lib.hid hst;have i1:(k:Int)<(m:Int):=by omega
      have i2:(0:Int)<=(k:Int):=by omega
      clear ht0 hx0 ea;go_upto_region 7 with (fail)
      have ti:Row (wr.alloc (.cells #[tk,vk] 90)) wr.heap.size 90 #[tk,vk]:=row_new rfl;replace o:=o.alloc o.size (.cells #[tk,vk] 90);clear g0 g1;generalize wr.alloc (.cells #[tk,vk] 90)=wq at ti o |-
      generalize wr.heap.size=tb at ti |-
      cases r2 ti;go_wp2;go_roundw
      case rel=>exact ⟨k+1,by omega,by go_num,(by rw [hst.out]),o⟩
      case measure=>simp [intOf];omega
    · have i1:¬ (k:Int)<(m:Int):=by omega
      obtain rfl:k=l.length:=by have:=HL.out;omega
      go_wp2;exact bodyPost_ret (v := .tuple #[.int .i64 (exFold true l l.length), .bool true]) (by simp [results,Tryz.results24,go_sem]) rfl ⟨rfl,o⟩
end Go.Proofs.YtdipoojjlddohaaGreat
