/- What the law TopRelative needs, joined of its texts by a program (slim2.py); part 46. -/
import Derived.Test.YtdipoojjlddohaaGreatZTopRelative1
import Derived.Test.YtdipoojjlddohaaGreatZTopRelative5
import Derived.Test.YtdipoojjlddohaaGreatZTopRelative13
import Derived.Test.YtdipoojjlddohaaGreatZTopRelative29
set_option linter.unusedVariables false
set_option linter.unusedSimpArgs false
set_option linter.unusedSectionVars false
set_option linter.unnecessarySimpa false
set_option maxRecDepth 100000
namespace Go.Proofs.YtdipoojjlddohaaGreat
open MC
open MT
open Go.RowKit
set_option maxRecDepth 100000 in
set_option maxHeartbeats 4000000 in
theorem awakeT (w:World):Calls Tryz.prog 15 #[] w (Rr (.bool true) w):=by
  have hg:ctGood 5 1 5:=by unfold ctGood;omega
  have PN:RowKit.Hid (∀ w,Calls Tryz.prog 37 #[.agg #[.int .i64 2,(), .int .i64 5, .int .i64 1, .int .i64 5,(),(),()], .int .i64 0] w (GRet (CtI 5 1 5 0 []) (fun A m c=>(J7 (.slice A m c))) 0 (fun _=>False) w)):=Lib.hid (fun w=>tcNew hg (by omega) (by omega) w);have PA : RowKit.Hid (∀ A m c w, CtI 5 1 5 0 [] A m c w -> Calls Tryz.prog 38 #[.agg (J7 (.slice A m c)), .int .i64 1,""] w (GRet (CtI 5 1 5 0 [0]) (fun A m c => (J7 (.slice A m c))) 0 (fun _ => False) w)) := Lib.hid (fun A m c w h => tcAdd h (by decide) (by omega) (by omega))
  have PQ:RowKit.Hid (∀ A m c w,CtI 5 1 5 0 [0] A m c w->Calls Tryz.prog 12 #[.agg (J7 (.slice A m c)), .agg #[.int .i64 1,(),()]] w (Rr (.tuple #[.agg J38,()]) w)):=Lib.hid (fun A m c w h=>(tcAsk h 0 0).mono fun e w' ⟨lo,hi,he,⟨h1,h2,_,h3⟩,hb⟩=>by
    have hl:liveT (0-5) [0]=1:=by decide
    rw [hl] at h1 h2;obtain rfl:lo=1:=by omega
    obtain rfl:hi=1:=by omega
    exact ⟨he,hb⟩)
  have PBV:RowKit.Hid (∀ w,Calls Tryz.prog 14 #[.agg #[.int .i64 1, .int .i64 1, .int .i64 1, .int .i64 1, .int .i64 1, .int .i64 1]] w (Rr (.bool true) w)):=Lib.hid (fun w=>pbvalid (l1:=1) (l2:=1) (m1:=1) (m2:=1) (h1:=1) (h2:=1) ⟨ratOK_one (by decide),ratOK_one (by decide),ratOK_one (by decide),by decide,by decide⟩ w);have PRO:=Lib.hid (fun w=>pratio 1 w);have IO0:=ctI_ok 5 1 5 0 [];have IO1:=ctI_ok 5 1 5 0 [0];go_enter Tryz.func15,Tryz.ntmps15;go_wp2_with fail;refine (PN.out _).mono ?_;rintro e w1 ⟨A1,m1,c1,rfl,in1,o,_⟩;have h1:((J7 (.slice A1 m1 c1)):Array Value).all (·.oneCell')=true:=all_one rfl;have SZ:Row (w1.alloc (.cells J0 58)) w1.heap.size 58 J0:=row_new rfl;go_upto_region 2 with (with_reducible refine wpList_ssyn SZ rfl rfl h1 rfl _ _ rfl rfl rfl ?_)
  have S:=row_setRow (cs:=(J7 (.slice A1 m1 c1))) SZ;have z1:=o.size;have b1:=IO0.blk in1;replace in1:=IO0.setr (g:=w1.heap.size) (J7 (.slice A1 m1 c1)) (IO0.below in1 ((Below.refl _ _).alloc (Nat.le_refl _) (.cells J0 58))) (fun hm a e=>by have:=b1 hm a e;omega);replace o:=below_setRow (g:=w1.heap.size) (o.alloc o.size (.cells J0 58)) o.size (J7 (.slice A1 m1 c1));obtain ⟨w2,hw2⟩:∃ x,x=(w1.alloc (.cells J0 58)).setRow w1.heap.size (J7 (.slice A1 m1 c1)):=⟨_,rfl⟩
  rw [<- hw2] at S in1 o |-
  clear hw2 SZ h1;generalize w1.heap.size=sb at S z1 |-
  go_wp2_with (with_reducible refine wpList_lsyn S rfl rfl _ rfl rfl ?_);refine (PA.out _ _ _ _ in1).mono ?_;rintro e w3 ⟨A2,m2,c2,rfl,in2,hb,fr2⟩;have zs:=row_lt S;replace S:=row_call S hb;replace o:=o.trans (hb.mono o.size);have h2:((J7 (.slice A2 m2 c2)):Array Value).all (·.oneCell')=true:=all_one rfl;go_upto_region 3 with (with_reducible refine wpList_ssyn S rfl rfl h2 rfl _ _ rfl rfl rfl ?_)
  replace S:=row_setRow (cs:=(J7 (.slice A2 m2 c2))) S;replace in2:=IO1.setr (g:=sb) (J7 (.slice A2 m2 c2)) in2 (fun hm a e=>by rcases fr2 hm a e with h | h;omega;exact h.elim);replace o:=below_setRow (g:=sb) o z1 (J7 (.slice A2 m2 c2));obtain ⟨w4,hw4⟩:∃ x,x=w3.setRow sb (J7 (.slice A2 m2 c2)):=⟨_,rfl⟩
  rw [<- hw4] at S in2 o |-
  clear hw4 h2 hb;go_wp2_with (with_reducible refine wpList_lsyn S rfl rfl _ rfl rfl ?_);refine (PQ.out _ _ _ _ in2).mono ?_;rintro e w5 ⟨rfl,hb⟩;replace o:=o.trans (hb.mono o.size);clear hb S in2 in1;have h3:(J38:Array Value).all (·.oneCell')=true:=all_one rfl;have AZ:Row (w5.alloc (.cells J12 71)) w5.heap.size 71 J12:=row_new rfl;go_upto_region 4 with (with_reducible refine wpList_sans AZ rfl rfl h3 rfl _ _ rfl rfl rfl ?_)
  have V:=row_setRow (cs:=J38) AZ;replace o:=below_setRow (g:=w5.heap.size) (o.alloc o.size (.cells J12 71)) o.size J38;obtain ⟨w6,hw6⟩:∃ x,x=(w5.alloc (.cells J12 71)).setRow w5.heap.size J38:=⟨_,rfl⟩
  rw [<- hw6] at V o |-
  clear hw6 AZ;generalize w5.heap.size=vb at V |-
  have VF:=Lib.hid (fun w' (hb:Below w6 w6 w')=>(⟨row_cell (row_call V hb) 0,row_cell (row_call V hb) 1,row_cell (row_call V hb) 2,row_cell (row_call V hb) 3,row_cell (row_call V hb) 4,row_cell (row_call V hb) 5⟩:w'.cell? ⟨vb,0,none⟩=some (.int .i64 1)/\w'.cell? ⟨vb,1,none⟩=some (.int .i64 1)/\w'.cell? ⟨vb,2,none⟩=some (.int .i64 1)/\w'.cell? ⟨vb,3,none⟩=some (.int .i64 1)/\w'.cell? ⟨vb,4,none⟩=some (.int .i64 1)/\w'.cell? ⟨vb,5,none⟩=some (.int .i64 1)));refine wp_region_free0 [0,1,2,3,4,5,6,7,8,9,10,11,12,13,14,15,16,17,18,19,20,21] [] [0,1,2,3,4,5,6,7,8,9,10,11,12,13,14,15,16,17,18,19,20,21] 22 (fun w'=>Below w6 w6 w') (by kernel_rfl) (by kernel_rfl) (fun _ _ d _ _ h=>by cases d<;>exact h) ?_ ?_
  · exact (Below.refl _ _).drew
  iterate 12 (refine plp rfl rfl ?_;simp only [put9])
  (refine plv rfl rfl rfl (fun w' hS=>by obtain ⟨v0,v1,v2,v3,v4,v5⟩:=VF.out _ hS;exact gs9) ?_;simp only [put9]);refine plan_call (.bool true) 14 #[.agg #[.int .i64 1, .int .i64 1, .int .i64 1, .int .i64 1, .int .i64 1, .int .i64 1]] rfl rfl rfl (fun _ _ h hb=>h.trans (hb.mono h.size)) (fun w' hS=>by obtain ⟨v0,v1,v2,v3,v4,v5⟩:=VF.out _ hS;go_simp) (fun w' hS=>PBV.out w') ?_;simp only [put9];iterate 4 (refine plp rfl rfl ?_;simp only [put9])
  (refine plv rfl rfl rfl (fun w' hS=>by obtain ⟨v0,v1,v2,v3,v4,v5⟩:=VF.out _ hS;exact gs9) ?_;simp only [put9]);refine plan_call (.agg #[.int .i64 1, .int .i64 1]) 57 #[.int .i64 1] rfl rfl rfl (fun _ _ h hb=>h.trans (hb.mono h.size)) (fun w' hS=>by obtain ⟨v0,v1,v2,v3,v4,v5⟩:=VF.out _ hS;go_simp) (fun w' hS=>PRO.out w') ?_;simp only [put9];iterate 2 (refine plp rfl rfl ?_;simp only [put9])
  refine plan_nil ?_;intro w7 L7;simp only [List.drop_succ_cons,List.drop_zero];try simp only [put9]
  replace o:=o.trans (L7.mono o.size);go_wp2;go_ret;exact ⟨by first | rfl | exact ret_bool (by simp) | simp,o⟩
end Go.Proofs.YtdipoojjlddohaaGreat
