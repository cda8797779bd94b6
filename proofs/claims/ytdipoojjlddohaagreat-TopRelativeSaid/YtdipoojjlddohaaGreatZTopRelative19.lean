/- What the law TopRelative needs, joined of its texts by a program (slim2.py); part 19. -/
import Derived.Test.YtdipoojjlddohaaGreatZTopRelative1
import Derived.Test.YtdipoojjlddohaaGreatZTopRelative4
import Derived.Test.YtdipoojjlddohaaGreatZTopRelative5
import Derived.Test.YtdipoojjlddohaaGreatZTopRelative18
set_option linter.unusedVariables false
set_option linter.unusedSimpArgs false
set_option linter.unusedSectionVars false
set_option linter.unnecessarySimpa false
set_option maxRecDepth 100000
namespace Go.Proofs.YtdipoojjlddohaaGreat
open MC
open MT
open Go.RowKit
theorem nsub_yes (a b:Int) (w:World) (hA:I64 a) (hB:I64 b) (h:I64 (a-b)):Calls Tryz.prog 231 #[a,b] w (Rd (.tuple #[.int .i64 (a-b), .bool true]) w):=by
  unfold I64 at hA hB h;have wr:IntKind.i64.wrap (a-b)=a-b:=IntWalk.i64_in _ (by omega);by_cases h1:0<=a<;>by_cases h2:0<=b<;>by_cases h3:b<=a
  all_goals
    first
    | (exfalso;omega)
    | (clear hA hB h;go_enter Tryz.func231,Tryz.ntmps231;go_wp2;go_ret2;exact ⟨rfl,rfl⟩)
theorem nsub_no (a b:Int) (w:World) (hA:I64 a) (hB:I64 b) (h:¬ I64 (a-b)):Calls Tryz.prog 231 #[a,b] w (Rd (.tuple #[(), .bool false]) w):=by
  unfold I64 at hA hB h;obtain ⟨c,hc⟩:∃ c,IntKind.i64.wrap (a-b)=c:=⟨_,rfl⟩
  have e:(9223372036854775807<a-b/\c=a-b-18446744073709551616)∨(a-b < -9223372036854775808/\c=a-b+18446744073709551616):=by
    rw [<- hc];simp only [IntKind.wrap,IntKind.signed,IntKind.bits];simp;omega
  by_cases h1:0<=a<;>by_cases h2:0<=b<;>by_cases h3:0<=c
  all_goals
    first
    | (exfalso;omega)
    | (clear hA hB h e;go_enter Tryz.func231,Tryz.ntmps231;go_wp2;go_ret2;exact ⟨rfl,rfl⟩)
theorem pofm_1 (agg sq tk n s q lo hi:Int) (w:World) (h:agg=1):Calls Tryz.prog 138 #[.agg (J1 sq tk n s q lo hi),agg] w (Rr (.int .i64 n) w):=by
  subst h;go_enter Tryz.func138,Tryz.ntmps138;go_wp2_with fail;go_ret;exact ⟨rfl,(Below.refl _ _).alloc (Nat.le_refl _) _⟩
theorem pofm_2 (agg sq tk n s q lo hi:Int) (w:World) (h:agg=2):Calls Tryz.prog 138 #[.agg (J1 sq tk n s q lo hi),agg] w (Rr (.int .i64 s) w):=by
  subst h;go_enter Tryz.func138,Tryz.ntmps138;go_wp2_with fail;go_ret;exact ⟨rfl,(Below.refl _ _).alloc (Nat.le_refl _) _⟩
theorem pofm_3 (agg sq tk n s q lo hi:Int) (w:World) (h:agg=3):Calls Tryz.prog 138 #[.agg (J1 sq tk n s q lo hi),agg] w (Rr (.int .i64 q) w):=by
  subst h;go_enter Tryz.func138,Tryz.ntmps138;go_wp2_with fail;go_ret;exact ⟨rfl,(Below.refl _ _).alloc (Nat.le_refl _) _⟩
theorem pofm_4y (agg sq tk n s q lo hi:Int) (w:World) (h:agg=4) (h1:I64 hi) (h2:I64 lo) (h3:I64 (hi-lo)):Calls Tryz.prog 138 #[.agg (J1 sq tk n s q lo hi),agg] w (Rr (.int .i64 (hi-lo)) w):=by
  subst h;have PS:=Lib.hid (fun w=>nsub_yes hi lo w h1 h2 h3);clear h1 h2 h3;go_enter Tryz.func138,Tryz.ntmps138;go_wp2_with (go_at_call 231;with_reducible refine (PS.out _).mono ?_;rintro e w9 ⟨rfl,h9⟩;obtain rfl:=h9.symm);go_ret;exact ⟨rfl,(Below.refl _ _).alloc (Nat.le_refl _) _⟩
theorem pofm_4n (agg sq tk n s q lo hi:Int) (w:World) (h:agg=4) (h1:I64 hi) (h2:I64 lo) (h3:¬ I64 (hi-lo)):Calls Tryz.prog 138 #[.agg (J1 sq tk n s q lo hi),agg] w (Rr (.int .i64 0) w):=by
  subst h;have PS:=Lib.hid (fun w=>nsub_no hi lo w h1 h2 h3);clear h1 h2 h3;go_enter Tryz.func138,Tryz.ntmps138;go_wp2_with (go_at_call 231;with_reducible refine (PS.out _).mono ?_;rintro e w9 ⟨rfl,h9⟩;obtain rfl:=h9.symm);go_ret;exact ⟨rfl,(Below.refl _ _).alloc (Nat.le_refl _) _⟩
theorem pofm_5 (agg sq tk n s q lo hi:Int) (w:World) (h1:agg≠1) (h2:agg≠2) (h3:agg≠3) (h4:agg≠4):Calls Tryz.prog 138 #[.agg (J1 sq tk n s q lo hi),agg] w (Rr (.int .i64 0) w):=by
  have b1:(agg == 1)=false:=by simpa using h1
  have b2:(agg == 2)=false:=by simpa using h2
  have b3:(agg == 3)=false:=by simpa using h3
  have b4:(agg == 4)=false:=by simpa using h4
  go_enter Tryz.func138,Tryz.ntmps138;go_wp2_with fail;go_ret;exact ⟨rfl,(Below.refl _ _).alloc (Nat.le_refl _) _⟩
theorem pofm (agg:Int) (m:Mk) (w:World) (hm:M64 m):Calls Tryz.prog 138 #[.agg (J1 m.seq m.t m.n m.s m.q m.lo m.hi),agg] w (Rr (.int .i64 (ofV agg m)) w):=by
  obtain ⟨_,_,_,_,_,hlo,hhi⟩:=hm;obtain ⟨sq,tk,n,s,q,lo,hi⟩:=m;by_cases e1:agg=1
  · rw [show ofV agg (⟨sq,tk,n,s,q,lo,hi⟩:Mk)=n by subst e1;rfl];exact pofm_1 agg sq tk n s q lo hi w e1
  · by_cases e2:agg=2
    · rw [show ofV agg (⟨sq,tk,n,s,q,lo,hi⟩:Mk)=s by subst e2;rfl];exact pofm_2 agg sq tk n s q lo hi w e2
    · by_cases e3:agg=3
      · rw [show ofV agg (⟨sq,tk,n,s,q,lo,hi⟩:Mk)=q by subst e3;rfl];exact pofm_3 agg sq tk n s q lo hi w e3
      · by_cases e4:agg=4
        · by_cases hd:I64 (hi-lo)
          · rw [show ofV agg (⟨sq,tk,n,s,q,lo,hi⟩:Mk)=hi-lo by subst e4;unfold ofV;simp;unfold I64 at hd;omega];exact pofm_4y agg sq tk n s q lo hi w e4 hhi hlo hd
          · rw [show ofV agg (⟨sq,tk,n,s,q,lo,hi⟩:Mk)=0 by subst e4;unfold ofV;simp;unfold I64 at hd;omega];exact pofm_4n agg sq tk n s q lo hi w e4 hhi hlo hd
        · rw [show ofV agg (⟨sq,tk,n,s,q,lo,hi⟩:Mk)=0 by unfold ofV;rw [if_neg e1,if_neg e2,if_neg e3,if_neg e4]];exact pofm_5 agg sq tk n s q lo hi w e1 e2 e3 e4
theorem pnear_flat (agg k sq tk n s q lo hi bsq btk bn bs bq blo bhi x y:Int) (w:World) (k0:1<=k) (k1:k<=64) (x0:0<=x) (x1:x<=1099511627776) (y0:0<=y) (y1:y<=1099511627776)
    (PX:∀ w,Calls Tryz.prog 138 #[.agg (J1 sq tk n s q lo hi),agg] w (Rr (.int .i64 x) w)) (PY:∀ w,Calls Tryz.prog 138 #[.agg (J1 bsq btk bn bs bq blo bhi),agg] w (Rr (.int .i64 y) w)) :
    Calls Tryz.prog 217 #[.agg (J1 sq tk n s q lo hi), .agg (J1 bsq btk bn bs bq blo bhi),agg,k] w (Rr (.bool (decide (k*x<=(k+1)*y))) w):=by
  have PX:=Lib.hid PX;have PY:=Lib.hid PY;have b1:0<=k*x/\k*x<=64*1099511627776:=⟨Int.mul_nonneg (by omega) x0,Int.mul_le_mul k1 x1 x0 (by decide)⟩
  have b2:0<=(k+1)*y/\(k+1)*y<=65*1099511627776:=⟨Int.mul_nonneg (by omega) y0,Int.mul_le_mul (by omega) y1 y0 (by decide)⟩
  have w1:IntKind.i64.wrap (k+1)=k+1:=IntWalk.i64_in _ (by omega);have w2:IntKind.i64.wrap (k*x)=k*x:=IntWalk.i64_in _ (by omega);have w3:IntKind.i64.wrap ((k+1)*y)=(k+1)*y:=IntWalk.i64_in _ (by omega);have w4:IntKind.i64.wrap k=k:=IntWalk.i64_in _ (by omega);clear b1 b2;go_enter Tryz.func217,Tryz.ntmps217;go_upto_region 1 with (fail)
  have X:Row ((w.alloc (.cells (J1 sq tk n s q lo hi) 228)).alloc (.cells (J1 bsq btk bn bs bq blo bhi) 228)) w.heap.size 228 (J1 sq tk n s q lo hi):=row_alloc (row_new rfl) _;have Y:Row ((w.alloc (.cells (J1 sq tk n s q lo hi) 228)).alloc (.cells (J1 bsq btk bn bs bq blo bhi) 228)) (w.heap.size+1) 228 (J1 bsq btk bn bs bq blo bhi):=row_new (by simp);have o:Below w w ((w.alloc (.cells (J1 sq tk n s q lo hi) 228)).alloc (.cells (J1 bsq btk bn bs bq blo bhi) 228)):=bel9;generalize ((w.alloc (.cells (J1 sq tk n s q lo hi) 228)).alloc (.cells (J1 bsq btk bn bs bq blo bhi) 228))=w5 at X Y o |-
  refine wp_region_free0 [0,1,2,3,4,5,6,7,8,9,10,11] [] [0,1,2,3,4,5,6,7,8,9,10,11] 12 (fun w'=>Row w' (w.heap.size) 228 (J1 sq tk n s q lo hi)/\Row w' (w.heap.size+1) 228 (J1 bsq btk bn bs bq blo bhi)/\Below w w w') (by kernel_rfl) (by kernel_rfl) (fun _ _ d _ _ h=>by cases d<;>exact h) ?_ ?_
  · exact ⟨X,Y,o.drew⟩
  iterate 2 (refine plp rfl rfl ?_;simp only [put9])
  (refine plv rfl rfl rfl (fun w' hS=>by cases r7 hS.1;cases r7 hS.2.1;exact gs9) ?_;simp only [put9]);(refine plp rfl rfl ?_;simp only [put9]);refine plan_call (.int .i64 y) 138 #[.agg (J1 bsq btk bn bs bq blo bhi),agg] rfl rfl rfl (fun _ _ h hb=>⟨row_call h.1 hb,row_call h.2.1 hb,h.2.2.trans (hb.mono h.2.2.size)⟩) (fun w' hS=>by cases r7 hS.1;cases r7 hS.2.1;go_simp) (fun w' hS=>PY.out w') ?_;simp only [put9];iterate 2 (refine plp rfl rfl ?_;simp only [put9])
  (refine plv rfl rfl rfl (fun w' hS=>by cases r7 hS.1;cases r7 hS.2.1;exact gs9) ?_;simp only [put9]);(refine plp rfl rfl ?_;simp only [put9]);refine plan_call (.int .i64 x) 138 #[.agg (J1 sq tk n s q lo hi),agg] rfl rfl rfl (fun _ _ h hb=>⟨row_call h.1 hb,row_call h.2.1 hb,h.2.2.trans (hb.mono h.2.2.size)⟩) (fun w' hS=>by cases r7 hS.1;cases r7 hS.2.1;go_simp) (fun w' hS=>PX.out w') ?_;simp only [put9];iterate 2 (refine plp rfl rfl ?_;simp only [put9])
  refine plan_nil ?_;intro w6 L;simp only [List.drop_succ_cons,List.drop_zero];try simp only [put9]
  have o6:=L.2.2;clear L X Y o;go_wp2;go_ret;exact ⟨rfl,o6⟩
theorem pnear (agg k:Int) (a b:Mk) (w:World) (k0:1<=k) (k1:k<=64) (ha:M64 a) (hb:M64 b) (x0:0<=ofV agg a) (x1:ofV agg a<=1099511627776) (y0:0<=ofV agg b) (y1:ofV agg b<=1099511627776) :
    Calls Tryz.prog 217 #[.agg (J1 a.seq a.t a.n a.s a.q a.lo a.hi), .agg (J1 b.seq b.t b.n b.s b.q b.lo b.hi),agg,k] w (Rr (.bool (nearB agg k a b)) w):=by
  have PX:=fun w=>pofm agg a w ha;have PY:=fun w=>pofm agg b w hb;exact pnear_flat agg k a.seq a.t a.n a.s a.q a.lo a.hi b.seq b.t b.n b.s b.q b.lo b.hi (ofV agg a) (ofV agg b) w k0 k1 x0 x1 y0 y1 PX PY
theorem rmayagg_0 (agg:Int) (w:World)   (h:agg<1):Calls Tryz.prog 185 #[agg] w (Rd (.bool false) w):=by
  go_enter Tryz.func185,Tryz.ntmps185;go_wp2_with fail;go_ret;exact ⟨by first | rfl | exact ret_bool (by simp;omega),rfl⟩
theorem rmayagg_1 (agg:Int) (w:World)  (h0:1<=agg) (h:4<agg):Calls Tryz.prog 185 #[agg] w (Rd (.bool false) w):=by
  go_enter Tryz.func185,Tryz.ntmps185;go_wp2_with fail;go_ret;exact ⟨by first | rfl | exact ret_bool (by simp;omega),rfl⟩
theorem rmayagg_2 (agg:Int) (w:World)  (h0:1<=agg) (h1:agg<=4):Calls Tryz.prog 185 #[agg] w (Rd (.bool true) w):=by
  go_enter Tryz.func185,Tryz.ntmps185;go_wp2_with fail;go_ret;exact ⟨by first | rfl | exact ret_bool (by simp;omega),rfl⟩
theorem rmayagg (agg:Int) (w:World)  : Calls Tryz.prog 185 #[agg] w (Rd (.bool (decide (1<=agg/\agg<=4))) w):=by
  by_cases h0:1<=agg
  · skip
    by_cases h1:agg<=4
    · skip
      rw [show decide (1<=agg/\agg<=4)=true from decide_eq_true ⟨h0,h1⟩];exact rmayagg_2 agg w  h0 h1
    · rw [show decide (1<=agg/\agg<=4)=false from decide_eq_false (fun a=>h1 a.2)];exact rmayagg_1 agg w  h0 (Int.not_le.1 h1)
  · rw [show decide (1<=agg/\agg<=4)=false from decide_eq_false (fun a=>h0 a.1)];exact rmayagg_0 agg w   (Int.not_le.1 h0)
theorem pgoodS_a (agg wd k cap now:Int) (w:World) (h:agg<1):Calls Tryz.prog 204 (J21 agg wd k cap now) w (Rd (.bool false) w):=by
  go_enter Tryz.func204,Tryz.ntmps204;go_wp2_with fail;go_ret;exact ⟨by first | rfl | exact ret_bool (by simp;omega),rfl⟩
theorem pgoodS_b (agg wd k cap now:Int) (w:World) (h0:1<=agg) (h:4<agg):Calls Tryz.prog 204 (J21 agg wd k cap now) w (Rd (.bool false) w):=by
  go_enter Tryz.func204,Tryz.ntmps204;go_wp2_with fail;go_ret;exact ⟨by first | rfl | exact ret_bool (by simp;omega),rfl⟩
theorem pgoodS_c (agg wd k cap now:Int) (b:Bool) (w:World) (h0:1<=agg) (h1:agg<=4) (PG:∀ w,Calls Tryz.prog 205 (J25 wd k cap now) w (Rd (.bool b) w)):Calls Tryz.prog 204 (J21 agg wd k cap now) w (Rd (.bool b) w):=by
  have PG:=Lib.hid PG;go_enter Tryz.func204,Tryz.ntmps204;go_wp2_with (go_at_call 205;with_reducible refine (PG.out _).mono ?_;rintro e w9 ⟨rfl,h9⟩;obtain rfl:=h9.symm);go_ret;exact ⟨by first | rfl | exact ret_bool (by simp;omega),rfl⟩
theorem pleast (agg:Int) (w:World):Calls Tryz.prog 213 #[agg] w (Rd (.int .i64 (leastV agg)) w):=by
  by_cases h2:agg=2
  · subst h2;go_enter Tryz.func213,Tryz.ntmps213;go_wp2;go_ret;exact ⟨rfl,rfl⟩
  · by_cases h3:agg=3
    · subst h3;go_enter Tryz.func213,Tryz.ntmps213;go_wp2;go_ret;exact ⟨rfl,rfl⟩
    · have b2:(agg == 2)=false:=by simpa using h2
      have b3:(agg == 3)=false:=by simpa using h3
      rw [show leastV agg = -4096 by unfold leastV;rw [if_neg (by omega)]];clear h2 h3;go_enter Tryz.func213,Tryz.ntmps213;go_wp2;go_ret;exact ⟨rfl,rfl⟩
end Go.Proofs.YtdipoojjlddohaaGreat
