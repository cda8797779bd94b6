/- What the law TopRelative needs, joined of its texts by a program (slim2.py); part 34. -/
import Derived.Test.YtdipoojjlddohaaGreatZTopRelative1
import Derived.Test.YtdipoojjlddohaaGreatZTopRelative11
import Derived.Test.YtdipoojjlddohaaGreatZTopRelative18
import Derived.Test.YtdipoojjlddohaaGreatZTopRelative21
set_option linter.unusedVariables false
set_option linter.unusedSimpArgs false
set_option linter.unusedSectionVars false
set_option linter.unnecessarySimpa false
set_option maxRecDepth 100000
namespace Go.Proofs.YtdipoojjlddohaaGreat
open MC
open MT
open Go.RowKit
theorem pgoodD (wd k cap now:Int) (w:World):Calls Tryz.prog 205 (J25 wd k cap now) w (Rd (.bool (decide (spGood wd k cap now))) w):=by
  have h:=pgood wd k cap now w;rw [show decide (1<=wd/\wd<=1048576/\1<=k/\k<=64/\1<=cap/\cap<=65536/\0<=now/\now<=16777216)=decide (spGood wd k cap now) from decide_eq_decide.2 Iff.rfl] at h;exact h
set_option maxRecDepth 100000 in
theorem pvalP_a (A:Option Addr) (m c:Nat) (l:List Mk) (wd k cap now seq:Int) (w:World) (h:¬ spGood wd k cap now):Calls Tryz.prog 140 #[.agg (J6 wd k cap now seq (.slice A m c))] w (Rr (.int .i64 (spvalE wd k cap now seq l)) w):=by
  have E:=Lib.hid (spvalE_no (wd:=wd) (k:=k) (cap:=cap) (now:=now) (seq:=seq) (l:=l) (fun a=>h a.1));have PG:=fun w=>pgoodD wd k cap now w;rw [decide_eq_false h] at PG;replace PG:=Lib.hid PG;clear h;go_enter Tryz.func140,Tryz.ntmps140;go_upto_region 1 with (fail)
  have X:Row (w.alloc (.cells (J6 wd k cap now seq (.slice A m c)) 39)) w.heap.size 39 (J6 wd k cap now seq (.slice A m c)):=row_new rfl;have o:Below w w (w.alloc (.cells (J6 wd k cap now seq (.slice A m c)) 39)):=bel9;generalize (w.alloc (.cells (J6 wd k cap now seq (.slice A m c)) 39))=w1 at X o |-
  cases r6 X;go_wp2_with (go_at_call 205;with_reducible refine (PG.out _).mono ?_;rintro e w9 ⟨rfl,h9⟩;obtain rfl:=h9.symm);go_ret;exact ⟨ret_i64 E.out.symm,o⟩
set_option maxRecDepth 100000 in
theorem pvalP_b (A:Option Addr) (m c:Nat) (l:List Mk) (wd k cap now seq:Int) (w:World) (hin:MIn A m c l w) (sB:I64 seq) (hG:spGood wd k cap now) (hV:¬ mvalid l seq cap now wd (-4096)):Calls Tryz.prog 140 #[.agg (J6 wd k cap now seq (.slice A m c))] w (Rr (.int .i64 (spvalE wd k cap now seq l)) w):=by
  have E:=Lib.hid (spvalE_no (wd:=wd) (k:=k) (cap:=cap) (now:=now) (seq:=seq) (l:=l) (fun a=>hV a.2.1));have PG:=fun w=>pgoodD wd k cap now w;rw [decide_eq_true hG] at PG;replace PG:=Lib.hid PG;obtain ⟨d0,d1,k0,k1,c0,c1,n0,n1⟩:=hG;have PV:=fun w' (hb:Below w w w')=>pmvalid A m c l seq cap now wd (-4096) w' (hin.below hb) sB c0 c1 n0 n1 d0 d1 (Int.le_refl _);rw [decide_eq_false hV] at PV;replace PV:=Lib.hid PV;clear hV hin sB;go_enter Tryz.func140,Tryz.ntmps140;go_upto_region 1 with (fail)
  have X:Row (w.alloc (.cells (J6 wd k cap now seq (.slice A m c)) 39)) w.heap.size 39 (J6 wd k cap now seq (.slice A m c)):=row_new rfl;have o:Below w w (w.alloc (.cells (J6 wd k cap now seq (.slice A m c)) 39)):=bel9;generalize (w.alloc (.cells (J6 wd k cap now seq (.slice A m c)) 39))=w1 at X o |-
  obtain ⟨X0,X1,X2,X3,X4,X5,Xf0,Xf1,Xf2,Xf3,Xf4,Xf5⟩:=row_six X;have PV1:=Lib.hid (PV.out w1 o);clear PV;go_wp2_with (first | (go_at_call 205;with_reducible refine (PG.out _).mono ?_;rintro e w9 ⟨rfl,h9⟩;obtain rfl:=h9.symm) | (go_at_call 229;with_reducible refine (PV1.out).mono ?_;rintro e w2 ⟨rfl,hb2⟩;replace X:=row_call X hb2;replace o:=o.trans (hb2.mono o.size);clear X0 Xf0 X1 Xf1 X2 Xf2 X3 Xf3 X4 Xf4 X5 Xf5 hb2;obtain ⟨X0,X1,X2,X3,X4,X5,Xf0,Xf1,Xf2,Xf3,Xf4,Xf5⟩:=row_six X));go_ret;exact ⟨ret_i64 E.out.symm,o⟩
set_option maxRecDepth 100000 in
set_option maxHeartbeats 8000000 in
theorem pvalP_c (A:Option Addr) (m c:Nat) (l:List Mk) (wd k cap now seq:Int) (w:World) (hin:MIn A m c l w) (sB:I64 seq) (hG:spGood wd k cap now) (hV:mvalid l seq cap now wd (-4096)):Calls Tryz.prog 140 #[.agg (J6 wd k cap now seq (.slice A m c))] w (Rr (.int .i64 (spvalE wd k cap now seq l)) w):=by
  have HG:=Lib.hid hG;have HV:=Lib.hid hV;have HR:=Lib.hid hin;have HL:=Lib.hid hin.len;have mB:=hin.max;have PG:=fun w=>pgoodD wd k cap now w;rw [decide_eq_true hG] at PG;replace PG:=Lib.hid PG;obtain ⟨d0,d1,k0,k1,c0,c1,n0,n1⟩:=hG;have PV:=fun w' (hb:Below w w w')=>pmvalid A m c l seq cap now wd (-4096) w' (hin.below hb) sB c0 c1 n0 n1 d0 d1 (Int.le_refl _);rw [decide_eq_true hV] at PV;replace PV:=Lib.hid PV;clear hV hin sB;go_enter Tryz.func140,Tryz.ntmps140;go_upto_region 1 with (fail)
  have X:Row (w.alloc (.cells (J6 wd k cap now seq (.slice A m c)) 39)) w.heap.size 39 (J6 wd k cap now seq (.slice A m c)):=row_new rfl;have o:Below w w (w.alloc (.cells (J6 wd k cap now seq (.slice A m c)) 39)):=bel9;generalize (w.alloc (.cells (J6 wd k cap now seq (.slice A m c)) 39))=w1 at X o |-
  obtain ⟨X0,X1,X2,X3,X4,X5,Xf0,Xf1,Xf2,Xf3,Xf4,Xf5⟩:=row_six X;have PV1:=Lib.hid (PV.out w1 o);clear PV;go_upto_region 4 with (first | (go_at_call 205;with_reducible refine (PG.out _).mono ?_;rintro e w9 ⟨rfl,h9⟩;obtain rfl:=h9.symm) | (go_at_call 229;with_reducible refine (PV1.out).mono ?_;rintro e w2 ⟨rfl,hb2⟩;replace X:=row_call X hb2;replace o:=o.trans (hb2.mono o.size);clear X0 Xf0 X1 Xf1 X2 Xf2 X3 Xf3 X4 Xf4 X5 Xf5 hb2;obtain ⟨X0,X1,X2,X3,X4,X5,Xf0,Xf1,Xf2,Xf3,Xf4,Xf5⟩:=row_six X))
  clear PG PV1;obtain ⟨xb,hxb⟩:∃ x,x=w.heap.size:=⟨_,rfl⟩
  have zx:w.heap.size<=xb:=by omega
  rw [<- hxb] at X X0 Xf0 X1 Xf1 X2 Xf2 X3 Xf3 X4 Xf4 X5 Xf5 |-
  clear hxb X0 Xf0 X1 Xf1 X2 Xf2 X3 Xf3 X4 Xf4 X5 Xf5;go_loopw [3] (fun i wr=>∃ j:Nat,2<=j/\(j<=m∨j=2)/\i = .int .i64 (j:Nat)/\RowKit.Hid (∀ e,e<j->spAt k l e)/\Row wr xb 39 (J6 wd k cap now seq (.slice A m c))/\Below w w wr) (fun i _=>m-(intOf i).toNat)
  case atStart=>exact ⟨2,by omega, .inr rfl,rfl,Lib.hid (fun e h h2=>absurd h2 (by omega)),X,o⟩
  case round =>
    clear X o;obtain ⟨j,hj2,hj,rfl,HA,X,o⟩:=hrel;by_cases hlt:j<m
    · obtain ⟨ad,rfl,hadb,ht0⟩:=HR.out.reads.mk hlt;obtain ⟨ad',ea,_,htz⟩:=HR.out.reads.mk (i:=j-2) (by omega);obtain rfl:ad=ad':=by injection ea
      obtain ⟨p,hp⟩:∃ p:Nat,j=p+2:=⟨j-2,by omega⟩
      have wj:IntKind.i64.wrap ((j:Int)-2)=(p:Int):=by rw [IntWalk.i64_in _ (by omega)];omega
      have p1:(p:Int)<(m:Int):=by omega
      have p0':(0:Int)<=(p:Int):=by omega
      rw [show j-2=p by omega] at htz;have hb0:(ad.add (j*7)).block<w.heap.size:=by rw [block_of_add];exact hadb
      have hbz:(ad.add (p*7)).block<w.heap.size:=by rw [block_of_add];exact hadb
      have HSP:=Lib.hid (show spAt k l j↔¬ closeM k (mkAt l p) (mkAt l j) by unfold spAt;rw [show j-2=p by omega];exact ⟨fun h=>h hj2,fun h _=>h⟩);have PC:=fun w=>pclose (mkAt l p).seq (mkAt l p).t (mkAt l p).n (mkAt l p).s (mkAt l p).q (mkAt l p).lo (mkAt l p).hi (mkAt l j).seq (mkAt l j).t (mkAt l j).n (mkAt l j).s (mkAt l j).q (mkAt l j).lo (mkAt l j).hi k w;obtain ⟨nv,hnv⟩:∃ nv,decide (closeP (mkAt l p).n (mkAt l p).s (mkAt l p).q (mkAt l j).n (mkAt l j).s (mkAt l j).q k)=nv:=⟨_,rfl⟩
      rw [hnv] at PC;have HNV:=Lib.hid (show decide (closeM k (mkAt l p) (mkAt l j))=nv from hnv)
      have HNX:=Lib.hid (fun (h:spAt k l j)=>(show ∀ e,e<j+1->spAt k l e from fun e he=>by
        rcases Nat.lt_or_ge e j with g | g
        · exact HA.out e g
        · rw [show e=j by omega];exact h))
      generalize hmz:mkAt l p=mz at htz PC hnv;generalize hm0:mkAt l j=m0 at ht0 PC hnv;obtain ⟨zsq,ztk,zn,zs,zq,zlo,zhi⟩:=mz;obtain ⟨sq,tk,n,s,q,lo,hi⟩:=m0;dsimp only at PC;replace PC:=Lib.hid PC;have HTz:=Lib.hid htz;have HT0:=Lib.hid ht0;have i1:(j:Int)<(m:Int):=by omega
      have i2:(0:Int)<=(j:Int):=by omega
      clear hmz hm0 hnv htz ht0 ea hp;obtain ⟨X0,X1,X2,X3,X4,X5,Xf0,Xf1,Xf2,Xf3,Xf4,Xf5⟩:=row_six X;go_upto_region 6 with (fail)
      clear X0 Xf0 X1 Xf1 X2 Xf2 X3 Xf3 X4 Xf4 X5 Xf5;cases nv
      · skip
        refine wp_region_free0 [0,1,2,3,4,6,7,8,9,11,5,10,12] [] [0,1,2,3,4,5,6,7,8,9,10,11,12] 13 (fun w'=>Row w' (xb) 39 (J6 wd k cap now seq (.slice (some ad) m c))/\Below w w w') (by kernel_rfl) (by kernel_rfl) (fun _ _ d _ _ h=>by cases d<;>exact h) ?_ ?_
        · exact ⟨X,o.drew⟩
        (refine plp rfl rfl ?_;simp only [put9]);(refine plv rfl rfl rfl (fun w' hS=>by obtain ⟨X0,X1,X2,X3,X4,X5,Xf0,Xf1,Xf2,Xf3,Xf4,Xf5⟩:=row_six hS.1;obtain ⟨q0,q1,q2,q3,q4,q5,q6⟩:=HTz.out.below hS.2 hbz;dsimp only at q0 q1 q2 q3 q4 q5 q6;obtain ⟨p0,p1,p2,p3,p4,p5,p6⟩:=HT0.out.below hS.2 hb0;dsimp only at p0 p1 p2 p3 p4 p5 p6;exact gs9) ?_;simp only [put9]);iterate 4 (refine plp rfl rfl ?_;simp only [put9])
        (refine plv rfl rfl rfl (fun w' hS=>by obtain ⟨X0,X1,X2,X3,X4,X5,Xf0,Xf1,Xf2,Xf3,Xf4,Xf5⟩:=row_six hS.1;obtain ⟨q0,q1,q2,q3,q4,q5,q6⟩:=HTz.out.below hS.2 hbz;dsimp only at q0 q1 q2 q3 q4 q5 q6;obtain ⟨p0,p1,p2,p3,p4,p5,p6⟩:=HT0.out.below hS.2 hb0;dsimp only at p0 p1 p2 p3 p4 p5 p6;exact gs9) ?_;simp only [put9]);iterate 3 (refine plp rfl rfl ?_;simp only [put9])
        iterate 3 (refine plv rfl rfl rfl (fun w' hS=>by obtain ⟨X0,X1,X2,X3,X4,X5,Xf0,Xf1,Xf2,Xf3,Xf4,Xf5⟩:=row_six hS.1;obtain ⟨q0,q1,q2,q3,q4,q5,q6⟩:=HTz.out.below hS.2 hbz;dsimp only at q0 q1 q2 q3 q4 q5 q6;obtain ⟨p0,p1,p2,p3,p4,p5,p6⟩:=HT0.out.below hS.2 hb0;dsimp only at p0 p1 p2 p3 p4 p5 p6;exact gs9) ?_;simp only [put9])
        refine plan_nil ?_;intro w4 L;simp only [List.drop_succ_cons,List.drop_zero];try simp only [put9]
        obtain ⟨X,o⟩:=L;go_wp2_with fail;refine (PC.out _).mono ?_;rintro e w5 ⟨rfl,hb5⟩;replace X:=row_call X hb5;replace o:=o.trans (hb5.mono o.size);clear hb5 PC;have HA2:=Lib.hid (HNX.out (HSP.out.2 (of_decide_eq_false HNV.out)));go_wp2;go_roundw
        case rel=>exact ⟨j+1,by omega, .inl (by omega),(by first | go_num | exact congrArg (Value.int .i64) (by omega)),HA2,X,o⟩
        case measure=>simp [intOf];omega
      · skip
        refine wp_region_free0 [0,1,2,3,4,6,7,8,9,11,5,10,12] [] [0,1,2,3,4,5,6,7,8,9,10,11,12] 13 (fun w'=>Row w' (xb) 39 (J6 wd k cap now seq (.slice (some ad) m c))/\Below w w w') (by kernel_rfl) (by kernel_rfl) (fun _ _ d _ _ h=>by cases d<;>exact h) ?_ ?_
        · exact ⟨X,o.drew⟩
        (refine plp rfl rfl ?_;simp only [put9]);(refine plv rfl rfl rfl (fun w' hS=>by obtain ⟨X0,X1,X2,X3,X4,X5,Xf0,Xf1,Xf2,Xf3,Xf4,Xf5⟩:=row_six hS.1;obtain ⟨q0,q1,q2,q3,q4,q5,q6⟩:=HTz.out.below hS.2 hbz;dsimp only at q0 q1 q2 q3 q4 q5 q6;obtain ⟨p0,p1,p2,p3,p4,p5,p6⟩:=HT0.out.below hS.2 hb0;dsimp only at p0 p1 p2 p3 p4 p5 p6;exact gs9) ?_;simp only [put9]);iterate 4 (refine plp rfl rfl ?_;simp only [put9])
        (refine plv rfl rfl rfl (fun w' hS=>by obtain ⟨X0,X1,X2,X3,X4,X5,Xf0,Xf1,Xf2,Xf3,Xf4,Xf5⟩:=row_six hS.1;obtain ⟨q0,q1,q2,q3,q4,q5,q6⟩:=HTz.out.below hS.2 hbz;dsimp only at q0 q1 q2 q3 q4 q5 q6;obtain ⟨p0,p1,p2,p3,p4,p5,p6⟩:=HT0.out.below hS.2 hb0;dsimp only at p0 p1 p2 p3 p4 p5 p6;exact gs9) ?_;simp only [put9]);iterate 3 (refine plp rfl rfl ?_;simp only [put9])
        iterate 3 (refine plv rfl rfl rfl (fun w' hS=>by obtain ⟨X0,X1,X2,X3,X4,X5,Xf0,Xf1,Xf2,Xf3,Xf4,Xf5⟩:=row_six hS.1;obtain ⟨q0,q1,q2,q3,q4,q5,q6⟩:=HTz.out.below hS.2 hbz;dsimp only at q0 q1 q2 q3 q4 q5 q6;obtain ⟨p0,p1,p2,p3,p4,p5,p6⟩:=HT0.out.below hS.2 hb0;dsimp only at p0 p1 p2 p3 p4 p5 p6;exact gs9) ?_;simp only [put9])
        refine plan_nil ?_;intro w4 L;simp only [List.drop_succ_cons,List.drop_zero];try simp only [put9]
        obtain ⟨X,o⟩:=L;go_wp2_with fail;refine (PC.out _).mono ?_;rintro e w5 ⟨rfl,hb5⟩;replace X:=row_call X hb5;replace o:=o.trans (hb5.mono o.size);clear hb5 PC;have E:=Lib.hid (spvalE_no (wd:=wd) (k:=k) (cap:=cap) (now:=now) (seq:=seq) (l:=l) (fun a=>(HSP.out.1 (a.2.2 j (by rw [HL.out];exact hlt))) (of_decide_eq_true HNV.out)));go_wp2;go_ret;exact ⟨ret_i64 E.out.symm,o⟩
    · have i1:¬ (j:Int)<(m:Int):=by omega
      have E:=Lib.hid (spvalE_yes (wd:=wd) (k:=k) (cap:=cap) (now:=now) (seq:=seq) (l:=l) ⟨HG.out,HV.out,fun i hi=>by
        by_cases h2:2<=i
        · exact HA.out i (by rw [HL.out] at hi;omega)
        · exact fun h=>absurd h h2⟩)
      obtain ⟨X0,X1,X2,X3,X4,X5,Xf0,Xf1,Xf2,Xf3,Xf4,Xf5⟩:=row_six X;go_wp2;go_ret;exact ⟨ret_i64 E.out.symm,o⟩
theorem pvalP (A:Option Addr) (m c:Nat) (l:List Mk) (wd k cap now seq:Int) (w:World) (hin:MIn A m c l w) (sB:I64 seq):Calls Tryz.prog 140 #[.agg (J6 wd k cap now seq (.slice A m c))] w (Rr (.int .i64 (spvalE wd k cap now seq l)) w):=by
  by_cases hG:spGood wd k cap now
  · by_cases hV:mvalid l seq cap now wd (-4096)
    · exact pvalP_c A m c l wd k cap now seq w hin sB hG hV
    · exact pvalP_b A m c l wd k cap now seq w hin sB hG hV
  · exact pvalP_a A m c l wd k cap now seq w hG
def SpRet (A0:Option Addr) (r:SpOut) (w:World) (e:Ending) (w':World):Prop :=
  ∃ (A:Option Addr) (m c:Nat),e = .returned (.tuple #[.agg (J6 r.wd r.k r.cap r.now r.seq (.slice A m c)), .int .i64 r.f])/\MIn A m c r.ms w'/\Below w w w'/\∀ a,A=some a->(w.heap.size<=a.block/\a.block<w'.heap.size)∨∃ b,A0=some b/\a.block=b.block
theorem spret_new {A0 : Option Addr} {w w' : World} {wd k cap now f : Int} (hb : Below w w w') : SpRet A0 ⟨wd, k, cap, now, 0, [], f⟩ w (.returned (.tuple #[.agg #[wd, k, cap, now,(),""], .int .i64 f])) w' :=
  ⟨none,0,0,rfl,min_nil,hb,fun a h=>by cases h⟩
theorem spret_zero {A0:Option Addr} {w w':World} {f:Int} (hb:Below w w w'):SpRet A0 (spZero f) w (.returned (.tuple #[.agg J31,f])) w':=spret_new hb
theorem spret_ok {A0 A:Option Addr} {m c:Nat} {w w':World} {wd k cap now seq f:Int} {ms:List Mk} (h:MIn A m c ms w') (hb:Below w w w') (hf:∀ a,A=some a->(w.heap.size<=a.block/\a.block<w'.heap.size)∨∃ b,A0=some b/\a.block=b.block) :
    SpRet A0 ⟨wd,k,cap,now,seq,ms,f⟩ w (.returned (.tuple #[.agg (J6 wd k cap now seq (.slice A m c)),f])) w':=⟨A,m,c,rfl,h,hb,hf⟩
end Go.Proofs.YtdipoojjlddohaaGreat
