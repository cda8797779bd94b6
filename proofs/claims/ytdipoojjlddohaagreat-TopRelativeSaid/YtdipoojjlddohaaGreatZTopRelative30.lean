/- What the law TopRelative needs, joined of its texts by a program (slim2.py); part 30. -/
import Derived.Test.YtdipoojjlddohaaGreatZTopRelative1
import Derived.Test.YtdipoojjlddohaaGreatZTopRelative4
import Derived.Test.YtdipoojjlddohaaGreatZTopRelative5
import Derived.Test.YtdipoojjlddohaaGreatZTopRelative7
import Derived.Test.YtdipoojjlddohaaGreatZTopRelative12
import Derived.Test.YtdipoojjlddohaaGreatZTopRelative22
import Derived.Test.YtdipoojjlddohaaGreatZTopRelative23
import Derived.Test.YtdipoojjlddohaaGreatZTopRelative28
import Derived.Test.YtdipoojjlddohaaGreatZTopRelative29
set_option linter.unusedVariables false
set_option linter.unusedSimpArgs false
set_option linter.unusedSectionVars false
set_option linter.unnecessarySimpa false
set_option maxRecDepth 100000
namespace Go.Proofs.YtdipoojjlddohaaGreat
open MC
open MT
open Go.RowKit
def askV (ve lo hi:Int):Value:=if ve=0 then .tuple #[.agg (J30 lo (.int .i64 ((lo+hi) / 2)) hi),()] else .tuple #[.agg J29,ve]
theorem pexI (x:Int) (w:World) (h0:0<=x) (h1:x<=1099511627776):Calls Tryz.prog 85 #[.agg #[x, .int .i64 1]] w (Rr (.agg (J48 x)) w):=by
  obtain ⟨n,rfl⟩:∃ n:Nat,x=(n:Int):=⟨x.toNat,by omega⟩
  exact pexactR n 1 w (by omega) (by omega) (by omega) (Nat.gcd_one_right n)
theorem pwhI (x y:Int) (w:World) (h0:0<=x) (hxy:x<=y) (h1:y<=1099511627776):Calls Tryz.prog 139 #[x,y] w (Rr (.tuple #[.agg (J30 x (.int .i64 ((x+y) / 2)) y), .bool true]) w):=by
  obtain ⟨n,rfl⟩:∃ n:Nat,x=(n:Int):=⟨x.toNat,by omega⟩
  obtain ⟨k,rfl⟩:∃ k:Nat,y=(k:Int):=⟨y.toNat,by omega⟩
  rw [show ((n:Int)+(k:Int)) / 2=(((n+k) / 2:Nat):Int) by omega];exact pwhole n k (by omega) (by omega) w
set_option maxRecDepth 100000 in
theorem psmask_a (A:Option Addr) (m c:Nat) (l:List Mk) (agg wd k cap now seq:Int) (w:World) (hin:MIn A m c l w) (sB:I64 seq) (hv:smvalE agg wd k cap now seq l=2):Calls Tryz.prog 43 #[.agg (J1 agg wd k cap now seq (.slice A m c))] w (Rr (askV (smvalE agg wd k cap now seq l) (askLo agg now wd l) (askHi agg now wd l)) w):=by
  rw [show askV (smvalE agg wd k cap now seq l) (askLo agg now wd l) (askHi agg now wd l) = .tuple #[.agg J29, .int .i64 2] by unfold askV;rw [hv];rfl];have P:=fun w' (hb:Below w w w')=>pvalS A m c l agg wd k cap now seq w' (hin.below hb) sB;rw [hv] at P;replace P:=Lib.hid P;clear hv hin sB;go_enter Tryz.func43,Tryz.ntmps43;go_wp2_with (first | (go_at_call 136;with_reducible refine (P.out _ bel9).mono ?_;rintro e w1 ⟨rfl,hb1⟩;have hz1:=hb1.size;(try simp at hz1);have o1:Below w w w1:=bel9;have q1_0:w.heap.size<w1.heap.size:=(by omega);have r1_0:Row w1 (w.heap.size) 37 (J1 agg wd k cap now seq (.slice A m c)):=row_call row9 hb1;cases r7 r1_0;have q1_1:w.heap.size+1<w1.heap.size:=(by omega);have r1_1:Row w1 (w.heap.size+1) 64 J29:=row_call row9 hb1;obtain ⟨c1_1a,c1_1b,c1_1c,c1_1d,c1_1e,c1_1f,f1_1a,f1_1b,f1_1c,f1_1d,f1_1e,f1_1f⟩:=row_six r1_1));exact bodyPost_ret (v := .tuple #[.agg J29, .int .i64 2]) (by simp [results,Tryz.results43,go_sem,List.getElem?_toArray,c1_1a,c1_1b,c1_1c,c1_1d,c1_1e,c1_1f]) rfl ⟨rfl,below_six o1 (by omega) _ _ _ _ _ _⟩
set_option maxRecDepth 100000 in
theorem psmask_z (A:Option Addr) (c:Nat) (l:List Mk) (agg wd k cap now seq:Int) (w:World) (hin:MIn A 0 c l w) (sB:I64 seq) (hv:smvalE agg wd k cap now seq l=0):Calls Tryz.prog 43 #[.agg (J1 agg wd k cap now seq (.slice A 0 c))] w (Rr (askV (smvalE agg wd k cap now seq l) (askLo agg now wd l) (askHi agg now wd l)) w):=by
  have hl:l=[]:=List.eq_nil_of_length_eq_zero hin.len;rw [show askV (smvalE agg wd k cap now seq l) (askLo agg now wd l) (askHi agg now wd l) = .tuple #[.agg J42,()] by rw [hv,hl,askLo_nil,askHi_nil];rfl];have P:=fun w' (hb:Below w w w')=>pvalS A 0 c l agg wd k cap now seq w' (hin.below hb) sB;rw [hv] at P;replace P:=Lib.hid P;have PE:=Lib.hid (fun w=>pexI 0 w (by omega) (by omega));clear hv hin sB hl;go_enter Tryz.func43,Tryz.ntmps43;go_upto_region 5 with (first | (go_at_call 136;with_reducible refine (P.out _ bel9).mono ?_;rintro e w1 ⟨rfl,hb1⟩;have hz1:=hb1.size;(try simp at hz1);have o1:Below w w w1:=bel9;have q1_0:w.heap.size<w1.heap.size:=(by omega);have r1_0:Row w1 (w.heap.size) 37 (J1 agg wd k cap now seq (.slice A 0 c)):=row_call row9 hb1;cases r7 r1_0;have q1_1:w.heap.size+1<w1.heap.size:=(by omega);have r1_1:Row w1 (w.heap.size+1) 64 J29:=row_call row9 hb1;obtain ⟨c1_1a,c1_1b,c1_1c,c1_1d,c1_1e,c1_1f,f1_1a,f1_1b,f1_1c,f1_1d,f1_1e,f1_1f⟩:=row_six r1_1))
  have R:=r1_1;have o:=o1;clear r1_1 r1_0 o1 c1_1a c1_1b c1_1c c1_1d c1_1e c1_1f;go_wp2_with fail;refine (pratio 0 _).mono ?_;rintro e w5 ⟨rfl,hb5⟩;replace R:=row_call R hb5;replace o:=o.trans (hb5.mono o.size);clear hb5;go_wp2_with fail;refine (PE.out _).mono ?_;rintro e w6 ⟨rfl,hb6⟩;replace R:=row_call R hb6;replace o:=o.trans (hb6.mono o.size);clear hb6;obtain ⟨R0,R1,R2,R3,R4,R5,Rf0,Rf1,Rf2,Rf3,Rf4,Rf5⟩:=row_six R;go_wp2;exact bodyPost_ret (v := .tuple #[.agg J42,()]) (by simp [results,Tryz.results43,go_sem,List.getElem?_toArray,R0,R1,R2,R3,R4,R5]) rfl ⟨rfl,below_six o (by omega) _ _ _ _ _ _⟩
set_option maxRecDepth 100000 in
set_option maxHeartbeats 2000000 in
theorem psmask_f (A:Option Addr) (m c:Nat) (l:List Mk) (agg wd k cap now seq:Int) (w:World) (hin:MIn A m c l w) (sB:I64 seq) (hv:smvalE agg wd k cap now seq l=0) (hm0:0<m) (hlv:now-wd<(mkAt l 0).t):Calls Tryz.prog 43 #[.agg (J1 agg wd k cap now seq (.slice A m c))] w (Rr (askV (smvalE agg wd k cap now seq l) (askLo agg now wd l) (askHi agg now wd l)) w):=by
  obtain ⟨hG,hMV,_⟩:=of_smvalE hv;obtain ⟨⟨a0,a1⟩,d0,d1,k0,k1,c0,c1,n0,n1⟩:=hG;have hVL:=(mvalid_iff.1 hMV).2;have hl:=hin.len;have hne:l≠[]:=fun e=>by rw [e] at hl;simp at hl;omega
  have e1:askLo agg now wd l=ofV agg (mkAt l 0):=by unfold askLo;rw [if_neg hne,if_pos hlv]
  have e2:askHi agg now wd l=ofV agg (mkAt l 0):=by unfold askHi;rw [if_neg hne,if_pos hlv]
  rw [e1,e2,hv];have o1a:=hVL.one _ (mkAt_mem (l:=l) (i:=0) (by omega));have PX:=fun w=>pofm agg (mkAt l 0) w (hin.mB 0);have bx:=ofV_bound o1a c1;have PL:=fun w=>plive now wd (mkAt l 0).t w n0 n1 d0 d1 o1a.2.2.2.2.1 o1a.2.2.2.2.2.1;clear e1 e2;obtain ⟨x,hx⟩:∃ x,ofV agg (mkAt l 0)=x:=⟨_,rfl⟩
  rw [hx] at PX bx;try rw [hx]
  obtain ⟨ad,rfl,hadb,ht0⟩:=hin.reads.mk (i:=0) hm0;have ht0:MkCells w ad (mkAt l 0):=ht0;generalize mkAt l 0=ma at ht0 PX PL hlv o1a;obtain ⟨sq,tk,n,s,q,lo,hi⟩:=ma;dsimp only at PX PL hlv;rw [decide_eq_true hlv] at PL;replace PX:=Lib.hid PX;replace PL:=Lib.hid PL;rw [show askV 0 x x = .tuple #[.agg (J48 x),()] by unfold askV;rw [if_pos rfl,show (x+x) / 2=x by omega]];have PE:=Lib.hid (fun w=>pexI x w bx.1 bx.2);have P:=fun w' (hb:Below w w w')=>pvalS (some ad) m c l agg wd k cap now seq w' (hin.below hb) sB;rw [hv] at P;replace P:=Lib.hid P;clear hv hin sB hx hlv o1a hMV hVL hne bx hl;go_enter Tryz.func43,Tryz.ntmps43;go_upto_region 6 with (first | (go_at_call 136;with_reducible refine (P.out _ bel9).mono ?_;rintro e w1 ⟨rfl,hb1⟩;have hz1:=hb1.size;(try simp at hz1);have o1:Below w w w1:=bel9;have q1_0:w.heap.size<w1.heap.size:=(by omega);have r1_0:Row w1 (w.heap.size) 37 (J1 agg wd k cap now seq (.slice (some ad) m c)):=row_call row9 hb1;obtain ⟨c1_0a,c1_0b,c1_0c,c1_0d,c1_0e,c1_0f,c1_0g,f1_0a,f1_0b,f1_0c,f1_0d,f1_0e,f1_0f,f1_0g⟩:=row_seven r1_0;have q1_1:w.heap.size+1<w1.heap.size:=(by omega);have r1_1:Row w1 (w.heap.size+1) 64 J29:=row_call row9 hb1;obtain ⟨c1_1a,c1_1b,c1_1c,c1_1d,c1_1e,c1_1f,f1_1a,f1_1b,f1_1c,f1_1d,f1_1e,f1_1f⟩:=row_six r1_1))
  have R:=r1_1;have o:=o1;obtain ⟨q0,q1,q2,q3,q4,q5,q6⟩:=ht0.below o1 hadb;dsimp only at q0 q1 q2 q3 q4 q5 q6;have g0:(0:Int)<(m:Int):=by omega
  have mz:((m:Int) == 0)=false:=by simp;omega
  go_upto_region 7 with (fail)
  have Fr:Row (w1.alloc (.cells (J1 sq tk n s q lo hi) 228)) w1.heap.size 228 (J1 sq tk n s q lo hi):=row_new rfl;replace R:=row_alloc R (.cells (J1 sq tk n s q lo hi) 228);have X:=row_alloc r1_0 (.cells (J1 sq tk n s q lo hi) 228);replace o:=o.alloc o.size (.cells (J1 sq tk n s q lo hi) 228);generalize (w1.alloc (.cells (J1 sq tk n s q lo hi) 228))=w2 at Fr R X o |-
  generalize w1.heap.size=fb at Fr |-
  clear q0 q1 q2 q3 q4 q5 q6 r1_0 r1_1 o1 ht0 c1_0a c1_0b c1_0c c1_0d c1_0e c1_0f c1_0g f1_0a f1_0b f1_0c f1_0d f1_0e f1_0f f1_0g c1_1a c1_1b c1_1c c1_1d c1_1e c1_1f f1_1a f1_1b f1_1c f1_1d f1_1e f1_1f;obtain ⟨X0,X1,X2,X3,X4,X5,X6,Xf0,Xf1,Xf2,Xf3,Xf4,Xf5,Xf6⟩:=row_seven X;obtain ⟨F0,F1,F2,F3,F4,F5,F6,Ff0,Ff1,Ff2,Ff3,Ff4,Ff5,Ff6⟩:=row_seven Fr;go_upto_region 8 with (go_at_call 137;with_reducible refine (PL.out _).mono ?_;rintro e w9 ⟨rfl,h9⟩;obtain rfl:=h9.symm)
  go_wp2_with fail;refine (PX.out _).mono ?_;rintro e w4 ⟨rfl,hb4⟩;replace R:=row_call R hb4;replace o:=o.trans (hb4.mono o.size);clear hb4 X X0 X1 X2 X3 X4 X5 X6 Xf0 Xf1 Xf2 Xf3 Xf4 Xf5 Xf6 Fr F0 F1 F2 F3 F4 F5 F6 Ff0 Ff1 Ff2 Ff3 Ff4 Ff5 Ff6;go_wp2_with fail;refine (pratio x _).mono ?_;rintro e w5 ⟨rfl,hb5⟩;replace R:=row_call R hb5;replace o:=o.trans (hb5.mono o.size);clear hb5;go_wp2_with fail;refine (PE.out _).mono ?_;rintro e w6 ⟨rfl,hb6⟩;replace R:=row_call R hb6;replace o:=o.trans (hb6.mono o.size);clear hb6;obtain ⟨R0,R1,R2,R3,R4,R5,Rf0,Rf1,Rf2,Rf3,Rf4,Rf5⟩:=row_six R;go_wp2;exact bodyPost_ret (v := .tuple #[.agg (J48 x),()]) (by simp [results,Tryz.results43,go_sem,List.getElem?_toArray,R0,R1,R2,R3,R4,R5]) rfl ⟨rfl,below_six o (by omega) _ _ _ _ _ _⟩
set_option maxRecDepth 100000 in
set_option maxHeartbeats 2000000 in
theorem psmask_g (A:Option Addr) (m c:Nat) (l:List Mk) (agg wd k cap now seq:Int) (w:World) (hin:MIn A m c l w) (sB:I64 seq) (hv:smvalE agg wd k cap now seq l=0) (hm0:0<m) (hlv:¬ now-wd<(mkAt l 0).t) (hnx:(mkAt l 1).seq=(mkAt l 0).seq+1):Calls Tryz.prog 43 #[.agg (J1 agg wd k cap now seq (.slice A m c))] w (Rr (askV (smvalE agg wd k cap now seq l) (askLo agg now wd l) (askHi agg now wd l)) w):=by
  have hle:=ask_le (of_smvalE hv);obtain ⟨hG,hMV,_⟩:=of_smvalE hv;obtain ⟨⟨a0,a1⟩,d0,d1,k0,k1,c0,c1,n0,n1⟩:=hG;have hVL:=(mvalid_iff.1 hMV).2;have hl:=hin.len;have hne:l≠[]:=fun e=>by rw [e] at hl;simp at hl;omega
  have hm1:1<m:=by
    apply Nat.lt_of_not_le;intro hc;obtain ⟨a,rfl⟩:∃ a,l=[a]:=List.length_eq_one_iff.1 (by omega);exact hlv (hVL.alone a rfl)
  have e1:askLo agg now wd l=ofV agg (mkAt l 1):=by unfold askLo;rw [if_neg hne,if_neg hlv]
  have e2:askHi agg now wd l=ofV agg (mkAt l 1):=by unfold askHi;rw [if_neg hne,if_neg hlv,if_pos hnx]
  rw [e1,e2] at hle;rw [e1,e2,hv];have o1a:=hVL.one _ (mkAt_mem (l:=l) (i:=0) (by omega));have PX:=fun w=>pofm agg (mkAt l 0) w (hin.mB 0);have bx:=ofV_bound o1a c1;have PL:=fun w=>plive now wd (mkAt l 0).t w n0 n1 d0 d1 o1a.2.2.2.2.1 o1a.2.2.2.2.2.1;have o1b:=hVL.one _ (mkAt_mem (l:=l) (i:=1) (by omega));have PY:=fun w=>pofm agg (mkAt l 1) w (hin.mB 1);have bY:=ofV_bound o1b c1;clear e1 e2;obtain ⟨y,hy⟩:∃ y,ofV agg (mkAt l 1)=y:=⟨_,rfl⟩
  rw [hy] at PY bY hle;rw [hy];obtain ⟨ad',e',hadb',ht1⟩:=hin.reads.mk (i:=1) hm1;obtain ⟨x,hx⟩:∃ x,ofV agg (mkAt l 0)=x:=⟨_,rfl⟩
  rw [hx] at PX bx;try rw [hx]
  obtain ⟨ad,rfl,hadb,ht0⟩:=hin.reads.mk (i:=0) hm0;have ht0:MkCells w ad (mkAt l 0):=ht0;generalize mkAt l 0=ma at ht0 PX PL hlv o1a hnx;obtain ⟨sq,tk,n,s,q,lo,hi⟩:=ma;dsimp only at PX PL hlv hnx;rw [decide_eq_false hlv] at PL;replace PX:=Lib.hid PX;replace PL:=Lib.hid PL;obtain rfl:=Option.some.inj e';have ht1:MkCells w (ad.add (1*7)) (mkAt l 1):=ht1;generalize mkAt l 1=mb at ht1 PY hnx o1b;obtain ⟨osq,otk,on,os,oq,olo,ohi⟩:=mb;dsimp only at PY hnx;have hsq1:=o1a.1;have hsq2:=o1a.2.1;dsimp only at hsq1 hsq2;have wsq:IntKind.i64.wrap (sq+1)=sq+1:=IntWalk.i64_in _ (by have:=(mvalid_iff.1 hMV).1.2;omega);have tsq:(osq == sq+1)=true:=by simp;omega
  replace PY:=Lib.hid PY;rw [show askV 0 y y = .tuple #[.agg (J48 y),()] by unfold askV;rw [if_pos rfl,show (y+y) / 2=y by omega]];have PE:=Lib.hid (fun w=>pexI y w bY.1 bY.2);have P:=fun w' (hb:Below w w w')=>pvalS (some ad) m c l agg wd k cap now seq w' (hin.below hb) sB;rw [hv] at P;replace P:=Lib.hid P;clear hv hin sB hx hy hlv o1a o1b hMV hVL hne bx bY hl hle hnx e' hsq1 hsq2;go_enter Tryz.func43,Tryz.ntmps43;go_upto_region 6 with (first | (go_at_call 136;with_reducible refine (P.out _ bel9).mono ?_;rintro e w1 ⟨rfl,hb1⟩;have hz1:=hb1.size;(try simp at hz1);have o1:Below w w w1:=bel9;have q1_0:w.heap.size<w1.heap.size:=(by omega);have r1_0:Row w1 (w.heap.size) 37 (J1 agg wd k cap now seq (.slice (some ad) m c)):=row_call row9 hb1;obtain ⟨c1_0a,c1_0b,c1_0c,c1_0d,c1_0e,c1_0f,c1_0g,f1_0a,f1_0b,f1_0c,f1_0d,f1_0e,f1_0f,f1_0g⟩:=row_seven r1_0;have q1_1:w.heap.size+1<w1.heap.size:=(by omega);have r1_1:Row w1 (w.heap.size+1) 64 J29:=row_call row9 hb1;obtain ⟨c1_1a,c1_1b,c1_1c,c1_1d,c1_1e,c1_1f,f1_1a,f1_1b,f1_1c,f1_1d,f1_1e,f1_1f⟩:=row_six r1_1))
  have R:=r1_1;have o:=o1;obtain ⟨q0,q1,q2,q3,q4,q5,q6⟩:=ht0.below o1 hadb;dsimp only at q0 q1 q2 q3 q4 q5 q6;have g0:(0:Int)<(m:Int):=by omega
  have mz:((m:Int) == 0)=false:=by simp;omega
  go_upto_region 7 with (fail)
  have Fr:Row (w1.alloc (.cells (J1 sq tk n s q lo hi) 228)) w1.heap.size 228 (J1 sq tk n s q lo hi):=row_new rfl;replace R:=row_alloc R (.cells (J1 sq tk n s q lo hi) 228);have X:=row_alloc r1_0 (.cells (J1 sq tk n s q lo hi) 228);replace o:=o.alloc o.size (.cells (J1 sq tk n s q lo hi) 228);generalize (w1.alloc (.cells (J1 sq tk n s q lo hi) 228))=w2 at Fr R X o |-
  generalize w1.heap.size=fb at Fr |-
  clear q0 q1 q2 q3 q4 q5 q6 r1_0 r1_1 o1 ht0 c1_0a c1_0b c1_0c c1_0d c1_0e c1_0f c1_0g f1_0a f1_0b f1_0c f1_0d f1_0e f1_0f f1_0g c1_1a c1_1b c1_1c c1_1d c1_1e c1_1f f1_1a f1_1b f1_1c f1_1d f1_1e f1_1f;obtain ⟨X0,X1,X2,X3,X4,X5,X6,Xf0,Xf1,Xf2,Xf3,Xf4,Xf5,Xf6⟩:=row_seven X;obtain ⟨F0,F1,F2,F3,F4,F5,F6,Ff0,Ff1,Ff2,Ff3,Ff4,Ff5,Ff6⟩:=row_seven Fr;go_upto_region 9 with (go_at_call 137;with_reducible refine (PL.out _).mono ?_;rintro e w9 ⟨rfl,h9⟩;obtain rfl:=h9.symm)
  clear PL;obtain ⟨s0,s1,s2,s3,s4,s5,s6⟩:=ht1.below o hadb';dsimp only at s0 s1 s2 s3 s4 s5 s6;replace s0:w2.cell? ⟨ad.block,ad.off+7,none⟩=some (.int .i64 osq):=s0;replace s1:w2.cell? ⟨ad.block,ad.off+7+1,none⟩=some (.int .i64 otk):=s1;replace s2:w2.cell? ⟨ad.block,ad.off+7+2,none⟩=some (.int .i64 on):=s2;replace s3:w2.cell? ⟨ad.block,ad.off+7+3,none⟩=some (.int .i64 os):=s3;replace s4:w2.cell? ⟨ad.block,ad.off+7+4,none⟩=some (.int .i64 oq):=s4;replace s5:w2.cell? ⟨ad.block,ad.off+7+5,none⟩=some (.int .i64 olo):=s5;replace s6:w2.cell? ⟨ad.block,ad.off+7+6,none⟩=some (.int .i64 ohi):=s6;have g1:(1:Int)<(m:Int):=by omega
  go_upto_region 10 with (fail)
  have Sr:Row (w2.alloc (.cells (J1 osq otk on os oq olo ohi) 228)) w2.heap.size 228 (J1 osq otk on os oq olo ohi):=row_new rfl;replace R:=row_alloc R (.cells (J1 osq otk on os oq olo ohi) 228);replace X:=row_alloc X (.cells (J1 osq otk on os oq olo ohi) 228);replace Fr:=row_alloc Fr (.cells (J1 osq otk on os oq olo ohi) 228);replace o:=o.alloc o.size (.cells (J1 osq otk on os oq olo ohi) 228);generalize (w2.alloc (.cells (J1 osq otk on os oq olo ohi) 228))=w3 at Fr R X Sr o |-
  generalize w2.heap.size=gb at Sr |-
  clear s0 s1 s2 s3 s4 s5 s6 ht1 X0 X1 X2 X3 X4 X5 X6 Xf0 Xf1 Xf2 Xf3 Xf4 Xf5 Xf6 F0 F1 F2 F3 F4 F5 F6 Ff0 Ff1 Ff2 Ff3 Ff4 Ff5 Ff6;obtain ⟨X0,X1,X2,X3,X4,X5,X6,Xf0,Xf1,Xf2,Xf3,Xf4,Xf5,Xf6⟩:=row_seven X;obtain ⟨F0,F1,F2,F3,F4,F5,F6,Ff0,Ff1,Ff2,Ff3,Ff4,Ff5,Ff6⟩:=row_seven Fr;cases r7 Sr;go_wp2_with fail;refine (PY.out _).mono ?_;rintro e w4 ⟨rfl,hb4⟩;replace R:=row_call R hb4;replace o:=o.trans (hb4.mono o.size);clear hb4;go_wp2_with fail;refine (pratio y _).mono ?_;rintro e w5 ⟨rfl,hb5⟩;replace R:=row_call R hb5;replace o:=o.trans (hb5.mono o.size);clear hb5;go_wp2_with fail;refine (PE.out _).mono ?_;rintro e w6 ⟨rfl,hb6⟩;replace R:=row_call R hb6;replace o:=o.trans (hb6.mono o.size);clear hb6;obtain ⟨R0,R1,R2,R3,R4,R5,Rf0,Rf1,Rf2,Rf3,Rf4,Rf5⟩:=row_six R;go_wp2;exact bodyPost_ret (v := .tuple #[.agg (J48 y),()]) (by simp [results,Tryz.results43,go_sem,List.getElem?_toArray,R0,R1,R2,R3,R4,R5]) rfl ⟨rfl,below_six o (by omega) _ _ _ _ _ _⟩
set_option maxRecDepth 100000 in
set_option maxHeartbeats 2000000 in
theorem psmask_h (A:Option Addr) (m c:Nat) (l:List Mk) (agg wd k cap now seq:Int) (w:World) (hin:MIn A m c l w) (sB:I64 seq) (hv:smvalE agg wd k cap now seq l=0) (hm0:0<m) (hlv:¬ now-wd<(mkAt l 0).t) (hnx:¬ (mkAt l 1).seq=(mkAt l 0).seq+1):Calls Tryz.prog 43 #[.agg (J1 agg wd k cap now seq (.slice A m c))] w (Rr (askV (smvalE agg wd k cap now seq l) (askLo agg now wd l) (askHi agg now wd l)) w):=by
  have hle:=ask_le (of_smvalE hv);obtain ⟨hG,hMV,_⟩:=of_smvalE hv;obtain ⟨⟨a0,a1⟩,d0,d1,k0,k1,c0,c1,n0,n1⟩:=hG;have hVL:=(mvalid_iff.1 hMV).2;have hl:=hin.len;have hne:l≠[]:=fun e=>by rw [e] at hl;simp at hl;omega
  have hm1:1<m:=by
    apply Nat.lt_of_not_le;intro hc;obtain ⟨a,rfl⟩:∃ a,l=[a]:=List.length_eq_one_iff.1 (by omega);exact hlv (hVL.alone a rfl)
  have e1:askLo agg now wd l=ofV agg (mkAt l 1):=by unfold askLo;rw [if_neg hne,if_neg hlv]
  have e2:askHi agg now wd l=ofV agg (mkAt l 0):=by unfold askHi;rw [if_neg hne,if_neg hlv,if_neg hnx]
  rw [e1,e2] at hle;rw [e1,e2,hv];have o1a:=hVL.one _ (mkAt_mem (l:=l) (i:=0) (by omega));have PX:=fun w=>pofm agg (mkAt l 0) w (hin.mB 0);have bx:=ofV_bound o1a c1;have PL:=fun w=>plive now wd (mkAt l 0).t w n0 n1 d0 d1 o1a.2.2.2.2.1 o1a.2.2.2.2.2.1;have o1b:=hVL.one _ (mkAt_mem (l:=l) (i:=1) (by omega));have PY:=fun w=>pofm agg (mkAt l 1) w (hin.mB 1);have bY:=ofV_bound o1b c1;clear e1 e2;obtain ⟨y,hy⟩:∃ y,ofV agg (mkAt l 1)=y:=⟨_,rfl⟩
  rw [hy] at PY bY hle;rw [hy];obtain ⟨ad',e',hadb',ht1⟩:=hin.reads.mk (i:=1) hm1;obtain ⟨x,hx⟩:∃ x,ofV agg (mkAt l 0)=x:=⟨_,rfl⟩
  rw [hx] at PX bx;try rw [hx]
  obtain ⟨ad,rfl,hadb,ht0⟩:=hin.reads.mk (i:=0) hm0;have ht0:MkCells w ad (mkAt l 0):=ht0;generalize mkAt l 0=ma at ht0 PX PL hlv o1a hnx;obtain ⟨sq,tk,n,s,q,lo,hi⟩:=ma;dsimp only at PX PL hlv hnx;rw [decide_eq_false hlv] at PL;replace PX:=Lib.hid PX;replace PL:=Lib.hid PL;obtain rfl:=Option.some.inj e';have ht1:MkCells w (ad.add (1*7)) (mkAt l 1):=ht1;generalize mkAt l 1=mb at ht1 PY hnx o1b;obtain ⟨osq,otk,on,os,oq,olo,ohi⟩:=mb;dsimp only at PY hnx;have hsq1:=o1a.1;have hsq2:=o1a.2.1;dsimp only at hsq1 hsq2;have wsq:IntKind.i64.wrap (sq+1)=sq+1:=IntWalk.i64_in _ (by have:=(mvalid_iff.1 hMV).1.2;omega);have tsq:(osq == sq+1)=false:=by simp;omega
  replace PY:=Lib.hid PY;rw [show askV 0 y x = .tuple #[.agg (J30 y (.int .i64 ((y+x) / 2)) x),()] by unfold askV;rw [if_pos rfl]];have PE:=Lib.hid (fun w=>pwhI y x w hle.1 (by rw [hx] at hle;exact hle.2.1) bx.2);generalize (y+x) / 2=md at PE |-
  have P:=fun w' (hb:Below w w w')=>pvalS (some ad) m c l agg wd k cap now seq w' (hin.below hb) sB;rw [hv] at P;replace P:=Lib.hid P;clear hv hin sB hx hy hlv o1a o1b hMV hVL hne bx bY hl hle hnx e' hsq1 hsq2;go_enter Tryz.func43,Tryz.ntmps43;go_upto_region 6 with (first | (go_at_call 136;with_reducible refine (P.out _ bel9).mono ?_;rintro e w1 ⟨rfl,hb1⟩;have hz1:=hb1.size;(try simp at hz1);have o1:Below w w w1:=bel9;have q1_0:w.heap.size<w1.heap.size:=(by omega);have r1_0:Row w1 (w.heap.size) 37 (J1 agg wd k cap now seq (.slice (some ad) m c)):=row_call row9 hb1;obtain ⟨c1_0a,c1_0b,c1_0c,c1_0d,c1_0e,c1_0f,c1_0g,f1_0a,f1_0b,f1_0c,f1_0d,f1_0e,f1_0f,f1_0g⟩:=row_seven r1_0;have q1_1:w.heap.size+1<w1.heap.size:=(by omega);have r1_1:Row w1 (w.heap.size+1) 64 J29:=row_call row9 hb1;obtain ⟨c1_1a,c1_1b,c1_1c,c1_1d,c1_1e,c1_1f,f1_1a,f1_1b,f1_1c,f1_1d,f1_1e,f1_1f⟩:=row_six r1_1))
  have R:=r1_1;have o:=o1;obtain ⟨q0,q1,q2,q3,q4,q5,q6⟩:=ht0.below o1 hadb;dsimp only at q0 q1 q2 q3 q4 q5 q6;have g0:(0:Int)<(m:Int):=by omega
  have mz:((m:Int) == 0)=false:=by simp;omega
  go_upto_region 7 with (fail)
  have Fr:Row (w1.alloc (.cells (J1 sq tk n s q lo hi) 228)) w1.heap.size 228 (J1 sq tk n s q lo hi):=row_new rfl;replace R:=row_alloc R (.cells (J1 sq tk n s q lo hi) 228);have X:=row_alloc r1_0 (.cells (J1 sq tk n s q lo hi) 228);replace o:=o.alloc o.size (.cells (J1 sq tk n s q lo hi) 228);generalize (w1.alloc (.cells (J1 sq tk n s q lo hi) 228))=w2 at Fr R X o |-
  generalize w1.heap.size=fb at Fr |-
  clear q0 q1 q2 q3 q4 q5 q6 r1_0 r1_1 o1 ht0 c1_0a c1_0b c1_0c c1_0d c1_0e c1_0f c1_0g f1_0a f1_0b f1_0c f1_0d f1_0e f1_0f f1_0g c1_1a c1_1b c1_1c c1_1d c1_1e c1_1f f1_1a f1_1b f1_1c f1_1d f1_1e f1_1f;obtain ⟨X0,X1,X2,X3,X4,X5,X6,Xf0,Xf1,Xf2,Xf3,Xf4,Xf5,Xf6⟩:=row_seven X;obtain ⟨F0,F1,F2,F3,F4,F5,F6,Ff0,Ff1,Ff2,Ff3,Ff4,Ff5,Ff6⟩:=row_seven Fr;go_upto_region 9 with (go_at_call 137;with_reducible refine (PL.out _).mono ?_;rintro e w9 ⟨rfl,h9⟩;obtain rfl:=h9.symm)
  clear PL;obtain ⟨s0,s1,s2,s3,s4,s5,s6⟩:=ht1.below o hadb';dsimp only at s0 s1 s2 s3 s4 s5 s6;replace s0:w2.cell? ⟨ad.block,ad.off+7,none⟩=some (.int .i64 osq):=s0;replace s1:w2.cell? ⟨ad.block,ad.off+7+1,none⟩=some (.int .i64 otk):=s1;replace s2:w2.cell? ⟨ad.block,ad.off+7+2,none⟩=some (.int .i64 on):=s2;replace s3:w2.cell? ⟨ad.block,ad.off+7+3,none⟩=some (.int .i64 os):=s3;replace s4:w2.cell? ⟨ad.block,ad.off+7+4,none⟩=some (.int .i64 oq):=s4;replace s5:w2.cell? ⟨ad.block,ad.off+7+5,none⟩=some (.int .i64 olo):=s5;replace s6:w2.cell? ⟨ad.block,ad.off+7+6,none⟩=some (.int .i64 ohi):=s6;have g1:(1:Int)<(m:Int):=by omega
  go_upto_region 10 with (fail)
  have Sr:Row (w2.alloc (.cells (J1 osq otk on os oq olo ohi) 228)) w2.heap.size 228 (J1 osq otk on os oq olo ohi):=row_new rfl;replace R:=row_alloc R (.cells (J1 osq otk on os oq olo ohi) 228);replace X:=row_alloc X (.cells (J1 osq otk on os oq olo ohi) 228);replace Fr:=row_alloc Fr (.cells (J1 osq otk on os oq olo ohi) 228);replace o:=o.alloc o.size (.cells (J1 osq otk on os oq olo ohi) 228);generalize (w2.alloc (.cells (J1 osq otk on os oq olo ohi) 228))=w3 at Fr R X Sr o |-
  generalize w2.heap.size=gb at Sr |-
  clear s0 s1 s2 s3 s4 s5 s6 ht1 X0 X1 X2 X3 X4 X5 X6 Xf0 Xf1 Xf2 Xf3 Xf4 Xf5 Xf6 F0 F1 F2 F3 F4 F5 F6 Ff0 Ff1 Ff2 Ff3 Ff4 Ff5 Ff6;obtain ⟨X0,X1,X2,X3,X4,X5,X6,Xf0,Xf1,Xf2,Xf3,Xf4,Xf5,Xf6⟩:=row_seven X;obtain ⟨F0,F1,F2,F3,F4,F5,F6,Ff0,Ff1,Ff2,Ff3,Ff4,Ff5,Ff6⟩:=row_seven Fr;obtain ⟨S0,S1,S2,S3,S4,S5,S6,Sf0,Sf1,Sf2,Sf3,Sf4,Sf5,Sf6⟩:=row_seven Sr;go_upto_region 12 with (fail)
  refine wp_region_free1 [0,1,2,3,4,5,6,7,8,9,11,10] [11] [0,1,2,3,4,5,6,7,8,9,10,12] (12,64,J29) 7 13 (fun w'=>Row w' (fb) 228 (J1 sq tk n s q lo hi)/\Row w' (gb) 228 (J1 osq otk on os oq olo ohi)/\Row w' (w.heap.size) 37 (J1 agg wd k cap now seq (.slice (some ad) m c))/\Row w' (w.heap.size+1) 64 J29/\Below w w w') (by kernel_rfl) (by kernel_rfl) ⟨_,_,rfl,rfl,rfl,fun ρ w'=>by go_simp⟩ rfl (by simp) (fun _ h=>⟨row_alloc h.1 _,row_alloc h.2.1 _,row_alloc h.2.2.1 _,row_alloc h.2.2.2.1 _,h.2.2.2.2.alloc h.2.2.2.2.size _⟩) (fun _ _ d _ _ h=>by cases d<;>exact h) ?_ ?_
  · exact ⟨Fr,Sr,X,R,o.drew⟩
  (refine plv rfl rfl rfl (fun w' hS=>by obtain ⟨F0,F1,F2,F3,F4,F5,F6,Ff0,Ff1,Ff2,Ff3,Ff4,Ff5,Ff6⟩:=row_seven hS.1;obtain ⟨S0,S1,S2,S3,S4,S5,S6,Sf0,Sf1,Sf2,Sf3,Sf4,Sf5,Sf6⟩:=row_seven hS.2.1;obtain ⟨X0,X1,X2,X3,X4,X5,X6,Xf0,Xf1,Xf2,Xf3,Xf4,Xf5,Xf6⟩:=row_seven hS.2.2.1;exact gs9) ?_;simp only [put9]);(refine plp rfl rfl ?_;simp only [put9]);(refine plv rfl rfl rfl (fun w' hS=>by obtain ⟨F0,F1,F2,F3,F4,F5,F6,Ff0,Ff1,Ff2,Ff3,Ff4,Ff5,Ff6⟩:=row_seven hS.1;obtain ⟨S0,S1,S2,S3,S4,S5,S6,Sf0,Sf1,Sf2,Sf3,Sf4,Sf5,Sf6⟩:=row_seven hS.2.1;obtain ⟨X0,X1,X2,X3,X4,X5,X6,Xf0,Xf1,Xf2,Xf3,Xf4,Xf5,Xf6⟩:=row_seven hS.2.2.1;exact gs9) ?_;simp only [put9]);refine plan_call (.int .i64 y) 138 #[.agg (J1 osq otk on os oq olo ohi),agg] rfl rfl rfl (fun _ _ h hb=>⟨row_call h.1 hb,row_call h.2.1 hb,row_call h.2.2.1 hb,row_call h.2.2.2.1 hb,h.2.2.2.2.trans (hb.mono h.2.2.2.2.size)⟩) (fun w' hS=>by obtain ⟨F0,F1,F2,F3,F4,F5,F6,Ff0,Ff1,Ff2,Ff3,Ff4,Ff5,Ff6⟩:=row_seven hS.1;obtain ⟨S0,S1,S2,S3,S4,S5,S6,Sf0,Sf1,Sf2,Sf3,Sf4,Sf5,Sf6⟩:=row_seven hS.2.1;obtain ⟨X0,X1,X2,X3,X4,X5,X6,Xf0,Xf1,Xf2,Xf3,Xf4,Xf5,Xf6⟩:=row_seven hS.2.2.1;go_simp) (fun w' hS=>PY.out w') ?_;simp only [put9];(refine plv rfl rfl rfl (fun w' hS=>by obtain ⟨F0,F1,F2,F3,F4,F5,F6,Ff0,Ff1,Ff2,Ff3,Ff4,Ff5,Ff6⟩:=row_seven hS.1;obtain ⟨S0,S1,S2,S3,S4,S5,S6,Sf0,Sf1,Sf2,Sf3,Sf4,Sf5,Sf6⟩:=row_seven hS.2.1;obtain ⟨X0,X1,X2,X3,X4,X5,X6,Xf0,Xf1,Xf2,Xf3,Xf4,Xf5,Xf6⟩:=row_seven hS.2.2.1;exact gs9) ?_;simp only [put9]);(refine plp rfl rfl ?_;simp only [put9]);(refine plv rfl rfl rfl (fun w' hS=>by obtain ⟨F0,F1,F2,F3,F4,F5,F6,Ff0,Ff1,Ff2,Ff3,Ff4,Ff5,Ff6⟩:=row_seven hS.1;obtain ⟨S0,S1,S2,S3,S4,S5,S6,Sf0,Sf1,Sf2,Sf3,Sf4,Sf5,Sf6⟩:=row_seven hS.2.1;obtain ⟨X0,X1,X2,X3,X4,X5,X6,Xf0,Xf1,Xf2,Xf3,Xf4,Xf5,Xf6⟩:=row_seven hS.2.2.1;exact gs9) ?_;simp only [put9]);refine plan_call (.int .i64 x) 138 #[.agg (J1 sq tk n s q lo hi),agg] rfl rfl rfl (fun _ _ h hb=>⟨row_call h.1 hb,row_call h.2.1 hb,row_call h.2.2.1 hb,row_call h.2.2.2.1 hb,h.2.2.2.2.trans (hb.mono h.2.2.2.2.size)⟩) (fun w' hS=>by obtain ⟨F0,F1,F2,F3,F4,F5,F6,Ff0,Ff1,Ff2,Ff3,Ff4,Ff5,Ff6⟩:=row_seven hS.1;obtain ⟨S0,S1,S2,S3,S4,S5,S6,Sf0,Sf1,Sf2,Sf3,Sf4,Sf5,Sf6⟩:=row_seven hS.2.1;obtain ⟨X0,X1,X2,X3,X4,X5,X6,Xf0,Xf1,Xf2,Xf3,Xf4,Xf5,Xf6⟩:=row_seven hS.2.2.1;go_simp) (fun w' hS=>PX.out w') ?_;simp only [put9];refine plan_call (.tuple #[.agg (J30 y md x), .bool true]) 139 #[y,x] rfl rfl rfl (fun _ _ h hb=>⟨row_call h.1 hb,row_call h.2.1 hb,row_call h.2.2.1 hb,row_call h.2.2.2.1 hb,h.2.2.2.2.trans (hb.mono h.2.2.2.2.size)⟩) (fun w' hS=>by obtain ⟨F0,F1,F2,F3,F4,F5,F6,Ff0,Ff1,Ff2,Ff3,Ff4,Ff5,Ff6⟩:=row_seven hS.1;obtain ⟨S0,S1,S2,S3,S4,S5,S6,Sf0,Sf1,Sf2,Sf3,Sf4,Sf5,Sf6⟩:=row_seven hS.2.1;obtain ⟨X0,X1,X2,X3,X4,X5,X6,Xf0,Xf1,Xf2,Xf3,Xf4,Xf5,Xf6⟩:=row_seven hS.2.2.1;go_simp) (fun w' hS=>PE.out w') ?_;simp only [put9];iterate 3 (refine plp rfl rfl ?_;simp only [put9])
  refine plan_nil ?_;intro ob w5 L hor hog;simp only [List.drop_succ_cons,List.drop_zero];try simp only [put9]
  obtain ⟨Fr',Sr',X',R',o'⟩:=L;clear Fr Sr X o F0 F1 F2 F3 F4 F5 F6 Ff0 Ff1 Ff2 Ff3 Ff4 Ff5 Ff6 S0 S1 S2 S3 S4 S5 S6 Sf0 Sf1 Sf2 Sf3 Sf4 Sf5 Sf6 X0 X1 X2 X3 X4 X5 X6 Xf0 Xf1 Xf2 Xf3 Xf4 Xf5 Xf6;have hne:w.heap.size+1≠ob:=by have:=row_lt R;omega
  have hbo:w.heap.size<=ob:=by have:=row_lt R;omega
  obtain ⟨B0,B1,B2,B3,B4,B5,Bf0,Bf1,Bf2,Bf3,Bf4,Bf5⟩:=row_six hor;go_upto_region 13 with (fail)
  have B':Row ((((((w5.setCell ⟨ob,0,none⟩ (.int .i64 y)).setCell ⟨ob,1,none⟩ (.int .i64 1)).setCell ⟨ob,2,none⟩ (.int .i64 md)).setCell ⟨ob,3,none⟩ (.int .i64 1)).setCell ⟨ob,4,none⟩ (.int .i64 x)).setCell ⟨ob,5,none⟩ (.int .i64 1)) ob 64 (J30 y md x):=(row_set (row_set (row_set (row_set (row_set (row_set hor 0 (.int .i64 y)) 1 (.int .i64 1)) 2 (.int .i64 md)) 3 (.int .i64 1)) 4 (.int .i64 x)) 5 (.int .i64 1))
  replace R:Row ((((((w5.setCell ⟨ob,0,none⟩ (.int .i64 y)).setCell ⟨ob,1,none⟩ (.int .i64 1)).setCell ⟨ob,2,none⟩ (.int .i64 md)).setCell ⟨ob,3,none⟩ (.int .i64 1)).setCell ⟨ob,4,none⟩ (.int .i64 x)).setCell ⟨ob,5,none⟩ (.int .i64 1)) (w.heap.size+1) 64 J29:=(row_other (row_other (row_other (row_other (row_other (row_other R' hne (.int .i64 y)) hne (.int .i64 1)) hne (.int .i64 md)) hne (.int .i64 1)) hne (.int .i64 x)) hne (.int .i64 1))
  have o:Below w w ((((((w5.setCell ⟨ob,0,none⟩ (.int .i64 y)).setCell ⟨ob,1,none⟩ (.int .i64 1)).setCell ⟨ob,2,none⟩ (.int .i64 md)).setCell ⟨ob,3,none⟩ (.int .i64 1)).setCell ⟨ob,4,none⟩ (.int .i64 x)).setCell ⟨ob,5,none⟩ (.int .i64 1)):=below_six o' hbo _ _ _ _ _ _;generalize ((((((w5.setCell ⟨ob,0,none⟩ (.int .i64 y)).setCell ⟨ob,1,none⟩ (.int .i64 1)).setCell ⟨ob,2,none⟩ (.int .i64 md)).setCell ⟨ob,3,none⟩ (.int .i64 1)).setCell ⟨ob,4,none⟩ (.int .i64 x)).setCell ⟨ob,5,none⟩ (.int .i64 1))=w6 at B' R o |-
  clear Fr' Sr' X' R' o' hor B0 B1 B2 B3 B4 B5 Bf0 Bf1 Bf2 Bf3 Bf4 Bf5;obtain ⟨B0,B1,B2,B3,B4,B5,Bf0,Bf1,Bf2,Bf3,Bf4,Bf5⟩:=row_six B';obtain ⟨R0,R1,R2,R3,R4,R5,Rf0,Rf1,Rf2,Rf3,Rf4,Rf5⟩:=row_six R;go_wp2;exact bodyPost_ret (v := .tuple #[.agg (J30 y md x),()]) (by simp [results,Tryz.results43,go_sem,List.getElem?_toArray,R0,R1,R2,R3,R4,R5]) rfl ⟨rfl,below_six o (by omega) _ _ _ _ _ _⟩
theorem psmask (A:Option Addr) (m c:Nat) (l:List Mk) (agg wd k cap now seq:Int) (w:World) (hin:MIn A m c l w) (sB:I64 seq):Calls Tryz.prog 43 #[.agg (J1 agg wd k cap now seq (.slice A m c))] w (Rr (askV (smvalE agg wd k cap now seq l) (askLo agg now wd l) (askHi agg now wd l)) w):=by
  rcases smvalE_two (agg:=agg) (wd:=wd) (k:=k) (cap:=cap) (now:=now) (seq:=seq) (l:=l) with hv | hv
  · by_cases m0:m=0
    · subst m0;exact psmask_z A c l agg wd k cap now seq w hin sB hv
    · by_cases hlv:now-wd<(mkAt l 0).t
      · exact psmask_f A m c l agg wd k cap now seq w hin sB hv (by omega) hlv
      · by_cases hnx:(mkAt l 1).seq=(mkAt l 0).seq+1
        · exact psmask_g A m c l agg wd k cap now seq w hin sB hv (by omega) hlv hnx
        · exact psmask_h A m c l agg wd k cap now seq w hin sB hv (by omega) hlv hnx
  · exact psmask_a A m c l agg wd k cap now seq w hin sB hv
end Go.Proofs.YtdipoojjlddohaaGreat
namespace Go.Proofs.YtdipoojjlddohaaGreat
open MC
open MT
theorem dropM_lenS (now w:Int) (l:List Mk):(dropM now w l).length<=l.length:=by
  obtain ⟨k,_,e⟩:=dropM_suffix now w l;rw [e,List.length_drop];omega
structure PlayedSm (agg wd k cap now seq:Int) (ms:List Mk) (ad:List Itm) (q:Nat):Prop where
  val:smValid agg wd k cap now seq ms
  hist:HistOf ms seq now wd ad
  vals:ValsOK agg ad
  ml:ms.length<=q
  al:ad.length<=q
theorem PlayedSm.tick {agg wd k cap now seq tt:Int} {ms:List Mk} {ad:List Itm} {q:Nat} (h:PlayedSm agg wd k cap now seq ms ad q) (h0:¬ (tt<now∨16777216<tt)):PlayedSm agg wd k cap tt seq (dropM tt wd ms) ad q :=
  ⟨smTick_valid h.val h0,h.hist.tick (mvalid_iff.1 h.val.2.1).2 (by omega),h.vals,Nat.le_trans (dropM_lenS _ _ _) h.ml,h.al⟩
theorem PlayedSm.add {agg wd k cap now seq v:Int} {ms:List Mk} {ad:List Itm} {q:Nat} (h:PlayedSm agg wd k cap now seq ms ad q) (hv:leastV agg<=v/\v<=4096) (hf:¬ smFull cap seq ms):PlayedSm agg wd k cap now (seq+1) (prune (nearB agg k) (incl ms (seq+1) now v)) (ad ++ [⟨now,v⟩]) (q+1):=by
  refine ⟨smAdd_valid h.val (by omega) hf,(h.hist.incl h.val.1.2.2.2.2.2.2.2.1).prune _,fun x hx=>?_,?_,?_⟩
  · rcases List.mem_append.1 hx with hx | hx
    · exact h.vals x hx
    · obtain rfl:x=⟨now,v⟩:=by simpa using hx
      exact hv
  · have:=prune_len (nearB agg k) _ (incl ms (seq+1) now v) (Nat.le_refl _);rw [incl_len] at this;have:=h.ml;omega
  · have:=h.al;simp;omega
theorem PlayedSm.more {agg wd k cap now seq:Int} {ms:List Mk} {ad:List Itm} {q:Nat} (h:PlayedSm agg wd k cap now seq ms ad q):PlayedSm agg wd k cap now seq ms ad (q+1):=⟨h.val,h.hist,h.vals,Nat.le_succ_of_le h.ml,Nat.le_succ_of_le h.al⟩
theorem PlayedSm.seqB {agg wd k cap now seq:Int} {ms:List Mk} {ad:List Itm} {q:Nat} (h:PlayedSm agg wd k cap now seq ms ad q):0<=seq/\seq<=q:=by have:=h.hist.seq;have:=h.al;omega
end Go.Proofs.YtdipoojjlddohaaGreat
namespace Go.Proofs.YtdipoojjlddohaaGreat
open MC
open MT
open Go.RowKit
def SmI (agg wd k cap:Int) (ad:List Itm) (now:Int) (A:Option Addr) (m c:Nat) (w:World):Prop:=∃ l,MIn A m c l w/\PlayedSm agg wd k cap now (ad.length:Nat) l ad ad.length/\ad.length<=65536
theorem smI_ok (agg wd k cap:Int) (ad:List Itm) (now:Int):InOK (SmI agg wd k cap ad now):=inOK_mk _
def smArg (agg wd k cap:Int):Prop:=(1<=agg/\agg<=4)/\1<=wd/\wd<=1048576/\1<=k/\k<=64/\1<=cap/\cap<=65536
theorem smArg.good {agg wd k cap now:Int} (h:smArg agg wd k cap) (n0:0<=now) (n1:now<=16777216):smGood agg wd k cap now:=by
  obtain ⟨a,b,c,d,e,f,g⟩:=h;exact ⟨a,b,c,d,e,f,g,n0,n1⟩
theorem PlayedSm.arg {agg wd k cap now seq:Int} {ms:List Mk} {ad:List Itm} {q:Nat} (h:PlayedSm agg wd k cap now seq ms ad q):smArg agg wd k cap/\0<=now/\now<=16777216:=by
  obtain ⟨⟨a,b,c,d,e,f,g,n0,n1⟩,_⟩:=h.val;exact ⟨⟨a,b,c,d,e,f,g⟩,n0,n1⟩
theorem playedS_nil {agg wd k cap now:Int} (h:smArg agg wd k cap) (n0:0<=now) (n1:now<=16777216):PlayedSm agg wd k cap now 0 [] [] 0 :=
  ⟨⟨h.good n0 n1,⟨by omega,by omega,fun i hi=>absurd hi (by simp),fun h=>absurd rfl h⟩,fun i hi=>absurd hi (by simp)⟩,hist_nil _ _,fun x hx=>absurd hx (by simp),by simp,by simp⟩
theorem psmnew0 {agg wd k cap now : Int} (h : smGood agg wd k cap now) (w : World) : Calls Tryz.prog 112 (J21 agg wd k cap now) w (Rr (.tuple #[.agg #[agg, wd, k, cap, now,(),""], .int .i64 0]) w) := by
  have PG:=fun w=>pgoodS agg wd k cap now w;rw [decide_eq_true h] at PG;replace PG:=Lib.hid PG;clear h;go_enter Tryz.func112,Tryz.ntmps112;go_wp2_with (go_at_call 204;with_reducible refine (PG.out _).mono ?_;rintro e w9 ⟨rfl,h9⟩;obtain rfl:=h9.symm);exact bodyPost_ret (v := .tuple #[.agg #[agg, wd, k, cap, now,(),""], .int .i64 0]) (by simp [results, Tryz.results112, go_sem, List.getElem?_toArray]) rfl ⟨rfl, by (repeat (first | exact Below.refl _ _ | refine Below.setCell ?_ (by (try simp) <;> omega) _ | refine Below.alloc ?_ (by (try simp) <;> omega) _ | refine Below.drew ?_ | refine Below.trans ?_ (Below.mono (by assumption) (by (try simp) <;> omega))))⟩
theorem sm_cfg {agg wd k cap:Int} (h:smArg agg wd k cap) (w:World):Calls Tryz.prog 108 #[.agg (J32 agg wd k cap)] w (Rr (.int .i64 0) w):=by
  obtain ⟨a,b,c,d,e,f,g⟩:=h;exact pcfgSmooth agg k cap wd w a.1 a.2 d e f g b c
theorem tsNew {agg wd k cap now:Int} (h:smArg agg wd k cap) (n0:0<=now) (n1:now<=16777216) (w:World):Calls Tryz.prog 37 #[.agg (J32 agg wd k cap),now] w (GRet (SmI agg wd k cap [] now) (fun A m c=>(J36 agg wd k cap now (.slice A m c))) 0 (fun _=>False) w):=by
  refine (pyNewSmooth agg wd k cap now w n0 n1 (Lib.hid (sm_cfg h)) (Lib.hid (fun w'=>psmnew0 (h.good n0 n1) w'))).mono fun e w' ⟨he,hb⟩=>?_;exact ⟨none,0,0,he,⟨[],min_nil,playedS_nil h n0 n1,by simp⟩,hb,fun _ a e=>by cases e⟩
theorem tsHV {A:Option Addr} {m c:Nat} {agg wd k cap now:Int} {ad:List Itm} {w:World} (h:SmI agg wd k cap ad now A m c w):RowKit.Hid (∀ w',Below w w w'->Calls Tryz.prog 136 #[.agg (J1 agg wd k cap now (ad.length:Nat) (.slice A m c))] w' (Rr (.int .i64 0) w')):=by
  obtain ⟨l,hin,hp,ha⟩:=h;have:=hp.val;have hs:I64 (ad.length:Nat):=by unfold I64;omega
  exact Lib.hid (fun w' hb=>by
    have P:=pvalS A m c l agg wd k cap now (ad.length:Nat) w' (hin.below hb) hs;rw [smvalE_yes hp.val] at P
    exact P)
theorem tsAdvance {A:Option Addr} {m c:Nat} {agg wd k cap now tt:Int} {ad:List Itm} {w:World} (h:SmI agg wd k cap ad now A m c w) (h1:now<=tt) (h2:tt<=16777216):Calls Tryz.prog 21 #[.agg (J4 agg wd k cap now (ad.length:Nat) (.slice A m c)),tt] w (GRet (SmI agg wd k cap ad tt) (fun A m c=>(J4 agg wd k cap tt (ad.length:Nat) (.slice A m c))) 0 (fun b=>0<m/\∃ a,A=some a/\a.block=b) w):=by
  have HV:=tsHV h;have IO':=smI_ok agg wd k cap ad now;have hblk:=IO'.blk h;obtain ⟨l,hin,hp,ha⟩:=h;have hs:I64 (ad.length:Nat):=by unfold I64;omega
  have hml:=hp.ml;have hln:=hin.len;refine pyAdvanceSmooth A m c agg wd k cap now (ad.length:Nat) tt w _ (smI_ok agg wd k cap ad tt) _ (fun b hb=>?_) HV (Lib.hid (sm_cfg hp.arg.1)) (Lib.hid (fun w' hb=>(psmtick_c A m c l agg wd k cap now (ad.length:Nat) tt w' (hin.below hb) hs (by omega) (smvalE_yes hp.val) (by omega)).mono fun e w'' hq=>?_))
  · obtain ⟨hm,a,e,rfl⟩:=hb;exact hblk hm a e
  · unfold smTick at hq;rw [if_pos (smvalE_yes hp.val),if_neg (by omega)] at hq;obtain ⟨A',m',c',he,hin',hb',hf⟩:=hq;refine ⟨A',m',c',he,⟨_,hin',hp.tick (by omega),ha⟩,hb',fun hm a e=>?_⟩;rcases hf a e with g | ⟨b,eb,g⟩
    · exact .inl g.1
    · refine .inr ⟨?_,b,eb,g.symm⟩;have:=hin'.len;have:=dropM_lenS tt wd l;simp only at *;omega
def SmA (agg wd k now:Int) (ad:List Itm) (w:World) (e:Ending) (w':World):Prop:=∃ lo hi:Int,e = .returned (.tuple #[.agg (J40 lo (.int .i64 ((lo+hi) / 2)) hi),()])/\(∀ n,AggIs agg (liveI now wd ad) n->lo<=n/\n<=hi/\k*(hi-lo)<=n)/\(0<=lo/\lo<=hi/\hi<=1099511627776)/\Below w w w'
theorem tsAsk {A:Option Addr} {m c:Nat} {agg wd k cap now:Int} {ad:List Itm} {w:World} (h:SmI agg wd k cap ad now A m c w) (qa qb:Int):Calls Tryz.prog 12 #[.agg (J4 agg wd k cap now (ad.length:Nat) (.slice A m c)), .agg #[agg,qa,qb]] w (SmA agg wd k now ad w):=by
  have HV:=tsHV h;obtain ⟨l,hin,hp,ha⟩:=h;have hs:I64 (ad.length:Nat):=by unfold I64;omega
  have HC:=Lib.hid (sm_cfg hp.arg.1);have hag:=hp.arg.1.1;refine (pyAskSmooth A m c agg wd k cap now (ad.length:Nat) qa qb (askLo agg now wd l) 1 ((askLo agg now wd l+askHi agg now wd l) / 2) 1 (askHi agg now wd l) 1 w HV HC (Lib.hid (fun w'=>pansSmooth agg wd k cap w' hag.1 hag.2 HC)) (Lib.hid (fun w' hb=>?_))).mono fun e w' ⟨he,hb⟩=>?_
  · have P:=psmask A m c l agg wd k cap now (ad.length:Nat) w' (hin.below hb) hs;unfold askV at P;rw [if_pos (smvalE_yes hp.val)] at P;exact P
  · exact ⟨_,_,he,fun n hn=>ask_true hp.val hp.hist hp.vals hn,ask_le hp.val,hb⟩
end Go.Proofs.YtdipoojjlddohaaGreat
