/- What the law TopRelative needs, joined of its texts by a program (slim2.py); part 36. -/
import Derived.Test.YtdipoojjlddohaaGreatZTopRelative1
import Derived.Test.YtdipoojjlddohaaGreatZTopRelative10
import Derived.Test.YtdipoojjlddohaaGreatZTopRelative12
import Derived.Test.YtdipoojjlddohaaGreatZTopRelative14
import Derived.Test.YtdipoojjlddohaaGreatZTopRelative30
import Derived.Test.YtdipoojjlddohaaGreatZTopRelative33
import Derived.Test.YtdipoojjlddohaaGreatZTopRelative35
set_option linter.unusedVariables false
set_option linter.unusedSimpArgs false
set_option linter.unusedSectionVars false
set_option linter.unnecessarySimpa false
set_option maxRecDepth 100000
namespace Go.Proofs.YtdipoojjlddohaaGreat
open MC
open MT
open Go.RowKit
def askPV (ve:Int) (lT lN hT hN:Nat):Value:=if ve=0 then .tuple #[.agg (J49 (rn lT lN:Nat) (rd lT lN:Nat) (rn hT hN:Nat) (rd hT hN:Nat)),()] else .tuple #[.agg J29,ve]
theorem pofM {m:Mk} (h:rightP m.n m.s m.q) (w:World):Calls Tryz.prog 141 #[.agg (J1 m.seq m.t m.n m.s m.q m.lo m.hi)] w (Rr (.tuple #[.agg #[.int .i64 (rn (mT m) (mN m):Nat), .int .i64 (rd (mT m) (mN m):Nat)], .bool true]) w):=pof_yes _ _ _ _ _ _ _ w h
set_option maxRecDepth 100000 in
theorem pspask_a (A:Option Addr) (m c:Nat) (l:List Mk) (wd k cap now seq:Int) (w:World) (hin:MIn A m c l w) (sB:I64 seq) (hv:spvalE wd k cap now seq l=2):Calls Tryz.prog 44 #[.agg (J6 wd k cap now seq (.slice A m c))] w (Rr (askPV (spvalE wd k cap now seq l) (loT now wd l) (loN now wd l) (hiT now wd l) (hiN now wd l)) w):=by
  rw [show askPV (spvalE wd k cap now seq l) (loT now wd l) (loN now wd l) (hiT now wd l) (hiN now wd l) = .tuple #[.agg J29, .int .i64 2] by unfold askPV;rw [hv];rfl];have P:=fun w' (hb:Below w w w')=>pvalP A m c l wd k cap now seq w' (hin.below hb) sB;rw [hv] at P;replace P:=Lib.hid P;clear hv hin sB;go_enter Tryz.func44,Tryz.ntmps44;go_upto_region 1 with (fail)
  have X:Row ((w.alloc (.cells (J6 wd k cap now seq (.slice A m c)) 39)).alloc (.cells J29 64)) w.heap.size 39 (J6 wd k cap now seq (.slice A m c)):=row_alloc (row_new rfl) _;have R:Row ((w.alloc (.cells (J6 wd k cap now seq (.slice A m c)) 39)).alloc (.cells J29 64)) (w.heap.size+1) 64 J29:=row_new (by simp);have o:Below w w ((w.alloc (.cells (J6 wd k cap now seq (.slice A m c)) 39)).alloc (.cells J29 64)):=bel9;generalize ((w.alloc (.cells (J6 wd k cap now seq (.slice A m c)) 39)).alloc (.cells J29 64))=w0 at X R o |-
  obtain ⟨X0,X1,X2,X3,X4,X5,Xf0,Xf1,Xf2,Xf3,Xf4,Xf5⟩:=row_six X;go_wp2_with fail;refine (P.out _ o).mono ?_;rintro e w1 ⟨rfl,hb⟩;replace X:=row_call X hb;replace R:=row_call R hb;replace o:=o.trans (hb.mono o.size);clear hb X0 X1 X2 X3 X4 X5 Xf0 Xf1 Xf2 Xf3 Xf4 Xf5;obtain ⟨R0,R1,R2,R3,R4,R5,Rf0,Rf1,Rf2,Rf3,Rf4,Rf5⟩:=row_six R;go_wp2;exact bodyPost_ret (v := .tuple #[.agg J29, .int .i64 2]) (by simp [results,Tryz.results44,go_sem,List.getElem?_toArray,R0,R1,R2,R3,R4,R5]) rfl ⟨rfl,below_six o (by omega) _ _ _ _ _ _⟩
set_option maxRecDepth 100000 in
theorem pspask_z (A:Option Addr) (c:Nat) (l:List Mk) (wd k cap now seq:Int) (w:World) (hin:MIn A 0 c l w) (sB:I64 seq) (hv:spvalE wd k cap now seq l=0):Calls Tryz.prog 44 #[.agg (J6 wd k cap now seq (.slice A 0 c))] w (Rr (askPV (spvalE wd k cap now seq l) (loT now wd l) (loN now wd l) (hiT now wd l) (hiN now wd l)) w):=by
  have hl:l=[]:=List.eq_nil_of_length_eq_zero hin.len
  rw [show askPV (spvalE wd k cap now seq l) (loT now wd l) (loN now wd l) (hiT now wd l) (hiN now wd l) = .tuple #[.agg J42,()] by
    unfold askPV;rw [if_pos hv,hl];have e1:loT now wd []=0:=by unfold loT;rw [if_pos rfl]
    have e2:loN now wd []=1:=by unfold loN;rw [if_pos rfl]
    have e3:hiT now wd []=0:=by unfold hiT;rw [if_pos rfl]
    have e4:hiN now wd []=1:=by unfold hiN;rw [if_pos rfl]
    rw [e1,e2,e3,e4]
    rfl]
  have P:=fun w' (hb:Below w w w')=>pvalP A 0 c l wd k cap now seq w' (hin.below hb) sB;rw [hv] at P;replace P:=Lib.hid P;have PE:=Lib.hid (show ∀ w,Calls Tryz.prog 85 #[.agg #[(), .int .i64 1]] w fun e w'=>e = .returned (.agg J42)/\Below w w w' from fun w=>pexactR 0 1 w (by omega) (by omega) (by omega) (Nat.gcd_one_right 0));have P0:=Lib.hid (fun w=>pratio 0 w);clear hv hin sB hl;go_enter Tryz.func44,Tryz.ntmps44;go_upto_region 1 with (fail)
  have X:Row ((w.alloc (.cells (J6 wd k cap now seq (.slice A 0 c)) 39)).alloc (.cells J29 64)) w.heap.size 39 (J6 wd k cap now seq (.slice A 0 c)):=row_alloc (row_new rfl) _;have R:Row ((w.alloc (.cells (J6 wd k cap now seq (.slice A 0 c)) 39)).alloc (.cells J29 64)) (w.heap.size+1) 64 J29:=row_new (by simp);have o:Below w w ((w.alloc (.cells (J6 wd k cap now seq (.slice A 0 c)) 39)).alloc (.cells J29 64)):=bel9;generalize ((w.alloc (.cells (J6 wd k cap now seq (.slice A 0 c)) 39)).alloc (.cells J29 64))=w0 at X R o |-
  obtain ⟨X0,X1,X2,X3,X4,X5,Xf0,Xf1,Xf2,Xf3,Xf4,Xf5⟩:=row_six X;go_wp2_with fail;refine (P.out _ o).mono ?_;rintro e w1 ⟨rfl,hb⟩;replace X:=row_call X hb;replace R:=row_call R hb;replace o:=o.trans (hb.mono o.size);clear hb X0 X1 X2 X3 X4 X5 Xf0 Xf1 Xf2 Xf3 Xf4 Xf5;obtain ⟨X0,X1,X2,X3,X4,X5,Xf0,Xf1,Xf2,Xf3,Xf4,Xf5⟩:=row_six X;go_wp2_with fail;refine (P0.out _).mono ?_;rintro e w4 ⟨rfl,hb⟩;replace X:=row_call X hb;replace R:=row_call R hb;replace o:=o.trans (hb.mono o.size);clear hb X0 X1 X2 X3 X4 X5 Xf0 Xf1 Xf2 Xf3 Xf4 Xf5;go_wp2_with fail;refine (PE.out _).mono ?_;rintro e w5 ⟨rfl,hb⟩;replace X:=row_call X hb;replace R:=row_call R hb;replace o:=o.trans (hb.mono o.size);clear hb;obtain ⟨R0,R1,R2,R3,R4,R5,Rf0,Rf1,Rf2,Rf3,Rf4,Rf5⟩:=row_six R;go_wp2;exact bodyPost_ret (v := .tuple #[.agg J42,()]) (by simp [results,Tryz.results44,go_sem,List.getElem?_toArray,R0,R1,R2,R3,R4,R5]) rfl ⟨rfl,below_six o (by omega) _ _ _ _ _ _⟩
set_option maxRecDepth 100000 in
set_option maxHeartbeats 4000000 in
theorem pspask_l (A:Option Addr) (m c:Nat) (l:List Mk) (wd k cap now seq:Int) (w:World) (hin:MIn A m c l w) (sB:I64 seq) (hv:spvalE wd k cap now seq l=0) (hm0:0<m) (hlv:now-wd<(mkAt l 0).t):Calls Tryz.prog 44 #[.agg (J6 wd k cap now seq (.slice A m c))] w (Rr (askPV (spvalE wd k cap now seq l) (loT now wd l) (loN now wd l) (hiT now wd l) (hiN now wd l)) w):=by
  obtain ⟨hG,hMV,_⟩:=of_spvalE hv;obtain ⟨d0,d1,k0,k1,c0,c1,n0,n1⟩:=hG;have hVL:=(mvalid_iff.1 hMV).2;have hl:=hin.len;have hne:l≠[]:=fun e=>by rw [e] at hl;simp at hl;omega
  have e1:loT now wd l=mT (mkAt l 0):=by unfold loT;rw [if_neg hne,if_pos hlv]
  have e2:loN now wd l=mN (mkAt l 0):=by unfold loN;rw [if_neg hne,if_pos hlv]
  have e3:hiT now wd l=mT (mkAt l 0):=by unfold hiT;rw [if_neg hne,if_pos hlv]
  have e4:hiN now wd l=mN (mkAt l 0):=by unfold hiN;rw [if_neg hne,if_pos hlv]
  rw [e1,e2,e3,e4,hv];clear e1 e2 e3 e4;have oa:=hVL.one _ (mkAt_mem (l:=l) (i:=0) (by omega));have ra:=one_right oa c1;have rka:=rat_mark ra;have PX:=fun w=>pofM ra w;have PL:=fun w=>plive now wd (mkAt l 0).t w n0 n1 d0 d1 oa.2.2.2.2.1 oa.2.2.2.2.2.1;rw [decide_eq_true hlv] at PL;unfold askPV;rw [if_pos rfl];generalize rn (mT (mkAt l 0)) (mN (mkAt l 0))=xn at PX rka |-
  generalize rd (mT (mkAt l 0)) (mN (mkAt l 0))=xd at PX rka |-
  have PE:=Lib.hid (fun w=>pexactR xn xd w (by have:=rka.1;omega) rka.2.1.1 (by have:=rka.2.1.2;omega) rka.2.2);obtain ⟨ad,rfl,hadb,ht0⟩:=hin.reads.mk (i:=0) hm0;have ht0:MkCells w ad (mkAt l 0):=ht0;generalize hma:mkAt l 0=ma at ht0 PX PL;obtain ⟨sq,tk,n,s,q,lo,hi⟩:=ma;dsimp only at PX PL;clear hma;replace PX:=Lib.hid PX;replace PL:=Lib.hid PL;have HT0:=Lib.hid ht0;have g0:(0:Int)<(m:Int):=by omega
  have mz:((m:Int) == 0)=false:=by simp;omega
  have P:=fun w' (hb:Below w w w')=>pvalP (some ad) m c l wd k cap now seq w' (hin.below hb) sB;rw [hv] at P;replace P:=Lib.hid P;clear hv hin sB hMV hVL hl hne rka oa ra ht0 hlv;go_enter Tryz.func44,Tryz.ntmps44;go_upto_region 1 with (fail)
  have X:Row ((w.alloc (.cells (J6 wd k cap now seq (.slice (some ad) m c)) 39)).alloc (.cells J29 64)) w.heap.size 39 (J6 wd k cap now seq (.slice (some ad) m c)):=row_alloc (row_new rfl) _;have R:Row ((w.alloc (.cells (J6 wd k cap now seq (.slice (some ad) m c)) 39)).alloc (.cells J29 64)) (w.heap.size+1) 64 J29:=row_new (by simp);have o:Below w w ((w.alloc (.cells (J6 wd k cap now seq (.slice (some ad) m c)) 39)).alloc (.cells J29 64)):=bel9;generalize ((w.alloc (.cells (J6 wd k cap now seq (.slice (some ad) m c)) 39)).alloc (.cells J29 64))=w0 at X R o |-
  obtain ⟨X0,X1,X2,X3,X4,X5,Xf0,Xf1,Xf2,Xf3,Xf4,Xf5⟩:=row_six X;go_wp2_with fail;refine (P.out _ o).mono ?_;rintro e w1 ⟨rfl,hb⟩;replace X:=row_call X hb;replace R:=row_call R hb;replace o:=o.trans (hb.mono o.size);clear hb X0 X1 X2 X3 X4 X5 Xf0 Xf1 Xf2 Xf3 Xf4 Xf5;obtain ⟨q0,q1,q2,q3,q4,q5,q6⟩:=HT0.out.below o hadb;dsimp only at q0 q1 q2 q3 q4 q5 q6;obtain ⟨X0,X1,X2,X3,X4,X5,Xf0,Xf1,Xf2,Xf3,Xf4,Xf5⟩:=row_six X;go_upto_region 7 with (fail)
  clear X0 X1 X2 X3 X4 X5 Xf0 Xf1 Xf2 Xf3 Xf4 Xf5;have Fr:Row (w1.alloc (.cells (J1 sq tk n s q lo hi) 228)) w1.heap.size 228 (J1 sq tk n s q lo hi):=row_new rfl;replace X:=row_alloc X (.cells (J1 sq tk n s q lo hi) 228);replace R:=row_alloc R (.cells (J1 sq tk n s q lo hi) 228);replace o:=o.alloc o.size (.cells (J1 sq tk n s q lo hi) 228);generalize w1.alloc (.cells (J1 sq tk n s q lo hi) 228)=w2 at X R Fr o |-
  generalize w1.heap.size=fb at Fr |-
  clear q0 q1 q2 q3 q4 q5 q6;obtain ⟨F0,F1,F2,F3,F4,F5,F6,Ff0,Ff1,Ff2,Ff3,Ff4,Ff5,Ff6⟩:=row_seven Fr;go_wp2_with fail;refine (PX.out _).mono ?_;rintro e w3 ⟨rfl,hb⟩;replace X:=row_call X hb;replace R:=row_call R hb;replace Fr:=row_call Fr hb;replace o:=o.trans (hb.mono o.size);clear hb F0 F1 F2 F3 F4 F5 F6 Ff0 Ff1 Ff2 Ff3 Ff4 Ff5 Ff6;go_upto_region 8 with (fail)
  have Hi:Row (w3.alloc (.cells #[xn,xd] 62)) w3.heap.size 62 #[xn,xd]:=row_new rfl;replace X:=row_alloc X (.cells #[xn,xd] 62);replace R:=row_alloc R (.cells #[xn,xd] 62);replace Fr:=row_alloc Fr (.cells #[xn,xd] 62);replace o:=o.alloc o.size (.cells #[xn,xd] 62);generalize w3.alloc (.cells #[xn,xd] 62)=w4 at X R Fr Hi o |-
  generalize w3.heap.size=ib at Hi |-
  obtain ⟨X0,X1,X2,X3,X4,X5,Xf0,Xf1,Xf2,Xf3,Xf4,Xf5⟩:=row_six X;obtain ⟨F0,F1,F2,F3,F4,F5,F6,Ff0,Ff1,Ff2,Ff3,Ff4,Ff5,Ff6⟩:=row_seven Fr;go_upto_region 9 with (go_at_call 137;with_reducible refine (PL.out _).mono ?_;rintro e w9 ⟨rfl,h9⟩;obtain rfl:=h9.symm)
  clear X0 X1 X2 X3 X4 X5 Xf0 Xf1 Xf2 Xf3 Xf4 Xf5 F0 F1 F2 F3 F4 F5 F6 Ff0 Ff1 Ff2 Ff3 Ff4 Ff5 Ff6;obtain ⟨H0,H1,Hf0,Hf1⟩:=row_two Hi;go_wp2_with fail;refine (PE.out _).mono ?_;rintro e w5 ⟨rfl,hb⟩;replace X:=row_call X hb;replace R:=row_call R hb;replace Fr:=row_call Fr hb;replace Hi:=row_call Hi hb;replace o:=o.trans (hb.mono o.size);clear hb H0 H1 Hf0 Hf1;obtain ⟨R0,R1,R2,R3,R4,R5,Rf0,Rf1,Rf2,Rf3,Rf4,Rf5⟩:=row_six R;go_wp2;exact bodyPost_ret (v := .tuple #[.agg (J41 xn xd),()]) (by simp [results,Tryz.results44,go_sem,List.getElem?_toArray,R0,R1,R2,R3,R4,R5]) rfl ⟨rfl,below_six o (by omega) _ _ _ _ _ _⟩
set_option maxRecDepth 100000 in
set_option maxHeartbeats 4000000 in
theorem pspask_n (A:Option Addr) (m c:Nat) (l:List Mk) (wd k cap now seq:Int) (w:World) (hin:MIn A m c l w) (sB:I64 seq) (hv:spvalE wd k cap now seq l=0) (hm0:0<m) (hlv:¬ now-wd<(mkAt l 0).t) (hnx:(mkAt l 1).seq=(mkAt l 0).seq+1):Calls Tryz.prog 44 #[.agg (J6 wd k cap now seq (.slice A m c))] w (Rr (askPV (spvalE wd k cap now seq l) (loT now wd l) (loN now wd l) (hiT now wd l) (hiN now wd l)) w):=by
  obtain ⟨hG,hMV,_⟩:=of_spvalE hv;obtain ⟨d0,d1,k0,k1,c0,c1,n0,n1⟩:=hG;have hVL:=(mvalid_iff.1 hMV).2;have hl:=hin.len;have hne:l≠[]:=fun e=>by rw [e] at hl;simp at hl;omega
  have hm1:1<m:=by
    apply Nat.lt_of_not_le;intro hc;obtain ⟨a,rfl⟩:∃ a,l=[a]:=List.length_eq_one_iff.1 (by omega);exact hlv (hVL.alone a rfl)
  have e1:loT now wd l=mT (mkAt l 1):=by unfold loT;rw [if_neg hne,if_neg hlv]
  have e2:loN now wd l=mN (mkAt l 1):=by unfold loN;rw [if_neg hne,if_neg hlv]
  have e3:hiT now wd l=mT (mkAt l 1):=by unfold hiT;rw [if_neg hne,if_neg hlv,if_pos hnx]
  have e4:hiN now wd l=mN (mkAt l 1):=by unfold hiN;rw [if_neg hne,if_neg hlv,if_pos hnx]
  rw [e1,e2,e3,e4,hv];clear e1 e2 e3 e4;have oa:=hVL.one _ (mkAt_mem (l:=l) (i:=0) (by omega));have ra:=one_right oa c1;have rka:=rat_mark ra;have PX:=fun w=>pofM ra w;have PL:=fun w=>plive now wd (mkAt l 0).t w n0 n1 d0 d1 oa.2.2.2.2.1 oa.2.2.2.2.2.1;rw [decide_eq_false hlv] at PL;have ob:=hVL.one _ (mkAt_mem (l:=l) (i:=1) (by omega));have rb:=one_right ob c1;have rkb:=rat_mark rb;have PY:=fun w=>pofM rb w;unfold askPV;rw [if_pos rfl];generalize rn (mT (mkAt l 0)) (mN (mkAt l 0))=xn at PX rka |-
  generalize rd (mT (mkAt l 0)) (mN (mkAt l 0))=xd at PX rka |-
  generalize rn (mT (mkAt l 1)) (mN (mkAt l 1))=yn at PY rkb |-
  generalize rd (mT (mkAt l 1)) (mN (mkAt l 1))=yd at PY rkb |-
  have PE:=Lib.hid (fun w=>pexactR yn yd w (by have:=rkb.1;omega) rkb.2.1.1 (by have:=rkb.2.1.2;omega) rkb.2.2);obtain ⟨ad,rfl,hadb,ht0⟩:=hin.reads.mk (i:=0) hm0;have ht0:MkCells w ad (mkAt l 0):=ht0;obtain ⟨ad',e',hadb',ht1⟩:=hin.reads.mk (i:=1) hm1;obtain rfl:=Option.some.inj e';have ht1:MkCells w (ad.add (1*7)) (mkAt l 1):=ht1;have hsb:=(mvalid_iff.1 hMV).1.2;have hs1:=oa.1;have hs2:=oa.2.1;generalize hma:mkAt l 0=ma at ht0 PX PL hnx hs1 hs2;generalize hmb:mkAt l 1=mb at ht1 PY hnx;obtain ⟨osq,otk,on,os,oq,olo,ohi⟩:=mb;obtain ⟨sq,tk,n,s,q,lo,hi⟩:=ma;dsimp only at PX PL PY hnx hs1 hs2;have wsq:IntKind.i64.wrap (sq+1)=sq+1:=IntWalk.i64_in _ (by omega);have tsq:(osq == sq+1)=true:=by simp;omega
  replace PY:=Lib.hid PY;have HT1:=Lib.hid ht1;have g1:(1:Int)<(m:Int):=by omega
  clear hma hmb hnx hs1 hs2 hsb ht1 e' rkb ob rb;replace PX:=Lib.hid PX;replace PL:=Lib.hid PL;have HT0:=Lib.hid ht0;have g0:(0:Int)<(m:Int):=by omega
  have mz:((m:Int) == 0)=false:=by simp;omega
  have P:=fun w' (hb:Below w w w')=>pvalP (some ad) m c l wd k cap now seq w' (hin.below hb) sB;rw [hv] at P;replace P:=Lib.hid P;clear hv hin sB hMV hVL hl hne rka oa ra ht0 hlv;go_enter Tryz.func44,Tryz.ntmps44;go_upto_region 1 with (fail)
  have X:Row ((w.alloc (.cells (J6 wd k cap now seq (.slice (some ad) m c)) 39)).alloc (.cells J29 64)) w.heap.size 39 (J6 wd k cap now seq (.slice (some ad) m c)):=row_alloc (row_new rfl) _;have R:Row ((w.alloc (.cells (J6 wd k cap now seq (.slice (some ad) m c)) 39)).alloc (.cells J29 64)) (w.heap.size+1) 64 J29:=row_new (by simp);have o:Below w w ((w.alloc (.cells (J6 wd k cap now seq (.slice (some ad) m c)) 39)).alloc (.cells J29 64)):=bel9;generalize ((w.alloc (.cells (J6 wd k cap now seq (.slice (some ad) m c)) 39)).alloc (.cells J29 64))=w0 at X R o |-
  obtain ⟨X0,X1,X2,X3,X4,X5,Xf0,Xf1,Xf2,Xf3,Xf4,Xf5⟩:=row_six X;go_wp2_with fail;refine (P.out _ o).mono ?_;rintro e w1 ⟨rfl,hb⟩;replace X:=row_call X hb;replace R:=row_call R hb;replace o:=o.trans (hb.mono o.size);clear hb X0 X1 X2 X3 X4 X5 Xf0 Xf1 Xf2 Xf3 Xf4 Xf5;obtain ⟨q0,q1,q2,q3,q4,q5,q6⟩:=HT0.out.below o hadb;dsimp only at q0 q1 q2 q3 q4 q5 q6;obtain ⟨X0,X1,X2,X3,X4,X5,Xf0,Xf1,Xf2,Xf3,Xf4,Xf5⟩:=row_six X;go_upto_region 7 with (fail)
  clear X0 X1 X2 X3 X4 X5 Xf0 Xf1 Xf2 Xf3 Xf4 Xf5;have Fr:Row (w1.alloc (.cells (J1 sq tk n s q lo hi) 228)) w1.heap.size 228 (J1 sq tk n s q lo hi):=row_new rfl;replace X:=row_alloc X (.cells (J1 sq tk n s q lo hi) 228);replace R:=row_alloc R (.cells (J1 sq tk n s q lo hi) 228);replace o:=o.alloc o.size (.cells (J1 sq tk n s q lo hi) 228);generalize w1.alloc (.cells (J1 sq tk n s q lo hi) 228)=w2 at X R Fr o |-
  generalize w1.heap.size=fb at Fr |-
  clear q0 q1 q2 q3 q4 q5 q6;obtain ⟨F0,F1,F2,F3,F4,F5,F6,Ff0,Ff1,Ff2,Ff3,Ff4,Ff5,Ff6⟩:=row_seven Fr;go_wp2_with fail;refine (PX.out _).mono ?_;rintro e w3 ⟨rfl,hb⟩;replace X:=row_call X hb;replace R:=row_call R hb;replace Fr:=row_call Fr hb;replace o:=o.trans (hb.mono o.size);clear hb F0 F1 F2 F3 F4 F5 F6 Ff0 Ff1 Ff2 Ff3 Ff4 Ff5 Ff6;go_upto_region 8 with (fail)
  have Hi:Row (w3.alloc (.cells #[xn,xd] 62)) w3.heap.size 62 #[xn,xd]:=row_new rfl;replace X:=row_alloc X (.cells #[xn,xd] 62);replace R:=row_alloc R (.cells #[xn,xd] 62);replace Fr:=row_alloc Fr (.cells #[xn,xd] 62);replace o:=o.alloc o.size (.cells #[xn,xd] 62);generalize w3.alloc (.cells #[xn,xd] 62)=w4 at X R Fr Hi o |-
  generalize w3.heap.size=ib at Hi |-
  obtain ⟨X0,X1,X2,X3,X4,X5,Xf0,Xf1,Xf2,Xf3,Xf4,Xf5⟩:=row_six X;obtain ⟨F0,F1,F2,F3,F4,F5,F6,Ff0,Ff1,Ff2,Ff3,Ff4,Ff5,Ff6⟩:=row_seven Fr;go_upto_region 10 with (go_at_call 137;with_reducible refine (PL.out _).mono ?_;rintro e w9 ⟨rfl,h9⟩;obtain rfl:=h9.symm)
  obtain ⟨s0,s1,s2,s3,s4,s5,s6⟩:=HT1.out.below o hadb';dsimp only at s0 s1 s2 s3 s4 s5 s6;replace s0:w4.cell? ⟨ad.block,ad.off+7,none⟩=some (.int .i64 osq):=s0;replace s1:w4.cell? ⟨ad.block,ad.off+7+1,none⟩=some (.int .i64 otk):=s1;replace s2:w4.cell? ⟨ad.block,ad.off+7+2,none⟩=some (.int .i64 on):=s2;replace s3:w4.cell? ⟨ad.block,ad.off+7+3,none⟩=some (.int .i64 os):=s3;replace s4:w4.cell? ⟨ad.block,ad.off+7+4,none⟩=some (.int .i64 oq):=s4;replace s5:w4.cell? ⟨ad.block,ad.off+7+5,none⟩=some (.int .i64 olo):=s5;replace s6:w4.cell? ⟨ad.block,ad.off+7+6,none⟩=some (.int .i64 ohi):=s6;clear X0 X1 X2 X3 X4 X5 Xf0 Xf1 Xf2 Xf3 Xf4 Xf5 F0 F1 F2 F3 F4 F5 F6 Ff0 Ff1 Ff2 Ff3 Ff4 Ff5 Ff6;obtain ⟨X0,X1,X2,X3,X4,X5,Xf0,Xf1,Xf2,Xf3,Xf4,Xf5⟩:=row_six X;go_upto_region 11 with (fail)
  clear X0 X1 X2 X3 X4 X5 Xf0 Xf1 Xf2 Xf3 Xf4 Xf5;have Sr:Row (w4.alloc (.cells (J1 osq otk on os oq olo ohi) 228)) w4.heap.size 228 (J1 osq otk on os oq olo ohi):=row_new rfl;replace X:=row_alloc X (.cells (J1 osq otk on os oq olo ohi) 228);replace R:=row_alloc R (.cells (J1 osq otk on os oq olo ohi) 228);replace Fr:=row_alloc Fr (.cells (J1 osq otk on os oq olo ohi) 228);replace Hi:=row_alloc Hi (.cells (J1 osq otk on os oq olo ohi) 228);replace o:=o.alloc o.size (.cells (J1 osq otk on os oq olo ohi) 228);generalize w4.alloc (.cells (J1 osq otk on os oq olo ohi) 228)=w5 at X R Fr Hi Sr o |-
  generalize w4.heap.size=gb at Sr |-
  clear s0 s1 s2 s3 s4 s5 s6;obtain ⟨S0,S1,S2,S3,S4,S5,S6,Sf0,Sf1,Sf2,Sf3,Sf4,Sf5,Sf6⟩:=row_seven Sr;go_wp2_with fail;refine (PY.out _).mono ?_;rintro e w6 ⟨rfl,hb⟩;replace X:=row_call X hb;replace R:=row_call R hb;replace Fr:=row_call Fr hb;replace Hi:=row_call Hi hb;replace Sr:=row_call Sr hb;replace o:=o.trans (hb.mono o.size);clear hb S0 S1 S2 S3 S4 S5 S6 Sf0 Sf1 Sf2 Sf3 Sf4 Sf5 Sf6;go_upto_region 12 with (fail)
  have Lo:Row (w6.alloc (.cells #[yn,yd] 62)) w6.heap.size 62 #[yn,yd]:=row_new rfl;replace X:=row_alloc X (.cells #[yn,yd] 62);replace R:=row_alloc R (.cells #[yn,yd] 62);replace Fr:=row_alloc Fr (.cells #[yn,yd] 62);replace Hi:=row_alloc Hi (.cells #[yn,yd] 62);replace Sr:=row_alloc Sr (.cells #[yn,yd] 62);replace o:=o.alloc o.size (.cells #[yn,yd] 62);generalize w6.alloc (.cells #[yn,yd] 62)=w7 at X R Fr Hi Sr Lo o |-
  generalize w6.heap.size=jb at Lo |-
  obtain ⟨F0,F1,F2,F3,F4,F5,F6,Ff0,Ff1,Ff2,Ff3,Ff4,Ff5,Ff6⟩:=row_seven Fr;obtain ⟨S0,S1,S2,S3,S4,S5,S6,Sf0,Sf1,Sf2,Sf3,Sf4,Sf5,Sf6⟩:=row_seven Sr;go_upto_region 13 with (fail)
  clear F0 F1 F2 F3 F4 F5 F6 Ff0 Ff1 Ff2 Ff3 Ff4 Ff5 Ff6 S0 S1 S2 S3 S4 S5 S6 Sf0 Sf1 Sf2 Sf3 Sf4 Sf5 Sf6;obtain ⟨L0,L1,Lf0,Lf1⟩:=row_two Lo;go_wp2_with fail;refine (PE.out _).mono ?_;rintro e w8 ⟨rfl,hb⟩;replace X:=row_call X hb;replace R:=row_call R hb;replace Fr:=row_call Fr hb;replace Hi:=row_call Hi hb;replace Sr:=row_call Sr hb;replace Lo:=row_call Lo hb;replace o:=o.trans (hb.mono o.size);clear hb L0 L1 Lf0 Lf1;obtain ⟨R0,R1,R2,R3,R4,R5,Rf0,Rf1,Rf2,Rf3,Rf4,Rf5⟩:=row_six R;go_wp2;exact bodyPost_ret (v := .tuple #[.agg (J41 yn yd),()]) (by simp [results,Tryz.results44,go_sem,List.getElem?_toArray,R0,R1,R2,R3,R4,R5]) rfl ⟨rfl,below_six o (by omega) _ _ _ _ _ _⟩
set_option maxRecDepth 100000 in
set_option maxHeartbeats 4000000 in
theorem pspask_w (A:Option Addr) (m c:Nat) (l:List Mk) (wd k cap now seq:Int) (w:World) (hin:MIn A m c l w) (sB:I64 seq) (hv:spvalE wd k cap now seq l=0) (hm0:0<m) (hlv:¬ now-wd<(mkAt l 0).t) (hnx:¬ (mkAt l 1).seq=(mkAt l 0).seq+1):Calls Tryz.prog 44 #[.agg (J6 wd k cap now seq (.slice A m c))] w (Rr (askPV (spvalE wd k cap now seq l) (loT now wd l) (loN now wd l) (hiT now wd l) (hiN now wd l)) w):=by
  obtain ⟨hG,hMV,_⟩:=of_spvalE hv;obtain ⟨d0,d1,k0,k1,c0,c1,n0,n1⟩:=hG;have hVL:=(mvalid_iff.1 hMV).2;have hl:=hin.len;have hne:l≠[]:=fun e=>by rw [e] at hl;simp at hl;omega
  have hm1:1<m:=by
    apply Nat.lt_of_not_le;intro hc;obtain ⟨a,rfl⟩:∃ a,l=[a]:=List.length_eq_one_iff.1 (by omega);exact hlv (hVL.alone a rfl)
  have e1:loT now wd l=mT (mkAt l 1):=by unfold loT;rw [if_neg hne,if_neg hlv]
  have e2:loN now wd l=mN (mkAt l 1):=by unfold loN;rw [if_neg hne,if_neg hlv]
  have e3:hiT now wd l=mT (mkAt l 0):=by unfold hiT;rw [if_neg hne,if_neg hlv,if_neg hnx]
  have e4:hiN now wd l=mN (mkAt l 0):=by unfold hiN;rw [if_neg hne,if_neg hlv,if_neg hnx]
  rw [e1,e2,e3,e4,hv];clear e1 e2 e3 e4;have oa:=hVL.one _ (mkAt_mem (l:=l) (i:=0) (by omega));have ra:=one_right oa c1;have rka:=rat_mark ra;have PX:=fun w=>pofM ra w;have PL:=fun w=>plive now wd (mkAt l 0).t w n0 n1 d0 d1 oa.2.2.2.2.1 oa.2.2.2.2.2.1;rw [decide_eq_false hlv] at PL;have ob:=hVL.one _ (mkAt_mem (l:=l) (i:=1) (by omega));have rb:=one_right ob c1;have rkb:=rat_mark rb;have PY:=fun w=>pofM rb w;unfold askPV;rw [if_pos rfl];generalize rn (mT (mkAt l 0)) (mN (mkAt l 0))=xn at PX rka |-
  generalize rd (mT (mkAt l 0)) (mN (mkAt l 0))=xd at PX rka |-
  generalize rn (mT (mkAt l 1)) (mN (mkAt l 1))=yn at PY rkb |-
  generalize rd (mT (mkAt l 1)) (mN (mkAt l 1))=yd at PY rkb |-
  obtain ⟨ad,rfl,hadb,ht0⟩:=hin.reads.mk (i:=0) hm0;have ht0:MkCells w ad (mkAt l 0):=ht0;obtain ⟨ad',e',hadb',ht1⟩:=hin.reads.mk (i:=1) hm1;obtain rfl:=Option.some.inj e';have ht1:MkCells w (ad.add (1*7)) (mkAt l 1):=ht1;have hsb:=(mvalid_iff.1 hMV).1.2;have hs1:=oa.1;have hs2:=oa.2.1;generalize hma:mkAt l 0=ma at ht0 PX PL hnx hs1 hs2;generalize hmb:mkAt l 1=mb at ht1 PY hnx;obtain ⟨osq,otk,on,os,oq,olo,ohi⟩:=mb;obtain ⟨sq,tk,n,s,q,lo,hi⟩:=ma;dsimp only at PX PL PY hnx hs1 hs2;have wsq:IntKind.i64.wrap (sq+1)=sq+1:=IntWalk.i64_in _ (by omega);have tsq:(osq == sq+1)=false:=by simp;omega
  replace PY:=Lib.hid PY;have HT1:=Lib.hid ht1;have g1:(1:Int)<(m:Int):=by omega
  clear hma hmb hnx hs1 hs2 hsb ht1 e' rkb ob rb;replace PX:=Lib.hid PX;replace PL:=Lib.hid PL;have HT0:=Lib.hid ht0;have g0:(0:Int)<(m:Int):=by omega
  have mz:((m:Int) == 0)=false:=by simp;omega
  have P:=fun w' (hb:Below w w w')=>pvalP (some ad) m c l wd k cap now seq w' (hin.below hb) sB;rw [hv] at P;replace P:=Lib.hid P;clear hv hin sB hMV hVL hl hne rka oa ra ht0 hlv;go_enter Tryz.func44,Tryz.ntmps44;go_upto_region 1 with (fail)
  have X:Row ((w.alloc (.cells (J6 wd k cap now seq (.slice (some ad) m c)) 39)).alloc (.cells J29 64)) w.heap.size 39 (J6 wd k cap now seq (.slice (some ad) m c)):=row_alloc (row_new rfl) _;have R:Row ((w.alloc (.cells (J6 wd k cap now seq (.slice (some ad) m c)) 39)).alloc (.cells J29 64)) (w.heap.size+1) 64 J29:=row_new (by simp);have o:Below w w ((w.alloc (.cells (J6 wd k cap now seq (.slice (some ad) m c)) 39)).alloc (.cells J29 64)):=bel9;generalize ((w.alloc (.cells (J6 wd k cap now seq (.slice (some ad) m c)) 39)).alloc (.cells J29 64))=w0 at X R o |-
  obtain ⟨X0,X1,X2,X3,X4,X5,Xf0,Xf1,Xf2,Xf3,Xf4,Xf5⟩:=row_six X;go_wp2_with fail;refine (P.out _ o).mono ?_;rintro e w1 ⟨rfl,hb⟩;replace X:=row_call X hb;replace R:=row_call R hb;replace o:=o.trans (hb.mono o.size);clear hb X0 X1 X2 X3 X4 X5 Xf0 Xf1 Xf2 Xf3 Xf4 Xf5;obtain ⟨q0,q1,q2,q3,q4,q5,q6⟩:=HT0.out.below o hadb;dsimp only at q0 q1 q2 q3 q4 q5 q6;obtain ⟨X0,X1,X2,X3,X4,X5,Xf0,Xf1,Xf2,Xf3,Xf4,Xf5⟩:=row_six X;go_upto_region 7 with (fail)
  clear X0 X1 X2 X3 X4 X5 Xf0 Xf1 Xf2 Xf3 Xf4 Xf5;have Fr:Row (w1.alloc (.cells (J1 sq tk n s q lo hi) 228)) w1.heap.size 228 (J1 sq tk n s q lo hi):=row_new rfl;replace X:=row_alloc X (.cells (J1 sq tk n s q lo hi) 228);replace R:=row_alloc R (.cells (J1 sq tk n s q lo hi) 228);replace o:=o.alloc o.size (.cells (J1 sq tk n s q lo hi) 228);generalize w1.alloc (.cells (J1 sq tk n s q lo hi) 228)=w2 at X R Fr o |-
  generalize w1.heap.size=fb at Fr |-
  clear q0 q1 q2 q3 q4 q5 q6;obtain ⟨F0,F1,F2,F3,F4,F5,F6,Ff0,Ff1,Ff2,Ff3,Ff4,Ff5,Ff6⟩:=row_seven Fr;go_wp2_with fail;refine (PX.out _).mono ?_;rintro e w3 ⟨rfl,hb⟩;replace X:=row_call X hb;replace R:=row_call R hb;replace Fr:=row_call Fr hb;replace o:=o.trans (hb.mono o.size);clear hb F0 F1 F2 F3 F4 F5 F6 Ff0 Ff1 Ff2 Ff3 Ff4 Ff5 Ff6;go_upto_region 8 with (fail)
  have Hi:Row (w3.alloc (.cells #[xn,xd] 62)) w3.heap.size 62 #[xn,xd]:=row_new rfl;replace X:=row_alloc X (.cells #[xn,xd] 62);replace R:=row_alloc R (.cells #[xn,xd] 62);replace Fr:=row_alloc Fr (.cells #[xn,xd] 62);replace o:=o.alloc o.size (.cells #[xn,xd] 62);generalize w3.alloc (.cells #[xn,xd] 62)=w4 at X R Fr Hi o |-
  generalize w3.heap.size=ib at Hi |-
  obtain ⟨X0,X1,X2,X3,X4,X5,Xf0,Xf1,Xf2,Xf3,Xf4,Xf5⟩:=row_six X;obtain ⟨F0,F1,F2,F3,F4,F5,F6,Ff0,Ff1,Ff2,Ff3,Ff4,Ff5,Ff6⟩:=row_seven Fr;go_upto_region 10 with (go_at_call 137;with_reducible refine (PL.out _).mono ?_;rintro e w9 ⟨rfl,h9⟩;obtain rfl:=h9.symm)
  obtain ⟨s0,s1,s2,s3,s4,s5,s6⟩:=HT1.out.below o hadb';dsimp only at s0 s1 s2 s3 s4 s5 s6;replace s0:w4.cell? ⟨ad.block,ad.off+7,none⟩=some (.int .i64 osq):=s0;replace s1:w4.cell? ⟨ad.block,ad.off+7+1,none⟩=some (.int .i64 otk):=s1;replace s2:w4.cell? ⟨ad.block,ad.off+7+2,none⟩=some (.int .i64 on):=s2;replace s3:w4.cell? ⟨ad.block,ad.off+7+3,none⟩=some (.int .i64 os):=s3;replace s4:w4.cell? ⟨ad.block,ad.off+7+4,none⟩=some (.int .i64 oq):=s4;replace s5:w4.cell? ⟨ad.block,ad.off+7+5,none⟩=some (.int .i64 olo):=s5;replace s6:w4.cell? ⟨ad.block,ad.off+7+6,none⟩=some (.int .i64 ohi):=s6;clear X0 X1 X2 X3 X4 X5 Xf0 Xf1 Xf2 Xf3 Xf4 Xf5 F0 F1 F2 F3 F4 F5 F6 Ff0 Ff1 Ff2 Ff3 Ff4 Ff5 Ff6;obtain ⟨X0,X1,X2,X3,X4,X5,Xf0,Xf1,Xf2,Xf3,Xf4,Xf5⟩:=row_six X;go_upto_region 11 with (fail)
  clear X0 X1 X2 X3 X4 X5 Xf0 Xf1 Xf2 Xf3 Xf4 Xf5;have Sr:Row (w4.alloc (.cells (J1 osq otk on os oq olo ohi) 228)) w4.heap.size 228 (J1 osq otk on os oq olo ohi):=row_new rfl;replace X:=row_alloc X (.cells (J1 osq otk on os oq olo ohi) 228);replace R:=row_alloc R (.cells (J1 osq otk on os oq olo ohi) 228);replace Fr:=row_alloc Fr (.cells (J1 osq otk on os oq olo ohi) 228);replace Hi:=row_alloc Hi (.cells (J1 osq otk on os oq olo ohi) 228);replace o:=o.alloc o.size (.cells (J1 osq otk on os oq olo ohi) 228);generalize w4.alloc (.cells (J1 osq otk on os oq olo ohi) 228)=w5 at X R Fr Hi Sr o |-
  generalize w4.heap.size=gb at Sr |-
  clear s0 s1 s2 s3 s4 s5 s6;obtain ⟨S0,S1,S2,S3,S4,S5,S6,Sf0,Sf1,Sf2,Sf3,Sf4,Sf5,Sf6⟩:=row_seven Sr;go_wp2_with fail;refine (PY.out _).mono ?_;rintro e w6 ⟨rfl,hb⟩;replace X:=row_call X hb;replace R:=row_call R hb;replace Fr:=row_call Fr hb;replace Hi:=row_call Hi hb;replace Sr:=row_call Sr hb;replace o:=o.trans (hb.mono o.size);clear hb S0 S1 S2 S3 S4 S5 S6 Sf0 Sf1 Sf2 Sf3 Sf4 Sf5 Sf6;go_upto_region 12 with (fail)
  have Lo:Row (w6.alloc (.cells #[yn,yd] 62)) w6.heap.size 62 #[yn,yd]:=row_new rfl;replace X:=row_alloc X (.cells #[yn,yd] 62);replace R:=row_alloc R (.cells #[yn,yd] 62);replace Fr:=row_alloc Fr (.cells #[yn,yd] 62);replace Hi:=row_alloc Hi (.cells #[yn,yd] 62);replace Sr:=row_alloc Sr (.cells #[yn,yd] 62);replace o:=o.alloc o.size (.cells #[yn,yd] 62);generalize w6.alloc (.cells #[yn,yd] 62)=w7 at X R Fr Hi Sr Lo o |-
  generalize w6.heap.size=jb at Lo |-
  obtain ⟨F0,F1,F2,F3,F4,F5,F6,Ff0,Ff1,Ff2,Ff3,Ff4,Ff5,Ff6⟩:=row_seven Fr;obtain ⟨S0,S1,S2,S3,S4,S5,S6,Sf0,Sf1,Sf2,Sf3,Sf4,Sf5,Sf6⟩:=row_seven Sr;go_upto_region 14 with (fail)
  clear F0 F1 F2 F3 F4 F5 F6 Ff0 Ff1 Ff2 Ff3 Ff4 Ff5 Ff6 S0 S1 S2 S3 S4 S5 S6 Sf0 Sf1 Sf2 Sf3 Sf4 Sf5 Sf6;cases r2 Lo;cases r2 Hi;obtain ⟨R0,R1,R2,R3,R4,R5,Rf0,Rf1,Rf2,Rf3,Rf4,Rf5⟩:=row_six R;go_wp2;exact bodyPost_ret (v := .tuple #[.agg (J49 yn yd xn xd),()]) (by simp [results,Tryz.results44,go_sem,List.getElem?_toArray,R0,R1,R2,R3,R4,R5]) rfl ⟨rfl,below_six o (by omega) _ _ _ _ _ _⟩
theorem pspask (A:Option Addr) (m c:Nat) (l:List Mk) (wd k cap now seq:Int) (w:World) (hin:MIn A m c l w) (sB:I64 seq):Calls Tryz.prog 44 #[.agg (J6 wd k cap now seq (.slice A m c))] w (Rr (askPV (spvalE wd k cap now seq l) (loT now wd l) (loN now wd l) (hiT now wd l) (hiN now wd l)) w):=by
  rcases spvalE_two (wd:=wd) (k:=k) (cap:=cap) (now:=now) (seq:=seq) (l:=l) with hv | hv
  · by_cases m0:m=0
    · subst m0;exact pspask_z A c l wd k cap now seq w hin sB hv
    · by_cases hlv:now-wd<(mkAt l 0).t
      · exact pspask_l A m c l wd k cap now seq w hin sB hv (by omega) hlv
      · by_cases hnx:(mkAt l 1).seq=(mkAt l 0).seq+1
        · exact pspask_n A m c l wd k cap now seq w hin sB hv (by omega) hlv hnx
        · exact pspask_w A m c l wd k cap now seq w hin sB hv (by omega) hlv hnx
  · exact pspask_a A m c l wd k cap now seq w hin sB hv
end Go.Proofs.YtdipoojjlddohaaGreat
namespace Go.Proofs.YtdipoojjlddohaaGreat
open MC
open MT
theorem dropM_lenP (now w:Int) (l:List Mk):(dropM now w l).length<=l.length:=by
  obtain ⟨k,_,e⟩:=dropM_suffix now w l;rw [e,List.length_drop];omega
structure PlayedSp (wd k cap now seq:Int) (ms:List Mk) (ad:List Itm) (q:Nat):Prop where
  val:spValid wd k cap now seq ms
  hist:HistOf ms seq now wd ad
  gap:GapL (LaterM k) ms
  vals:∀ x∈ad, -4096<=x.v/\x.v<=4096
  ml:ms.length<=q
  al:ad.length<=q
theorem gap_incl14 {k seq cap now w v:Int} {l:List Mk} (hV:VL l seq cap now w (-4096)) (hg:GapL (LaterM k) l):GapL (LaterM k) (incl l (seq+1) now v):=by
  intro i hi hgap;rw [incl_len] at hi;unfold incl at hgap |-
  have hl:(l.map (inc v)).length=l.length:=by simp
  by_cases c:i+1<l.length
  · rw [mkAt_append_left (by omega),mkAt_append_left (by omega),mkAt_map (l:=l) (i:=i) (by omega),mkAt_map (l:=l) (i:=i+1) c] at hgap |-
    exact (hg i c hgap).inc
  · exfalso;have e:i+1=l.length:=by omega
    rw [mkAt_append_right (by omega),mkAt_append_left (by omega),mkAt_map (by omega),hl,show i+1-l.length=0 by omega] at hgap;have hne:l≠[]:=fun e2=>by rw [e2] at e;simp at e
    have hlast:=(hV.last hne).1;rw [show l.length-1=i by omega] at hlast;have:1<(newMk (seq+1) now v).seq-(inc v (mkAt l i)).seq:=hgap;have h1:(newMk (seq+1) now v).seq=seq+1:=rfl;have h2:(inc v (mkAt l i)).seq=(mkAt l i).seq:=rfl;omega
theorem PlayedSp.tick {wd k cap now seq tt:Int} {ms:List Mk} {ad:List Itm} {q:Nat} (h:PlayedSp wd k cap now seq ms ad q) (h0:¬ (tt<now∨16777216<tt)):PlayedSp wd k cap tt seq (dropM tt wd ms) ad q :=
  ⟨spTick_valid h.val h0,h.hist.tick (mvalid_iff.1 h.val.2.1).2 (by omega),by
    obtain ⟨j,_,e⟩:=dropM_suffix tt wd ms;rw [e]
    exact h.gap.drop j,h.vals,Nat.le_trans (dropM_lenP _ _ _) h.ml,h.al⟩
theorem PlayedSp.add {wd k cap now seq v:Int} {ms:List Mk} {ad:List Itm} {q:Nat} (h:PlayedSp wd k cap now seq ms ad q) (hv : -4096<=v/\v<=4096) (hf:¬ smFull cap seq ms):PlayedSp wd k cap now (seq+1) (prune (closeB k) (incl ms (seq+1) now v)) (ad ++ [⟨now,v⟩]) (q+1):=by
  refine ⟨spAdd_valid h.val (by omega) hf,(h.hist.incl h.val.1.2.2.2.2.2.2.1).prune _,prune_gap (fun a b hc=>LaterM.of_close (of_decide_eq_true hc)) _ _ (Nat.le_refl _) (gap_incl14 (mvalid_iff.1 h.val.2.1).2 h.gap),fun x hx=>?_,?_,?_⟩
  · rcases List.mem_append.1 hx with hx | hx
    · exact h.vals x hx
    · obtain rfl:x=⟨now,v⟩:=by simpa using hx
      exact hv
  · have:=prune_len (closeB k) _ (incl ms (seq+1) now v) (Nat.le_refl _);rw [incl_len] at this;have:=h.ml;omega
  · have:=h.al;simp;omega
theorem PlayedSp.more {wd k cap now seq:Int} {ms:List Mk} {ad:List Itm} {q:Nat} (h:PlayedSp wd k cap now seq ms ad q):PlayedSp wd k cap now seq ms ad (q+1):=⟨h.val,h.hist,h.gap,h.vals,Nat.le_succ_of_le h.ml,Nat.le_succ_of_le h.al⟩
theorem PlayedSp.seqB {wd k cap now seq:Int} {ms:List Mk} {ad:List Itm} {q:Nat} (h:PlayedSp wd k cap now seq ms ad q):0<=seq/\seq<=q:=by have:=h.hist.seq;have:=h.al;omega
end Go.Proofs.YtdipoojjlddohaaGreat
namespace Go.Proofs.YtdipoojjlddohaaGreat
open MC
open MT
open Go.RowKit
def SpI (wd k cap:Int) (ad:List Itm) (now:Int) (A:Option Addr) (m c:Nat) (w:World):Prop:=∃ l,MIn A m c l w/\PlayedSp wd k cap now (ad.length:Nat) l ad ad.length/\ad.length<=65536
theorem spI_ok (wd k cap:Int) (ad:List Itm) (now:Int):InOK (SpI wd k cap ad now):=inOK_mk _
def spArg (wd k cap:Int):Prop:=1<=wd/\wd<=1048576/\1<=k/\k<=64/\1<=cap/\cap<=65536
theorem spArg.good {wd k cap now:Int} (h:spArg wd k cap) (n0:0<=now) (n1:now<=16777216):spGood wd k cap now:=by
  obtain ⟨b,c,d,e,f,g⟩:=h;exact ⟨b,c,d,e,f,g,n0,n1⟩
theorem PlayedSp.arg {wd k cap now seq:Int} {ms:List Mk} {ad:List Itm} {q:Nat} (h:PlayedSp wd k cap now seq ms ad q):spArg wd k cap/\0<=now/\now<=16777216:=by
  obtain ⟨⟨b,c,d,e,f,g,n0,n1⟩,_⟩:=h.val;exact ⟨⟨b,c,d,e,f,g⟩,n0,n1⟩
theorem playedP_nil {wd k cap now:Int} (h:spArg wd k cap) (n0:0<=now) (n1:now<=16777216):PlayedSp wd k cap now 0 [] [] 0 :=
  ⟨⟨h.good n0 n1,⟨by omega,by omega,fun i hi=>absurd hi (by simp),fun h=>absurd rfl h⟩,fun i hi=>absurd hi (by simp)⟩,hist_nil _ _,fun i hi=>absurd hi (by simp),fun x hx=>absurd hx (by simp),by simp,by simp⟩
theorem sp_cfg {wd k cap:Int} (h:spArg wd k cap) (w:World):Calls Tryz.prog 108 #[.agg (J28 wd k cap)] w (Rr (.int .i64 0) w):=by
  obtain ⟨b,c,d,e,f,g⟩:=h;exact pcfgSpread k cap wd w d e f g b c
theorem tpNew {wd k cap now:Int} (h:spArg wd k cap) (n0:0<=now) (n1:now<=16777216) (w:World):Calls Tryz.prog 37 #[.agg (J28 wd k cap),now] w (GRet (SpI wd k cap [] now) (fun A m c=>(J37 wd k cap now (.slice A m c))) 0 (fun _=>False) w):=by
  refine (pyNewSpread wd k cap now w n0 n1 (Lib.hid (sp_cfg h)) (Lib.hid (fun w'=>pnew_yes wd k cap now w' (h.good n0 n1)))).mono fun e w' ⟨he,hb⟩=>?_;exact ⟨none,0,0,he,⟨[],min_nil,playedP_nil h n0 n1,by simp⟩,hb,fun _ a e=>by cases e⟩
theorem tpHV {A:Option Addr} {m c:Nat} {wd k cap now:Int} {ad:List Itm} {w:World} (h:SpI wd k cap ad now A m c w):RowKit.Hid (∀ w',Below w w w'->Calls Tryz.prog 140 #[.agg (J6 wd k cap now (ad.length:Nat) (.slice A m c))] w' (Rr (.int .i64 0) w')):=by
  obtain ⟨l,hin,hp,ha⟩:=h;have:=hp.val;have hs:I64 (ad.length:Nat):=by unfold I64;omega
  exact Lib.hid (fun w' hb=>by
    have P:=pvalP A m c l wd k cap now (ad.length:Nat) w' (hin.below hb) hs;rw [spvalE_yes hp.val] at P
    exact P)
theorem tpAdvance {A:Option Addr} {m c:Nat} {wd k cap now tt:Int} {ad:List Itm} {w:World} (h:SpI wd k cap ad now A m c w) (h1:now<=tt) (h2:tt<=16777216):Calls Tryz.prog 21 #[.agg (J5 wd k cap now (ad.length:Nat) (.slice A m c)),tt] w (GRet (SpI wd k cap ad tt) (fun A m c=>(J5 wd k cap tt (ad.length:Nat) (.slice A m c))) 0 (fun b=>0<m/\∃ a,A=some a/\a.block=b) w):=by
  have HV:=tpHV h;have IO':=spI_ok wd k cap ad now;have hblk:=IO'.blk h;obtain ⟨l,hin,hp,ha⟩:=h;have hs:I64 (ad.length:Nat):=by unfold I64;omega
  have hml:=hp.ml;have hln:=hin.len;refine pyAdvanceSpread A m c wd k cap now (ad.length:Nat) tt w _ (spI_ok wd k cap ad tt) _ (fun b hb=>?_) HV (Lib.hid (sp_cfg hp.arg.1)) (Lib.hid (fun w' hb=>(psptick_c A m c l wd k cap now (ad.length:Nat) tt w' (hin.below hb) hs (by omega) (spvalE_yes hp.val) (by omega)).mono fun e w'' hq=>?_))
  · obtain ⟨hm,a,e,rfl⟩:=hb;exact hblk hm a e
  · unfold spTick at hq;rw [if_pos (spvalE_yes hp.val),if_neg (by omega)] at hq;obtain ⟨A',m',c',he,hin',hb',hf⟩:=hq;refine ⟨A',m',c',he,⟨_,hin',hp.tick (by omega),ha⟩,hb',fun hm a e=>?_⟩;rcases hf a e with g | ⟨b,eb,g⟩
    · exact .inl g.1
    · refine .inr ⟨?_,b,eb,g.symm⟩;have:=hin'.len;have:=dropM_lenP tt wd l;simp only at *;omega
theorem pspaddV (A:Option Addr) (m c:Nat) (l:List Mk) (wd k cap now seq:Int) (v:Int) (w:World) (hin:MIn A m c l w) (sB:I64 seq) (hmm:m<=100000) (hv:spvalE wd k cap now seq l=0) (h0:¬ v<(-4096)) (h1:¬ 4096<v) (hs:seq≠1099511627776):Calls Tryz.prog 124 #[.agg (J6 wd k cap now seq (.slice A m c)),v] w fun e w'=>SpRet none (spAdd wd k cap now seq l v) w e w':=by
  have hl:=hin.len;by_cases hm0:0<m
  · have hne:l≠[]:=fun e=>by rw [e] at hl;simp at hl;omega
    by_cases hn:(mkAt l 0).n=cap
    · exact pspadd_c1 A m c l wd k cap now seq v w hin sB hv h0 h1 hm0 hn (.inl ⟨hne,hn⟩)
    · exact pspadd_d1 A m c l wd k cap now seq v w hin sB hv h0 h1 hmm hm0 hn hs (fun a=>a.elim (fun a=>hn a.2) hs)
  · obtain rfl:m=0:=by omega
    have he:l=[]:=by simpa using hl
    exact pspadd_d0 A c l wd k cap now seq v w hin sB hv h0 h1 hs (fun a=>a.elim (fun a=>a.1 he) hs)
theorem tpAdd {A : Option Addr} {m c : Nat} {wd k cap now v : Int} {ad : List Itm} {w : World} (h : SpI wd k cap ad now A m c w) (hr2 : ad.length < 65536) (v0 : -4096 <= v) (v1 : v <= 4096) : Calls Tryz.prog 38 #[.agg (J5 wd k cap now (ad.length : Nat) (.slice A m c)), v,""] w fun e w' => GRet (SpI wd k cap (ad ++ [(⟨now, v⟩ : Itm)]) now) (fun A m c => (J5 wd k cap now (.int .i64 ((ad ++ [(⟨now, v⟩ : Itm)]).length : Nat)) (.slice A m c))) 0 (fun _ => False) w e w' ∨ (e = .returned (.tuple #[.agg J0, .int .i64 5]) /\ Below w w w') := by
  have HV:=tpHV h;obtain ⟨l,hin,hp,ha⟩:=h;have hs:I64 (ad.length:Nat):=by unfold I64;omega
  have hml:=hp.ml;have hln:=hin.len;by_cases hnf:smFull cap (ad.length:Nat) l
  · refine (pyFullSpread A m c wd k cap now (ad.length:Nat) v w HV (Lib.hid (sp_cfg hp.arg.1)) (Lib.hid (fun w' hb=>(pspaddV A m c l wd k cap now (ad.length:Nat) v w' (hin.below hb) hs (by omega) (spvalE_yes hp.val) (by omega) (by omega) (by omega)).mono fun e w'' hq=>?_))).mono fun e w' hq => .inr hq;unfold spAdd at hq;rw [if_pos (spvalE_yes hp.val),if_neg (by omega),if_pos hnf] at hq;obtain ⟨A',m',c',he,_,hb',_⟩:=hq;exact ⟨A',m',c',he,hb'⟩
  have eL:((ad ++ [(⟨now,v⟩:Itm)]).length:Int)=(ad.length:Nat)+1:=by simp
  have eN:(ad ++ [(⟨now,v⟩:Itm)]).length=ad.length+1:=by simp
  rw [eL];refine (pyAddSpread A m c wd k cap now (ad.length:Nat) v w _ (spI_ok wd k cap (ad ++ [(⟨now,v⟩:Itm)]) now) _ (fun b hb=>hb.elim) HV (Lib.hid (sp_cfg hp.arg.1)) (Lib.hid (fun w' hb=>(pspaddV A m c l wd k cap now (ad.length:Nat) v w' (hin.below hb) hs (by omega) (spvalE_yes hp.val) (by omega) (by omega) (by omega)).mono fun e w'' hq=>?_))).mono fun e w' hq => .inl hq;unfold spAdd at hq;rw [if_pos (spvalE_yes hp.val),if_neg (by omega),if_neg hnf] at hq;obtain ⟨A',m',c',he,hin',hb',hf⟩:=hq;refine ⟨A',m',c',he,⟨_,hin',?_,by rw [eN];omega⟩,hb',fun hm a e=>?_⟩
  · have:=hp.add ⟨v0,v1⟩ hnf;rw [eN];exact this
  · rcases hf a e with g | ⟨b,eb,g⟩
    · exact .inl g.1
    · cases eb
def SpA (kn : Nat) (wd now : Int) (ad : List Itm) (w : World) (e : Ending) (w' : World) : Prop := ∃ lT lN hT hN : Nat, e = .returned (.tuple #[.agg #[.int .i64 (rn lT lN : Nat), .int .i64 (rd lT lN : Nat), .int .i64 (rn lT lN : Nat), .int .i64 (rd lT lN : Nat), .int .i64 (rn hT hN : Nat), .int .i64 (rd hT hN : Nat),"", .int .u64 0, .int .u64 0, .int .u64 0, .int .u64 0], .int .i64 0]) /\ SpTrue kn lT lN hT hN (itT (liveI now wd ad)) (itN (liveI now wd ad)) /\ Below w w w'
theorem tpAsk {A:Option Addr} {m c:Nat} {wd cap now:Int} {kn:Nat} {ad:List Itm} {w:World} (h:SpI wd kn cap ad now A m c w) (qa qb:Int):Calls Tryz.prog 12 #[.agg (J5 wd (kn:Nat) cap now (ad.length:Nat) (.slice A m c)), .agg #[.int .i64 5,qa,qb]] w (SpA kn wd now ad w):=by
  have HV:=tpHV h;obtain ⟨l,hin,hp,ha⟩:=h;have hs:I64 (ad.length:Nat):=by unfold I64;omega
  have HC:=Lib.hid (sp_cfg hp.arg.1);refine (pyAskSpread A m c wd (kn:Nat) cap now (ad.length:Nat) qa qb (rn (loT now wd l) (loN now wd l):Nat) (rd (loT now wd l) (loN now wd l):Nat) (rn (loT now wd l) (loN now wd l):Nat) (rd (loT now wd l) (loN now wd l):Nat) (rn (hiT now wd l) (hiN now wd l):Nat) (rd (hiT now wd l) (hiN now wd l):Nat) w HV HC (Lib.hid (fun w'=>pansSpread wd (kn:Nat) cap w' HC)) (Lib.hid (fun w' hb=>?_))).mono fun e w' ⟨he,hb⟩=>?_
  · have P:=pspask A m c l wd (kn:Nat) cap now (ad.length:Nat) w' (hin.below hb) hs;unfold askPV at P;rw [if_pos (spvalE_yes hp.val)] at P;exact P
  · exact ⟨_,_,_,_,he,sp_true rfl hp.val hp.hist hp.gap,hb⟩
end Go.Proofs.YtdipoojjlddohaaGreat
