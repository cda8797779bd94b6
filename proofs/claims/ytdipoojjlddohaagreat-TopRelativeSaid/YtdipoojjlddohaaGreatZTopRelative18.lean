/- What the law TopRelative needs, joined of its texts by a program (slim2.py); part 18. -/
import Derived.Test.YtdipoojjlddohaaGreatZTopRelative1
import Derived.Test.YtdipoojjlddohaaGreatZTopRelative12
set_option linter.unusedVariables false
set_option linter.unusedSimpArgs false
set_option linter.unusedSectionVars false
set_option linter.unnecessarySimpa false
set_option maxRecDepth 100000
namespace Go.Proofs.YtdipoojjlddohaaGreat
open MC
open MT
open Go.RowKit
theorem mvalid_bad {l:List Mk} {seq cap now wd least:Int} {i:Nat} (hi:i<l.length) (h:¬ atP l seq cap now wd least i):decide (mvalid l seq cap now wd least)=false:=decide_eq_false (fun a=>h (a.2.2.1 i hi))
theorem at_flat {l:List Mk} {seq cap now wd least:Int} {i:Nat} {sq tk n s q lo hi:Int} (hM:mkAt l i=⟨sq,tk,n,s,q,lo,hi⟩):atP l seq cap now wd least i↔(1<=sq/\sq<=seq/\n=seq-sq+1/\n<=cap/\0<=tk/\tk<=now)/\(least<=lo/\hi<=4096/\lo<=hi/\partP n lo hi s q)/\((0<i∨l.length=1)->now-wd<tk)/\(0<i->twoP (mkAt l (i-1)) (mkAt l i)):=by
  unfold atP;rw [hM];constructor
  · rintro ⟨⟨a1,a2,a3,a4,a5,a6,a7,a8,a9,a10⟩,b,c⟩;exact ⟨⟨a1,a2,a3,a4,a5,a6⟩,⟨a7,a8,a9,a10⟩,b,c⟩
  · rintro ⟨⟨a1,a2,a3,a4,a5,a6⟩,⟨a7,a8,a9,a10⟩,b,c⟩;exact ⟨⟨a1,a2,a3,a4,a5,a6,a7,a8,a9,a10⟩,b,c⟩
theorem two_flat {osq otk on os oq olo ohi sq tk n s q lo hi:Int}:twoP ⟨osq,otk,on,os,oq,olo,ohi⟩ ⟨sq,tk,n,s,q,lo,hi⟩↔osq<sq/\otk<=tk/\olo<=lo/\hi<=ohi/\partP (on-n) olo ohi (os-s) (oq-q):=Iff.rfl
set_option maxRecDepth 100000 in
theorem pmvalid_a (A:Option Addr) (m c:Nat) (l:List Mk) (seq cap now wd least:Int) (w:World) (h:seq<0):Calls Tryz.prog 229 (J6 (.slice A m c) seq cap now wd least) w (Rr (.bool (decide (mvalid l seq cap now wd least))) w):=by
  have E:=Lib.hid (show decide (mvalid l seq cap now wd least)=false from decide_eq_false (fun a=>absurd a.1 (by omega)));go_enter Tryz.func229,Tryz.ntmps229;go_wp2;go_ret;exact ⟨ret_bool E.out.symm,Below.refl _ _⟩
set_option maxRecDepth 100000 in
theorem pmvalid_b (A:Option Addr) (m c:Nat) (l:List Mk) (seq cap now wd least:Int) (w:World) (h0:0<=seq) (h:1099511627776<seq):Calls Tryz.prog 229 (J6 (.slice A m c) seq cap now wd least) w (Rr (.bool (decide (mvalid l seq cap now wd least))) w):=by
  have E:=Lib.hid (show decide (mvalid l seq cap now wd least)=false from decide_eq_false (fun a=>absurd a.2.1 (by omega)));go_enter Tryz.func229,Tryz.ntmps229;go_wp2;go_ret;exact ⟨ret_bool E.out.symm,Below.refl _ _⟩
set_option maxRecDepth 100000 in
set_option maxHeartbeats 8000000 in
theorem pmvalid_one (A:Option Addr) (c:Nat) (l:List Mk) (seq cap now wd least:Int) (w:World) (hin:MIn A 1 c l w) (sB:I64 seq) (c0:1<=cap) (c1:cap<=65536) (n0:0<=now) (n1:now<=16777216) (d0:1<=wd) (d1:wd<=1048576) (e0 : -4096<=least) (s0:0<=seq) (s1:seq<=1099511627776):Calls Tryz.prog 229 (J6 (.slice A 1 c) seq cap now wd least) w (Rr (.bool (decide (mvalid l seq cap now wd least))) w):=by
  have HR:=Lib.hid hin;have HL:=Lib.hid hin.len;have mB:=hin.max;have t0:¬ seq<0:=by omega
  have t1:¬ 1099511627776<seq:=by omega
  clear hin sB;go_enter Tryz.func229,Tryz.ntmps229;go_wp2;clear t0 t1;go_loopw [25] (fun i wr=>∃ j:Nat,j<=1/\i = .int .i64 (j:Nat)/\RowKit.Hid (∀ e,e<j->atP l seq cap now wd least e)/\Below w w wr) (fun i _=>1-(intOf i).toNat)
  case atStart=>exact ⟨0,by omega,rfl,Lib.hid (fun e h=>absurd h (by omega)),Below.refl _ _⟩
  case round =>
    obtain ⟨j,hj,rfl,HA,o⟩:=hrel;by_cases hlt:j<1
    · obtain rfl:j=0:=by omega
      obtain ⟨ad,rfl,hadb,ht0⟩:=HR.out.reads.mk hlt;have hB:=HR.out.mB 0;have ht0:MkCells w ad (mkAt l 0):=ht0;generalize hM:mkAt l 0=mj at ht0 hB;obtain ⟨sq,tk,n,s,q,lo,hi⟩:=mj;obtain ⟨q0,q1,q2,q3,q4,q5,q6⟩:=ht0.below o hadb;have AT:=Lib.hid (at_flat (seq:=seq) (cap:=cap) (now:=now) (wd:=wd) (least:=least) hM);have HM:=Lib.hid hM;obtain ⟨hB0,hB1,hB2,hB3,hB4,hB5,hB6⟩:=hB;unfold I64 at hB0 hB1 hB2 hB3 hB4 hB5 hB6;have i1:(0:Int)<1:=by omega
      dsimp only at q0 q1 q2 q3 q4 q5 q6 hB0 hB1 hB2 hB3 hB4 hB5 hB6;clear hM ht0;go_upto_region 6 with (fail)
      have K:Row (wr.alloc (.cells (J1 sq tk n s q lo hi) 228)) wr.heap.size 228 (J1 sq tk n s q lo hi):=row_new rfl;have z0:=o.size;replace o:=o.alloc o.size (.cells (J1 sq tk n s q lo hi) 228);have zm:wr.heap.size<(wr.alloc (.cells (J1 sq tk n s q lo hi) 228)).heap.size:=row_lt K;generalize (wr.alloc (.cells (J1 sq tk n s q lo hi) 228))=w3 at K o zm |-
      generalize wr.heap.size=mb at K z0 zm |-
      clear q0 q1 q2 q3 q4 q5 q6;cases r7 K;by_cases x0:sq<1
      · skip
        have E:=Lib.hid (mvalid_bad (l:=l) (seq:=seq) (cap:=cap) (now:=now) (wd:=wd) (least:=least) (i:=0) (by rw [HL.out];exact hlt) (fun a=>absurd (AT.out.1 a).1.1 (by omega)));go_wp2_with fail;go_ret;exact ⟨ret_bool E.out.symm,o⟩
      · skip
        by_cases x1:seq<sq
        · skip
          have E:=Lib.hid (mvalid_bad (l:=l) (seq:=seq) (cap:=cap) (now:=now) (wd:=wd) (least:=least) (i:=0) (by rw [HL.out];exact hlt) (fun a=>absurd (AT.out.1 a).1.2.1 (by omega)));go_wp2_with fail;go_ret;exact ⟨ret_bool E.out.symm,o⟩
        · skip
          by_cases x2:n≠seq-sq+1
          · skip
            have wn1:IntKind.i64.wrap (seq-sq)=seq-sq:=IntWalk.i64_in _ (by omega);have wn2:IntKind.i64.wrap (seq-sq+1)=seq-sq+1:=IntWalk.i64_in _ (by omega);have dn:(n != seq-sq+1)=true:=by simpa using x2
            have E:=Lib.hid (mvalid_bad (l:=l) (seq:=seq) (cap:=cap) (now:=now) (wd:=wd) (least:=least) (i:=0) (by rw [HL.out];exact hlt) (fun a=>absurd (AT.out.1 a).1.2.2.1 (by omega)));go_wp2_with fail;go_ret;exact ⟨ret_bool E.out.symm,o⟩
          · skip
            by_cases x3:cap<n
            · skip
              have wn1:IntKind.i64.wrap (seq-sq)=seq-sq:=IntWalk.i64_in _ (by omega);have wn2:IntKind.i64.wrap (seq-sq+1)=seq-sq+1:=IntWalk.i64_in _ (by omega);have dn:(n != seq-sq+1)=false:=by simp;omega
              have E:=Lib.hid (mvalid_bad (l:=l) (seq:=seq) (cap:=cap) (now:=now) (wd:=wd) (least:=least) (i:=0) (by rw [HL.out];exact hlt) (fun a=>absurd (AT.out.1 a).1.2.2.2.1 (by omega)));go_wp2_with fail;go_ret;exact ⟨ret_bool E.out.symm,o⟩
            · skip
              by_cases x4:tk<0
              · skip
                have wn1:IntKind.i64.wrap (seq-sq)=seq-sq:=IntWalk.i64_in _ (by omega);have wn2:IntKind.i64.wrap (seq-sq+1)=seq-sq+1:=IntWalk.i64_in _ (by omega);have dn:(n != seq-sq+1)=false:=by simp;omega
                have E:=Lib.hid (mvalid_bad (l:=l) (seq:=seq) (cap:=cap) (now:=now) (wd:=wd) (least:=least) (i:=0) (by rw [HL.out];exact hlt) (fun a=>absurd (AT.out.1 a).1.2.2.2.2.1 (by omega)));go_wp2_with fail;go_ret;exact ⟨ret_bool E.out.symm,o⟩
              · skip
                by_cases x5:now<tk
                · skip
                  have wn1:IntKind.i64.wrap (seq-sq)=seq-sq:=IntWalk.i64_in _ (by omega);have wn2:IntKind.i64.wrap (seq-sq+1)=seq-sq+1:=IntWalk.i64_in _ (by omega);have dn:(n != seq-sq+1)=false:=by simp;omega
                  have E:=Lib.hid (mvalid_bad (l:=l) (seq:=seq) (cap:=cap) (now:=now) (wd:=wd) (least:=least) (i:=0) (by rw [HL.out];exact hlt) (fun a=>absurd (AT.out.1 a).1.2.2.2.2.2 (by omega)));go_wp2_with fail;go_ret;exact ⟨ret_bool E.out.symm,o⟩
                · skip
                  have wn1:IntKind.i64.wrap (seq-sq)=seq-sq:=IntWalk.i64_in _ (by omega);have wn2:IntKind.i64.wrap (seq-sq+1)=seq-sq+1:=IntWalk.i64_in _ (by omega);have dn:(n != seq-sq+1)=false:=by simp;omega
                  go_upto_region 8 with (fail)
                  have x2a:n+sq<=seq+1:=by omega
                  have x2b:seq+1<=n+sq:=by omega
                  clear dn wn1 wn2 x2;by_cases y0:lo<least
                  · skip
                    have E:=Lib.hid (mvalid_bad (l:=l) (seq:=seq) (cap:=cap) (now:=now) (wd:=wd) (least:=least) (i:=0) (by rw [HL.out];exact hlt) (fun a=>absurd (AT.out.1 a).2.1.1 (by omega)));go_wp2_with fail;go_ret;exact ⟨ret_bool E.out.symm,o⟩
                  · skip
                    by_cases y1:4096<hi
                    · skip
                      have E:=Lib.hid (mvalid_bad (l:=l) (seq:=seq) (cap:=cap) (now:=now) (wd:=wd) (least:=least) (i:=0) (by rw [HL.out];exact hlt) (fun a=>absurd (AT.out.1 a).2.1.2.1 (by omega)));go_wp2_with fail;go_ret;exact ⟨ret_bool E.out.symm,o⟩
                    · skip
                      by_cases y2:hi<lo
                      · skip
                        have E:=Lib.hid (mvalid_bad (l:=l) (seq:=seq) (cap:=cap) (now:=now) (wd:=wd) (least:=least) (i:=0) (by rw [HL.out];exact hlt) (fun a=>absurd (AT.out.1 a).2.1.2.2.1 (by omega)));go_wp2_with fail;go_ret;exact ⟨ret_bool E.out.symm,o⟩
                      · skip
                        have PF:=fun w=>pfitsP n lo hi s q w (by omega) (by omega) (by omega) (by omega) (by omega) (by omega);by_cases y3:partP n lo hi s q;rotate_left
                        · rw [decide_eq_false y3] at PF;replace PF:=Lib.hid PF;clear HA;have E:=Lib.hid (mvalid_bad (l:=l) (seq:=seq) (cap:=cap) (now:=now) (wd:=wd) (least:=least) (i:=0) (by rw [HL.out];exact hlt) (fun a=>y3 (AT.out.1 a).2.1.2.2.2));go_wp2_with (go_at_call 268;with_reducible refine (PF.out _).mono ?_;rintro e w9 ⟨rfl,h9⟩;obtain rfl:=h9.symm);go_ret;exact ⟨ret_bool E.out.symm,o⟩
                        rw [decide_eq_true y3] at PF;replace PF:=Lib.hid PF;have Y3:=Lib.hid y3;clear y3;go_upto_region 10 with (go_at_call 268;with_reducible refine (PF.out _).mono ?_;rintro e w9 ⟨rfl,h9⟩;obtain rfl:=h9.symm)
                        clear PF;have PL:=fun w=>plive now wd tk w n0 n1 d0 d1 (by omega) (by omega);by_cases lv:now-wd<tk;rotate_left
                        · rw [decide_eq_false lv] at PL;replace PL:=Lib.hid PL;clear HA;have E:=Lib.hid (mvalid_bad (l:=l) (seq:=seq) (cap:=cap) (now:=now) (wd:=wd) (least:=least) (i:=0) (by rw [HL.out];exact hlt) (fun a=>lv ((AT.out.1 a).2.2.1 (.inr HL.out))));go_wp2_with (go_at_call 137;with_reducible refine (PL.out _).mono ?_;rintro e w9 ⟨rfl,h9⟩;obtain rfl:=h9.symm);go_ret;exact ⟨ret_bool E.out.symm,o⟩
                        rw [decide_eq_true lv] at PL;replace PL:=Lib.hid PL;have LV:=Lib.hid lv;clear lv;go_upto_region 12 with (go_at_call 137;with_reducible refine (PL.out _).mono ?_;rintro e w9 ⟨rfl,h9⟩;obtain rfl:=h9.symm)
                        clear PL
                        have HA2:RowKit.Hid (∀ e,e<0+1->atP l seq cap now wd least e):=Lib.hid (fun e he=>by
                          rcases Nat.lt_or_ge e 0 with g | g
                          · exact HA.out e g
                          · rw [show e=0 by omega]
                            exact (AT.out.2 ⟨⟨by omega,by omega,by omega,by omega,by omega,by omega⟩,⟨by omega,by omega,by omega,Y3.out⟩,(fun _=>LV.out),(fun h=>absurd h (by omega))⟩))
                        go_wp2;go_roundw
                        case rel=>exact ⟨0+1,by omega,by go_num,HA2,o⟩
                        case measure=>simp [intOf]
    · have i1:¬ (j:Int)<1:=by omega
      obtain rfl:j=1:=by omega
      have m0:(1:Nat)≠0:=by decide
      obtain ⟨ad,rfl,hadb,ht0⟩:=HR.out.reads.mk (i:=0) (by omega);have hOP:=HA.out 0 (by omega);have ht0:MkCells w ad (mkAt l 0):=ht0;generalize hM:mkAt l 0=mj at ht0;obtain ⟨sq,tk,n,s,q,lo,hi⟩:=mj;obtain ⟨⟨b1,b2,b3,b4,b5,b6⟩,⟨b7,b8,b9,⟨f1,f2,f3,f4,f5⟩⟩,_⟩:=(at_flat hM).1 hOP;obtain ⟨q0,q1,q2,q3,q4,q5,q6⟩:=ht0.below o hadb;have bm1:=mul_small (n:=n) (x:=lo) (by omega) (by omega) (by omega) (by omega);have bm2:=mul_small (n:=n) (x:=hi) (by omega) (by omega) (by omega) (by omega);have bss:=sq_bound (s:=s) (B:=268435456) (by omega) (by omega);have wss:IntKind.i64.wrap (s*s)=s*s:=IntWalk.i64_in _ (by omega)
      have LS:RowKit.Hid (mvalid l seq cap now wd least↔sq=seq/\lo=s/\hi=s/\q=s*s):=Lib.hid (by
        have e1:l.length-1=0:=by rw [HL.out]
        have e2:l.length≠0:=by rw [HL.out];exact m0
        constructor
        · intro a;have:=a.2.2.2 e2;rw [e1,hM] at this;exact this
        · intro a;refine ⟨s0,s1,fun i hi=>HA.out i (by rw [HL.out] at hi;exact hi),fun _=>?_⟩;rw [e1,hM]
          exact a)
      dsimp only at q0 q1 q2 q3 q4 q5 q6;clear hM ht0 hOP HA f1 f2 f3 f4 f5 bm1 bm2 bss b1 b2 b3 b4 b5 b6 b7 b8 b9;go_upto_region 20 with (fail)
      have K:Row (wr.alloc (.cells (J1 sq tk n s q lo hi) 228)) wr.heap.size 228 (J1 sq tk n s q lo hi):=row_new rfl;have z0:=o.size;replace o:=o.alloc o.size (.cells (J1 sq tk n s q lo hi) 228);generalize (wr.alloc (.cells (J1 sq tk n s q lo hi) 228))=w3 at K o |-
      generalize wr.heap.size=mb at K z0 |-
      clear q0 q1 q2 q3 q4 q5 q6;cases r7 K;by_cases x0:sq=seq;rotate_left
      · have u0:(sq == seq)=false:=by simpa using x0
        have E:=Lib.hid (show decide (mvalid l seq cap now wd least)=false from decide_eq_false (fun a=>x0 (LS.out.1 a).1));clear x0;go_wp2;go_ret;exact ⟨ret_bool E.out.symm,o⟩
      have u0:(sq == seq)=true:=by simpa using x0
      have X0:=Lib.hid x0;clear x0;by_cases x1:lo=s;rotate_left
      · have u1:(lo == s)=false:=by simpa using x1
        have E:=Lib.hid (show decide (mvalid l seq cap now wd least)=false from decide_eq_false (fun a=>x1 (LS.out.1 a).2.1));clear x1;go_wp2;go_ret;exact ⟨ret_bool E.out.symm,o⟩
      have u1:(lo == s)=true:=by simpa using x1
      have X1:=Lib.hid x1;clear x1;by_cases x2:hi=s;rotate_left
      · have u2:(hi == s)=false:=by simpa using x2
        have E:=Lib.hid (show decide (mvalid l seq cap now wd least)=false from decide_eq_false (fun a=>x2 (LS.out.1 a).2.2.1));clear x2;go_wp2;go_ret;exact ⟨ret_bool E.out.symm,o⟩
      have u2:(hi == s)=true:=by simpa using x2
      have X2:=Lib.hid x2;clear x2;by_cases x3:q=s*s;rotate_left
      · have u3:(q == s*s)=false:=by simpa using x3
        have E:=Lib.hid (show decide (mvalid l seq cap now wd least)=false from decide_eq_false (fun a=>x3 (LS.out.1 a).2.2.2));clear x3;go_wp2;go_ret;exact ⟨ret_bool E.out.symm,o⟩
      have u3:(q == s*s)=true:=by simpa using x3
      have X3:=Lib.hid x3;clear x3;have E:=Lib.hid (show decide (mvalid l seq cap now wd least)=true from decide_eq_true (LS.out.2 ⟨X0.out,X1.out,X2.out,X3.out⟩));go_wp2;go_ret;exact ⟨ret_bool E.out.symm,o⟩
set_option maxRecDepth 100000 in
set_option maxHeartbeats 8000000 in
theorem pmvalid_main (A:Option Addr) (m c:Nat) (l:List Mk) (seq cap now wd least:Int) (w:World) (hin:MIn A m c l w) (sB:I64 seq) (c0:1<=cap) (c1:cap<=65536) (n0:0<=now) (n1:now<=16777216) (d0:1<=wd) (d1:wd<=1048576) (e0 : -4096<=least) (s0:0<=seq) (s1:seq<=1099511627776) (m1:m≠1):Calls Tryz.prog 229 (J6 (.slice A m c) seq cap now wd least) w (Rr (.bool (decide (mvalid l seq cap now wd least))) w):=by
  have M1:=Lib.hid m1;clear m1;have HR:=Lib.hid hin;have HL:=Lib.hid hin.len;have mB:=hin.max;have t0:¬ seq<0:=by omega
  have t1:¬ 1099511627776<seq:=by omega
  clear hin sB;go_enter Tryz.func229,Tryz.ntmps229;go_wp2;clear t0 t1;go_loopw [25] (fun i wr=>∃ j:Nat,j<=m/\i = .int .i64 (j:Nat)/\RowKit.Hid (∀ e,e<j->atP l seq cap now wd least e)/\Below w w wr) (fun i _=>m-(intOf i).toNat)
  case atStart=>exact ⟨0,by omega,rfl,Lib.hid (fun e h=>absurd h (by omega)),Below.refl _ _⟩
  case round =>
    obtain ⟨j,hj,rfl,HA,o⟩:=hrel;by_cases hlt:j<m
    · obtain ⟨ad,rfl,hadb,ht0⟩:=HR.out.reads.mk hlt;have hB:=HR.out.mB j;generalize hM:mkAt l j=mj at ht0 hB;obtain ⟨sq,tk,n,s,q,lo,hi⟩:=mj;obtain ⟨q0,q1,q2,q3,q4,q5,q6⟩:=ht0.below o (by rw [block_of_add];exact hadb);have AT:=Lib.hid (at_flat (seq:=seq) (cap:=cap) (now:=now) (wd:=wd) (least:=least) hM);have HM:=Lib.hid hM;obtain ⟨hB0,hB1,hB2,hB3,hB4,hB5,hB6⟩:=hB;unfold I64 at hB0 hB1 hB2 hB3 hB4 hB5 hB6;have i1:(j:Int)<(m:Int):=by omega
      have i2:(0:Int)<=(j:Int):=by omega
      dsimp only at q0 q1 q2 q3 q4 q5 q6 hB0 hB1 hB2 hB3 hB4 hB5 hB6;clear hM ht0;go_upto_region 6 with (fail)
      have K:Row (wr.alloc (.cells (J1 sq tk n s q lo hi) 228)) wr.heap.size 228 (J1 sq tk n s q lo hi):=row_new rfl;have z0:=o.size;replace o:=o.alloc o.size (.cells (J1 sq tk n s q lo hi) 228);have zm:wr.heap.size<(wr.alloc (.cells (J1 sq tk n s q lo hi) 228)).heap.size:=row_lt K;generalize (wr.alloc (.cells (J1 sq tk n s q lo hi) 228))=w3 at K o zm |-
      generalize wr.heap.size=mb at K z0 zm |-
      clear q0 q1 q2 q3 q4 q5 q6;obtain ⟨K0,K1,K2,K3,K4,K5,K6,Kf0,Kf1,Kf2,Kf3,Kf4,Kf5,Kf6⟩:=row_seven K;by_cases x0:sq<1
      · skip
        have E:=Lib.hid (mvalid_bad (l:=l) (seq:=seq) (cap:=cap) (now:=now) (wd:=wd) (least:=least) (i:=j) (by rw [HL.out];exact hlt) (fun a=>absurd (AT.out.1 a).1.1 (by omega)));go_wp2_with fail;go_ret;exact ⟨ret_bool E.out.symm,o⟩
      · skip
        by_cases x1:seq<sq
        · skip
          have E:=Lib.hid (mvalid_bad (l:=l) (seq:=seq) (cap:=cap) (now:=now) (wd:=wd) (least:=least) (i:=j) (by rw [HL.out];exact hlt) (fun a=>absurd (AT.out.1 a).1.2.1 (by omega)));go_wp2_with fail;go_ret;exact ⟨ret_bool E.out.symm,o⟩
        · skip
          by_cases x2:n≠seq-sq+1
          · skip
            have wn1:IntKind.i64.wrap (seq-sq)=seq-sq:=IntWalk.i64_in _ (by omega);have wn2:IntKind.i64.wrap (seq-sq+1)=seq-sq+1:=IntWalk.i64_in _ (by omega);have dn:(n != seq-sq+1)=true:=by simpa using x2
            have E:=Lib.hid (mvalid_bad (l:=l) (seq:=seq) (cap:=cap) (now:=now) (wd:=wd) (least:=least) (i:=j) (by rw [HL.out];exact hlt) (fun a=>absurd (AT.out.1 a).1.2.2.1 (by omega)));go_wp2_with fail;go_ret;exact ⟨ret_bool E.out.symm,o⟩
          · skip
            by_cases x3:cap<n
            · skip
              have wn1:IntKind.i64.wrap (seq-sq)=seq-sq:=IntWalk.i64_in _ (by omega);have wn2:IntKind.i64.wrap (seq-sq+1)=seq-sq+1:=IntWalk.i64_in _ (by omega);have dn:(n != seq-sq+1)=false:=by simp;omega
              have E:=Lib.hid (mvalid_bad (l:=l) (seq:=seq) (cap:=cap) (now:=now) (wd:=wd) (least:=least) (i:=j) (by rw [HL.out];exact hlt) (fun a=>absurd (AT.out.1 a).1.2.2.2.1 (by omega)));go_wp2_with fail;go_ret;exact ⟨ret_bool E.out.symm,o⟩
            · skip
              by_cases x4:tk<0
              · skip
                have wn1:IntKind.i64.wrap (seq-sq)=seq-sq:=IntWalk.i64_in _ (by omega);have wn2:IntKind.i64.wrap (seq-sq+1)=seq-sq+1:=IntWalk.i64_in _ (by omega);have dn:(n != seq-sq+1)=false:=by simp;omega
                have E:=Lib.hid (mvalid_bad (l:=l) (seq:=seq) (cap:=cap) (now:=now) (wd:=wd) (least:=least) (i:=j) (by rw [HL.out];exact hlt) (fun a=>absurd (AT.out.1 a).1.2.2.2.2.1 (by omega)));go_wp2_with fail;go_ret;exact ⟨ret_bool E.out.symm,o⟩
              · skip
                by_cases x5:now<tk
                · skip
                  have wn1:IntKind.i64.wrap (seq-sq)=seq-sq:=IntWalk.i64_in _ (by omega);have wn2:IntKind.i64.wrap (seq-sq+1)=seq-sq+1:=IntWalk.i64_in _ (by omega);have dn:(n != seq-sq+1)=false:=by simp;omega
                  have E:=Lib.hid (mvalid_bad (l:=l) (seq:=seq) (cap:=cap) (now:=now) (wd:=wd) (least:=least) (i:=j) (by rw [HL.out];exact hlt) (fun a=>absurd (AT.out.1 a).1.2.2.2.2.2 (by omega)));go_wp2_with fail;go_ret;exact ⟨ret_bool E.out.symm,o⟩
                · skip
                  have wn1:IntKind.i64.wrap (seq-sq)=seq-sq:=IntWalk.i64_in _ (by omega);have wn2:IntKind.i64.wrap (seq-sq+1)=seq-sq+1:=IntWalk.i64_in _ (by omega);have dn:(n != seq-sq+1)=false:=by simp;omega
                  go_upto_region 8 with (fail)
                  have x2a:n+sq<=seq+1:=by omega
                  have x2b:seq+1<=n+sq:=by omega
                  clear dn wn1 wn2 x2;by_cases y0:lo<least
                  · skip
                    have E:=Lib.hid (mvalid_bad (l:=l) (seq:=seq) (cap:=cap) (now:=now) (wd:=wd) (least:=least) (i:=j) (by rw [HL.out];exact hlt) (fun a=>absurd (AT.out.1 a).2.1.1 (by omega)));go_wp2_with fail;go_ret;exact ⟨ret_bool E.out.symm,o⟩
                  · skip
                    by_cases y1:4096<hi
                    · skip
                      have E:=Lib.hid (mvalid_bad (l:=l) (seq:=seq) (cap:=cap) (now:=now) (wd:=wd) (least:=least) (i:=j) (by rw [HL.out];exact hlt) (fun a=>absurd (AT.out.1 a).2.1.2.1 (by omega)));go_wp2_with fail;go_ret;exact ⟨ret_bool E.out.symm,o⟩
                    · skip
                      by_cases y2:hi<lo
                      · skip
                        have E:=Lib.hid (mvalid_bad (l:=l) (seq:=seq) (cap:=cap) (now:=now) (wd:=wd) (least:=least) (i:=j) (by rw [HL.out];exact hlt) (fun a=>absurd (AT.out.1 a).2.1.2.2.1 (by omega)));go_wp2_with fail;go_ret;exact ⟨ret_bool E.out.symm,o⟩
                      · skip
                        have PF:=fun w=>pfitsP n lo hi s q w (by omega) (by omega) (by omega) (by omega) (by omega) (by omega);by_cases y3:partP n lo hi s q;rotate_left
                        · rw [decide_eq_false y3] at PF;replace PF:=Lib.hid PF;clear HA;have E:=Lib.hid (mvalid_bad (l:=l) (seq:=seq) (cap:=cap) (now:=now) (wd:=wd) (least:=least) (i:=j) (by rw [HL.out];exact hlt) (fun a=>y3 (AT.out.1 a).2.1.2.2.2));go_wp2_with (go_at_call 268;with_reducible refine (PF.out _).mono ?_;rintro e w9 ⟨rfl,h9⟩;obtain rfl:=h9.symm);go_ret;exact ⟨ret_bool E.out.symm,o⟩
                        rw [decide_eq_true y3] at PF;replace PF:=Lib.hid PF;have Y3:=Lib.hid y3;clear y3;go_upto_region 10 with (go_at_call 268;with_reducible refine (PF.out _).mono ?_;rintro e w9 ⟨rfl,h9⟩;obtain rfl:=h9.symm)
                        clear PF;have PL:=fun w=>plive now wd tk w n0 n1 d0 d1 (by omega) (by omega);by_cases j0:j=0
                        · skip
                          subst j0;by_cases m1:m=1
                          · skip
                            exact absurd m1 M1.out
                          · skip
                            have m1b:((m:Int) == 1)=false:=by simp;omega
                            clear PL;go_upto_region 12 with (fail)
                            have HA2:RowKit.Hid (∀ e,e<0+1->atP l seq cap now wd least e):=Lib.hid (fun e he=>by
                              rcases Nat.lt_or_ge e 0 with g | g
                              · exact HA.out e g
                              · rw [show e=0 by omega]
                                exact (AT.out.2 ⟨⟨by omega,by omega,by omega,by omega,by omega,by omega⟩,⟨by omega,by omega,by omega,Y3.out⟩,(fun h=>absurd h (by rw [HL.out];omega)),(fun h=>absurd h (by omega))⟩))
                            go_wp2;go_roundw
                            case rel=>exact ⟨0+1,by omega,by go_num,HA2,o⟩
                            case measure=>simp [intOf];omega
                        · skip
                          have jp:(0:Int)<(j:Int):=by omega
                          have jb:((j:Int) == 0)=false:=by simp;omega
                          by_cases lv:now-wd<tk;rotate_left
                          · rw [decide_eq_false lv] at PL;replace PL:=Lib.hid PL;clear HA;have E:=Lib.hid (mvalid_bad (l:=l) (seq:=seq) (cap:=cap) (now:=now) (wd:=wd) (least:=least) (i:=j) (by rw [HL.out];exact hlt) (fun a=>lv ((AT.out.1 a).2.2.1 (.inl (by omega)))));go_wp2_with (go_at_call 137;with_reducible refine (PL.out _).mono ?_;rintro e w9 ⟨rfl,h9⟩;obtain rfl:=h9.symm);go_ret;exact ⟨ret_bool E.out.symm,o⟩
                          rw [decide_eq_true lv] at PL;replace PL:=Lib.hid PL;have LV:=Lib.hid lv;clear lv;go_upto_region 12 with (go_at_call 137;with_reducible refine (PL.out _).mono ?_;rintro e w9 ⟨rfl,h9⟩;obtain rfl:=h9.symm)
                          clear PL;obtain ⟨p,hp⟩:∃ p:Nat,j=p+1:=⟨j-1,by omega⟩
                          have HP:=Lib.hid hp;obtain ⟨ad',ea,_,ht1⟩:=HR.out.reads.mk (i:=p) (by omega);obtain rfl:ad=ad':=by injection ea
                          have hOP:=HA.out p (by omega);generalize hO:mkAt l p=mo at ht1;obtain ⟨osq,otk,on,os,oq,olo,ohi⟩:=mo;obtain ⟨⟨b1,b2,b3,b4,b5,b6⟩,⟨b7,b8,b9,B10⟩,_⟩:=(at_flat hO).1 hOP;obtain ⟨q0,q1,q2,q3,q4,q5,q6⟩:=ht1.below o (by rw [block_of_add];exact hadb);have hp1:mkAt l (j-1)=⟨osq,otk,on,os,oq,olo,ohi⟩:=by rw [hp];exact hO
                          have hp2:mkAt l j=⟨sq,tk,n,s,q,lo,hi⟩:=HM.out;have TW:RowKit.Hid (twoP (mkAt l (j-1)) (mkAt l j)↔osq<sq/\otk<=tk/\olo<=lo/\hi<=ohi/\partP (on-n) olo ohi (os-s) (oq-q)):=Lib.hid (by rw [hp1,hp2];exact two_flat);dsimp only at q0 q1 q2 q3 q4 q5 q6;have wj:IntKind.i64.wrap ((j:Int)-1)=(p:Int):=by rw [IntWalk.i64_in _ (by omega)];omega
                          have p1:(p:Int)<(m:Int):=by omega
                          have p0:(0:Int)<=(p:Int):=by omega
                          have b3a:on+osq<=seq+1:=by omega
                          have b3b:seq+1<=on+osq:=by omega
                          obtain ⟨f1,f2,f3,f4,f5⟩:=B10;obtain ⟨g1,g2,g3,g4,g5⟩:=Y3.out;have bo1:=mul_small (n:=on) (x:=olo) (by omega) (by omega) (by omega) (by omega);have bo2:=mul_small (n:=on) (x:=ohi) (by omega) (by omega) (by omega) (by omega);have bm1:=mul_small (n:=n) (x:=lo) (by omega) (by omega) (by omega) (by omega);have bm2:=mul_small (n:=n) (x:=hi) (by omega) (by omega) (by omega) (by omega);have wd1:IntKind.i64.wrap (on-n)=on-n:=IntWalk.i64_in _ (by omega);have wd2:IntKind.i64.wrap (os-s)=os-s:=IntWalk.i64_in _ (by omega);have wd3:IntKind.i64.wrap (oq-q)=oq-q:=IntWalk.i64_in _ (by omega);clear hO ht1 ea hp1 hp2 f1 f2 f3 f4 f5 g1 g2 g3 g4 g5 bo1 bo2 bm1 bm2 hp hOP b3;go_upto_region 14 with (fail)
                          have O:Row (w3.alloc (.cells (J1 osq otk on os oq olo ohi) 228)) w3.heap.size 228 (J1 osq otk on os oq olo ohi):=row_new rfl;replace K:=row_alloc K (.cells (J1 osq otk on os oq olo ohi) 228);have z1:=o.size;replace o:=o.alloc o.size (.cells (J1 osq otk on os oq olo ohi) 228);generalize (w3.alloc (.cells (J1 osq otk on os oq olo ohi) 228))=w4 at O K o |-
                          generalize w3.heap.size=ob at O z1 |-
                          clear q0 q1 q2 q3 q4 q5 q6 K0 K1 K2 K3 K4 K5 K6 Kf0 Kf1 Kf2 Kf3 Kf4 Kf5 Kf6;obtain ⟨K0,K1,K2,K3,K4,K5,K6,Kf0,Kf1,Kf2,Kf3,Kf4,Kf5,Kf6⟩:=row_seven K;cases r7 O;by_cases v0:sq<=osq
                          · skip
                            have E:=Lib.hid (mvalid_bad (l:=l) (seq:=seq) (cap:=cap) (now:=now) (wd:=wd) (least:=least) (i:=j) (by rw [HL.out];exact hlt) (fun a=>absurd (TW.out.1 ((AT.out.1 a).2.2.2 (by omega))).1 (by omega)));go_wp2_with fail;go_ret;exact ⟨ret_bool E.out.symm,o⟩
                          · skip
                            by_cases v1:tk<otk
                            · skip
                              have E:=Lib.hid (mvalid_bad (l:=l) (seq:=seq) (cap:=cap) (now:=now) (wd:=wd) (least:=least) (i:=j) (by rw [HL.out];exact hlt) (fun a=>absurd (TW.out.1 ((AT.out.1 a).2.2.2 (by omega))).2.1 (by omega)));go_wp2_with fail;go_ret;exact ⟨ret_bool E.out.symm,o⟩
                            · skip
                              by_cases v2:lo<olo
                              · skip
                                have E:=Lib.hid (mvalid_bad (l:=l) (seq:=seq) (cap:=cap) (now:=now) (wd:=wd) (least:=least) (i:=j) (by rw [HL.out];exact hlt) (fun a=>absurd (TW.out.1 ((AT.out.1 a).2.2.2 (by omega))).2.2.1 (by omega)));go_wp2_with fail;go_ret;exact ⟨ret_bool E.out.symm,o⟩
                              · skip
                                by_cases v3:ohi<hi
                                · skip
                                  have E:=Lib.hid (mvalid_bad (l:=l) (seq:=seq) (cap:=cap) (now:=now) (wd:=wd) (least:=least) (i:=j) (by rw [HL.out];exact hlt) (fun a=>absurd (TW.out.1 ((AT.out.1 a).2.2.2 (by omega))).2.2.2.1 (by omega)));go_wp2_with fail;go_ret;exact ⟨ret_bool E.out.symm,o⟩
                                · skip
                                  have PF:=fun w=>pfitsP (on-n) olo ohi (os-s) (oq-q) w (by omega) (by omega) (by omega) (by omega) (by omega) (by omega);by_cases v4:partP (on-n) olo ohi (os-s) (oq-q);rotate_left
                                  · rw [decide_eq_false v4] at PF;replace PF:=Lib.hid PF;clear HA;have E:=Lib.hid (mvalid_bad (l:=l) (seq:=seq) (cap:=cap) (now:=now) (wd:=wd) (least:=least) (i:=j) (by rw [HL.out];exact hlt) (fun a=>v4 (TW.out.1 ((AT.out.1 a).2.2.2 (by omega))).2.2.2.2));go_wp2_with (go_at_call 268;with_reducible refine (PF.out _).mono ?_;rintro e w9 ⟨rfl,h9⟩;obtain rfl:=h9.symm);go_ret;exact ⟨ret_bool E.out.symm,o⟩
                                  rw [decide_eq_true v4] at PF;replace PF:=Lib.hid PF;have V4:=Lib.hid v4;clear v4;go_upto_region 16 with (go_at_call 268;with_reducible refine (PF.out _).mono ?_;rintro e w9 ⟨rfl,h9⟩;obtain rfl:=h9.symm)
                                  clear PF
                                  have HA2:RowKit.Hid (∀ e,e<j+1->atP l seq cap now wd least e):=Lib.hid (fun e he=>by
                                    rcases Nat.lt_or_ge e j with g | g
                                    · exact HA.out e g
                                    · rw [show e=j by omega]
                                      exact (AT.out.2 ⟨⟨by omega,by omega,by omega,by omega,by omega,by omega⟩,⟨by omega,by omega,by omega,Y3.out⟩,(fun _=>LV.out),(fun _=>TW.out.2 ⟨by omega,by omega,by omega,by omega,V4.out⟩)⟩))
                                  go_wp2;go_roundw
                                  case rel=>exact ⟨j+1,by omega,by go_num,HA2,o⟩
                                  case measure=>simp [intOf];omega
    · have i1:¬ (j:Int)<(m:Int):=by omega
      obtain rfl:j=m:=by omega
      by_cases m0:j=0
      · have m0b:((j:Int) == 0)=true:=by simp;omega
        have E:=Lib.hid (show decide (mvalid l seq cap now wd least)=true from decide_eq_true ⟨s0,s1,fun i hi=>HA.out i (by rw [HL.out] at hi;exact hi),fun h=>absurd (HL.out.trans m0) h⟩);clear HA;go_wp2;go_ret;exact ⟨ret_bool E.out.symm,o⟩
      · have m0b:((j:Int) == 0)=false:=by simp;omega
        obtain ⟨p,hp⟩:∃ p:Nat,j=p+1:=⟨j-1,by omega⟩
        obtain ⟨ad,rfl,hadb,ht0⟩:=HR.out.reads.mk (i:=p) (by omega);have hOP:=HA.out p (by omega);generalize hM:mkAt l p=mj at ht0;obtain ⟨sq,tk,n,s,q,lo,hi⟩:=mj;obtain ⟨⟨b1,b2,b3,b4,b5,b6⟩,⟨b7,b8,b9,⟨f1,f2,f3,f4,f5⟩⟩,_⟩:=(at_flat hM).1 hOP;obtain ⟨q0,q1,q2,q3,q4,q5,q6⟩:=ht0.below o (by rw [block_of_add];exact hadb);have bm1:=mul_small (n:=n) (x:=lo) (by omega) (by omega) (by omega) (by omega);have bm2:=mul_small (n:=n) (x:=hi) (by omega) (by omega) (by omega) (by omega);have bss:=sq_bound (s:=s) (B:=268435456) (by omega) (by omega);have wss:IntKind.i64.wrap (s*s)=s*s:=IntWalk.i64_in _ (by omega)
        have LS:RowKit.Hid (mvalid l seq cap now wd least↔sq=seq/\lo=s/\hi=s/\q=s*s):=Lib.hid (by
          have e1:l.length-1=p:=by rw [HL.out,hp];rfl
          have e2:l.length≠0:=by rw [HL.out];exact m0
          constructor
          · intro a;have:=a.2.2.2 e2;rw [e1,hM] at this;exact this
          · intro a;refine ⟨s0,s1,fun i hi=>HA.out i (by rw [HL.out] at hi;exact hi),fun _=>?_⟩;rw [e1,hM]
            exact a)
        have wj:IntKind.i64.wrap ((j:Int)-1)=(p:Int):=by rw [IntWalk.i64_in _ (by omega)];omega
        have p1:(p:Int)<(j:Int):=by omega
        have p0:(0:Int)<=(p:Int):=by omega
        dsimp only at q0 q1 q2 q3 q4 q5 q6;clear hM ht0 hOP HA hp f1 f2 f3 f4 f5 bm1 bm2 bss b1 b2 b3 b4 b5 b6 b7 b8 b9;go_upto_region 20 with (fail)
        have K:Row (wr.alloc (.cells (J1 sq tk n s q lo hi) 228)) wr.heap.size 228 (J1 sq tk n s q lo hi):=row_new rfl;have z0:=o.size;replace o:=o.alloc o.size (.cells (J1 sq tk n s q lo hi) 228);generalize (wr.alloc (.cells (J1 sq tk n s q lo hi) 228))=w3 at K o |-
        generalize wr.heap.size=mb at K z0 |-
        clear q0 q1 q2 q3 q4 q5 q6;obtain ⟨K0,K1,K2,K3,K4,K5,K6,Kf0,Kf1,Kf2,Kf3,Kf4,Kf5,Kf6⟩:=row_seven K;by_cases x0:sq=seq;rotate_left
        · have u0:(sq == seq)=false:=by simpa using x0
          have E:=Lib.hid (show decide (mvalid l seq cap now wd least)=false from decide_eq_false (fun a=>x0 (LS.out.1 a).1));clear x0;go_wp2;go_ret;exact ⟨ret_bool E.out.symm,o⟩
        have u0:(sq == seq)=true:=by simpa using x0
        have X0:=Lib.hid x0;clear x0;by_cases x1:lo=s;rotate_left
        · have u1:(lo == s)=false:=by simpa using x1
          have E:=Lib.hid (show decide (mvalid l seq cap now wd least)=false from decide_eq_false (fun a=>x1 (LS.out.1 a).2.1));clear x1;go_wp2;go_ret;exact ⟨ret_bool E.out.symm,o⟩
        have u1:(lo == s)=true:=by simpa using x1
        have X1:=Lib.hid x1;clear x1;by_cases x2:hi=s;rotate_left
        · have u2:(hi == s)=false:=by simpa using x2
          have E:=Lib.hid (show decide (mvalid l seq cap now wd least)=false from decide_eq_false (fun a=>x2 (LS.out.1 a).2.2.1));clear x2;go_wp2;go_ret;exact ⟨ret_bool E.out.symm,o⟩
        have u2:(hi == s)=true:=by simpa using x2
        have X2:=Lib.hid x2;clear x2;by_cases x3:q=s*s;rotate_left
        · have u3:(q == s*s)=false:=by simpa using x3
          have E:=Lib.hid (show decide (mvalid l seq cap now wd least)=false from decide_eq_false (fun a=>x3 (LS.out.1 a).2.2.2));clear x3;go_wp2;go_ret;exact ⟨ret_bool E.out.symm,o⟩
        have u3:(q == s*s)=true:=by simpa using x3
        have X3:=Lib.hid x3;clear x3;have E:=Lib.hid (show decide (mvalid l seq cap now wd least)=true from decide_eq_true (LS.out.2 ⟨X0.out,X1.out,X2.out,X3.out⟩));go_wp2;go_ret;exact ⟨ret_bool E.out.symm,o⟩
theorem pmvalid (A:Option Addr) (m c:Nat) (l:List Mk) (seq cap now wd least:Int) (w:World) (hin:MIn A m c l w) (sB:I64 seq) (c0:1<=cap) (c1:cap<=65536) (n0:0<=now) (n1:now<=16777216) (d0:1<=wd) (d1:wd<=1048576) (e0 : -4096<=least):Calls Tryz.prog 229 (J6 (.slice A m c) seq cap now wd least) w (Rr (.bool (decide (mvalid l seq cap now wd least))) w):=by
  by_cases h:seq<0
  · exact pmvalid_a A m c l seq cap now wd least w h
  · by_cases h1:1099511627776<seq
    · exact pmvalid_b A m c l seq cap now wd least w (by omega) h1
    · by_cases m1:m=1
      · subst m1;exact pmvalid_one A c l seq cap now wd least w hin sB c0 c1 n0 n1 d0 d1 e0 (by omega) (by omega)
      · exact pmvalid_main A m c l seq cap now wd least w hin sB c0 c1 n0 n1 d0 d1 e0 (by omega) (by omega) m1
end Go.Proofs.YtdipoojjlddohaaGreat
