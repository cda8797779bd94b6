/- What the law TopRelative needs, joined of its texts by a program (slim2.py); part 29. -/
import Derived.Test.YtdipoojjlddohaaGreatZTopRelative1
import Derived.Test.YtdipoojjlddohaaGreatZTopRelative25
import Derived.Test.YtdipoojjlddohaaGreatZTopRelative27
import Derived.Test.YtdipoojjlddohaaGreatZTopRelative28
set_option linter.unusedVariables false
set_option linter.unusedSimpArgs false
set_option linter.unusedSectionVars false
set_option linter.unnecessarySimpa false
set_option maxRecDepth 100000
namespace Go.Proofs.YtdipoojjlddohaaGreat
open MC
open MT
open Go.RowKit
def CtI (wd:Int) (k cap:Nat) (now:Int) (ts:List Int) (A:Option Addr) (m c:Nat) (w:World):Prop:=∃ l,BIn A m c l w/\(CtS wd k cap now l/\BHist ts now wd l)
theorem ctI_ok (wd:Int) (k cap:Nat) (now:Int) (ts:List Int):InOK (CtI wd k cap now ts):=inOK_bk _
def ctGood (wd:Int) (k cap:Nat):Prop:=1<=wd/\wd<=1048576/\1<=k/\k<=64/\1<=cap/\cap<=65536
theorem cov_tot {ts:List Int} {now wd:Int} {l:List Bk} (h:BHist ts now wd l):btot l<=ts.length:=by
  obtain ⟨dead,live,e,_,hc⟩:=h.cov;rw [<- hc.len,e,List.length_append];omega
theorem ct_new {wd:Int} {k cap:Nat} {now:Int} (h:ctGood wd k cap) (n0:0<=now) (n1:now<=16777216):CtS wd k cap now []/\BHist [] now wd [] :=
  ⟨⟨by unfold ctGood at h;omega,BV.nil k,by simp [btot],by simp⟩,BHist.nil now wd⟩
theorem ct_tick {wd:Int} {k cap:Nat} {now tt:Int} {ts:List Int} {l l':List Bk} (h:CtS wd k cap now l) (hh:BHist ts now wd l) (h1:now<=tt) (h2:tt<=16777216) (he:ExpP l (max 0 (tt-wd+1)) l'):CtS wd k cap tt l'/\BHist ts tt wd l':=by
  obtain ⟨j,rfl,e1,e2⟩:=he;have g:=h.good;have hlv:∀ b∈l.drop j,tt-wd<b.t:=fun b hb=>by have:=e2 b hb;omega
  have hd:∀ b∈l.take j,b.t<=tt-wd:=fun b hb=>by
    have:=e1 b hb;have:=(h.val.tick b (List.mem_of_mem_take hb)).1;omega
  refine ⟨⟨by omega,h.val.drop j,?_,fun b hb=>⟨hlv b hb,?_⟩⟩,hh.expire h1 j hd hlv⟩
  · have:=tot_append (l.take j) (l.drop j);rw [List.take_append_drop] at this;have:=h.cap;omega
  · have:=(h.live b (List.mem_of_mem_drop hb)).2;omega
theorem ct_add {wd:Int} {k cap n:Nat} {now:Int} {ts:List Int} {l l':List Bk} (h:CtS wd k cap now l) (hh:BHist ts now wd l) (hr:btot l+n<=cap) (hi:Ins k l now n l'):CtS wd k cap now l'/\BHist (ts ++ List.replicate n now) now wd l':=by
  have g:=h.good;refine ⟨⟨h.good,hi.val,by rw [hi.tot];omega,fun b hb=>?_⟩,hh.add (by omega) (by omega) hi⟩;rcases hi.ticks b hb with e | ⟨b0,hb0,e⟩
  · omega
  · have:=h.live b0 hb0;omega
theorem ct_cfg {wd:Int} {k cap:Nat} (h:ctGood wd k cap) (w:World):Calls Tryz.prog 108 #[.agg (J23 wd (k:Nat) (cap:Nat))] w (Rr (.int .i64 0) w):=by
  unfold ctGood at h;exact pcfgCount (k:Nat) (cap:Nat) wd w (by omega) (by omega) (by omega) (by omega) (by omega) (by omega)
theorem tcNew {wd:Int} {k cap:Nat} {now:Int} (h:ctGood wd k cap) (n0:0<=now) (n1:now<=16777216) (w:World):Calls Tryz.prog 37 #[.agg (J23 wd (k:Nat) (cap:Nat)),now] w (GRet (CtI wd k cap now []) (fun A m c=>(J2 wd (k:Nat) (cap:Nat) now (.slice A m c))) 0 (fun _=>False) w):=by
  have HG:1<=wd/\wd<=1048576/\1<=k/\k<=64/\1<=cap/\cap<=65536/\0<=now/\now<=16777216:=by unfold ctGood at h;omega
  refine (pyNewCount wd k cap now w n0 n1 (Lib.hid (ct_cfg h)) (Lib.hid (fun w'=>pctnew wd k cap now w' HG))).mono fun e w' ⟨he,hb⟩=>?_;exact ⟨none,0,0,he,⟨[],BIn.nil,ct_new h n0 n1⟩,hb,fun _ a e=>by cases e⟩
theorem tcHV {A:Option Addr} {m c:Nat} {wd:Int} {k cap:Nat} {now:Int} {ts:List Int} {w:World} (h:CtI wd k cap now ts A m c w):RowKit.Hid (∀ w',Below w w w'->Calls Tryz.prog 133 #[.agg (J21 wd (k:Nat) (cap:Nat) now (.slice A m c))] w' (Rr (.int .i64 0) w')):=by
  obtain ⟨l,hin,hs,_⟩:=h;exact Lib.hid (fun w' hb=>pctval A m c l wd k cap now w' (hin.below hb) hs)
theorem CtI.good {A:Option Addr} {m c:Nat} {wd:Int} {k cap:Nat} {now:Int} {ts:List Int} {w:World} (h:CtI wd k cap now ts A m c w):ctGood wd k cap/\0<=now/\now<=16777216:=by
  obtain ⟨l,_,hs,_⟩:=h;have:=hs.good;unfold ctGood;omega
theorem tcAdvance {A:Option Addr} {m c:Nat} {wd:Int} {k cap:Nat} {now tt:Int} {ts:List Int} {w:World} (h:CtI wd k cap now ts A m c w) (h1:now<=tt) (h2:tt<=16777216):Calls Tryz.prog 21 #[.agg (J2 wd (k:Nat) (cap:Nat) now (.slice A m c)),tt] w (GRet (CtI wd k cap tt ts) (fun A m c=>(J2 wd (k:Nat) (cap:Nat) tt (.slice A m c))) 0 (fun _=>False) w):=by
  have hg:=h.good.1;have HV:=tcHV h;obtain ⟨l,hin,hs,hh⟩:=h;refine pyAdvanceCount A m c wd k cap now tt w _ (ctI_ok wd k cap tt ts) _ (fun b hb=>hb.elim) HV (Lib.hid (ct_cfg hg)) (Lib.hid (fun w' hb=>(pctadv A m c l wd k cap now tt w' (hin.below hb) hs h1 h2).mono fun e w'' hq=>?_));obtain ⟨A',m',c',l',he,hin',hP,hb',hf⟩:=hq;exact ⟨A',m',c',he,⟨l',hin',ct_tick hs hh h1 h2 hP⟩,hb',fun _ a e => .inl (hf a e)⟩
theorem tcAdd {A : Option Addr} {m c : Nat} {wd : Int} {k cap : Nat} {now v : Int} {ts : List Int} {w : World} (h : CtI wd k cap now ts A m c w) (hr : ts.length < cap) (v0 : -4096 <= v) (v1 : v <= 4096) : Calls Tryz.prog 38 #[.agg (J2 wd (k : Nat) (cap : Nat) now (.slice A m c)), v,""] w (GRet (CtI wd k cap now (ts ++ [now])) (fun A m c => (J2 wd (k : Nat) (cap : Nat) now (.slice A m c))) 0 (fun _ => False) w) := by
  have hg:=h.good.1;have HV:=tcHV h;obtain ⟨l,hin,hs,hh⟩:=h;have hbt:=cov_tot hh;refine pyAddCount A m c wd k cap now v w _ (ctI_ok wd k cap now (ts ++ [now])) _ (fun b hb=>hb.elim) HV (Lib.hid (ct_cfg hg)) (Lib.hid (fun w' hb=>(pctadd A m c l wd k cap now w' (hin.below hb) hs (by omega)).mono fun e w'' hq=>?_)) v0 v1;obtain ⟨A',m',c',l',he,hin',hP,hb',hf⟩:=hq;exact ⟨A',m',c',he,⟨l',hin',ct_add hs hh (by omega) hP⟩,hb',fun _ a e => .inl (hf a e)⟩
def CtA (wd:Int) (k:Nat) (now:Int) (ts:List Int) (w:World) (e:Ending) (w':World):Prop:=∃ lo hi:Nat,e = .returned (.tuple #[.agg (J40 (lo:Nat) (.int .i64 ((lo+hi) / 2:Nat)) (hi:Nat)),()])/\(lo<=liveT (now-wd) ts/\liveT (now-wd) ts<=hi/\hi<=65536/\(k*(hi-lo)+1<=lo∨lo=0/\hi=0))/\Below w w w'
theorem tcAsk {A:Option Addr} {m c:Nat} {wd:Int} {k cap:Nat} {now:Int} {ts:List Int} {w:World} (h:CtI wd k cap now ts A m c w) (qa qb:Int):Calls Tryz.prog 12 #[.agg (J2 wd (k:Nat) (cap:Nat) now (.slice A m c)), .agg #[.int .i64 1,qa,qb]] w (CtA wd k now ts w):=by
  have hg:=h.good.1;have HV:=tcHV h;obtain ⟨l,hin,hs,hh⟩:=h;have HC:=Lib.hid (ct_cfg hg)
  have hB:qLo l<=liveT (now-wd) ts/\liveT (now-wd) ts<=btot l/\(k*(btot l-qLo l)+1<=qLo l∨qLo l=0/\btot l=0):=by
    unfold qLo;by_cases e:l=[]
    · rw [if_pos e];subst e;rw [hh.none];exact ⟨Nat.le_refl _,Nat.zero_le _, .inr ⟨rfl,rfl⟩⟩
    · rw [if_neg e];have:=hh.query e;have hn:=hs.val.narrow e;have p1:=Nat.one_le_two_pow (n:=topL l);generalize 2 ^ topL l=p at this hn p1 |-
      have e2:btot l-(btot l-p+1)=p-1:=by omega
      rw [e2];generalize k*(p-1)=q at hn |-
      omega
  have hc:=hs.cap;have hgg:=hs.good;refine (pyAskCount A m c wd k cap now qa qb (qLo l:Nat) 1 ((qLo l+btot l) / 2:Nat) 1 (btot l:Nat) 1 w HV HC (Lib.hid (fun w'=>pansCount wd k cap w' HC)) (Lib.hid (fun w' hb=>pctask A m c l wd k cap now w' (hin.below hb) hs))).mono fun e w' ⟨he,hb⟩=>?_;exact ⟨qLo l,btot l,he,⟨hB.1,hB.2.1,by omega,hB.2.2⟩,hb⟩
set_option maxRecDepth 100000 in
set_option maxHeartbeats 4000000 in
theorem pyNewSmooth (agg wd k cap now : Int) (w : World) (n0 : 0 <= now) (n1 : now <= 16777216) (HC : RowKit.Hid (∀ w', Calls Tryz.prog 108 #[.agg (J32 agg wd k cap)] w' (Rr (.int .i64 0) w'))) (HA : RowKit.Hid (∀ w', Calls Tryz.prog 112 (J21 agg wd k cap now) w' (Rr (.tuple #[.agg #[agg, wd, k, cap, now,(),""], .int .i64 0]) w'))) : Calls Tryz.prog 37 #[.agg (J32 agg wd k cap), now] w (Rr (.tuple #[.agg (J16 agg wd k cap now),()]) w) := by
  have PT:=Lib.hid (fun w=>pstick now w n0 n1);go_enter Tryz.func37,Tryz.ntmps37;go_upto_region 1 with (fail)
  refine start2 (fun w1 X R o=>?_);obtain ⟨X0,X1,X2,X3,X4,X5,X6,X7,Xf0,Xf1,Xf2,Xf3,Xf4,Xf5,Xf6,Xf7⟩:=row_eight X;go_wp2_with fail;refine (HC.out _).mono ?_;rintro e w2 ⟨rfl,hb⟩;replace X:=row_call X hb;replace R:=row_call R hb;replace o:=o.trans (hb.mono o.size);clear hb X0 Xf0 X1 Xf1 X2 Xf2 X3 Xf3 X4 Xf4 X5 Xf5 X6 Xf6 X7 Xf7;obtain ⟨X0,X1,X2,X3,X4,X5,X6,X7,Xf0,Xf1,Xf2,Xf3,Xf4,Xf5,Xf6,Xf7⟩:=row_eight X;go_upto_region 6 with (go_at_call 73;with_reducible refine (PT.out _).mono ?_;rintro e w9 ⟨rfl,h9⟩;obtain rfl:=h9.symm)
  have honeZ:((J11 agg wd k cap):Array Value).all (·.oneCell')=true:=all_one rfl;have SZ:Row (w2.alloc (.cells J0 58)) w2.heap.size 58 J0:=row_new rfl;go_upto_region 7 with (first | (with_reducible refine wpList_bsyn (.int .i64 4) (.int .i64 agg) (.int .i64 wd) (.int .i64 k) (.int .i64 cap) (.int .i64 0) (.int .i64 0) (.int .i64 0) rfl _ rfl rfl ?_) | (with_reducible refine wpList_ssyn SZ rfl rfl honeZ rfl _ _ rfl rfl rfl ?_))
  have S:=row_setRow (cs:=(J11 agg wd k cap)) SZ;have z2:=row_lt R;replace X:=row_setRow_other (g:=w2.heap.size) (cs':=(J11 agg wd k cap)) (row_alloc X (.cells J0 58)) (by have:=row_lt X;omega);replace R:=row_setRow_other (g:=w2.heap.size) (cs':=(J11 agg wd k cap)) (row_alloc R (.cells J0 58)) (by omega);replace o:=below_setRow (g:=w2.heap.size) (o.alloc o.size (.cells J0 58)) o.size (J11 agg wd k cap);obtain ⟨w3,hw3⟩:∃ x,x=(w2.alloc (.cells J0 58)).setRow w2.heap.size (J11 agg wd k cap):=⟨_,rfl⟩
  rw [<- hw3] at X R S o |-
  clear hw3;generalize w2.heap.size=sb at S z2 |-
  clear SZ;clear X0 Xf0 X1 Xf1 X2 Xf2 X3 Xf3 X4 Xf4 X5 Xf5 X6 Xf6 X7 Xf7;obtain ⟨X0,X1,X2,X3,X4,X5,X6,X7,Xf0,Xf1,Xf2,Xf3,Xf4,Xf5,Xf6,Xf7⟩:=row_eight X;go_wp2_with fail;refine (HA.out _).mono ?_;rintro e w4 ⟨rfl,hb⟩;replace S:=row_call S hb;replace R:=row_call R hb;replace o:=o.trans (hb.mono o.size);clear hb X X0 Xf0 X1 Xf1 X2 Xf2 X3 Xf3 X4 Xf4 X5 Xf5 X6 Xf6 X7 Xf7;have q0:=rc9 S 23;have f0:=row_free S 23;have q1:=rc9 S 24;have f1:=row_free S 24;have q2:=rc9 S 25;have f2:=row_free S 25;have q3:=rc9 S 26;have f3:=row_free S 26;have q4:=rc9 S 27;have f4:=row_free S 27;have q5:=rc9 S 28;have f5:=row_free S 28;have q6:=rc9 S 29;have f6:=row_free S 29;go_upto_region 31 with (fail)
  clear q0 f0 q1 f1 q2 f2 q3 f3 q4 f4 q5 f5 q6 f6;show Code.wp _ _ _ _ (setL w4 sb 23 [.int .i64 agg, .int .i64 wd, .int .i64 k, .int .i64 cap, .int .i64 now, .int .i64 0, .slice none 0 0]);refine layT 23 [.int .i64 agg, .int .i64 wd, .int .i64 k, .int .i64 cap, .int .i64 now, .int .i64 0, .slice none 0 0] S R o (by omega) (by omega) ?_;clear S R o;intro w5 S R o;replace S:Row w5 sb 58 (J16 agg wd k cap now):=S;have hone:((J16 agg wd k cap now):Array Value).all (·.oneCell')=true:=all_one rfl;go_wp2_with (first | (with_reducible refine wpList_lsyn S rfl rfl _ rfl rfl ?_) | (with_reducible refine wpList_ssyn R rfl rfl hone rfl _ _ rfl rfl rfl ?_));have R9:=row_setRow (cs:=(J16 agg wd k cap now)) R;refine bodyPost_ret (v := .tuple #[.agg (J16 agg wd k cap now),()]) ?_ rfl ?_
  · exact results_syn (p:=4) (q:=5) rfl _ R9 rfl rfl
  · exact ⟨rfl,below_setRow o (by omega) _⟩
set_option maxRecDepth 100000 in
theorem pansSmooth (agg wd k cap:Int) (w:World) (ag1:1<=agg) (ag2:agg<=4) (HC:RowKit.Hid (∀ w',Calls Tryz.prog 108 #[.agg (J32 agg wd k cap)] w' (Rr (.int .i64 0) w'))):Calls Tryz.prog 40 #[.agg (J32 agg wd k cap),agg] w (Rr (.bool true) w):=by
  have wa:IntKind.i64.wrap (agg-1)=agg-1:=IntWalk.i64_in _ (by omega);go_enter Tryz.func40,Tryz.ntmps40;go_upto_region 1 with (fail)
  refine start1 (fun w1 X o=>?_);obtain ⟨X0,X1,X2,X3,X4,X5,X6,X7,Xf0,Xf1,Xf2,Xf3,Xf4,Xf5,Xf6,Xf7⟩:=row_eight X;go_wp2_with fail;refine (HC.out _).mono ?_;rintro e w2 ⟨rfl,hb⟩;replace X:=row_call X hb;replace o:=o.trans (hb.mono o.size);clear hb X0 Xf0 X1 Xf1 X2 Xf2 X3 Xf3 X4 Xf4 X5 Xf5 X6 Xf6 X7 Xf7;obtain ⟨X0,X1,X2,X3,X4,X5,X6,X7,Xf0,Xf1,Xf2,Xf3,Xf4,Xf5,Xf6,Xf7⟩:=row_eight X;go_wp2;go_ret;exact ⟨by first | rfl | exact ret_bool (by simp) | simp,o⟩
set_option maxRecDepth 100000 in
set_option maxHeartbeats 4000000 in
theorem pyAskSmooth (A:Option Addr) (m c:Nat) (agg wd k cap now seq:Int) (qa qb b0 b1 b2 b3 b4 b5:Int) (w:World) (HV:RowKit.Hid (∀ w',Below w w w'->Calls Tryz.prog 136 #[.agg (J1 agg wd k cap now seq (.slice A m c))] w' (Rr (.int .i64 0) w'))) (HC:RowKit.Hid (∀ w',Calls Tryz.prog 108 #[.agg (J32 agg wd k cap)] w' (Rr (.int .i64 0) w'))) (HN:RowKit.Hid (∀ w',Calls Tryz.prog 40 #[.agg (J32 agg wd k cap),agg] w' (Rr (.bool true) w'))) (HQ:RowKit.Hid (∀ w',Below w w w'->Calls Tryz.prog 43 #[.agg (J1 agg wd k cap now seq (.slice A m c))] w' (Rr (.tuple #[.agg (J6 b0 b1 b2 b3 b4 b5),()]) w'))):Calls Tryz.prog 12 #[.agg (J4 agg wd k cap now seq (.slice A m c)), .agg #[agg,qa,qb]] w (Rr (.tuple #[.agg (J13 b0 b1 b2 b3 b4 b5),()]) w):=by
  have PVd:=Lib.hid (fun w' (hb:Below w w w')=>pvSmooth A m c agg wd k cap now seq w' (Lib.hid (fun w'' hb2=>HV.out w'' (hb.trans (hb2.mono hb.size)))) HC);go_enter Tryz.func12,Tryz.ntmps12;go_upto_region 1 with (fail)
  refine start3 (fun w1 X Q R o=>?_);go_wp2_with (with_reducible refine wpList_lsyn X rfl rfl _ rfl rfl ?_);refine (PVd.out _ o).mono ?_;rintro e w2 ⟨rfl,hb⟩;replace X:=row_call X hb;replace Q:=row_call Q hb;replace R:=row_call R hb;replace o:=o.trans (hb.mono o.size);clear hb PVd;have k0:=rc9 X 0;have k1:=rc9 X 1;have k2:=rc9 X 2;have k3:=rc9 X 3;have k4:=rc9 X 4;have k5:=rc9 X 5;have k6:=rc9 X 6;have k7:=rc9 X 7;obtain ⟨Q0,Q1,Q2,Qf0,Qf1,Qf2⟩:=row_three Q;go_wp2_with fail;refine (HN.out _).mono ?_;rintro e w3 ⟨rfl,hb⟩;replace X:=row_call X hb;replace R:=row_call R hb;replace o:=o.trans (hb.mono o.size);clear hb HN Q Q0 Q1 Q2 Qf0 Qf1 Qf2 k0 k1 k2 k3 k4 k5 k6 k7;go_upto_region 7 with (fail)
  have V:Row (w3.alloc (.cells J12 71)) w3.heap.size 71 J12:=row_new rfl;have z3:=row_lt R;replace X:=row_alloc X (.cells J12 71);replace R:=row_alloc R (.cells J12 71);replace o:=o.alloc o.size (.cells J12 71);generalize w3.alloc (.cells J12 71)=w4 at X R V o |-
  generalize w3.heap.size=vb at V z3 |-
  have k0:=rc9 X 0;have q0:=rc9 X 23;have q1:=rc9 X 24;have q2:=rc9 X 25;have q3:=rc9 X 26;have q4:=rc9 X 27;have q5:=rc9 X 28;have q6:=rc9 X 29;go_wp2_with fail;refine (HQ.out _ o).mono ?_;rintro e w5 ⟨rfl,hb⟩;replace V:=row_call V hb;replace R:=row_call R hb;replace o:=o.trans (hb.mono o.size);clear hb HQ X k0 q0 q1 q2 q3 q4 q5 q6;have v0:=rc9 V 0;have v1:=rc9 V 1;have v2:=rc9 V 2;have v3:=rc9 V 3;have v4:=rc9 V 4;have v5:=rc9 V 5;have v6:=rc9 V 6;have v7:=rc9 V 7;have v8:=rc9 V 8;have v9:=rc9 V 9;have v10:=rc9 V 10;have g0:=row_free V 0;have g1:=row_free V 1;have g2:=row_free V 2;have g3:=row_free V 3;have g4:=row_free V 4;have g5:=row_free V 5;go_upto_region 39 with (fail)
  clear v0 v1 v2 v3 v4 v5 v6 v7 v8 v9 v10 g0 g1 g2 g3 g4 g5;replace V:=row_set V 0 (.int .i64 b0);replace R:=row_other (p:=⟨vb,0,none⟩) R (by show w.heap.size+2≠vb;omega) (.int .i64 b0);replace o:=o.setCell (p:=⟨vb,0,none⟩) (by show w.heap.size<=vb;omega) (.int .i64 b0);replace V:=row_set V 1 (.int .i64 b1);replace R:=row_other (p:=⟨vb,1,none⟩) R (by show w.heap.size+2≠vb;omega) (.int .i64 b1);replace o:=o.setCell (p:=⟨vb,1,none⟩) (by show w.heap.size<=vb;omega) (.int .i64 b1);replace V:=row_set V 2 (.int .i64 b2);replace R:=row_other (p:=⟨vb,2,none⟩) R (by show w.heap.size+2≠vb;omega) (.int .i64 b2);replace o:=o.setCell (p:=⟨vb,2,none⟩) (by show w.heap.size<=vb;omega) (.int .i64 b2);replace V:=row_set V 3 (.int .i64 b3);replace R:=row_other (p:=⟨vb,3,none⟩) R (by show w.heap.size+2≠vb;omega) (.int .i64 b3);replace o:=o.setCell (p:=⟨vb,3,none⟩) (by show w.heap.size<=vb;omega) (.int .i64 b3);replace V:=row_set V 4 (.int .i64 b4);replace R:=row_other (p:=⟨vb,4,none⟩) R (by show w.heap.size+2≠vb;omega) (.int .i64 b4);replace o:=o.setCell (p:=⟨vb,4,none⟩) (by show w.heap.size<=vb;omega) (.int .i64 b4);replace V:=row_set V 5 (.int .i64 b5);replace R:=row_other (p:=⟨vb,5,none⟩) R (by show w.heap.size+2≠vb;omega) (.int .i64 b5);replace o:=o.setCell (p:=⟨vb,5,none⟩) (by show w.heap.size<=vb;omega) (.int .i64 b5);replace V:Row ((((((w5.setCell ⟨vb,0,none⟩ (.int .i64 b0)).setCell ⟨vb,1,none⟩ (.int .i64 b1)).setCell ⟨vb,2,none⟩ (.int .i64 b2)).setCell ⟨vb,3,none⟩ (.int .i64 b3)).setCell ⟨vb,4,none⟩ (.int .i64 b4)).setCell ⟨vb,5,none⟩ (.int .i64 b5)) vb 71 (J13 b0 b1 b2 b3 b4 b5):=V;generalize ((((((w5.setCell ⟨vb,0,none⟩ (.int .i64 b0)).setCell ⟨vb,1,none⟩ (.int .i64 b1)).setCell ⟨vb,2,none⟩ (.int .i64 b2)).setCell ⟨vb,3,none⟩ (.int .i64 b3)).setCell ⟨vb,4,none⟩ (.int .i64 b4)).setCell ⟨vb,5,none⟩ (.int .i64 b5))=w6 at V R o |-
  have hone:((J13 b0 b1 b2 b3 b4 b5):Array Value).all (·.oneCell')=true:=all_one rfl;go_wp2_with (first | (with_reducible refine wpList_lans V rfl rfl _ rfl rfl ?_) | (with_reducible refine wpList_sans R rfl rfl hone rfl _ _ rfl rfl rfl ?_));have R9:=row_setRow (cs:=(J13 b0 b1 b2 b3 b4 b5)) R;refine bodyPost_ret (v := .tuple #[.agg (J13 b0 b1 b2 b3 b4 b5),()]) ?_ rfl ?_
  · exact results_ans (p:=4) (q:=5) rfl _ R9 rfl rfl
  · exact ⟨rfl,below_setRow o (by omega) _⟩
end Go.Proofs.YtdipoojjlddohaaGreat
