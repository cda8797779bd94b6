/- What the law TopRelative needs, joined of its texts by a program (slim2.py); part 45. -/
import Derived.Test.YtdipoojjlddohaaGreatZTopRelative1
import Derived.Test.YtdipoojjlddohaaGreatZTopRelative13
import Derived.Test.YtdipoojjlddohaaGreatZTopRelative37
import Derived.Test.YtdipoojjlddohaaGreatZTopRelative41
import Derived.Test.YtdipoojjlddohaaGreatZTopRelative44
set_option linter.unusedVariables false
set_option linter.unusedSimpArgs false
set_option linter.unusedSectionVars false
set_option linter.unnecessarySimpa false
set_option maxRecDepth 100000
namespace Go.Proofs.YtdipoojjlddohaaGreat
open MC
open MT
open Go.RowKit
def AskRet (k:Nat) (op:Int) (L:List Itm) (w:World) (e:Ending) (w':World):Prop:=∃ l1 l2 m1 m2 h1 h2:Nat,e = .returned (.tuple #[.agg (J13 (l1:Nat) (l2:Nat) (m1:Nat) (m2:Nat) (h1:Nat) (h2:Nat)),()])/\AnsOK k l1 l2 m1 m2 h1 h2 (exN op L) (exD op L)/\Below w w w'
structure RelK (x0 x1 x2 x3 x4 x5 x6 x7 cv r0 r1 wd:Int) (kk:Nat) (r4 r5 r6 r7 lo hi op M:Int) (A:Option Addr) (m c:Nat) (l:List Itm) (L:List Itm) (IN:List Itm->Int->Option Addr->Nat->Nat->World->Prop) (csf:List Itm->Int->Option Addr->Nat->Nat->Array Value):Prop where
  kind:KindP #[r0,r1,wd, .int .i64 (kk:Nat),r4,r5,r6,r7] IN csf (fun v=>lo<=v/\v<=hi) 80
  wb:1<=wd/\wd<=20
  kb:1<=kk/\kk<=64
  ob:1<=op/\op<=5
  lb : -4096<=lo/\hi<=4096
  pos:op=2->0<=lo
  len:L.length=min m 80
  cfg:∀ w,Calls Tryz.prog 19 #[.agg #[x0,x1,x2,x3,x4,x5,x6,x7], .int .i64 cv] w (Rr (.agg #[r0,r1,wd, .int .i64 (kk:Nat),r4,r5,r6,r7]) w)
  str:∀ w,RIn A m c l w->Calls Tryz.prog 20 #[.agg #[r0,r1,wd, .int .i64 (kk:Nat),r4,r5,r6,r7], .slice A m c, .int .i64 80] w (IRetD L 80 41 lo hi w)
  qst:∀ w,Calls Tryz.prog 27 #[.agg #[r0,r1,wd, .int .i64 (kk:Nat),r4,r5,r6,r7]] w (Rr (.int .i64 op) w)
  ask:∀ ad now A m c w,LOK now lo hi ad->IN ad now A m c w->Calls Tryz.prog 12 #[.agg (csf ad now A m c), .agg #[op,(),()]] w (AskRet kk op (liveI now wd ad) w)
  recs:∀ ad now A m c w,IN ad now A m c w->∃ n:Nat,(n:Int)<=M/\∀ w',Below w w w'->Calls Tryz.prog 30 #[.agg (csf ad now A m c)] w' (Rr (.int .i64 (n:Nat)) w')
  most:∀ w,Calls Tryz.prog 31 #[.agg #[r0,r1,wd, .int .i64 (kk:Nat),r4,r5,r6,r7]] w (Rr (.int .i64 M) w)
theorem askret_whole {k lo hi:Nat} {op:Int} {L:List Itm} {w:World} {e:Ending} {w':World} (he:e = .returned (.tuple #[.agg (J40 (lo:Nat) (.int .i64 ((lo+hi) / 2:Nat)) (hi:Nat)),()])) (ho:op≠5) (h:AnsOK k lo 1 ((lo+hi) / 2) 1 hi 1 (exN op L) 1) (hb:Below w w w'):AskRet k op L w e w':=by
  refine ⟨lo,1,(lo+hi) / 2,1,hi,1,he,?_,hb⟩;have e1:exD op L=1:=by unfold exD;rw [if_neg ho]
  rw [e1];exact h
set_option maxRecDepth 100000 in
set_option maxHeartbeats 2000000 in
theorem relCount (x0 x1 x2 x3 x4 x5 x6 x7:Int) {wd:Int} {kk cap:Nat} (A:Option Addr) (m c:Nat) (l:List Itm) (e2:1+x2 % 20=wd) (e3:1+x3 % 3=(kk:Nat)) (e4:2+x4 % 60=(cap:Nat)):RelK x0 x1 x2 x3 x4 x5 x6 x7 2 2 0 wd kk (cap:Nat) 0 0 0 (-4096) 4096 1 ((kk+1)*Lib.bitLen cap:Nat) A m c l (mkL 20 80 m l) (CtK wd kk cap) (fun ad now A m c=>(J2 wd (kk:Nat) (cap:Nat) now (.slice A m c))):=by
  have hg:ctGood wd kk cap:=by unfold ctGood;omega
  have b4:(2:Int)<=cap/\(cap:Int)<=61:=by omega
  refine ⟨kCountP hg,by omega,by omega,by omega,by omega,fun h=>by omega,?_,fun w=>?_,fun w hin=>?_,fun w=>?_,fun ad now A m c w hl hi=>?_,fun ad now A2 m2 c2 w hi=>?_,fun w=>?_⟩
  · exact mkL_len 20 80 m l
  · have h:=pconfigCount x0 x1 x2 x3 x4 x5 x6 x7 w;rw [e2,e3,e4] at h;exact h
  · exact pstreamN 2 0 wd (kk:Nat) (cap:Nat) 0 0 0 A m c l w hin (Lib.hid (fun w=>ppositiveCount 0 wd (kk:Nat) (cap:Nat) 0 0 0 w))
  · exact pquestionCount 0 wd (kk:Nat) (cap:Nat) 0 0 0 w
  · refine (tcAsk hi 0 0).mono fun e w' ⟨lo,hi2,he,hq,hb⟩=>askret_whole he (by decide) ?_ hb;rw [live_count hl] at hq;have e:exN 1 (liveI now wd ad)=(liveI now wd ad).length:=by unfold exN;simp
    rw [e];exact ans_count hq
  · have HV:=tcHV hi;obtain ⟨l2,hin,hs,hh⟩:=id hi;have hlen:=hin.len;have hf:=bk_few hs.val hs.cap (by omega);have hm:m2<=100000:=by have:=tot_len l2;have:=hs.cap;omega
    rw [hlen] at hf;refine ⟨m2,by exact_mod_cast hf,fun w' hb=>?_⟩;refine (precords (.int .i64 2) (.int .i64 0) (.int .i64 wd) (.int .i64 (kk:Nat)) (.int .i64 (cap:Nat)) (.int .i64 0) (.int .i64 0) (.int .i64 0) (.int .i64 0) (.int .i64 0) (.int .i64 0) (.int .i64 wd) (.int .i64 (kk:Nat)) (.int .i64 (cap:Nat)) (.int .i64 now) (.int .i64 0) (.int .i64 0) (.int .i64 0) (.int .i64 0) (.int .i64 0) (.int .i64 0) (.int .i64 0) (.int .i64 0) (.int .i64 0) (.int .i64 0) (.int .i64 0) (.int .i64 0) (.int .i64 0) (.int .i64 0) (.int .i64 0) (.int .i64 0) (.int .i64 0) (.int .i64 0) (.int .i64 0) (.int .i64 0) (.bool false) (.int .i64 0) (.int .i64 0) (.int .i64 0) (.int .i64 0) (.int .i64 0) (.int .i64 0) (.int .i64 0) (.int .i64 0) (.int .i64 0) (.int .i64 0) A2 none none none m2 0 0 0 c2 0 0 0 hm (by omega) (by omega) (by omega) w' (Lib.hid (fun w'' hb2=>pvCount A2 m2 c2 wd kk cap now w'' (Lib.hid (fun w3 hb3=>HV.out w3 (hb.trans ((hb2.trans (hb3.mono hb2.size)).mono hb.size)))) (Lib.hid (ct_cfg hg))))).mono fun e w'' ⟨he,hb'⟩=>⟨by rw [he];simp,hb'⟩
  · exact rrec24Count wd kk cap (by omega) (by omega) (by omega) w
set_option maxRecDepth 100000 in
set_option maxHeartbeats 2000000 in
theorem relSum (x0 x1 x2 x3 x4 x5 x6 x7:Int) {wd:Int} {kk cap mx:Nat} (A:Option Addr) (m c:Nat) (l:List Itm) (e2:1+x2 % 20=wd) (e3:1+x3 % 3=(kk:Nat)) (e4:2+x4 % 60=(cap:Nat)) (e7:1+x7 % 20=(mx:Nat)):RelK x0 x1 x2 x3 x4 x5 x6 x7 3 3 0 wd kk (cap:Nat) 0 0 (mx:Nat) 0 (mx:Nat) 2 ((kk+1)*Lib.bitLen cap:Nat) A m c l ((mkL 20 80 m l).map (imod ((mx:Int)+1))) (SuK wd kk cap mx) (fun ad now A m c=>(J3 wd (kk:Nat) (cap:Nat) (mx:Nat) now (.slice A m c))):=by
  have hg:suGood wd kk cap mx:=by unfold suGood;omega
  have b4:(2:Int)<=cap/\(cap:Int)<=61:=by omega
  have b7:1<=mx/\mx<=20:=by omega
  refine ⟨kSumP hg,by omega,by omega,by omega,by omega,fun h=>by omega,?_,fun w=>?_,fun w hin=>?_,fun w=>?_,fun ad now A m c w hl hi=>?_,fun ad now A2 m2 c2 w hi=>?_,fun w=>?_⟩
  · rw [List.length_map];exact mkL_len 20 80 m l
  · have h:=pconfigSum x0 x1 x2 x3 x4 x5 x6 x7 w;rw [e2,e3,e4,e7] at h;exact h
  · exact pstreamP 3 0 wd (kk:Nat) (cap:Nat) 0 0 (mx:Nat) mx (by omega) (by omega) A m c l w hin (Lib.hid (fun w=>ppositiveSum 0 wd (kk:Nat) (cap:Nat) 0 0 (mx:Nat) w)) (Lib.hid (fun w=>pmostTSum 0 wd (kk:Nat) (cap:Nat) 0 0 (mx:Nat) w))
  · exact pquestionSum 0 wd (kk:Nat) (cap:Nat) 0 0 (mx:Nat) w
  · refine (tuAsk hi 0 0).mono fun e w' ⟨lo,hi2,he,hq,hb⟩=>askret_whole he (by decide) ?_ hb;have hs:=live_sum (now:=now) (wd:=wd) (l:=ad) fun x hx=>⟨(hl.tick x hx).2,(hl.val x hx).1⟩
    have e:exN 2 (liveI now wd ad)=liveT (now-wd) (suT ad):=by unfold exN;simp;omega
    rw [e];exact ans_count hq
  · have HV:=tuHV hi;obtain ⟨l2,hin,hs,hh⟩:=id hi;have hlen:=hin.len;have hf:=bk_few hs.val hs.cap (by omega);have hm:m2<=100000:=by have:=tot_len l2;have:=hs.cap;omega
    rw [hlen] at hf;refine ⟨m2,by exact_mod_cast hf,fun w' hb=>?_⟩;refine (precords (.int .i64 3) (.int .i64 0) (.int .i64 wd) (.int .i64 (kk:Nat)) (.int .i64 (cap:Nat)) (.int .i64 0) (.int .i64 0) (.int .i64 (mx:Nat)) (.int .i64 0) (.int .i64 0) (.int .i64 0) (.int .i64 0) (.int .i64 0) (.int .i64 0) (.int .i64 0) (.int .i64 wd) (.int .i64 (kk:Nat)) (.int .i64 (cap:Nat)) (.int .i64 (mx:Nat)) (.int .i64 now) (.int .i64 0) (.int .i64 0) (.int .i64 0) (.int .i64 0) (.int .i64 0) (.int .i64 0) (.int .i64 0) (.int .i64 0) (.int .i64 0) (.int .i64 0) (.int .i64 0) (.int .i64 0) (.int .i64 0) (.int .i64 0) (.int .i64 0) (.bool false) (.int .i64 0) (.int .i64 0) (.int .i64 0) (.int .i64 0) (.int .i64 0) (.int .i64 0) (.int .i64 0) (.int .i64 0) (.int .i64 0) (.int .i64 0) none A2 none none 0 m2 0 0 0 c2 0 0 (by omega) hm (by omega) (by omega) w' (Lib.hid (fun w'' hb2=>pvSum A2 m2 c2 wd kk cap mx now w'' (Lib.hid (fun w3 hb3=>HV.out w3 (hb.trans ((hb2.trans (hb3.mono hb2.size)).mono hb.size)))) (Lib.hid (su_cfg hg))))).mono fun e w'' ⟨he,hb'⟩=>⟨by rw [he];simp,hb'⟩
  · exact rrec24Sum wd kk cap mx (by omega) (by omega) (by omega) (by omega) w
set_option maxRecDepth 100000 in
set_option maxHeartbeats 2000000 in
theorem relSmooth (x0 x1 x2 x3 x4 x5 x6 x7:Int) {agg wd:Int} {kk:Nat} {cap:Int} (A:Option Addr) (m c:Nat) (l:List Itm) (e2:1+x2 % 20=wd) (e3:1+x3 % 3=(kk:Nat)) (e1:1+x1 % 4=agg) (e4:2+x4 % 60=cap):RelK x0 x1 x2 x3 x4 x5 x6 x7 4 4 agg wd kk cap 0 0 0 (leastV agg) 4096 agg (mostS agg (kk:Nat) cap) A m c l (if agg=2∨agg=3 then (mkL 20 80 m l).map (imod 4097) else mkL 20 80 m l) (SmI agg wd (kk:Nat) cap) (fun ad now A m c=>(J4 agg wd (kk:Nat) cap now (ad.length:Nat) (.slice A m c))):=by
  have hg:smArg agg wd (kk:Nat) cap:=by unfold smArg;omega
  have b4:(2:Int)<=cap/\(cap:Int)<=61:=by omega
  have b1:1<=agg/\agg<=4:=by omega
  have hlo:leastV agg=0∨leastV agg = -4096:=by unfold leastV;split<;>omega
  refine ⟨kSmoothP hg (by omega),by omega,by omega,by omega,by omega,fun h=>by rw [h];decide,?_,fun w=>?_,fun w hin=>?_,fun w=>?_,fun ad now A m c w hl hi=>?_,fun ad now A2 m2 c2 w hi=>?_,fun w=>?_⟩
  · split
    · rw [List.length_map];exact mkL_len 20 80 m l
    · exact mkL_len 20 80 m l
  · have h:=pconfigSmooth x0 x1 x2 x3 x4 x5 x6 x7 w;rw [e1,e2,e3,e4] at h;exact h
  · by_cases h:agg=2∨agg=3
    · rw [if_pos h,show leastV agg=0 by unfold leastV;rw [if_pos h]];exact pstreamP 4 agg wd (kk:Nat) cap 0 0 0 4096 (by omega) (by omega) A m c l w hin (Lib.hid (fun w=>ppositiveSmooth agg wd (kk:Nat) cap 0 0 0 true (.inr ⟨h,rfl⟩) w)) (Lib.hid (fun w=>pmostTSmooth agg wd (kk:Nat) cap 0 0 0 w))
    · rw [if_neg h,show leastV agg = -4096 by unfold leastV;rw [if_neg h]];exact pstreamN 4 agg wd (kk:Nat) cap 0 0 0 A m c l w hin (Lib.hid (fun w=>ppositiveSmooth agg wd (kk:Nat) cap 0 0 0 false (.inl ⟨by omega,rfl⟩) w))
  · exact pquestionSmooth agg wd (kk:Nat) cap 0 0 0 w
  · refine (tsAsk hi 0 0).mono fun e w' ⟨lo,hi2,he,hq,⟨q0,q1,q2⟩,hb⟩=>?_;obtain ⟨a,rfl⟩:=Int.eq_ofNat_of_zero_le q0;obtain ⟨b,rfl⟩:=Int.eq_ofNat_of_zero_le (Int.le_trans q0 q1);have e9:((a:Int)+(b:Int)) / 2=(((a+b) / 2:Nat):Int):=by omega
    rw [e9] at he;refine askret_whole he (by omega) ?_ hb;obtain ⟨h1,h2,h3⟩:=hq _ (agg_ex b1 ((hl.live wd).1.val));have hle:a<=b:=by omega
    refine ans_whole (by omega) (by omega) ?_ (by omega);have e8:((kk*(b-a):Nat):Int)=(kk:Int)*((b:Int)-(a:Int)):=by rw [Int.natCast_mul,Int.ofNat_sub hle]
    omega
  · have HV:=tsHV hi;obtain ⟨l2,hin,hp,ha⟩:=id hi;have hlen:=hin.len;have hf:=few_marks hp.val;have hm:m2<=100000:=by have:=hp.ml;omega
    rw [hlen] at hf;refine ⟨m2,by exact hf,fun w' hb=>?_⟩;refine (precords (.int .i64 4) (.int .i64 agg) (.int .i64 wd) (.int .i64 (kk:Nat)) (.int .i64 cap) (.int .i64 0) (.int .i64 0) (.int .i64 0) (.int .i64 0) (.int .i64 0) (.int .i64 0) (.int .i64 0) (.int .i64 0) (.int .i64 0) (.int .i64 0) (.int .i64 0) (.int .i64 0) (.int .i64 0) (.int .i64 0) (.int .i64 0) (.int .i64 agg) (.int .i64 wd) (.int .i64 (kk:Nat)) (.int .i64 cap) (.int .i64 now) (.int .i64 (ad.length:Nat)) (.int .i64 0) (.int .i64 0) (.int .i64 0) (.int .i64 0) (.int .i64 0) (.int .i64 0) (.int .i64 0) (.int .i64 0) (.int .i64 0) (.bool false) (.int .i64 0) (.int .i64 0) (.int .i64 0) (.int .i64 0) (.int .i64 0) (.int .i64 0) (.int .i64 0) (.int .i64 0) (.int .i64 0) (.int .i64 0) none none A2 none 0 0 m2 0 0 0 c2 0 (by omega) (by omega) hm (by omega) w' (Lib.hid (fun w'' hb2=>pvSmooth A2 m2 c2 agg wd (kk:Nat) cap now (ad.length:Nat) w'' (Lib.hid (fun w3 hb3=>HV.out w3 (hb.trans ((hb2.trans (hb3.mono hb2.size)).mono hb.size)))) (Lib.hid (sm_cfg hg))))).mono fun e w'' ⟨he,hb'⟩=>⟨by rw [he];simp,hb'⟩
  · exact rrec24Smooth agg wd (kk:Nat) cap (by omega) (by omega) (by omega) b1 w
set_option maxRecDepth 100000 in
set_option maxHeartbeats 2000000 in
theorem relSpread (x0 x1 x2 x3 x4 x5 x6 x7:Int) {wd:Int} {kk:Nat} {cap:Int} (A:Option Addr) (m c:Nat) (l:List Itm) (e2:1+x2 % 20=wd) (e3:1+x3 % 3=(kk:Nat)) (e4:2+x4 % 60=cap):RelK x0 x1 x2 x3 x4 x5 x6 x7 5 5 0 wd kk cap 0 0 0 (-4096) 4096 5 (mostV (kk:Nat) cap) A m c l (mkL 20 80 m l) (SpI wd (kk:Nat) cap) (fun ad now A m c=>(J5 wd (kk:Nat) cap now (ad.length:Nat) (.slice A m c))):=by
  have hg:spArg wd (kk:Nat) cap:=by unfold spArg;omega
  have b4:(2:Int)<=cap/\(cap:Int)<=61:=by omega
  refine ⟨kSpreadP hg (by omega),by omega,by omega,by omega,by omega,fun h=>by omega,?_,fun w=>?_,fun w hin=>?_,fun w=>?_,fun ad now A m c w hl hi=>?_,fun ad now A2 m2 c2 w hi=>?_,fun w=>?_⟩
  · exact mkL_len 20 80 m l
  · have h:=pconfigSpread x0 x1 x2 x3 x4 x5 x6 x7 w;rw [e2,e3,e4] at h;exact h
  · exact pstreamN 5 0 wd (kk:Nat) cap 0 0 0 A m c l w hin (Lib.hid (fun w=>ppositiveSpread 0 wd (kk:Nat) cap 0 0 0 w))
  · exact pquestionSpread 0 wd (kk:Nat) cap 0 0 0 w
  · refine (tpAsk hi 0 0).mono fun e w' ⟨lT,lN,hT,hN,he,hs,hb⟩=>?_;exact ⟨_,_,_,_,_,_,he,ans_spread hs,hb⟩
  · have HV:=tpHV hi;obtain ⟨l2,hin,hp,ha⟩:=id hi;have hlen:=hin.len;have hf:=sp_few hp.val;have hm:m2<=100000:=by have:=hp.ml;omega
    rw [hlen] at hf;refine ⟨m2,by exact hf,fun w' hb=>?_⟩;refine (precords (.int .i64 5) (.int .i64 0) (.int .i64 wd) (.int .i64 (kk:Nat)) (.int .i64 cap) (.int .i64 0) (.int .i64 0) (.int .i64 0) (.int .i64 0) (.int .i64 0) (.int .i64 0) (.int .i64 0) (.int .i64 0) (.int .i64 0) (.int .i64 0) (.int .i64 0) (.int .i64 0) (.int .i64 0) (.int .i64 0) (.int .i64 0) (.int .i64 0) (.int .i64 0) (.int .i64 0) (.int .i64 0) (.int .i64 0) (.int .i64 0) (.int .i64 wd) (.int .i64 (kk:Nat)) (.int .i64 cap) (.int .i64 now) (.int .i64 (ad.length:Nat)) (.int .i64 0) (.int .i64 0) (.int .i64 0) (.int .i64 0) (.bool false) (.int .i64 0) (.int .i64 0) (.int .i64 0) (.int .i64 0) (.int .i64 0) (.int .i64 0) (.int .i64 0) (.int .i64 0) (.int .i64 0) (.int .i64 0) none none none A2 0 0 0 m2 0 0 0 c2 (by omega) (by omega) (by omega) hm w' (Lib.hid (fun w'' hb2=>pvSpread A2 m2 c2 wd (kk:Nat) cap now (ad.length:Nat) w'' (Lib.hid (fun w3 hb3=>HV.out w3 (hb.trans ((hb2.trans (hb3.mono hb2.size)).mono hb.size)))) (Lib.hid (sp_cfg hg))))).mono fun e w'' ⟨he,hb'⟩=>⟨by rw [he];simp,hb'⟩
  · exact rrec24Spread wd (kk:Nat) cap (by omega) (by omega) (by omega) w
end Go.Proofs.YtdipoojjlddohaaGreat
namespace Go.Proofs.YtdipoojjlddohaaGreat
open MC
open MT
open Go.RowKit Go.Shelf
theorem QV_W {d:Nat} (h:d<big):QV d = .agg #[.int .u64 (lo d), .int .u64 (hi d), .int .u64 0, .int .u64 0]:=by
  have e0:((qd 0 d:Nat):Int)=lo d:=by unfold qd lo;rw [Nat.pow_zero,Nat.div_one]
  have e1:((qd 1 d:Nat):Int)=hi d:=by
    unfold qd hi big at *;rw [Nat.pow_one,Nat.mod_eq_of_lt (by omega)]
  have e2:qd 2 d=0:=by
    unfold qd big at *;rw [Nat.div_eq_of_lt (by omega)]
  have e3:qd 3 d=0:=by
    unfold qd big at *;rw [Nat.div_eq_of_lt (by omega)]
  unfold QV;rw [e0,e1,e2,e3];rfl
theorem q_le {L R:Nat} (hL:L<115792089237316195423570985008687907853269984665640564039457584007913129639936) (hR:R<115792089237316195423570985008687907853269984665640564039457584007913129639936) (h:L<=R) :
    (qd 3 L=qd 3 R/\qd 2 L=qd 2 R/\qd 1 L=qd 1 R/\qd 0 L=qd 0 R)∨qd 3 L<qd 3 R∨(qd 3 L=qd 3 R/\qd 2 L<qd 2 R)∨(qd 3 L=qd 3 R/\qd 2 L=qd 2 R/\qd 1 L<qd 1 R)∨(qd 3 L=qd 3 R/\qd 2 L=qd 2 R/\qd 1 L=qd 1 R/\qd 0 L<qd 0 R):=by
  have a0:=qd_step L 0;have a1:=qd_step L 1;have a2:=qd_step L 2;have a3:=qd_step L 3;have c0:=qd_step R 0;have c1:=qd_step R 1;have c2:=qd_step R 2;have c3:=qd_step R 3;have l0:=qd_lt 0 L;have l1:=qd_lt 1 L;have l2:=qd_lt 2 L;have l3:=qd_lt 3 L;have r0:=qd_lt 0 R;have r1:=qd_lt 1 R;have r2:=qd_lt 2 R;have r3:=qd_lt 3 R;have eL:L / 18446744073709551616 ^ (3+1)=0:=Nat.div_eq_of_lt (by omega);have eR:R / 18446744073709551616 ^ (3+1)=0:=Nat.div_eq_of_lt (by omega);rw [eL] at a3;rw [eR] at c3;rw [Nat.pow_zero,Nat.div_one] at a0 c0;simp only [Nat.reduceAdd] at *;generalize L / 18446744073709551616 ^ 1=L1 at *;generalize L / 18446744073709551616 ^ 2=L2 at *;generalize L / 18446744073709551616 ^ 3=L3 at *;generalize R / 18446744073709551616 ^ 1=R1 at *;generalize R / 18446744073709551616 ^ 2=R2 at *;generalize R / 18446744073709551616 ^ 3=R3 at *;omega
theorem info_u64:(Tryz.prog.info? 65).isSome=true:=by kernel_rfl
theorem cells_u64:Tryz.prog.cellsOf 65=1:=by kernel_rfl
theorem plain_u64:Tryz.prog.plainKey 65=true:=by kernel_rfl
theorem quad_item {xs ys:Array Value} {i:Nat} {is:List Nat} {a b:Int} (w':World) (hx:xs[i]?=some (.int .u64 a)) (hy:ys[i]?=some (.int .u64 b)) :
    (Op.eqItems 9999 65 1 xs ys (i :: is)).run Tryz.prog w'=if a=b then (Op.eqItems 9999 65 1 xs ys is).run Tryz.prog w' else .ok false w':=by
  have px:=run_part_plain (w:=w') (P:=Tryz.prog) plain_u64 hx;have py:=run_part_plain (w:=w') (P:=Tryz.prog) plain_u64 hy;have e:(Op.equalIn 9999 65 (.int .u64 a) (.int .u64 b)).run Tryz.prog w' = .ok (a == b) w':=run_equalIn_int w' 9998 65 .u64 .u64 a b Tryz.underlying65;rw [Op.eqItems];simp only [Sem.run_bind,Nat.mul_one,px,py,e,Result.andThen_ok];by_cases h:a=b
  · rw [if_pos h,if_neg (by simp [h])]
  · rw [if_neg h,if_pos (by simp [h])];rfl
theorem run_quad_ne {b0 b1 b2 b3 c0 c1 c2 c3:Int} (h:¬ (b0=c0/\b1=c1/\b2=c2/\b3=c3)) (w':World):(binOp .eql 180 (.agg (J25 (.int .u64 b0) (.int .u64 b1) (.int .u64 b2) (.int .u64 b3))) (.agg (J25 (.int .u64 c0) (.int .u64 c1) (.int .u64 c2) (.int .u64 c3)))).run Tryz.prog w' = .ok (.bool false) w':=by
  obtain ⟨i,hi⟩:=Option.isSome_iff_exists.1 info_u64
  rw [run_eql_struct,show (10000:Nat)=9999+1 from rfl,run_equalIn_array w' 9999 _ _ Tryz.underlying180 hi,cells_u64,show List.range 4=[0,1,2,3] from rfl,
    quad_item (i:=0) (a:=b0) (b:=c0) w' rfl rfl,quad_item (i:=1) (a:=b1) (b:=c1) w' rfl rfl,quad_item (i:=2) (a:=b2) (b:=c2) w' rfl rfl,quad_item (i:=3) (a:=b3) (b:=c3) w' rfl rfl]
  split
  · split
    · split
      · split
        · exact absurd ⟨by assumption,by assumption,by assumption,by assumption⟩ h
        · rfl
      · rfl
    · rfl
  · rfl
theorem run_quad_eq {b0 b1 b2 b3:Int} (w':World):(binOp .eql 180 (.agg (J25 (.int .u64 b0) (.int .u64 b1) (.int .u64 b2) (.int .u64 b3))) (.agg (J25 (.int .u64 b0) (.int .u64 b1) (.int .u64 b2) (.int .u64 b3)))).run Tryz.prog w' = .ok (.bool true) w':=by
  obtain ⟨i,hi⟩:=Option.isSome_iff_exists.1 info_u64
  rw [run_eql_struct,show (10000:Nat)=9999+1 from rfl,run_equalIn_array w' 9999 _ _ Tryz.underlying180 hi,cells_u64,show List.range 4=[0,1,2,3] from rfl,
    quad_item (i:=0) (a:=b0) (b:=b0) w' rfl rfl,quad_item (i:=1) (a:=b1) (b:=b1) w' rfl rfl,quad_item (i:=2) (a:=b2) (b:=b2) w' rfl rfl,quad_item (i:=3) (a:=b3) (b:=b3) w' rfl rfl,
    if_pos rfl,if_pos rfl,if_pos rfl,if_pos rfl]
  rfl
set_option maxHeartbeats 4000000 in
theorem pwithin_flat {l1 l2 m1 m2 h1 h2 v1 v2 k d e:Nat} {a0 a1 a2 a3 b0 b1 b2 b3 c0 c1 c2 c3:Int} (hb:BndOK l1 l2 m1 m2 h1 h2) (hv:RatOK v1 v2) (hk:1<=k/\k<=64) (hle:l1*h2<=h1*l2) (hd:h1*l2-l1*h2=d) (he:l2*h2=e)
    (T1:RowKit.Hid (∀ w,Calls Tryz.prog 88 #[.agg #[.int .u64 (lo d), .int .u64 (hi d), .int .u64 0, .int .u64 0], .int .u64 (k:Nat)] w (Rr (.agg (J25 (.int .u64 a0) (.int .u64 a1) (.int .u64 a2) (.int .u64 a3))) w)))
    (T2:RowKit.Hid (∀ w,Calls Tryz.prog 88 #[.agg (J25 (.int .u64 a0) (.int .u64 a1) (.int .u64 a2) (.int .u64 a3)), .int .u64 (v2:Nat)] w (Rr (.agg (J25 (.int .u64 b0) (.int .u64 b1) (.int .u64 b2) (.int .u64 b3))) w)))
    (T3:RowKit.Hid (∀ w,Calls Tryz.prog 88 #[.agg #[.int .u64 (lo e), .int .u64 (hi e), .int .u64 0, .int .u64 0], .int .u64 (v1:Nat)] w (Rr (.agg (J25 (.int .u64 c0) (.int .u64 c1) (.int .u64 c2) (.int .u64 c3))) w)))
    (hq:(b3=c3/\b2=c2/\b1=c1/\b0=c0)∨b3<c3∨(b3=c3/\b2<c2)∨(b3=c3/\b2=c2/\b1<c1)∨(b3=c3/\b2=c2/\b1=c1/\b0<c0)) (w:World) :
    Calls Tryz.prog 29 #[.agg (J6 (l1:Nat) (l2:Nat) (m1:Nat) (m2:Nat) (h1:Nat) (h2:Nat)), .int .i64 (k:Nat), .agg #[.int .i64 (v1:Nat), .int .i64 (v2:Nat)]] w (Rr (.bool true) w):=by
  have P1:=Lib.hid (fun w=>pbvalid hb w);have P2:=Lib.hid (fun w=>pvR hv w);have P3:=fun w=>pwidth hb hle w;have z1:=hb.lo.2.1.2;have z2:=hb.hi.2.1.2;have z3:=hv.2.1.2;have z4:=hv.1;have P4:=fun w=>pprodn l2 h2 (by omega) (by omega) w;rw [hd] at P3;rw [he] at P4;unfold W at P3 P4;replace P3:=Lib.hid P3;replace P4:=Lib.hid P4;have i1:¬ (k:Int)<1:=by omega
  have i2:¬ (v1:Int)<0:=by omega
  have wk:IntKind.u64.wrap (k:Int)=k:=IntWalk.u64_in _ (by omega);have wv1:IntKind.u64.wrap (v1:Int)=v1:=IntWalk.u64_in _ (by omega);have wv2:IntKind.u64.wrap (v2:Int)=v2:=IntWalk.u64_in _ (by omega);have wl2:IntKind.u64.wrap (l2:Int)=l2:=IntWalk.u64_in _ (by omega);have wh2:IntKind.u64.wrap (h2:Int)=h2:=IntWalk.u64_in _ (by omega);have HQ:=Lib.hid hq;clear hb hv hk hle hd he hq z1 z2 z3 z4;go_enter Tryz.func29,Tryz.ntmps29;go_upto_region 1 with (fail)
  have X:Row ((w.alloc (.cells (J6 (l1:Nat) (l2:Nat) (m1:Nat) (m2:Nat) (h1:Nat) (h2:Nat)) 64)).alloc (.cells #[.int .i64 (v1:Nat), .int .i64 (v2:Nat)] 62)) w.heap.size 64 (J6 (l1:Nat) (l2:Nat) (m1:Nat) (m2:Nat) (h1:Nat) (h2:Nat)):=row_alloc (row_new rfl) _;have V:Row ((w.alloc (.cells (J6 (l1:Nat) (l2:Nat) (m1:Nat) (m2:Nat) (h1:Nat) (h2:Nat)) 64)).alloc (.cells #[.int .i64 (v1:Nat), .int .i64 (v2:Nat)] 62)) (w.heap.size+1) 62 #[.int .i64 (v1:Nat), .int .i64 (v2:Nat)]:=row_new (by simp);have o:Below w w ((w.alloc (.cells (J6 (l1:Nat) (l2:Nat) (m1:Nat) (m2:Nat) (h1:Nat) (h2:Nat)) 64)).alloc (.cells #[.int .i64 (v1:Nat), .int .i64 (v2:Nat)] 62)):=bel9;generalize ((w.alloc (.cells (J6 (l1:Nat) (l2:Nat) (m1:Nat) (m2:Nat) (h1:Nat) (h2:Nat)) 64)).alloc (.cells #[.int .i64 (v1:Nat), .int .i64 (v2:Nat)] 62))=w0 at X V o |-
  obtain ⟨X0,X1,X2,X3,X4,X5,Xf0,Xf1,Xf2,Xf3,Xf4,Xf5⟩:=row_six X;obtain ⟨V0,V1,Vf0,Vf1⟩:=row_two V;go_wp2_with fail;refine (P1.out _).mono ?_;rintro e w1 ⟨rfl,hb⟩;replace X:=row_call X hb;replace V:=row_call V hb;replace o:=o.trans (hb.mono o.size);clear hb X0 Xf0 X1 Xf1 X2 Xf2 X3 Xf3 X4 Xf4 X5 Xf5 V0 Vf0 V1 Vf1;obtain ⟨X0,X1,X2,X3,X4,X5,Xf0,Xf1,Xf2,Xf3,Xf4,Xf5⟩:=row_six X;obtain ⟨V0,V1,Vf0,Vf1⟩:=row_two V;go_wp2_with fail;refine (P2.out _).mono ?_;rintro e w2 ⟨rfl,hb⟩;replace X:=row_call X hb;replace V:=row_call V hb;replace o:=o.trans (hb.mono o.size);clear hb X0 Xf0 X1 Xf1 X2 Xf2 X3 Xf3 X4 Xf4 X5 Xf5 V0 Vf0 V1 Vf1;obtain ⟨X0,X1,X2,X3,X4,X5,Xf0,Xf1,Xf2,Xf3,Xf4,Xf5⟩:=row_six X;obtain ⟨V0,V1,Vf0,Vf1⟩:=row_two V;go_wp2_with fail;refine (P3.out _).mono ?_;rintro e w3 ⟨rfl,hb⟩;replace X:=row_call X hb;replace V:=row_call V hb;replace o:=o.trans (hb.mono o.size);clear hb X0 Xf0 X1 Xf1 X2 Xf2 X3 Xf3 X4 Xf4 X5 Xf5 V0 Vf0 V1 Vf1;go_upto_region 4 with (fail)
  have D:Row (w3.alloc (.cells #[.int .u64 (hi d), .int .u64 (lo d)] 67)) w3.heap.size 67 #[.int .u64 (hi d), .int .u64 (lo d)]:=row_new rfl;replace X:=row_alloc X (.cells #[.int .u64 (hi d), .int .u64 (lo d)] 67);replace V:=row_alloc V (.cells #[.int .u64 (hi d), .int .u64 (lo d)] 67);replace o:=o.alloc o.size (.cells #[.int .u64 (hi d), .int .u64 (lo d)] 67);generalize w3.alloc (.cells #[.int .u64 (hi d), .int .u64 (lo d)] 67)=w4 at X V D o |-
  generalize w3.heap.size=wb at D |-
  have xl:=row_lt X;have vl:=row_lt V;refine wp_region_free1 [0,1,2,3,4,5,6,7,8,9,10,11] [] [0,1,2,3,4,5,6,7,8,9,10,11,12] (12,180,J20) 8 13 (fun w'=>Row w' (w.heap.size) 64 (J6 (l1:Nat) (l2:Nat) (m1:Nat) (m2:Nat) (h1:Nat) (h2:Nat))/\Row w' (w.heap.size+1) 62 #[.int .i64 (v1:Nat), .int .i64 (v2:Nat)]/\Row w' (wb) 67 #[.int .u64 (hi d), .int .u64 (lo d)]/\Below w w w') (by kernel_rfl) (by kernel_rfl) ⟨_,_,rfl,rfl,rfl,fun ρ w'=>by go_simp⟩ rfl (by simp) (fun _ h=>⟨row_alloc h.1 _,row_alloc h.2.1 _,row_alloc h.2.2.1 _,h.2.2.2.alloc h.2.2.2.size _⟩) (fun _ _ d _ _ h=>by cases d<;>exact h) ?_ ?_
  · exact ⟨X,V,D,o.drew⟩
  (refine plp rfl rfl ?_;simp only [put9]);(refine plv rfl rfl rfl (fun w' hS=>by obtain ⟨X0,X1,X2,X3,X4,X5,Xf0,Xf1,Xf2,Xf3,Xf4,Xf5⟩:=row_six hS.1;obtain ⟨V0,V1,Vf0,Vf1⟩:=row_two hS.2.1;cases r2 hS.2.2.1;exact gs9) ?_;simp only [put9]);(refine plp rfl rfl ?_;simp only [put9]);(refine plv rfl rfl rfl (fun w' hS=>by obtain ⟨X0,X1,X2,X3,X4,X5,Xf0,Xf1,Xf2,Xf3,Xf4,Xf5⟩:=row_six hS.1;obtain ⟨V0,V1,Vf0,Vf1⟩:=row_two hS.2.1;cases r2 hS.2.2.1;exact gs9) ?_;simp only [put9]);iterate 3 (refine plp rfl rfl ?_;simp only [put9])
  refine plan_call (.agg (J25 (.int .u64 a0) (.int .u64 a1) (.int .u64 a2) (.int .u64 a3))) 88 #[.agg #[.int .u64 (lo d), .int .u64 (hi d), .int .u64 0, .int .u64 0], .int .u64 (k:Nat)] rfl rfl rfl (fun _ _ h hb=>⟨row_call h.1 hb,row_call h.2.1 hb,row_call h.2.2.1 hb,h.2.2.2.trans (hb.mono h.2.2.2.size)⟩) (fun w' hS=>by obtain ⟨X0,X1,X2,X3,X4,X5,Xf0,Xf1,Xf2,Xf3,Xf4,Xf5⟩:=row_six hS.1;obtain ⟨V0,V1,Vf0,Vf1⟩:=row_two hS.2.1;cases r2 hS.2.2.1;go_simp) (fun w' hS=>T1.out w') ?_;simp only [put9];(refine plp rfl rfl ?_;simp only [put9]);(refine plv rfl rfl rfl (fun w' hS=>by obtain ⟨X0,X1,X2,X3,X4,X5,Xf0,Xf1,Xf2,Xf3,Xf4,Xf5⟩:=row_six hS.1;obtain ⟨V0,V1,Vf0,Vf1⟩:=row_two hS.2.1;cases r2 hS.2.2.1;exact gs9) ?_;simp only [put9]);(refine plp rfl rfl ?_;simp only [put9]);refine plan_call (.agg (J25 (.int .u64 b0) (.int .u64 b1) (.int .u64 b2) (.int .u64 b3))) 88 #[.agg (J25 (.int .u64 a0) (.int .u64 a1) (.int .u64 a2) (.int .u64 a3)), .int .u64 (v2:Nat)] rfl rfl rfl (fun _ _ h hb=>⟨row_call h.1 hb,row_call h.2.1 hb,row_call h.2.2.1 hb,h.2.2.2.trans (hb.mono h.2.2.2.size)⟩) (fun w' hS=>by obtain ⟨X0,X1,X2,X3,X4,X5,Xf0,Xf1,Xf2,Xf3,Xf4,Xf5⟩:=row_six hS.1;obtain ⟨V0,V1,Vf0,Vf1⟩:=row_two hS.2.1;cases r2 hS.2.2.1;go_simp) (fun w' hS=>T2.out w') ?_;simp only [put9];refine plan_nil ?_;intro lb w5 L hlb hlg;simp only [List.drop_succ_cons,List.drop_zero];try simp only [put9]
  obtain ⟨X',V',D',o'⟩:=L;clear X V D o D';have n1:w.heap.size≠lb:=by omega
  have n2:w.heap.size+1≠lb:=by omega
  have n3:w.heap.size<=lb:=by omega
  obtain ⟨Q0,Q1,Q2,Q3,Qf0,Qf1,Qf2,Qf3⟩:=row_four hlb;go_upto_region 5 with (fail)
  have LQ:Row ((((w5.setCell ⟨lb,0,none⟩ (.int .u64 b0)).setCell ⟨lb,1,none⟩ (.int .u64 b1)).setCell ⟨lb,2,none⟩ (.int .u64 b2)).setCell ⟨lb,3,none⟩ (.int .u64 b3)) lb 180 (J25 (.int .u64 b0) (.int .u64 b1) (.int .u64 b2) (.int .u64 b3)):=(row_set (row_set (row_set (row_set hlb 0 (.int .u64 b0)) 1 (.int .u64 b1)) 2 (.int .u64 b2)) 3 (.int .u64 b3))
  have X:Row ((((w5.setCell ⟨lb,0,none⟩ (.int .u64 b0)).setCell ⟨lb,1,none⟩ (.int .u64 b1)).setCell ⟨lb,2,none⟩ (.int .u64 b2)).setCell ⟨lb,3,none⟩ (.int .u64 b3)) w.heap.size 64 (J6 (l1:Nat) (l2:Nat) (m1:Nat) (m2:Nat) (h1:Nat) (h2:Nat)):=(row_other (row_other (row_other (row_other X' n1 (.int .u64 b0)) n1 (.int .u64 b1)) n1 (.int .u64 b2)) n1 (.int .u64 b3))
  have V:Row ((((w5.setCell ⟨lb,0,none⟩ (.int .u64 b0)).setCell ⟨lb,1,none⟩ (.int .u64 b1)).setCell ⟨lb,2,none⟩ (.int .u64 b2)).setCell ⟨lb,3,none⟩ (.int .u64 b3)) (w.heap.size+1) 62 #[.int .i64 (v1:Nat), .int .i64 (v2:Nat)]:=(row_other (row_other (row_other (row_other V' n2 (.int .u64 b0)) n2 (.int .u64 b1)) n2 (.int .u64 b2)) n2 (.int .u64 b3))
  have o:Below w w ((((w5.setCell ⟨lb,0,none⟩ (.int .u64 b0)).setCell ⟨lb,1,none⟩ (.int .u64 b1)).setCell ⟨lb,2,none⟩ (.int .u64 b2)).setCell ⟨lb,3,none⟩ (.int .u64 b3)):=(Below.setCell (p:=⟨lb,3,none⟩) (Below.setCell (p:=⟨lb,2,none⟩) (Below.setCell (p:=⟨lb,1,none⟩) (Below.setCell (p:=⟨lb,0,none⟩) o' n3 (.int .u64 b0)) n3 (.int .u64 b1)) n3 (.int .u64 b2)) n3 (.int .u64 b3))
  generalize ((((w5.setCell ⟨lb,0,none⟩ (.int .u64 b0)).setCell ⟨lb,1,none⟩ (.int .u64 b1)).setCell ⟨lb,2,none⟩ (.int .u64 b2)).setCell ⟨lb,3,none⟩ (.int .u64 b3))=w6 at LQ X V o |-
  clear hlb X' V' o' Q0 Q1 Q2 Q3 Qf0 Qf1 Qf2 Qf3 xl vl hlg;obtain ⟨X0,X1,X2,X3,X4,X5,Xf0,Xf1,Xf2,Xf3,Xf4,Xf5⟩:=row_six X;go_wp2_with fail;refine (P4.out _).mono ?_;rintro e w7 ⟨rfl,hb⟩;replace X:=row_call X hb;replace V:=row_call V hb;replace LQ:=row_call LQ hb;replace o:=o.trans (hb.mono o.size);clear hb X0 Xf0 X1 Xf1 X2 Xf2 X3 Xf3 X4 Xf4 X5 Xf5;go_upto_region 6 with (fail)
  have E:Row (w7.alloc (.cells #[.int .u64 (hi e), .int .u64 (lo e)] 67)) w7.heap.size 67 #[.int .u64 (hi e), .int .u64 (lo e)]:=row_new rfl;replace V:=row_alloc V (.cells #[.int .u64 (hi e), .int .u64 (lo e)] 67);replace LQ:=row_alloc LQ (.cells #[.int .u64 (hi e), .int .u64 (lo e)] 67);replace o:=o.alloc o.size (.cells #[.int .u64 (hi e), .int .u64 (lo e)] 67);clear X;generalize w7.alloc (.cells #[.int .u64 (hi e), .int .u64 (lo e)] 67)=w8 at V LQ E o |-
  generalize w7.heap.size=eb at E |-
  obtain ⟨V0,V1,Vf0,Vf1⟩:=row_two V;obtain ⟨E0,E1,Ef0,Ef1⟩:=row_two E;go_wp2_with fail;refine (T3.out _).mono ?_;rintro e w9 ⟨rfl,hb⟩;replace V:=row_call V hb;replace E:=row_call E hb;replace LQ:=row_call LQ hb;replace o:=o.trans (hb.mono o.size);clear hb V0 Vf0 V1 Vf1 E0 Ef0 E1 Ef1;clear V E;go_upto_region 7 with (fail)
  have RQ:Row (w9.alloc (.cells (J25 (.int .u64 c0) (.int .u64 c1) (.int .u64 c2) (.int .u64 c3)) 180)) w9.heap.size 180 (J25 (.int .u64 c0) (.int .u64 c1) (.int .u64 c2) (.int .u64 c3)):=row_new rfl;replace LQ:=row_alloc LQ (.cells (J25 (.int .u64 c0) (.int .u64 c1) (.int .u64 c2) (.int .u64 c3)) 180);replace o:=o.alloc o.size (.cells (J25 (.int .u64 c0) (.int .u64 c1) (.int .u64 c2) (.int .u64 c3)) 180);generalize w9.alloc (.cells (J25 (.int .u64 c0) (.int .u64 c1) (.int .u64 c2) (.int .u64 c3)) 180)=w10 at LQ RQ o |-
  generalize w9.heap.size=rb at RQ |-
  obtain ⟨L0,L1,L2,L3,Lf0,Lf1,Lf2,Lf3⟩:=row_four LQ;obtain ⟨R0,R1,R2,R3,Rf0,Rf1,Rf2,Rf3⟩:=row_four RQ;rcases HQ.out with ⟨rfl,rfl,rfl,rfl⟩ | h3 | ⟨rfl,h2⟩ | ⟨rfl,rfl,h1⟩ | ⟨rfl,rfl,rfl,h0⟩
  · have he:=fun w'=>run_quad_eq (b0:=b0) (b1:=b1) (b2:=b2) (b3:=b3) w';go_wp2;go_ret;exact ⟨rfl,o⟩
  · have hne:¬ (b0=c0/\b1=c1/\b2=c2/\b3=c3):=by omega
    have he:∀ w',(binOp .eql 180 (.agg (J25 (.int .u64 b0) (.int .u64 b1) (.int .u64 b2) (.int .u64 b3))) (.agg (J25 (.int .u64 c0) (.int .u64 c1) (.int .u64 c2) (.int .u64 c3)))).run Tryz.prog w' = .ok (.bool false) w':=fun w'=>run_quad_ne hne w';clear hne;have hd:(b3 == c3)=false:=by simp;omega
    have LQ':Row w10 lb 180 (J25 (.int .u64 b0) (.int .u64 b1) (.int .u64 b2) (.int .u64 b3)):=LQ;have RQ':Row w10 rb 180 (J25 (.int .u64 c0) (.int .u64 c1) (.int .u64 c2) (.int .u64 c3)):=RQ;go_upto_region 10 with (fail)
    clear he L0 L1 L2 L3 Lf0 Lf1 Lf2 Lf3 R0 R1 R2 R3 Rf0 Rf1 Rf2 Rf3 LQ RQ;go_loopw [11] (fun i wr=>(i = .int .i64 3)/\Row wr lb 180 (J25 (.int .u64 b0) (.int .u64 b1) (.int .u64 b2) (.int .u64 b3))/\Row wr rb 180 (J25 (.int .u64 c0) (.int .u64 c1) (.int .u64 c2) (.int .u64 c3))/\Below w w wr) (fun i _=>(intOf i).toNat)
    case atStart=>exact ⟨rfl,LQ',RQ',o⟩
    case round =>
      clear LQ' RQ' o;obtain ⟨hi,LQ,RQ,o⟩:=hrel;obtain ⟨L0,L1,L2,L3,Lf0,Lf1,Lf2,Lf3⟩:=row_four LQ;obtain ⟨R0,R1,R2,R3,Rf0,Rf1,Rf2,Rf3⟩:=row_four RQ;rcases hi with rfl
      · go_upto_region 10 with (fail)
        go_quiet (fail);go_upto_region 12 with (fail)
        go_quiet (fail);go_wp2;go_ret;exact ⟨by first | rfl | (simp;omega),o.trans ⟨rfl,rfl,rfl,Nat.le_refl _,fun _ _=>rfl⟩⟩
  · have hne:¬ (b0=c0/\b1=c1/\b2=c2/\b3=b3):=by omega
    have he:∀ w',(binOp .eql 180 (.agg (J25 (.int .u64 b0) (.int .u64 b1) (.int .u64 b2) (.int .u64 b3))) (.agg (J25 (.int .u64 c0) (.int .u64 c1) (.int .u64 c2) (.int .u64 b3)))).run Tryz.prog w' = .ok (.bool false) w':=fun w'=>run_quad_ne hne w';clear hne;have hd:(b2 == c2)=false:=by simp;omega
    have LQ':Row w10 lb 180 (J25 (.int .u64 b0) (.int .u64 b1) (.int .u64 b2) (.int .u64 b3)):=LQ;have RQ':Row w10 rb 180 (J25 (.int .u64 c0) (.int .u64 c1) (.int .u64 c2) (.int .u64 b3)):=RQ;go_upto_region 10 with (fail)
    clear he L0 L1 L2 L3 Lf0 Lf1 Lf2 Lf3 R0 R1 R2 R3 Rf0 Rf1 Rf2 Rf3 LQ RQ;go_loopw [11] (fun i wr=>(i = .int .i64 3∨i = .int .i64 2)/\Row wr lb 180 (J25 (.int .u64 b0) (.int .u64 b1) (.int .u64 b2) (.int .u64 b3))/\Row wr rb 180 (J25 (.int .u64 c0) (.int .u64 c1) (.int .u64 c2) (.int .u64 b3))/\Below w w wr) (fun i _=>(intOf i).toNat)
    case atStart=>exact ⟨.inl rfl,LQ',RQ',o⟩
    case round =>
      clear LQ' RQ' o;obtain ⟨hi,LQ,RQ,o⟩:=hrel;obtain ⟨L0,L1,L2,L3,Lf0,Lf1,Lf2,Lf3⟩:=row_four LQ;obtain ⟨R0,R1,R2,R3,Rf0,Rf1,Rf2,Rf3⟩:=row_four RQ;rcases hi with rfl | rfl
      · go_upto_region 10 with (fail)
        go_quiet (fail);go_wp2;go_roundw
        case rel=>exact ⟨.inr rfl,LQ,RQ,o.trans ⟨rfl,rfl,rfl,Nat.le_refl _,fun _ _=>rfl⟩⟩
        case measure=>simp [intOf]
      · go_upto_region 10 with (fail)
        go_quiet (fail);go_upto_region 12 with (fail)
        go_quiet (fail);go_wp2;go_ret;exact ⟨by first | rfl | (simp;omega),o.trans ⟨rfl,rfl,rfl,Nat.le_refl _,fun _ _=>rfl⟩⟩
  · have hne:¬ (b0=c0/\b1=c1/\b2=b2/\b3=b3):=by omega
    have he:∀ w',(binOp .eql 180 (.agg (J25 (.int .u64 b0) (.int .u64 b1) (.int .u64 b2) (.int .u64 b3))) (.agg (J25 (.int .u64 c0) (.int .u64 c1) (.int .u64 b2) (.int .u64 b3)))).run Tryz.prog w' = .ok (.bool false) w':=fun w'=>run_quad_ne hne w';clear hne;have hd:(b1 == c1)=false:=by simp;omega
    have LQ':Row w10 lb 180 (J25 (.int .u64 b0) (.int .u64 b1) (.int .u64 b2) (.int .u64 b3)):=LQ;have RQ':Row w10 rb 180 (J25 (.int .u64 c0) (.int .u64 c1) (.int .u64 b2) (.int .u64 b3)):=RQ;go_upto_region 10 with (fail)
    clear he L0 L1 L2 L3 Lf0 Lf1 Lf2 Lf3 R0 R1 R2 R3 Rf0 Rf1 Rf2 Rf3 LQ RQ;go_loopw [11] (fun i wr=>(i = .int .i64 3∨i = .int .i64 2∨i = .int .i64 1)/\Row wr lb 180 (J25 (.int .u64 b0) (.int .u64 b1) (.int .u64 b2) (.int .u64 b3))/\Row wr rb 180 (J25 (.int .u64 c0) (.int .u64 c1) (.int .u64 b2) (.int .u64 b3))/\Below w w wr) (fun i _=>(intOf i).toNat)
    case atStart=>exact ⟨.inl rfl,LQ',RQ',o⟩
    case round =>
      clear LQ' RQ' o;obtain ⟨hi,LQ,RQ,o⟩:=hrel;obtain ⟨L0,L1,L2,L3,Lf0,Lf1,Lf2,Lf3⟩:=row_four LQ;obtain ⟨R0,R1,R2,R3,Rf0,Rf1,Rf2,Rf3⟩:=row_four RQ;rcases hi with rfl | rfl | rfl
      · go_upto_region 10 with (fail)
        go_quiet (fail);go_wp2;go_roundw
        case rel=>exact ⟨.inr (.inl rfl),LQ,RQ,o.trans ⟨rfl,rfl,rfl,Nat.le_refl _,fun _ _=>rfl⟩⟩
        case measure=>simp [intOf]
      · go_upto_region 10 with (fail)
        go_quiet (fail);go_wp2;go_roundw
        case rel=>exact ⟨.inr (.inr rfl),LQ,RQ,o.trans ⟨rfl,rfl,rfl,Nat.le_refl _,fun _ _=>rfl⟩⟩
        case measure=>simp [intOf]
      · go_upto_region 10 with (fail)
        go_quiet (fail);go_upto_region 12 with (fail)
        go_quiet (fail);go_wp2;go_ret;exact ⟨by first | rfl | (simp;omega),o.trans ⟨rfl,rfl,rfl,Nat.le_refl _,fun _ _=>rfl⟩⟩
  · have hne:¬ (b0=c0/\b1=b1/\b2=b2/\b3=b3):=by omega
    have he:∀ w',(binOp .eql 180 (.agg (J25 (.int .u64 b0) (.int .u64 b1) (.int .u64 b2) (.int .u64 b3))) (.agg (J25 (.int .u64 c0) (.int .u64 b1) (.int .u64 b2) (.int .u64 b3)))).run Tryz.prog w' = .ok (.bool false) w':=fun w'=>run_quad_ne hne w';clear hne;have hd:(b0 == c0)=false:=by simp;omega
    have LQ':Row w10 lb 180 (J25 (.int .u64 b0) (.int .u64 b1) (.int .u64 b2) (.int .u64 b3)):=LQ;have RQ':Row w10 rb 180 (J25 (.int .u64 c0) (.int .u64 b1) (.int .u64 b2) (.int .u64 b3)):=RQ;go_upto_region 10 with (fail)
    clear he L0 L1 L2 L3 Lf0 Lf1 Lf2 Lf3 R0 R1 R2 R3 Rf0 Rf1 Rf2 Rf3 LQ RQ;go_loopw [11] (fun i wr=>(i = .int .i64 3∨i = .int .i64 2∨i = .int .i64 1∨i = .int .i64 0)/\Row wr lb 180 (J25 (.int .u64 b0) (.int .u64 b1) (.int .u64 b2) (.int .u64 b3))/\Row wr rb 180 (J25 (.int .u64 c0) (.int .u64 b1) (.int .u64 b2) (.int .u64 b3))/\Below w w wr) (fun i _=>(intOf i).toNat)
    case atStart=>exact ⟨.inl rfl,LQ',RQ',o⟩
    case round =>
      clear LQ' RQ' o;obtain ⟨hi,LQ,RQ,o⟩:=hrel;obtain ⟨L0,L1,L2,L3,Lf0,Lf1,Lf2,Lf3⟩:=row_four LQ;obtain ⟨R0,R1,R2,R3,Rf0,Rf1,Rf2,Rf3⟩:=row_four RQ;rcases hi with rfl | rfl | rfl | rfl
      · go_upto_region 10 with (fail)
        go_quiet (fail);go_wp2;go_roundw
        case rel=>exact ⟨.inr (.inl rfl),LQ,RQ,o.trans ⟨rfl,rfl,rfl,Nat.le_refl _,fun _ _=>rfl⟩⟩
        case measure=>simp [intOf]
      · go_upto_region 10 with (fail)
        go_quiet (fail);go_wp2;go_roundw
        case rel=>exact ⟨.inr (.inr (.inl rfl)),LQ,RQ,o.trans ⟨rfl,rfl,rfl,Nat.le_refl _,fun _ _=>rfl⟩⟩
        case measure=>simp [intOf]
      · go_upto_region 10 with (fail)
        go_quiet (fail);go_wp2;go_roundw
        case rel=>exact ⟨.inr (.inr (.inr rfl)),LQ,RQ,o.trans ⟨rfl,rfl,rfl,Nat.le_refl _,fun _ _=>rfl⟩⟩
        case measure=>simp [intOf]
      · go_upto_region 10 with (fail)
        go_quiet (fail);go_upto_region 12 with (fail)
        go_quiet (fail);go_wp2;go_ret;exact ⟨by first | rfl | (simp;omega),o.trans ⟨rfl,rfl,rfl,Nat.le_refl _,fun _ _=>rfl⟩⟩
theorem pwithin {l1 l2 m1 m2 h1 h2 v1 v2 k:Nat} (hb:BndOK l1 l2 m1 m2 h1 h2) (hv:RatOK v1 v2) (hk:1<=k/\k<=64) (hle:l1*h2<=h1*l2) (h:k*(h1*l2-l1*h2)*v2<=v1*(l2*h2)) (w:World) :
    Calls Tryz.prog 29 #[.agg (J6 (l1:Nat) (l2:Nat) (m1:Nat) (m2:Nat) (h1:Nat) (h2:Nat)), .int .i64 (k:Nat), .agg #[.int .i64 (v1:Nat), .int .i64 (v2:Nat)]] w (Rr (.bool true) w):=by
  have z1:=hb.lo.2.1.2;have z2:=hb.hi.2.1.2;have z3:=hv.2.1.2;have z4:=hv.1;have z5:=hb.hi.1;have x1:h1*l2<=4611686018427387904*4294967295:=Nat.mul_le_mul (by omega) (by omega);have x2:l2*h2<=4294967295*4294967295:=Nat.mul_le_mul (by omega) (by omega);generalize hd:h1*l2-l1*h2=d at h;generalize he:l2*h2=e at h x2;have d1:d<=4611686018427387904*4294967295:=by omega
  have s1:d*k<=4611686018427387904*4294967295*64:=Nat.mul_le_mul d1 hk.2;have s2:d*k*v2<=4611686018427387904*4294967295*64*4294967295:=Nat.mul_le_mul s1 z3;have s3:e*v1<=4294967295*4294967295*4611686018427387904:=Nat.mul_le_mul x2 (by omega);have hle2:d*k*v2<=e*v1:=by rw [Nat.mul_comm d k,Nat.mul_comm e v1];exact h
  have t1:=fun w=>ptimes d k w (by omega);have t2:=fun w=>ptimes (d*k) v2 w (by omega);have t3:=fun w=>ptimes e v1 w (by omega);have q:=q_le (L:=d*k*v2) (R:=e*v1) (by omega) (by omega) hle2;rw [QV_W (d:=d) (by unfold big;omega)] at t1;rw [QV_W (d:=e) (by unfold big;omega)] at t3;exact pwithin_flat hb hv hk hle hd he (Lib.hid t1) (Lib.hid t2) (Lib.hid t3) (by omega) w
end Go.Proofs.YtdipoojjlddohaaGreat
