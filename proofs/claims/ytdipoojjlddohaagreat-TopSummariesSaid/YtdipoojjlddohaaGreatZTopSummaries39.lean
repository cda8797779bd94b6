/- What the law TopSummaries needs, joined of its texts by a program (slim2.py); part 39. -/
import Derived.Test.YtdipoojjlddohaaGreatZTopSummaries1
import Derived.Test.YtdipoojjlddohaaGreatZTopSummaries3
import Derived.Test.YtdipoojjlddohaaGreatZTopSummaries8
import Derived.Test.YtdipoojjlddohaaGreatZTopSummaries9
import Derived.Test.YtdipoojjlddohaaGreatZTopSummaries17
import Derived.Test.YtdipoojjlddohaaGreatZTopSummaries18
import Derived.Test.YtdipoojjlddohaaGreatZTopSummaries24
import Derived.Test.YtdipoojjlddohaaGreatZTopSummaries26
import Derived.Test.YtdipoojjlddohaaGreatZTopSummaries27
import Derived.Test.YtdipoojjlddohaaGreatZTopSummaries37
import Derived.Test.YtdipoojjlddohaaGreatZTopSummaries38
set_option linter.unusedVariables false
set_option linter.unusedSimpArgs false
set_option linter.unusedSectionVars false
set_option linter.unnecessarySimpa false
section
/- Windowed quantiles, with what they know of the stream. -/
namespace Go.Proofs.YtdipoojjlddohaaGreat
open Go.RowKit
theorem CovQ.len:∀ {l:List Bq} {ts:List Itm},CovQ ts l→ts.length=btot (bqs l)
  | [],ts,h=>by rw [show ts=[] from h];rfl
  | b :: l,ts,⟨c,rest,h1,h2,_,_,h5⟩=>by
    rw [h1,List.length_append,h2,h5.len]
    rfl
theorem QHist.tot {ad:List Itm} {now wd:Int} {l:List Bq} (h:QHist ad now wd l):btot (bqs l)≤ad.length:=by
  obtain ⟨dead,live,e,_,hc⟩:=h.cov
  rw [e,List.length_append,hc.len]
  omega
theorem QHist.all {ad:List Itm} {now wd:Int} {l:List Bq} (h:QHist ad now wd l) (hw:now-wd<0):(ad.map (·.v)).Perm (qvs l):=by
  obtain ⟨dead,live,e,hd,hc⟩:=h.cov
  have hz:dead=[]:=by
    cases dead with
    | nil=>rfl
    | cons x r =>
      have h1:=hd x (List.mem_cons_self ..)
      have h2:=h.rng x (by rw [e];exact List.mem_append_left _ (List.mem_cons_self ..))
      omega
  rw [e,hz,List.nil_append]
  exact hc.vals
def qtArg (wd:Int) (k cap N:Nat):Prop:=1≤wd∧wd≤1048576∧1≤k∧k≤64∧N≤cap∧1≤cap∧cap≤65536∧∀ n x,n<N→2*k*(2 ^ x-1)+2 ^ x≤n+1→2 ^ x≤qsz k cap+1
def QtI (wd:Int) (k cap:Nat) (ad:List Itm) (now:Int) (A:Option Addr) (m c:Nat) (l:List Bq) (w:World):Prop:=QIn A m c l w∧QtS wd k cap now l∧QHist ad now wd l
theorem qtI_ok (wd:Int) (k cap:Nat) (ad:List Itm) (now:Int):InT (QtI wd k cap ad now) (fun A m l=>QB A m l) :=
  ⟨fun hi hs hk=>⟨hi.1.keep hs hk,hi.2⟩,fun hi g hg=>hi.1.lt hg⟩
theorem qt_cfg {wd:Int} {k cap N:Nat} (h:qtArg wd k cap N) (w:World):Calls Tryz.prog 108 #[.agg #[.int .i64 11, .int .i64 0, .int .i64 wd, .int .i64 (k:Nat), .int .i64 (cap:Nat), .int .i64 0, .int .i64 0, .int .i64 0]] w fun e w'=>e = .returned (.int .i64 0)∧Below w.heap.size w w':=by
  obtain ⟨a,b,c,d,e,f,g,_⟩:=h
  exact pcfgQuantile (k:Nat) (cap:Nat) wd w (by omega) (by omega) (by omega) (by omega) a b
theorem kQuantile {wd:Int} {k cap N:Nat} (h:qtArg wd k cap N):KindT #[.int .i64 11, .int .i64 0, .int .i64 wd, .int .i64 (k:Nat), .int .i64 (cap:Nat), .int .i64 0, .int .i64 0, .int .i64 0] (QtI wd k cap) (fun A m l=>QB A m l) (fun ad now A m c=>#[.int .i64 11, .int .i64 0, .int .i64 wd, .int .i64 (k:Nat), .int .i64 (cap:Nat), .int .i64 0, .int .i64 0, .int .i64 0, .int .i64 0, .int .i64 0, .int .i64 0, .slice none 0 0, .int .i64 0, .int .i64 0, .int .i64 0, .int .i64 0, .slice none 0 0, .int .i64 0, .int .i64 0, .int .i64 0, .int .i64 0, .int .i64 0, .slice none 0 0, .int .i64 0, .int .i64 0, .int .i64 0, .int .i64 0, .int .i64 0, .int .i64 0, .slice none 0 0, .int .i64 0, .int .i64 0, .int .i64 0, .int .i64 0, .int .i64 0, .slice none 0 0, .int .i64 0, .int .i64 0, .int .i64 0, .slice none 0 0, .int .i64 0, .slice none 0 0, .bool false, .int .i64 0, .int .i64 0, .int .i64 0, .slice none 0 0, .slice none 0 0, .int .i64 0, .int .i64 0, .int .i64 0, .slice none 0 0, .int .i64 wd, .int .i64 (k:Nat), .int .i64 (cap:Nat), .int .i64 now, .slice A m c]) (fun v => -4096≤v∧v≤4096) N where
  inok:=fun ad now=>qtI_ok wd k cap ad now
  size:=fun _ _ _ _ _=>rfl
  one:=fun _ _ _ _ _=>all_one rfl
  new:=fun w=>by
    have hg:1≤wd∧wd≤1048576∧1≤k∧k≤64∧1≤cap∧cap≤65536∧(0:Int)≤0∧(0:Int)≤16777216:=by obtain ⟨a,b,c,d,e,f,g,_⟩:=h;omega
    refine (pyNewQuantile wd k cap 0 w (by omega) (by omega) (Lib.hid (qt_cfg h)) (Lib.hid (fun w'=>pqtnew wd k cap 0 w' hg))).mono fun e w' ⟨he,hb⟩=>?_
    refine ⟨none,0,0,[],he,⟨QIn.nil,⟨hg,BV.nil _,(by simp),Nat.zero_le _,(by simp)⟩,QHist.nil 0 wd⟩,hb,fun g hg=>?_⟩
    rcases hg with ⟨h0,_⟩ | ⟨b,hb,_⟩
    · omega
    · cases hb
  adv:=fun ad now tt A m c l w hi h1 h2=>by
    refine pyAdvanceQuantile A m c wd k cap now tt w (QtI wd k cap ad tt) (fun A m l=>QB A m l) (qtI_ok wd k cap ad tt) (QB A m l) (fun b hb=>hi.1.lt hb) (Lib.hid (fun w' hb=>pqtval A m c l wd k cap now w' (hi.1.below hb) hi.2.1)) (Lib.hid (qt_cfg h)) (Lib.hid (fun w' hb=>(pqtadv A m c l wd k cap now tt w' (hi.1.below hb) hi.2.1 h1 h2).mono fun e w'' hq=>?_))
    obtain ⟨A',m',c',l',he,hin',⟨j,rfl,hj,hl⟩,hb',hf⟩:=hq
    have S:=hi.2.1
    obtain ⟨g1,g2,g3,g4,g5,g6,g7,g8⟩:=S.good
    have ht:∀ b∈l,0≤b.t:=fun b hb=>(S.val.tick b.bk (List.mem_map_of_mem hb)).1
    have hj2:∀ b∈l.take j,b.t≤tt-wd:=fun b hb=>by
      have:=hj b hb
      have:=ht b (List.mem_of_mem_take hb)
      omega
    have hl2:∀ b∈l.drop j,tt-wd<b.t:=fun b hb=>by have:=hl b hb;omega
    have hc:btot (bqs (l.drop j))≤btot (bqs l):=by
      have:=tot_append (bqs (l.take j)) (bqs (l.drop j))
      rw [← bqs_append,List.take_append_drop] at this
      omega
    refine ⟨A',m',c',_,he,⟨hin',⟨⟨g1,g2,g3,g4,g5,g6,by omega,h2⟩,?_,fun b hb=>S.ok b (List.mem_of_mem_drop hb),Nat.le_trans hc S.cap,fun b hb=>⟨hl2 b hb,by have:=(S.live b (List.mem_of_mem_drop hb)).2;omega⟩⟩,hi.2.2.expire h1 j hj2 hl2⟩,hb',hf⟩
    rw [bqs_drop]
    exact S.val.drop j
  add:=fun ad now v A m c l w hi hn hv=>by
    have S:=hi.2.1
    have hT:=hi.2.2.tot
    have hcap:N≤cap:=h.2.2.2.2.1
    refine pyAddQuantile A m c wd k cap now v w (QtI wd k cap (ad ++ [(⟨now,v⟩:Itm)]) now) (fun A m l=>QB A m l) (qtI_ok wd k cap _ now) (QB A m l) (fun b hb=>hi.1.lt hb) (Lib.hid (fun w' hb=>pqtval A m c l wd k cap now w' (hi.1.below hb) hi.2.1)) (Lib.hid (qt_cfg h)) (Lib.hid (fun w' hb=>(pqtadd A m c l wd k cap now v w' (hi.1.below hb) S hv.1 hv.2 (by omega) (h.2.2.2.2.2.2.2 _ · (by omega))).mono fun e w'' hq=>?_))
    obtain ⟨A',m',c',l',he,hin',hI,hb',hf⟩:=hq
    obtain ⟨g1,g2,g3,g4,g5,g6,g7,g8⟩:=S.good
    refine ⟨A',m',c',l',he,⟨hin',⟨S.good,hI.ins.val,hI.ok,by have:=hI.ins.tot;omega,fun b hb=>?_⟩,hi.2.2.add g7 g1 hI⟩,hb',hf⟩
    rcases hI.ins.ticks b.bk (List.mem_map_of_mem hb) with g | ⟨b0,hb0,g⟩
    · have g:b.t=now:=g
      omega
    · obtain ⟨x,hx,rfl⟩:=List.mem_map.1 hb0
      have g:b.t=x.t:=g
      have:=S.live x hx
      omega
def RkA (r:Nat) (w:World) (e:Ending) (w':World):Prop:=∃ lo hi:Nat,e = .returned (.tuple #[.agg #[.int .i64 (lo:Nat), .int .i64 1, .int .i64 ((lo+hi) / 2:Nat), .int .i64 1, .int .i64 (hi:Nat), .int .i64 1, .slice none 0 0, .int .u64 0, .int .u64 0, .int .u64 0, .int .u64 0], .int .i64 0])∧(lo≤r∧r≤hi∧hi≤4398046511104)∧Below w.heap.size w w'
theorem tqAsk {A:Option Addr} {m c:Nat} {wd now:Int} {k cap N:Nat} {ad:List Itm} {l:List Bq} {w:World} (h:qtArg wd k cap N) (hi:QtI wd k cap ad now A m c l w) (hw:now-wd<0) (qa qb:Int):Calls Tryz.prog 12 #[.agg #[.int .i64 11, .int .i64 0, .int .i64 wd, .int .i64 (k:Nat), .int .i64 (cap:Nat), .int .i64 0, .int .i64 0, .int .i64 0, .int .i64 0, .int .i64 0, .int .i64 0, .slice none 0 0, .int .i64 0, .int .i64 0, .int .i64 0, .int .i64 0, .slice none 0 0, .int .i64 0, .int .i64 0, .int .i64 0, .int .i64 0, .int .i64 0, .slice none 0 0, .int .i64 0, .int .i64 0, .int .i64 0, .int .i64 0, .int .i64 0, .int .i64 0, .slice none 0 0, .int .i64 0, .int .i64 0, .int .i64 0, .int .i64 0, .int .i64 0, .slice none 0 0, .int .i64 0, .int .i64 0, .int .i64 0, .slice none 0 0, .int .i64 0, .slice none 0 0, .bool false, .int .i64 0, .int .i64 0, .int .i64 0, .slice none 0 0, .slice none 0 0, .int .i64 0, .int .i64 0, .int .i64 0, .slice none 0 0, .int .i64 wd, .int .i64 (k:Nat), .int .i64 (cap:Nat), .int .i64 now, .slice A m c], .agg #[.int .i64 7, .int .i64 qa, .int .i64 qb]] w (RkA (cle (ad.map (·.v)) qa) w):=by
  have S:=hi.2.1
  have HC:=Lib.hid (qt_cfg h)
  have hp:=cle_perm (hi.2.2.all hw) qa
  have hq:=bqs_tot S.ok
  have hcp:=S.cap
  have hg:=S.good
  rw [hp]
  have hlen:=hi.1.len
  by_cases m0:m=0
  · subst m0
    obtain rfl:l=[]:=List.eq_nil_of_length_eq_zero hlen
    refine (pyAskQuantile A 0 c wd k cap now qa qb 0 1 0 1 0 1 w (Lib.hid (fun w' hb=>pqtval A 0 c [] wd k cap now w' (hi.1.below hb) hi.2.1)) HC (Lib.hid (fun w'=>pansQuantile wd k cap w' HC)) (Lib.hid (fun w' hb=>pqtrank A 0 c [] wd k cap now qa 0 1 0 1 0 1 w' (hi.1.below hb) S (Lib.hid (fun w'' _=>pqrank_nil A c qa w''))))).mono fun e w' ⟨he,hb⟩=>?_
    exact ⟨0,0,he,⟨Nat.le_refl _,Nat.zero_le _,Nat.zero_le _⟩,hb⟩
  · have hm:1≤m:=by omega
    have hl0:0<l.length:=by omega
    have r2:=rank_two (l:=l.drop 1) (S.ok _ (bq_mem hl0)) qa
    have hd:=drop_bq hl0
    rw [List.drop_zero] at hd
    have jp:cle (joinQ [(bqAt l 0).last] (l.drop 1)) qa=cle ((bqAt l 0).last :: qvs (l.drop 1)) qa:=cle_perm (joinQ_perm (l.drop 1) [(bqAt l 0).last]) qa
    rw [← hd,← jp] at r2
    have hcl:=cle_len (qvs l) qa
    have h30:∀ b∈l,b.lv≤30:=fun b hb=>S.val.lev b.bk (List.mem_map_of_mem hb)
    have hp30:2 ^ (bqAt l 0).lv≤1073741824:=Nat.pow_le_pow_right (n:=2) (by decide) (h30 _ (bq_mem hl0))
    obtain ⟨lo,hlo⟩:∃ x,x=cle (joinQ [(bqAt l 0).last] (l.drop 1)) qa:=⟨_,rfl⟩
    obtain ⟨hi',hhi⟩:∃ x,x=lo+(2 ^ (bqAt l 0).lv-1):=⟨_,rfl⟩
    rw [← hlo,← hhi] at r2
    refine (pyAskQuantile A m c wd k cap now qa qb _ 1 _ 1 _ 1 w (Lib.hid (fun w' hb=>pqtval A m c l wd k cap now w' (hi.1.below hb) hi.2.1)) HC (Lib.hid (fun w'=>pansQuantile wd k cap w' HC)) (Lib.hid (fun w' hb=>pqtrank A m c l wd k cap now qa _ 1 _ 1 _ 1 w' (hi.1.below hb) S (Lib.hid (fun w'' hb2=>pqrank A m c l (qsz k cap) qa w'' (hi.1.below (hb.trans (hb2.mono hb.size))) S.ok h30 hm (by omega) lo hi' hlo hhi))))).mono fun e w' ⟨he,hb⟩=>?_
    exact ⟨lo,hi',he,⟨r2.1,r2.2,by omega⟩,hb⟩
end Go.Proofs.YtdipoojjlddohaaGreat
end
section
/- Summaries of a stream, with what they know of it. -/
namespace Go.Proofs.YtdipoojjlddohaaGreat
open Go.RowKit
theorem psnewX (k cap:Nat) (w:World) (h:1≤k∧k≤64∧2≤cap∧cap≤65536):Calls Tryz.prog 118 #[.int .i64 (k:Nat), .int .i64 (cap:Nat)] w fun e w'=>e = .returned (.tuple #[.agg #[.int .i64 (k:Nat), .int .i64 (cap:Nat), .int .i64 0, .slice none 0 0], .int .i64 0])∧Below w.heap.size w w':=by
  have q1:¬ (k:Int)<1:=by omega
  have q2:¬ (64:Int)<(k:Int):=by omega
  have q3:¬ (cap:Int)<2:=by omega
  have q4:¬ (65536:Int)<(cap:Int):=by omega
  clear h
  go_enter Tryz.func118,Tryz.ntmps118
  go_upto_region 1 with (fail)
  have R:Row (w.alloc (.cells #[.int .i64 0, .int .i64 0, .int .i64 0, .slice none 0 0] 53)) w.heap.size 53 #[.int .i64 0, .int .i64 0, .int .i64 0, .slice none 0 0]:=row_new rfl
  have o:Below w.heap.size w (w.alloc (.cells #[.int .i64 0, .int .i64 0, .int .i64 0, .slice none 0 0] 53)):=by (repeat (first | exact Below.refl _ _ | refine Below.setCell ?_ (by (try simp)<;>omega) _ | refine Below.alloc ?_ (by (try simp)<;>omega) _ | refine Below.drew ?_ | refine Below.trans ?_ (Below.mono (by assumption) (by (try simp)<;>omega))))
  generalize w.alloc (.cells #[.int .i64 0, .int .i64 0, .int .i64 0, .slice none 0 0] 53)=w1 at R o ⊢
  go_upto_region 3 with (fail)
  obtain ⟨R0,R1,R2,R3,Rf0,Rf1,Rf2,Rf3⟩:=row_four R
  go_wp2
  have Sr0:=row_set R 0 (.int .i64 (k:Nat))
  have Sr1:=row_set Sr0 1 (.int .i64 (cap:Nat))
  have Sr2:=row_set Sr1 2 (.int .i64 0)
  have Sr3:=row_set Sr2 3 (.slice none 0 0)
  have o90:=o.setCell (p:=⟨w.heap.size,0,none⟩) (Nat.le_refl _) (.int .i64 (k:Nat))
  have o91:=o90.setCell (p:=⟨w.heap.size,1,none⟩) (Nat.le_refl _) (.int .i64 (cap:Nat))
  have o92:=o91.setCell (p:=⟨w.heap.size,2,none⟩) (Nat.le_refl _) (.int .i64 0)
  have o93:=o92.setCell (p:=⟨w.heap.size,3,none⟩) (Nat.le_refl _) (.slice none 0 0)
  obtain ⟨S0,S1,S2,S3,_,_,_,_⟩:=row_four Sr3
  exact bodyPost_ret (v := .tuple #[.agg #[.int .i64 (k:Nat), .int .i64 (cap:Nat), .int .i64 0, .slice none 0 0], .int .i64 0]) (by simp [results,Tryz.results118,go_sem,S0,S1,S2,S3]) rfl ⟨rfl,o93⟩
def suArg (k cap N:Nat):Prop:=1≤k∧k≤64∧2≤cap∧cap≤65536∧N≤cap
def SyI (k cap:Nat) (ad:List Itm) (now:Int) (A:Option Addr) (m c:Nat) (_:Unit) (w:World):Prop:=0≤now∧∃ ts,SIn (k:Nat) (cap:Nat) (ad.length:Nat) A m c ts w∧Sum (k:Nat) (ad.map (·.v)) (cap:Nat) ts
theorem syI_ok (k cap:Nat) (ad:List Itm) (now:Int):InT (SyI k cap ad now) oneT :=
  ⟨fun ⟨h9,ts,h,hp⟩ hs hk=>⟨h9,ts,⟨reads_keep1 h.reads hs (fun h0 a e=>hk _ ⟨h0,a,e,rfl⟩),h.kB,h.capB,h.nB,h.tB,h.mc,h.cB⟩,hp⟩,
   fun ⟨_,ts,h,_⟩ g ⟨h0,a,e,hg⟩=>by rw [← hg];exact reads_blk h.reads h0 a e⟩
theorem su_cfg {k cap N:Nat} (h:suArg k cap N) (w:World):Calls Tryz.prog 108 #[.agg #[.int .i64 10, .int .i64 0, .int .i64 0, .int .i64 (k:Nat), .int .i64 (cap:Nat), .int .i64 0, .int .i64 0, .int .i64 0]] w fun e w'=>e = .returned (.int .i64 0)∧Below w.heap.size w w':=by
  obtain ⟨a,b,c,d,_⟩:=h
  exact pcfgSummary (k:Nat) (cap:Nat) w (by omega) (by omega) (by omega) (by omega)
theorem sum_val {A:Option Addr} {m c k cap:Nat} {ad:List Itm} {ts:List Tup} {w:World} (hs:Sum (k:Nat) (ad.map (·.v)) (cap:Nat) ts) (hin:SIn (k:Nat) (cap:Nat) (ad.length:Nat) A m c ts w):Calls Tryz.prog 147 #[.agg #[.int .i64 (k:Nat), .int .i64 (cap:Nat), .int .i64 (ad.length:Nat), .slice A m c]] w fun e w'=>e = .returned (.int .i64 0)∧Below w.heap.size w w':=by
  have P:=psval (k:Nat) (cap:Nat) (ad.length:Nat) A m c ts w hin
  have hv:=hs.val
  rw [List.length_map] at hv
  rw [hv] at P
  exact P
theorem kSummary {k cap N:Nat} (h:suArg k cap N):KindT #[.int .i64 10, .int .i64 0, .int .i64 0, .int .i64 (k:Nat), .int .i64 (cap:Nat), .int .i64 0, .int .i64 0, .int .i64 0] (SyI k cap) oneT (fun ad now A m c=>#[.int .i64 10, .int .i64 0, .int .i64 0, .int .i64 (k:Nat), .int .i64 (cap:Nat), .int .i64 0, .int .i64 0, .int .i64 0, .int .i64 0, .int .i64 0, .int .i64 0, .slice none 0 0, .int .i64 0, .int .i64 0, .int .i64 0, .int .i64 0, .slice none 0 0, .int .i64 0, .int .i64 0, .int .i64 0, .int .i64 0, .int .i64 0, .slice none 0 0, .int .i64 0, .int .i64 0, .int .i64 0, .int .i64 0, .int .i64 0, .int .i64 0, .slice none 0 0, .int .i64 0, .int .i64 0, .int .i64 0, .int .i64 0, .int .i64 0, .slice none 0 0, .int .i64 0, .int .i64 0, .int .i64 0, .slice none 0 0, .int .i64 0, .slice none 0 0, .bool false, .int .i64 0, .int .i64 0, .int .i64 0, .slice none 0 0, .slice none 0 0, .int .i64 (k:Nat), .int .i64 (cap:Nat), .int .i64 (ad.length:Nat), .slice A m c, .int .i64 0, .int .i64 0, .int .i64 0, .int .i64 0, .slice none 0 0]) (fun v => -4096≤v∧v≤4096) N where
  inok:=fun ad now=>syI_ok k cap ad now
  size:=fun _ _ _ _ _=>rfl
  one:=fun _ _ _ _ _=>all_one rfl
  new:=fun w=>by
    have hh:=h
    obtain ⟨a,b,c,d,_⟩:=hh
    refine (pyNewSummary k cap 0 w (by omega) (by omega) (Lib.hid (su_cfg h)) (Lib.hid (fun w'=>psnewX k cap w' ⟨a,b,c,d⟩))).mono fun e w' ⟨he,hb⟩=>?_
    exact ⟨none,0,0,(),he,⟨by omega,[],sin_new (by omega) (by omega),sum_zero (by omega) (by omega) (by omega) (by omega)⟩,hb,fun g ⟨h0,_⟩=>by omega⟩
  adv:=fun ad now tt A m c x w hi h1 h2=>by
    obtain ⟨h9,ts,hin,hs⟩:=hi
    exact (pyAdvanceSummary A m c k cap ad.length tt w (Lib.hid (fun w' hb=>sum_val hs (hin.below hb))) (Lib.hid (su_cfg h)) (by omega) h2).mono fun e w' ⟨he,hb⟩=>⟨A,m,c,(),he,⟨by omega,ts,hin.below hb,hs⟩,hb,fun g hg => .inr hg⟩
  add:=fun ad now v A m c x w hi hn hv=>by
    obtain ⟨h9,ts,hin,hs⟩:=hi
    have hcap:N≤cap:=h.2.2.2.2
    have hI:=sum_ins hs hv.1 hv.2 (by rw [List.length_map];omega)
    rw [List.length_map] at hI
    refine pyAddSummary A m c k cap ad.length v w (SyI k cap (ad ++ [(⟨now,v⟩:Itm)]) now) oneT (syI_ok k cap _ now) (oneT A m ()) (fun b hb=>(syI_ok k cap ad now).blk ⟨h9,ts,hin,hs⟩ b hb) (Lib.hid (fun w' hb=>sum_val hs (hin.below hb))) (Lib.hid (su_cfg h)) (Lib.hid (fun w' hb=>(pinsert (k:Nat) (cap:Nat) (ad.length:Nat) A m c ts v w' (hin.below hb)).mono fun e w'' hq=>?_)) |>.mono fun e w'' hq=>?_
    · obtain ⟨A',m',c',he,hin',hb',hf⟩:=sret_at hI.1 hq
      have e1:((ad.length:Nat):Int)+1=((ad.length+1:Nat):Int):=by omega
      rw [e1] at he hin'
      refine ⟨A',m',c',(),he,⟨h9,sins v ts,?_,?_⟩,hb',fun g ⟨_,a,e,hg⟩ => .inl (by rw [← hg];exact (hf a e).1)⟩
      · rw [show (ad ++ [(⟨now,v⟩:Itm)]).length=ad.length+1 by simp]
        exact hin'
      · rw [List.map_append]
        exact hI.2
    · rw [show (ad ++ [(⟨now,v⟩:Itm)]).length=ad.length+1 by simp]
      exact hq
theorem tuAsk {A:Option Addr} {m c:Nat} {k cap N:Nat} {now:Int} {ad:List Itm} {x:Unit} {w:World} (h:suArg k cap N) (hi:SyI k cap ad now A m c x w) (qa qb:Int):Calls Tryz.prog 12 #[.agg #[.int .i64 10, .int .i64 0, .int .i64 0, .int .i64 (k:Nat), .int .i64 (cap:Nat), .int .i64 0, .int .i64 0, .int .i64 0, .int .i64 0, .int .i64 0, .int .i64 0, .slice none 0 0, .int .i64 0, .int .i64 0, .int .i64 0, .int .i64 0, .slice none 0 0, .int .i64 0, .int .i64 0, .int .i64 0, .int .i64 0, .int .i64 0, .slice none 0 0, .int .i64 0, .int .i64 0, .int .i64 0, .int .i64 0, .int .i64 0, .int .i64 0, .slice none 0 0, .int .i64 0, .int .i64 0, .int .i64 0, .int .i64 0, .int .i64 0, .slice none 0 0, .int .i64 0, .int .i64 0, .int .i64 0, .slice none 0 0, .int .i64 0, .slice none 0 0, .bool false, .int .i64 0, .int .i64 0, .int .i64 0, .slice none 0 0, .slice none 0 0, .int .i64 (k:Nat), .int .i64 (cap:Nat), .int .i64 (ad.length:Nat), .slice A m c, .int .i64 0, .int .i64 0, .int .i64 0, .int .i64 0, .slice none 0 0], .agg #[.int .i64 7, .int .i64 qa, .int .i64 qb]] w (RkA (cle (ad.map (·.v)) qa) w):=by
  obtain ⟨_,ts,hin,hs⟩:=hi
  have HC:=Lib.hid (su_cfg h)
  have hr:=hs.rank qa
  have hv:=hs.val
  have hE:=ents_ok hv
  rw [List.length_map] at hv hr hE
  have hle:=hE.le (by omega) qa
  have hV:=of_svalE hv
  have hc:cle (ad.map (·.v)) qa=rkI (ad.map (·.v)) qa:=by unfold cle rkI;rw [List.countP_eq_length_filter]
  rw [hc]
  have hlen:=hin.len
  rw [hlen] at hr hle
  obtain ⟨lo,hlo⟩:∃ lo:Nat,rkLo (ents ts m) qa=(lo:Int):=⟨(rkLo (ents ts m) qa).toNat,by omega⟩
  obtain ⟨hi,hhi⟩:∃ hi:Nat,rkHi (ad.length:Nat) (ents ts m) qa=(hi:Int):=⟨(rkHi (ad.length:Nat) (ents ts m) qa).toNat,by omega⟩
  rw [hlo,hhi] at hr hle
  refine (pyAskSummary A m c k cap ad.length qa qb _ 1 _ 1 _ 1 w (Lib.hid (fun w' hb=>sum_val hs (hin.below hb))) HC (Lib.hid (fun w'=>pansSummary k cap w' HC)) (Lib.hid (fun w' hb=>pRank_ok (k:Nat) (cap:Nat) (ad.length:Nat) A m c ts qa lo hi w' (hin.below hb) hv hlo hhi))).mono fun e w' ⟨he,hb⟩=>?_
  exact ⟨lo,hi,he,⟨by omega,by omega,by omega⟩,hb⟩
end Go.Proofs.YtdipoojjlddohaaGreat
end
section
/- Plain facts on products of signed numbers: no program is in sight. -/
namespace Go.Proofs.YtdipoojjlddohaaGreat
open Go.RowKit
def icmp (p q:Int):Int:=if p<q then -1 else if p=q then 0 else 1
def pabs (a b:Int):Nat:=a.natAbs*b.natAbs
def sneg (a b:Int):Bool:=decide (a<0) != decide (b<0)
def pneg (a b:Int):Bool:=sneg a b && !decide (pabs a b=0)
def isign (a:Int):Int:=if a<0 then -1 else if 0<a then 1 else 0
theorem i64_abs {a:Int} (h : -9223372036854775808≤a∧a≤9223372036854775807):a.natAbs<18446744073709551616:=by omega
theorem pabs_eq (a b:Int):pabs a b=(a*b).natAbs:=(Int.natAbs_mul a b).symm
theorem pneg_eq (a b:Int):pneg a b=decide (a*b<0):=by
  have hz:pabs a b=0↔a=0∨b=0:=by
    unfold pabs
    rw [Nat.mul_eq_zero]
    omega
  unfold pneg sneg
  rcases Int.lt_trichotomy a 0 with h | h | h<;>rcases Int.lt_trichotomy b 0 with k | k | k
  · have:=Int.mul_pos_of_neg_of_neg h k
    simp [h,k];omega
  · subst k;simp [h,hz]
  · have:=Int.mul_neg_of_neg_of_pos h k
    have n0:¬ b<0:=by omega
    have:¬ (pabs a b=0):=by rw [hz];omega
    simp [h,n0,this];omega
  · subst h;simp [k,hz]
  · subst h;subst k;simp
  · subst h;simp [hz]<;>omega
  · have:=Int.mul_neg_of_pos_of_neg h k
    have n0:¬ a<0:=by omega
    have:¬ (pabs a b=0):=by rw [hz];omega
    simp [k,n0,this];omega
  · subst k;simp [hz]<;>omega
  · have:=Int.mul_pos h k
    have n0:¬ a<0:=by omega
    have n1:¬ b<0:=by omega
    simp [n0,n1];omega
def pcrossV (m n:Bool) (x y:Nat):Int:=if m then (if n then cmp y x else -1) else (if n then 1 else cmp x y)
theorem cross_is (a b c d:Int):pcrossV (pneg a b) (pneg c d) (pabs a b) (pabs c d)=icmp (a*b) (c*d):=by
  rw [pneg_eq,pneg_eq,pabs_eq,pabs_eq]
  generalize a*b=p
  generalize c*d=q
  unfold pcrossV icmp cmp
  by_cases h:p<0<;>by_cases k:q<0<;>simp only [h,k,decide_true,decide_false,if_true,if_false,Bool.false_eq_true]<;>repeat (first | omega | split)
def rcrossV (p q:Int) (x y:Nat):Int:=if p<q then -1 else if q<p then 1 else p*cmp x y
end Go.Proofs.YtdipoojjlddohaaGreat
end
section
/- The exact comparison of two products, walked: the program, the reference and the law. -/
namespace Go.Proofs.YtdipoojjlddohaaGreat
open Go.RowKit Go.Shelf
theorem ret_eqX {k:IntKind} {a b:Int} (h:a=b):Ending.returned (.int k a) = .returned (.int k b):=by rw [h]
theorem neg_wrap (a:Int) (h : -9223372036854775808≤a) (k:a<0):IntKind.u64.wrap (-IntKind.u64.wrap a)=(a.natAbs:Int):=by
  rw [IntKind.wrap_u64,IntKind.wrap_u64]
  omega
theorem wpsize (a:Int) (h : -9223372036854775808≤a∧a≤9223372036854775807) (w:World) :
    Calls Tryz.prog 274 #[.int .i64 a] w fun e w'=>e = .returned (.int .u64 (a.natAbs:Int))∧w'=w:=by
  obtain ⟨h1,h2⟩:=h
  by_cases hn:a<0
  all_goals
    go_enter Tryz.func274,Tryz.ntmps274
    go_wp2
    go_ret
    exact ⟨ret_eqX (by first | omega | exact neg_wrap a h1 hn),rfl⟩
theorem pprodn (x y:Nat) (hx:x<18446744073709551616) (hy:y<18446744073709551616) (w:World) :
    Calls Tryz.prog 89 #[.int .u64 x, .int .u64 y] w fun e w'=>e = .returned (W (x*y))∧Below w.heap.size w w':=pproduct x y ⟨by omega,by omega⟩ ⟨by omega,by omega⟩ w
theorem psigned (a b:Int) (ha : -9223372036854775808≤a∧a≤9223372036854775807) (hb : -9223372036854775808≤b∧b≤9223372036854775807) (w:World) :
    Calls Tryz.prog 241 #[.int .i64 a, .int .i64 b] w fun e w'=>e = .returned (.tuple #[.bool (sneg a b),W (pabs a b)])∧Below w.heap.size w w':=by
  have HA:=Lib.hid (fun w=>wpsize a ha w)
  have HB:=Lib.hid (fun w=>wpsize b hb w)
  have HP:=Lib.hid (fun w=>pprodn a.natAbs b.natAbs (i64_abs ha) (i64_abs hb) w)
  clear ha hb
  unfold sneg pabs
  generalize a.natAbs*b.natAbs=z at HP ⊢
  generalize a.natAbs=x at HA HP
  generalize b.natAbs=y at HB HP
  go_enter Tryz.func241,Tryz.ntmps241
  go_wp2_with (first | (go_at_call 274;(first | with_reducible refine (HA.out _).mono ?_ | with_reducible refine (HB.out _).mono ?_);rintro e w9 ⟨rfl,rfl⟩) | (go_at_call 89;refine (HP.out _).mono ?_;rintro e w1 ⟨rfl,hb1⟩;have hz1:=hb1.size;(try simp at hz1);have q1_0:w.heap.size<w1.heap.size:=(by omega);have r1_0:Row w1 (w.heap.size) 67 #[.int .u64 0, .int .u64 0]:=row_call (by (repeat (first | assumption | (refine row_new ?_;(first | (simp;done) | omega)) | refine row_alloc ?_ _ | refine row_drew ?_ | refine row_call ?_ (by assumption)))) hb1;obtain ⟨c1_0a,c1_0b,f1_0a,f1_0b⟩:=row_two r1_0))
  have r2:=row_two_set (u := .int .u64 (hi z)) (v := .int .u64 (lo z)) r1_0
  have o2:Below w.heap.size w ((w1.setCell ⟨w.heap.size,0,none⟩ (.int .u64 (hi z))).setCell ⟨w.heap.size,1,none⟩ (.int .u64 (lo z))):=by
    (repeat (first | exact Below.refl _ _ | refine Below.setCell ?_ (by (try simp)<;>omega) _ | refine Below.alloc ?_ (by (try simp)<;>omega) _ | refine Below.drew ?_ | refine Below.trans ?_ (Below.mono (by assumption) (by (try simp)<;>omega))))
  generalize ((w1.setCell ⟨w.heap.size,0,none⟩ (.int .u64 (hi z))).setCell ⟨w.heap.size,1,none⟩ (.int .u64 (lo z)))=w2 at r2 o2 ⊢
  obtain ⟨d1,d2,_,_⟩:=row_two r2
  exact bodyPost_ret (v := .tuple #[.bool (decide (a<0) != decide (b<0)),W z]) (by simp [results,Tryz.results241,go_sem,bne,W,d1,d2]) rfl ⟨rfl,o2⟩
theorem pcross_in (a b c d:Int) (s1 s2 z1 z2:Bool) (x y:Nat)
    (H1:RowKit.Hid (∀ w,Calls Tryz.prog 241 #[.int .i64 a, .int .i64 b] w fun e w'=>e = .returned (.tuple #[.bool s1,W x])∧Below w.heap.size w w'))
    (H2:RowKit.Hid (∀ w,Calls Tryz.prog 241 #[.int .i64 c, .int .i64 d] w fun e w'=>e = .returned (.tuple #[.bool s2,W y])∧Below w.heap.size w w'))
    (Z1:RowKit.Hid (∀ w,Calls Tryz.prog 163 #[W x] w fun e w'=>e = .returned (.bool z1)∧Below w.heap.size w w'))
    (Z2:RowKit.Hid (∀ w,Calls Tryz.prog 163 #[W y] w fun e w'=>e = .returned (.bool z2)∧Below w.heap.size w w')) (w:World) :
    Calls Tryz.prog 153 #[.int .i64 a, .int .i64 b, .int .i64 c, .int .i64 d] w fun e w'=>e = .returned (.int .i64 (pcrossV (s1 && !z1) (s2 && !z2) x y))∧Below w.heap.size w w':=by
  cases s1<;>cases s2<;>cases z1<;>cases z2
  all_goals
    go_enter Tryz.func153,Tryz.ntmps153
    go_wp2_with (first | (go_at_call 241;with_reducible refine (H1.out _).mono ?_;rintro e w1 ⟨rfl,hb1⟩;have hz1:=hb1.size;(try simp at hz1)) | (go_at_call 241;with_reducible refine (H2.out _).mono ?_;rintro e w2 ⟨rfl,hb2⟩;have hz2:=hb2.size;(try simp at hz2);have q2_0:w1.heap.size<w2.heap.size:=(by omega);have r2_0:Row w2 (w1.heap.size) 67 (Wc x):=row_call (by (repeat (first | assumption | (refine row_new ?_;(first | (simp;done) | omega)) | refine row_alloc ?_ _ | refine row_drew ?_ | refine row_call ?_ (by assumption)))) hb2;obtain ⟨c2_0a,c2_0b,f2_0a,f2_0b⟩:=row_two r2_0) | (go_at_call 163;with_reducible refine (Z1.out _).mono ?_;rintro e w3 ⟨rfl,hb3⟩;have hz3:=hb3.size;(try simp at hz3);have q3_0:w1.heap.size<w3.heap.size:=(by omega);have r3_0:Row w3 (w1.heap.size) 67 (Wc x):=row_call (by (repeat (first | assumption | (refine row_new ?_;(first | (simp;done) | omega)) | refine row_alloc ?_ _ | refine row_drew ?_ | refine row_call ?_ (by assumption)))) hb3;obtain ⟨c3_0a,c3_0b,f3_0a,f3_0b⟩:=row_two r3_0;have q3_1:w2.heap.size<w3.heap.size:=(by omega);have r3_1:Row w3 (w2.heap.size) 67 (Wc y):=row_call (by (repeat (first | assumption | (refine row_new ?_;(first | (simp;done) | omega)) | refine row_alloc ?_ _ | refine row_drew ?_ | refine row_call ?_ (by assumption)))) hb3;obtain ⟨c3_1a,c3_1b,f3_1a,f3_1b⟩:=row_two r3_1) | (go_at_call 163;with_reducible refine (Z2.out _).mono ?_;rintro e w4 ⟨rfl,hb4⟩;have hz4:=hb4.size;(try simp at hz4);have q4_0:w1.heap.size<w4.heap.size:=(by omega);have r4_0:Row w4 (w1.heap.size) 67 (Wc x):=row_call (by (repeat (first | assumption | (refine row_new ?_;(first | (simp;done) | omega)) | refine row_alloc ?_ _ | refine row_drew ?_ | refine row_call ?_ (by assumption)))) hb4;obtain ⟨c4_0a,c4_0b,f4_0a,f4_0b⟩:=row_two r4_0;have q4_1:w2.heap.size<w4.heap.size:=(by omega);have r4_1:Row w4 (w2.heap.size) 67 (Wc y):=row_call (by (repeat (first | assumption | (refine row_new ?_;(first | (simp;done) | omega)) | refine row_alloc ?_ _ | refine row_drew ?_ | refine row_call ?_ (by assumption)))) hb4;obtain ⟨c4_1a,c4_1b,f4_1a,f4_1b⟩:=row_two r4_1) | (go_at_call 235;refine (pcmp_any _ _ _).mono ?_;rintro e w5 ⟨rfl,hb5⟩;have hz5:=hb5.size;(try simp at hz5)))
    all_goals
      go_ret
      refine ⟨rfl,?_⟩
      (repeat (first | exact Below.refl _ _ | refine Below.setCell ?_ (by (try simp)<;>omega) _ | refine Below.alloc ?_ (by (try simp)<;>omega) _ | refine Below.drew ?_ | refine Below.trans ?_ (Below.mono (by assumption) (by (try simp)<;>omega))))
theorem pcross (a b c d:Int) (ha : -9223372036854775808≤a∧a≤9223372036854775807) (hb : -9223372036854775808≤b∧b≤9223372036854775807) (hc : -9223372036854775808≤c∧c≤9223372036854775807) (hd : -9223372036854775808≤d∧d≤9223372036854775807) (w:World) :
    Calls Tryz.prog 153 #[.int .i64 a, .int .i64 b, .int .i64 c, .int .i64 d] w fun e w'=>e = .returned (.int .i64 (icmp (a*b) (c*d)))∧Below w.heap.size w w':=by
  have h:=pcross_in a b c d _ _ _ _ _ _ (Lib.hid fun w=>psigned a b ha hb w) (Lib.hid fun w=>psigned c d hc hd w) (Lib.hid fun w=>pzero (pabs a b) w) (Lib.hid fun w=>pzero (pabs c d) w) w
  rw [show (sneg a b && !decide (pabs a b=0))=pneg a b from rfl,show (sneg c d && !decide (pabs c d=0))=pneg c d from rfl,cross_is] at h
  exact h
end Go.Proofs.YtdipoojjlddohaaGreat
end
