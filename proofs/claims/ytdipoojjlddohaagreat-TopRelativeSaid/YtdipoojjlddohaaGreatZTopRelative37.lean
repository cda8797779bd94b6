/- What the law TopRelative needs, joined of its texts by a program (slim2.py); part 37. -/
import Derived.Test.YtdipoojjlddohaaGreatZTopRelative1
import Derived.Test.YtdipoojjlddohaaGreatZTopRelative12
import Derived.Test.YtdipoojjlddohaaGreatZTopRelative23
import Derived.Test.YtdipoojjlddohaaGreatZTopRelative25
import Derived.Test.YtdipoojjlddohaaGreatZTopRelative26
import Derived.Test.YtdipoojjlddohaaGreatZTopRelative27
import Derived.Test.YtdipoojjlddohaaGreatZTopRelative28
import Derived.Test.YtdipoojjlddohaaGreatZTopRelative29
import Derived.Test.YtdipoojjlddohaaGreatZTopRelative30
import Derived.Test.YtdipoojjlddohaaGreatZTopRelative32
import Derived.Test.YtdipoojjlddohaaGreatZTopRelative36
set_option linter.unusedVariables false
set_option linter.unusedSimpArgs false
set_option linter.unusedSectionVars false
set_option linter.unnecessarySimpa false
set_option maxRecDepth 100000
namespace Go.Proofs.YtdipoojjlddohaaGreat
open MC
open MT
open Go.RowKit
theorem GRet.weakP {IN:Option Addr->Nat->Nat->World->Prop} {cs:Option Addr->Nat->Nat->Array Value} {er:Int} {Fr Fr':Nat->Prop} {w:World} {e:Ending} {w':World} (h:GRet IN cs er Fr w e w') (hf:∀ b,Fr b->Fr' b):GRet IN cs er Fr' w e w':=by
  obtain ⟨A,m,c,he,h1,h2,h3⟩:=h;exact ⟨A,m,c,he,h1,h2,fun hm a ha=>(h3 hm a ha).imp id (hf _)⟩
theorem psmaddV (A:Option Addr) (m c:Nat) (l:List Mk) (agg wd k cap now seq:Int) (v:Int) (w:World) (hin:MIn A m c l w) (sB:I64 seq) (hmm:m<=100000) (hv:smvalE agg wd k cap now seq l=0) (h0:¬ v<leastV agg) (h1:¬ 4096<v) (hs:seq≠1099511627776):Calls Tryz.prog 123 #[.agg (J1 agg wd k cap now seq (.slice A m c)),v] w fun e w'=>SmRet none (smAdd agg wd k cap now seq l v) w e w':=by
  have hl:=hin.len;by_cases hm0:0<m
  · have hne:l≠[]:=fun e=>by rw [e] at hl;simp at hl;omega
    by_cases hn:(mkAt l 0).n=cap
    · exact psmadd_c1 A m c l agg wd k cap now seq v w hin sB hv h0 h1 hm0 hn (.inl ⟨hne,hn⟩)
    · exact psmadd_d1 A m c l agg wd k cap now seq v w hin sB hv h0 h1 hmm hm0 hn hs (fun a=>a.elim (fun a=>hn a.2) hs)
  · obtain rfl:m=0:=by omega
    have he:l=[]:=by simpa using hl
    exact psmadd_d0 A c l agg wd k cap now seq v w hin sB hv h0 h1 hs (fun a=>a.elim (fun a=>a.1 he) hs)
theorem tcAddP {A : Option Addr} {m c : Nat} {wd : Int} {k cap : Nat} {now v : Int} {ts : List Int} {w : World} (h : CtI wd k cap now ts A m c w) (v0 : -4096 <= v) (v1 : v <= 4096) : Calls Tryz.prog 38 #[.agg (J2 wd (k : Nat) (cap : Nat) now (.slice A m c)), v,""] w fun e w' => GRet (CtI wd k cap now (ts ++ [now])) (fun A m c => (J2 wd (k : Nat) (cap : Nat) now (.slice A m c))) 0 (fun _ => False) w e w' ∨ (e = .returned (.tuple #[.agg J0, .int .i64 5]) /\ Below w w w') := by
  have hg:=h.good.1;have HV:=tcHV h;obtain ⟨l,hin,hs,hh⟩:=h;by_cases hf:btot l<cap
  · refine (pyAddCount A m c wd k cap now v w _ (ctI_ok wd k cap now (ts ++ [now])) _ (fun b hb=>hb.elim) HV (Lib.hid (ct_cfg hg)) (Lib.hid (fun w' hb=>(pctadd A m c l wd k cap now w' (hin.below hb) hs hf).mono fun e w'' hq=>?_)) v0 v1).mono fun e w' hq => .inl hq;obtain ⟨A',m',c',l',he,hin',hP,hb',hf⟩:=hq;exact ⟨A',m',c',he,⟨l',hin',ct_add hs hh (by omega) hP⟩,hb',fun _ a e => .inl (hf a e)⟩
  · refine (pyFullCount A m c wd k cap now v w HV (Lib.hid (ct_cfg hg)) (Lib.hid (fun w' hb=>(pctfull A m c l wd k cap now w' (hin.below hb) hs hf).mono fun e w'' hq=>?_)) v0 v1).mono fun e w' hq => .inr hq;exact ⟨none,0,0,hq.1,hq.2⟩
theorem tsAddP {A : Option Addr} {m c : Nat} {agg wd k cap now v : Int} {ad : List Itm} {w : World} (h : SmI agg wd k cap ad now A m c w) (hr2 : ad.length < 65536) (v0 : leastV agg <= v) (v1 : v <= 4096) : Calls Tryz.prog 38 #[.agg (J4 agg wd k cap now (ad.length : Nat) (.slice A m c)), v,""] w fun e w' => GRet (SmI agg wd k cap (ad ++ [(⟨now, v⟩ : Itm)]) now) (fun A m c => (J4 agg wd k cap now (.int .i64 ((ad ++ [(⟨now, v⟩ : Itm)]).length : Nat)) (.slice A m c))) 0 (fun _ => False) w e w' ∨ (e = .returned (.tuple #[.agg J0, .int .i64 5]) /\ Below w w w') := by
  have HV:=tsHV h;obtain ⟨l,hin,hp,ha⟩:=h;have hs:I64 (ad.length:Nat):=by unfold I64;omega
  have hml:=hp.ml;have hln:=hin.len;by_cases hnf:smFull cap (ad.length:Nat) l
  · refine (pyFullSmooth A m c agg wd k cap now (ad.length:Nat) v w HV (Lib.hid (sm_cfg hp.arg.1)) (Lib.hid (fun w' hb=>(psmaddV A m c l agg wd k cap now (ad.length:Nat) v w' (hin.below hb) hs (by omega) (smvalE_yes hp.val) (by omega) (by omega) (by omega)).mono fun e w'' hq=>?_))).mono fun e w' hq => .inr hq;unfold smAdd at hq;rw [if_pos (smvalE_yes hp.val),if_neg (by omega),if_pos hnf] at hq;obtain ⟨A',m',c',he,_,hb',_⟩:=hq;exact ⟨A',m',c',he,hb'⟩
  have eL:((ad ++ [(⟨now,v⟩:Itm)]).length:Int)=(ad.length:Nat)+1:=by simp
  have eN:(ad ++ [(⟨now,v⟩:Itm)]).length=ad.length+1:=by simp
  rw [eL];refine (pyAddSmooth A m c agg wd k cap now (ad.length:Nat) v w _ (smI_ok agg wd k cap (ad ++ [(⟨now,v⟩:Itm)]) now) _ (fun b hb=>hb.elim) HV (Lib.hid (sm_cfg hp.arg.1)) (Lib.hid (fun w' hb=>(psmaddV A m c l agg wd k cap now (ad.length:Nat) v w' (hin.below hb) hs (by omega) (smvalE_yes hp.val) (by omega) (by omega) (by omega)).mono fun e w'' hq=>?_))).mono fun e w' hq => .inl hq;unfold smAdd at hq;rw [if_pos (smvalE_yes hp.val),if_neg (by omega),if_neg hnf] at hq;obtain ⟨A',m',c',he,hin',hb',hf⟩:=hq;refine ⟨A',m',c',he,⟨_,hin',?_,by rw [eN];omega⟩,hb',fun hm a e=>?_⟩
  · have:=hp.add ⟨v0,v1⟩ hnf;rw [eN];exact this
  · rcases hf a e with g | ⟨b,eb,g⟩
    · exact .inl g.1
    · cases eb
def suT (l:List Itm):List Int:=l.flatMap fun x=>List.replicate x.v.toNat x.t
theorem suT_snoc (l:List Itm) (x:Itm):suT (l ++ [x])=suT l ++ List.replicate x.v.toNat x.t:=by unfold suT;rw [List.flatMap_append];simp
def CtK (wd:Int) (k cap:Nat) (ad:List Itm) (now:Int):Option Addr->Nat->Nat->World->Prop:=CtI wd k cap now (ad.map (·.t))
def SuK (wd:Int) (k cap mx:Nat) (ad:List Itm) (now:Int):Option Addr->Nat->Nat->World->Prop:=SuI wd k cap mx now (suT ad)
theorem kCountP {wd:Int} {k cap N:Nat} (h:ctGood wd k cap):KindP (J23 wd (k:Nat) (cap:Nat)) (CtK wd k cap) (fun ad now A m c=>(J2 wd (k:Nat) (cap:Nat) now (.slice A m c))) (fun v => -4096<=v/\v<=4096) N where
  inok:=fun ad now=>ctI_ok wd k cap now _
  size:=fun _ _ _ _ _=>rfl
  one:=fun _ _ _ _ _=>all_one rfl
  new:=fun w=>tcNew h (by omega) (by omega) w
  adv:=fun ad now tt A m c w hi h1 h2=>(tcAdvance hi h1 h2).mono fun _ _ h=>h.weakP (fun _ f=>f.elim)
  add:=fun ad now v A m c w hi hn hv=>by
    refine (tcAddP hi hv.1 hv.2).mono fun e w' hq=>?_;have hm:(ad ++ [(⟨now,v⟩:Itm)]).map (·.t)=ad.map (·.t) ++ [now]:=by simp
    unfold CtK;rw [hm];exact hq.imp (fun g=>g.weakP (fun _ f=>f.elim)) id
theorem kSumP {wd:Int} {k cap mx N:Nat} (h:suGood wd k cap mx):KindP (J22 wd (k:Nat) (cap:Nat) (mx:Nat)) (SuK wd k cap mx) (fun ad now A m c=>(J3 wd (k:Nat) (cap:Nat) (mx:Nat) now (.slice A m c))) (fun v=>0<=v/\v<=mx) N where
  inok:=fun ad now=>suI_ok wd k cap mx now _
  size:=fun _ _ _ _ _=>rfl
  one:=fun _ _ _ _ _=>all_one rfl
  new:=fun w=>tuNew h (by omega) (by omega) w
  adv:=fun ad now tt A m c w hi h1 h2=>(tuAdvance hi h1 h2).mono fun _ _ h=>h.weakP (fun _ f=>f.elim)
  add:=fun ad now v A m c w hi hn hv=>by
    obtain ⟨n,rfl⟩:=Int.eq_ofNat_of_zero_le hv.1;refine (tuAdd (v:=n) hi (by omega)).mono fun e w' hq=>?_;unfold SuK;rw [suT_snoc];exact hq.imp (fun g=>g.weakP (fun _ f=>f.elim)) id
theorem kSmoothP {agg wd k cap:Int} {N:Nat} (h:smArg agg wd k cap) (hN:N<=65536):KindP (J32 agg wd k cap) (SmI agg wd k cap) (fun ad now A m c=>(J4 agg wd k cap now (ad.length:Nat) (.slice A m c))) (fun v=>leastV agg<=v/\v<=4096) N where
  inok:=fun ad now=>smI_ok agg wd k cap ad now
  size:=fun _ _ _ _ _=>rfl
  one:=fun _ _ _ _ _=>all_one rfl
  new:=fun w=>tsNew h (by omega) (by omega) w
  adv:=fun ad now tt A m c w hi h1 h2=>tsAdvance hi h1 h2
  add:=fun ad now v A m c w hi hn hv=>(tsAddP hi (by omega) hv.1 hv.2).mono fun _ _ h=>h.imp (fun g=>g.weakP (fun _ f=>f.elim)) id
theorem kSpreadP {wd k cap:Int} {N:Nat} (h:spArg wd k cap) (hN:N<=65536):KindP (J28 wd k cap) (SpI wd k cap) (fun ad now A m c=>(J5 wd k cap now (ad.length:Nat) (.slice A m c))) (fun v => -4096<=v/\v<=4096) N where
  inok:=fun ad now=>spI_ok wd k cap ad now
  size:=fun _ _ _ _ _=>rfl
  one:=fun _ _ _ _ _=>all_one rfl
  new:=fun w=>tpNew h (by omega) (by omega) w
  adv:=fun ad now tt A m c w hi h1 h2=>tpAdvance hi h1 h2
  add:=fun ad now v A m c w hi hn hv=>(tpAdd hi (by omega) hv.1 hv.2).mono fun _ _ h=>h.imp (fun g=>g.weakP (fun _ f=>f.elim)) id
theorem made_lok {st lo hi last:Int} {l:List Itm} (h:Made st lo hi last l):LOK (nowK l l.length) lo hi l:=by
  obtain ⟨h1,h2,h3⟩:=h;refine ⟨fun x hx=>?_,fun x hx=>?_,List.pairwise_iff_getElem.2 fun i j hi hj hij=>?_⟩
  · obtain ⟨i,hi,rfl⟩:=List.mem_iff_getElem.1 hx;rw [itm_eq hi];refine ⟨(h1 i hi).1,?_⟩;unfold nowK;rw [if_neg (by omega)];exact (h1 (l.length-1) (by omega)).2.2.1 i (by omega)
  · obtain ⟨i,hi,rfl⟩:=List.mem_iff_getElem.1 hx;rw [itm_eq hi];exact (h1 i hi).2.2.2
  · rw [itm_eq hi,itm_eq hj];exact (h1 j hj).2.2.1 i (by omega)
theorem made_runP {st lo hi last:Int} {l:List Itm} (h:Made st lo hi last l) (hl:st*l.length<=16777216):∀ i,i<l.length->nowK l i<=(itmAt l i).t/\(itmAt l i).t<=16777216/\(lo<=(itmAt l i).v/\(itmAt l i).v<=hi):=by
  intro i hi';obtain ⟨h1,h2,h3⟩:=h;obtain ⟨a,b,c,d,e⟩:=h1 i hi';refine ⟨?_,by omega,d,e⟩;unfold nowK;split
  · exact a
  · exact c (i-1) (by omega)
theorem live_count {now wd lo hi:Int} {l:List Itm} (h:LOK now lo hi l):liveT (now-wd) (l.map (·.t))=(liveI now wd l).length:=by
  unfold liveT liveI;rw [List.filter_map,List.length_map];congr 1;refine List.filter_congr fun x hx=>?_;have:=h.tick x hx;simp;omega
theorem live_sum {now wd:Int}:∀ {l:List Itm},(∀ x∈l,x.t<=now/\0<=x.v)->(liveT (now-wd) (suT l):Int)=isum (liveI now wd l)
  | [],_=>rfl
  | x :: l,h=>by
    have ih:=live_sum (now:=now) (wd:=wd) (l:=l) fun y hy=>h y (by simp [hy]);have hx:=h x (by simp);have e:suT (x :: l)=List.replicate x.v.toNat x.t ++ suT l:=rfl;rw [e,liveT_append,Int.natCast_add,ih];unfold liveI;by_cases c:now-wd<x.t
    · rw [List.filter_cons_of_pos (by simp;omega),isum,liveT_all (fun y hy=>by rw [(List.mem_replicate.1 hy).2];exact c),List.length_replicate];omega
    · rw [List.filter_cons_of_neg (by simp;omega),liveT_zero (fun y hy=>by rw [(List.mem_replicate.1 hy).2];omega)];simp
theorem liveI_len (now wd:Int) (l:List Itm) (k:Nat):(liveI now wd (l.take k)).length<=l.length:=Nat.le_trans (List.length_filter_le _ _) (by rw [List.length_take];omega)
set_option maxRecDepth 100000 in
set_option maxHeartbeats 2000000 in
theorem pmlive (A:Option Addr) (m c:Nat) (l:List Itm) (now wd:Int) (w:World) (hr:Reads w w.heap.size 2 A m (icells l)) (hm:m<=100000) (n0:0<=now) (n1:now<=16777216) (d0:1<=wd) (d1:wd<=1048576):Calls Tryz.prog 23 #[.slice A m c,now,wd] w fun e w'=>∃ v,e = .returned v/\w'.ownsRow w.heap.size 90 2 v (liveI now wd l).length (icells (liveI now wd l))/\Below w w w':=by
  have HL:=Lib.hid hr.itm_len;have HR:=Lib.hid hr;obtain ⟨ii,hii,iz0,iz1,iz2⟩:=info_parts info_itm;clear hr;go_enter Tryz.func23,Tryz.ntmps23;go_wp2;go_loopw [7,12] (fun v i wr=>∃ k:Nat,k<=m/\i = .int .i64 (k:Nat)/\wr.ownsRow w.heap.size 90 2 v (liveI now wd (l.take k)).length (icells (liveI now wd (l.take k)))/\Below w w wr) (fun _ i _=>m-(intOf i).toNat)
  case atStart=>exact ⟨0,by omega,rfl,World.ownsRow_nil _ _ _ _,Below.refl _ _⟩
  case round =>
    obtain ⟨k,hk,rfl,own,o⟩:=hrel;by_cases hlt:k<m
    · obtain ⟨ad,rfl,hadb,hi0⟩:=HR.out.itm hlt;obtain ⟨g0,g1⟩:=hi0.below o (by rw [block_of_add];exact hadb);have hst:=liveI_take (now:=now) (wd:=wd) (show k<l.length by rw [HL.out];exact hlt);have hll:=liveI_len now wd l k;rw [HL.out] at hll;generalize liveI now wd (l.take k)=L0 at hst own hll;have i1:(k:Int)<(m:Int):=by omega
      have i2:(0:Int)<=(k:Int):=by omega
      have wsub:IntKind.i64.wrap (now-wd)=now-wd:=IntWalk.i64_in _ (by omega);by_cases h1:now-wd<(itmAt l k).t
      · by_cases h2:(itmAt l k).t<=now
        · rw [if_pos ⟨h1,h2⟩] at hst;have hst2:liveI now wd (l.take (k+1))=L0 ++ [(⟨(itmAt l k).t,(itmAt l k).v⟩:Itm)]:=hst;generalize (itmAt l k).v=vk at g1 hst2;generalize (itmAt l k).t=tk at g0 h1 h2 hst2;have HS:=Lib.hid hst2;clear hi0 hst hst2;have hbl:=own.lt;have OWN:=Lib.hid own;clear own;go_upto_region 5 with (fail)
          have ti:Row (wr.alloc (.cells #[tk,vk] 90)) wr.heap.size 90 #[tk,vk]:=row_new rfl;replace o:=o.alloc o.size (.cells #[tk,vk] 90);have zq:=o.size;have tq:(wr.alloc (.cells #[tk,vk] 90)).heap.size=wr.heap.size+1:=by simp
          have OWN2:=Lib.hid (orow_keep OWN.out (fun b e=>(Below.alloc (Below.refl wr.heap.size wr) (Nat.le_refl _) (.cells #[tk,vk] 90)).block b (hbl b e).2));clear g0 g1 OWN;generalize wr.alloc (.cells #[tk,vk] 90)=wq at ti o zq tq OWN2 |-
          have hbl2:=OWN2.out.lt;generalize wr.heap.size=tb at ti tq |-
          replace tq:=Lib.hid tq;cases r2 ti;go_wp2_with (at_builtin;refine wpList_push rfl _ _ 22 rfl 90 ii (.agg #[(),()]) 2 16 Tryz.underlying22 hii iz0 iz1 iz2 rfl (by decide) w.heap.size _ L0.length (icells L0) rfl OWN2.out #[tk,vk] rfl rfl (by simp [Value.oneCell']) (by unfold maxLen;omega) (by omega) zq ?_;intro g' c4 w8 own8 hg8 hat8 hgr8)
          have L8:w8.ownsRow w.heap.size 90 2 (.slice (some ⟨g',0,none⟩) (L0.length+1) c4) (L0 ++ [(⟨tk,vk⟩:Itm)]).length (icells (L0 ++ [(⟨tk,vk⟩:Itm)])):=by
            rw [icells_append,List.length_append];exact own8.row hg8
          have L9:Below w w w8:=below_grown (o.alloc o.size _) hgr8 (fun b e=>(hbl2 b e).1) (by have:=tq.out;simp;omega);clear own8 hgr8 hat8;go_roundw
          case rel=>exact ⟨k+1,by omega,by go_num,by rw [HS.out];exact L8,L9⟩
          case measure=>simp [intOf];omega
        · rw [if_neg (fun c=>h2 c.2),List.append_nil] at hst;have HS:=Lib.hid hst;generalize (itmAt l k).v=vk at g1;generalize (itmAt l k).t=tk at g0 h1 h2;clear hi0 hst;go_upto_region 5 with (fail)
          have ti:Row (wr.alloc (.cells #[tk,vk] 90)) wr.heap.size 90 #[tk,vk]:=row_new rfl;replace o:=o.alloc o.size (.cells #[tk,vk] 90);have own2:=orow_keep own (fun b e=>(Below.alloc (Below.refl wr.heap.size wr) (Nat.le_refl _) (.cells #[tk,vk] 90)).block b (own.lt b e).2);clear g0 g1 own;generalize wr.alloc (.cells #[tk,vk] 90)=wq at ti o own2 |-
          generalize wr.heap.size=tb at ti |-
          cases r2 ti;go_wp2;go_roundw
          case rel=>exact ⟨k+1,by omega,by go_num,by rw [HS.out];exact own2,o⟩
          case measure=>simp [intOf];omega
      · rw [if_neg (fun c=>h1 c.1),List.append_nil] at hst;have HS:=Lib.hid hst;generalize (itmAt l k).v=vk at g1;generalize (itmAt l k).t=tk at g0 h1;clear hi0 hst;go_upto_region 5 with (fail)
        have ti:Row (wr.alloc (.cells #[tk,vk] 90)) wr.heap.size 90 #[tk,vk]:=row_new rfl;replace o:=o.alloc o.size (.cells #[tk,vk] 90);have own2:=orow_keep own (fun b e=>(Below.alloc (Below.refl wr.heap.size wr) (Nat.le_refl _) (.cells #[tk,vk] 90)).block b (own.lt b e).2);clear g0 g1 own;generalize wr.alloc (.cells #[tk,vk] 90)=wq at ti o own2 |-
        generalize wr.heap.size=tb at ti |-
        cases r2 ti;go_wp2;go_roundw
        case rel=>exact ⟨k+1,by omega,by go_num,by rw [HS.out];exact own2,o⟩
        case measure=>simp [intOf];omega
    · have i1:¬ (k:Int)<(m:Int):=by omega
      obtain rfl:k=l.length:=by have:=HL.out;omega
      rw [List.take_length] at own;go_wp2;go_ret;exact ⟨_,rfl,own,o⟩
theorem pxtickR (x:Int) (h0:0<=x) (h1:x<=16777216) (w:World):Calls Tryz.prog 74 #[x] w (Rd (.bool true) w):=by
  go_enter Tryz.func74,Tryz.ntmps74;go_wp2_with fail;go_ret;exact ⟨rfl,rfl⟩
set_option maxRecDepth 100000 in
set_option maxHeartbeats 2000000 in
theorem pexvalid (A:Option Addr) (m c:Nat) (l:List Itm) (now lo hi:Int) (w:World) (hr:Reads w w.heap.size 2 A m (icells l)) (hm:m<=100000) (n0:0<=now) (n1:now<=16777216) (hl:LOK now lo hi l):Calls Tryz.prog 167 #[.slice A m c,now] w (Rr (.bool true) w):=by
  have HL:=Lib.hid hr.itm_len;have HR:=Lib.hid hr;have HO:=Lib.hid hl;have PT:=Lib.hid (pxtickR now n0 n1);clear hr hl;go_enter Tryz.func167,Tryz.ntmps167;go_wp2_with (go_at_call 74;with_reducible refine (PT.out _).mono ?_;rintro e w9 ⟨rfl,h9⟩;obtain rfl:=h9.symm);go_loopw [5,6,12] (fun u5 u6 i wr=>∃ k:Nat,k<=m/\i = .int .i64 (k:Nat)/\Below w w wr) (fun _ _ i _=>m-(intOf i).toNat)
  case atStart=>exact ⟨0,by omega,rfl,Below.refl _ _⟩
  case round =>
    obtain ⟨k,hk,rfl,o⟩:=hrel;by_cases hlt:k<m
    · obtain ⟨ad,rfl,hadb,hi0⟩:=HR.out.itm hlt;obtain ⟨g0,g1⟩:=hi0.below o (by rw [block_of_add];exact hadb);have ha:=HO.out.at (i:=k) (by rw [HL.out];exact hlt);have i1:(k:Int)<(m:Int):=by omega
      have i2:(0:Int)<=(k:Int):=by omega
      by_cases hk0:k=0
      · generalize (itmAt l k).v=vk at g1 ha;generalize (itmAt l k).t=tk at g0 ha;obtain ⟨a0,a1,_,_⟩:=ha;have b0:¬ tk<0:=by omega
        have b1:¬ now<tk:=by omega
        have i3:¬ 0<k:=by omega
        clear hk0;clear hi0;go_upto_region 6 with (fail)
        have ti:Row (wr.alloc (.cells #[tk,vk] 90)) wr.heap.size 90 #[tk,vk]:=row_new rfl;replace o:=o.alloc o.size (.cells #[tk,vk] 90);clear g0 g1;generalize wr.alloc (.cells #[tk,vk] 90)=wq at ti o |-
        generalize wr.heap.size=tb at ti |-
        refine wp_region_free0 [0,1,2,3,4,5,6,7,8,9,10,11,12,13,14,15,16,17,18,19,20,21,22] [] [0,1,2,3,4,5,6,7,8,9,10,11,12,13,14,15,16,17,18,19,20,21,22] 23 (fun w'=>Below wq wq w') (by kernel_rfl) (by kernel_rfl) (fun _ _ d _ _ h=>by cases d<;>exact h) ?_ ?_
        · exact (Below.refl _ _).drew
        (refine plp rfl rfl ?_;simp only [put9]);(refine plv rfl rfl rfl (fun w' hS=>by cases r2 (row_call ti hS);exact gs9) ?_;simp only [put9]);iterate 3 (refine plp rfl rfl ?_;simp only [put9])
        (refine plv rfl rfl rfl (fun w' hS=>by cases r2 (row_call ti hS);exact gs9) ?_;simp only [put9]);iterate 7 (refine plp rfl rfl ?_;simp only [put9])
        refine plan_not rfl rfl ?_;simp only [put9];refine plan_not rfl rfl ?_;simp only [put9];refine plan_not rfl rfl ?_;simp only [put9];refine plan_not rfl rfl ?_;simp only [put9];refine plan_not rfl rfl ?_;simp only [put9];refine plan_not rfl rfl ?_;simp only [put9];refine plan_not rfl rfl ?_;simp only [put9];refine plan_not rfl rfl ?_;simp only [put9];refine plan_not rfl rfl ?_;simp only [put9];(refine plp rfl rfl ?_;simp only [put9]);refine plan_nil ?_;intro w5 L5;simp only [List.drop_succ_cons,List.drop_zero];try simp only [put9]
        replace o:=o.trans (L5.mono o.size);clear L5 ti;go_wp2;go_roundw
        case rel=>exact ⟨k+1,by omega,by go_num,o⟩
        case measure=>simp [intOf];omega
      · obtain ⟨j,hj⟩:∃ j,k=j+1:=⟨k-1,by omega⟩
        obtain ⟨ad',ea,hadb',hj0⟩:=HR.out.itm (i:=j) (by omega);obtain rfl:ad=ad':=by injection ea
        have hasc:=HO.out.asc (i:=j) (j:=k) (by omega) (by rw [HL.out];exact hlt);have hj0:ItmCells w (ad.add (j*2)) (itmAt l j):=hj0;generalize hvk:(itmAt l k).v=vk at g1 ha;generalize htk:(itmAt l k).t=tk at g0 ha hasc;obtain ⟨a0,a1,_,_⟩:=ha;have b0:¬ tk<0:=by omega
        have b1:¬ now<tk:=by omega
        have i3:0<k:=by omega
        have wj:IntKind.i64.wrap ((k:Int)-1)=(j:Int):=by rw [IntWalk.i64_in _ (by omega)];omega
        have i4:(0:Int)<=(j:Int):=by omega
        have i5:(j:Int)<(m:Int):=by omega
        replace hj:=Lib.hid hj;clear hi0 ea hvk htk hk0;go_upto_region 6 with (fail)
        have ti:Row (wr.alloc (.cells #[tk,vk] 90)) wr.heap.size 90 #[tk,vk]:=row_new rfl;replace o:=o.alloc o.size (.cells #[tk,vk] 90);generalize wr.alloc (.cells #[tk,vk] 90)=wq at ti o |-
        generalize wr.heap.size=tb at ti |-
        have HP:=Lib.hid (fun w' (hb:Below wq wq w')=>hj0.below (o.trans (hb.mono o.size)) (by rw [block_of_add];exact hadb'));have b2:¬ tk<(itmAt l j).t:=by omega
        clear g0 g1 hj0;refine wp_region_free0 [0,1,2,3,4,5,6,7,8,9,10,11,12,13,14,15,16,17,18,19,20,21,22] [] [0,1,2,3,4,5,6,7,8,9,10,11,12,13,14,15,16,17,18,19,20,21,22] 23 (fun w'=>Below wq wq w') (by kernel_rfl) (by kernel_rfl) (fun _ _ d _ _ h=>by cases d<;>exact h) ?_ ?_
        · exact (Below.refl _ _).drew
        (refine plp rfl rfl ?_;simp only [put9]);(refine plv rfl rfl rfl (fun w' hS=>by cases r2 (row_call ti hS);obtain ⟨p0,p1⟩:=HP.out _ hS;exact gs9) ?_;simp only [put9]);iterate 3 (refine plp rfl rfl ?_;simp only [put9])
        (refine plv rfl rfl rfl (fun w' hS=>by cases r2 (row_call ti hS);obtain ⟨p0,p1⟩:=HP.out _ hS;exact gs9) ?_;simp only [put9]);iterate 12 (refine plp rfl rfl ?_;simp only [put9])
        (refine plv rfl rfl rfl (fun w' hS=>by cases r2 (row_call ti hS);obtain ⟨p0,p1⟩:=HP.out _ hS;exact gs9) ?_;simp only [put9]);(refine plp rfl rfl ?_;simp only [put9]);(refine plv rfl rfl rfl (fun w' hS=>by cases r2 (row_call ti hS);obtain ⟨p0,p1⟩:=HP.out _ hS;exact gs9) ?_;simp only [put9]);iterate 2 (refine plp rfl rfl ?_;simp only [put9])
        refine plan_nil ?_;intro w5 L5;simp only [List.drop_succ_cons,List.drop_zero];try simp only [put9]
        replace o:=o.trans (L5.mono o.size);clear L5 ti HP;go_wp2;go_roundw
        case rel=>exact ⟨k+1,by omega,by go_num,o⟩
        case measure=>simp [intOf];omega
    · have i1:¬ (k:Int)<(m:Int):=by omega
      go_wp2;go_ret;exact ⟨rfl,o⟩
theorem prgood (wd cap now:Int) (w:World) (d0:1<=wd) (d1:wd<=1048576) (c0:1<=cap) (c1:cap<=65536) (n0:0<=now) (n1:now<=16777216):Calls Tryz.prog 166 #[wd,cap,now] w (Rd (.bool true) w):=by
  go_enter Tryz.func166,Tryz.ntmps166;go_wp2_with fail;go_ret;exact ⟨by first | rfl | simp,rfl⟩
theorem prvalue (v:Int) (w:World) (v0 : -4096<=v) (v1:v<=4096):Calls Tryz.prog 168 #[v] w (Rd (.bool true) w):=by
  go_enter Tryz.func168,Tryz.ntmps168;go_wp2_with fail;go_ret;exact ⟨by first | rfl | simp,rfl⟩
set_option maxHeartbeats 2000000 in
theorem prval (A:Option Addr) (m c:Nat) (l:List Itm) (wd cap now:Int) (w:World) (hr:Reads w w.heap.size 2 A m (icells l)) (hm:(m:Int)<=cap) (d0:1<=wd) (d1:wd<=1048576) (c1:cap<=65536) (c0:1<=cap) (n0:0<=now) (n1:now<=16777216) (hl:LOK now (-4096) 4096 l) (hv:∀ x∈l,now-wd<x.t):Calls Tryz.prog 80 #[.agg (J25 wd cap now (.slice A m c))] w (Rr (.int .i64 0) w):=by
  have HL:=Lib.hid hr.itm_len;have HR:=Lib.hid hr;have HO:=Lib.hid hl;have HV:=Lib.hid hv;have PG:=Lib.hid (fun w=>prgood wd cap now w d0 d1 c0 c1 n0 n1);have PE:=Lib.hid (fun w' (hb:Below w w w')=>pexvalid A m c l now (-4096) 4096 w' (hr.below hb |>.more hb.size) (by omega) n0 n1 hl);clear hr hl hv;go_enter Tryz.func80,Tryz.ntmps80;go_upto_region 1 with (fail)
  have X:Row (w.alloc (.cells (J25 wd cap now (.slice A m c)) 29)) w.heap.size 29 (J25 wd cap now (.slice A m c)):=row_new rfl;have o:Below w w (w.alloc (.cells (J25 wd cap now (.slice A m c)) 29)):=bel9;generalize w.alloc (.cells (J25 wd cap now (.slice A m c)) 29)=w1 at X o |-
  obtain ⟨X0,X1,X2,X3,Xf0,Xf1,Xf2,Xf3⟩:=row_four X;have hm2:¬ cap<(m:Int):=by omega
  go_upto_region 3 with (first | (go_at_call 166;with_reducible refine (PG.out _).mono ?_;rintro e w9 ⟨rfl,h9⟩;obtain rfl:=h9.symm) | (go_at_call 167;with_reducible refine (PE.out _ o).mono ?_;rintro e w2 ⟨rfl,hb⟩))
  replace X:=row_call X hb;replace o:=o.trans (hb.mono o.size);clear hb X0 Xf0 X1 Xf1 X2 Xf2 X3 Xf3;obtain ⟨X0,X1,X2,X3,Xf0,Xf1,Xf2,Xf3⟩:=row_four X;go_wp2;clear X0 Xf0 X1 Xf1 X2 Xf2 X3 Xf3;go_loopw [32] (fun i wr=>∃ k:Nat,k<=m/\i = .int .i64 (k:Nat)/\Row wr w 29 (J25 wd cap now (.slice A m c))/\Below w w wr) (fun i _=>m-(intOf i).toNat)
  case atStart=>exact ⟨0,by omega,rfl,X,o⟩
  case round =>
    clear X o;obtain ⟨k,hk,rfl,X,o⟩:=hrel;by_cases hlt:k<m
    · obtain ⟨ad,rfl,hadb,hi0⟩:=HR.out.itm hlt;obtain ⟨g0,g1⟩:=hi0.below o (by rw [block_of_add];exact hadb);have ha:=HO.out.at (i:=k) (by rw [HL.out];exact hlt);have hlv:=HV.out (itmAt l k) (by rw [<- itm_eq (show k<l.length by rw [HL.out];exact hlt)];exact List.getElem_mem _);have PL:=fun w=>plive now wd (itmAt l k).t w n0 n1 d0 d1 ha.1 ha.2.1;rw [decide_eq_true hlv] at PL;have PV:=Lib.hid (fun w=>prvalue (itmAt l k).v w ha.2.2.1 ha.2.2.2);replace PL:=Lib.hid PL;generalize (itmAt l k).v=vk at g1 PV;generalize (itmAt l k).t=tk at g0 PL;clear ha hi0 hlv;have i1:(k:Int)<(m:Int):=by omega
      have i2:(0:Int)<=(k:Int):=by omega
      go_upto_region 6 with (fail)
      have zx:=row_lt X;replace X:=row_alloc X (.cells #[tk,vk] 90);have ti:Row (wr.alloc (.cells #[tk,vk] 90)) wr.heap.size 90 #[tk,vk]:=row_new rfl;replace o:=o.alloc o.size (.cells #[tk,vk] 90);clear g0 g1;generalize wr.alloc (.cells #[tk,vk] 90)=wq at ti o X |-
      generalize wr.heap.size=tb at ti zx |-
      cases r2 ti;obtain ⟨X0,X1,X2,X3,Xf0,Xf1,Xf2,Xf3⟩:=row_four X;go_wp2_with (first | (go_at_call 137;with_reducible refine (PL.out _).mono ?_;rintro e w9 ⟨rfl,h9⟩;obtain rfl:=h9.symm) | (go_at_call 168;with_reducible refine (PV.out _).mono ?_;rintro e w9 ⟨rfl,h9⟩;obtain rfl:=h9.symm));go_roundw
      case rel=>exact ⟨k+1,by omega,by go_num,X,o⟩
      case measure=>simp [intOf];omega
    · have i1:¬ (k:Int)<(m:Int):=by omega
      obtain ⟨X0,X1,X2,X3,Xf0,Xf1,Xf2,Xf3⟩:=row_four X;go_wp2;go_ret;exact ⟨rfl,o⟩
theorem pquestionCount (x1 x2 x3 x4 x5 x6 x7:Int) (w:World):Calls Tryz.prog 27 #[.agg #[.int .i64 2,x1,x2,x3,x4,x5,x6,x7]] w (Rr (.int .i64 1) w):=by
  go_enter Tryz.func27,Tryz.ntmps27;go_upto_region 1 with (fail)
  have X:Row (w.alloc (.cells #[.int .i64 2,x1,x2,x3,x4,x5,x6,x7] 27)) w.heap.size 27 #[.int .i64 2,x1,x2,x3,x4,x5,x6,x7]:=row_new rfl;have o:Below w w (w.alloc (.cells #[.int .i64 2,x1,x2,x3,x4,x5,x6,x7] 27)):=bel9;generalize w.alloc (.cells #[.int .i64 2,x1,x2,x3,x4,x5,x6,x7] 27)=w1 at X o |-
  cases r8 X;go_wp2;go_ret;exact ⟨rfl,o⟩
theorem pquestionSum (x1 x2 x3 x4 x5 x6 x7:Int) (w:World):Calls Tryz.prog 27 #[.agg #[.int .i64 3,x1,x2,x3,x4,x5,x6,x7]] w (Rr (.int .i64 2) w):=by
  go_enter Tryz.func27,Tryz.ntmps27;go_upto_region 1 with (fail)
  have X:Row (w.alloc (.cells #[.int .i64 3,x1,x2,x3,x4,x5,x6,x7] 27)) w.heap.size 27 #[.int .i64 3,x1,x2,x3,x4,x5,x6,x7]:=row_new rfl;have o:Below w w (w.alloc (.cells #[.int .i64 3,x1,x2,x3,x4,x5,x6,x7] 27)):=bel9;generalize w.alloc (.cells #[.int .i64 3,x1,x2,x3,x4,x5,x6,x7] 27)=w1 at X o |-
  cases r8 X;go_wp2;go_ret;exact ⟨rfl,o⟩
theorem pquestionSmooth (x1 x2 x3 x4 x5 x6 x7:Int) (w:World):Calls Tryz.prog 27 #[.agg #[.int .i64 4,x1,x2,x3,x4,x5,x6,x7]] w (Rr (.int .i64 x1) w):=by
  go_enter Tryz.func27,Tryz.ntmps27;go_upto_region 1 with (fail)
  have X:Row (w.alloc (.cells #[.int .i64 4,x1,x2,x3,x4,x5,x6,x7] 27)) w.heap.size 27 #[.int .i64 4,x1,x2,x3,x4,x5,x6,x7]:=row_new rfl;have o:Below w w (w.alloc (.cells #[.int .i64 4,x1,x2,x3,x4,x5,x6,x7] 27)):=bel9;generalize w.alloc (.cells #[.int .i64 4,x1,x2,x3,x4,x5,x6,x7] 27)=w1 at X o |-
  cases r8 X;go_wp2;go_ret;exact ⟨rfl,o⟩
theorem pquestionSpread (x1 x2 x3 x4 x5 x6 x7:Int) (w:World):Calls Tryz.prog 27 #[.agg #[.int .i64 5,x1,x2,x3,x4,x5,x6,x7]] w (Rr (.int .i64 5) w):=by
  go_enter Tryz.func27,Tryz.ntmps27;go_upto_region 1 with (fail)
  have X:Row (w.alloc (.cells #[.int .i64 5,x1,x2,x3,x4,x5,x6,x7] 27)) w.heap.size 27 #[.int .i64 5,x1,x2,x3,x4,x5,x6,x7]:=row_new rfl;have o:Below w w (w.alloc (.cells #[.int .i64 5,x1,x2,x3,x4,x5,x6,x7] 27)):=bel9;generalize w.alloc (.cells #[.int .i64 5,x1,x2,x3,x4,x5,x6,x7] 27)=w1 at X o |-
  cases r8 X;go_wp2;go_ret;exact ⟨rfl,o⟩
section
variable {P:Program} {ops:Array Oper} {md:Region.Mode} {S:World->Prop} {Q:Exit->Act->World->Prop} {n g u:Nat} {tail:List Oper}
def HeadU (P:Program) (md:Region.Mode) (ops:Array Oper) (S:World->Prop) (Q:Exit->Act->World->Prop) (n g u:Nat) (tail:List Oper):Nat->Array Bool->Act->World->Prop
  | 0,listed,a,w=>Region.seqB md ops g n listed=true/\wpList P ops Q tail a w
  | f+1,listed,a,w=>Region.ready md ops listed≠[]/\∀ i∈Region.ready md ops listed,i<n/\wpOp P ops Q i (fun a' w'=>((listed.setIfInBounds i true).getD u true=false->S w')/\HeadU P md ops S Q n g u tail f (listed.setIfInBounds i true) a' w') a w
theorem headU_any (hg:tail.length=g) (ht:∀ j,tail[j]?=ops[n+j]?):∀ (f:Nat) (listed:Array Bool) (a:Act) (w:World),HeadU P md ops S Q n g u tail f listed a w->wpAny P md ops Q (f+g) listed a w
  | 0,listed,a,w,h=>by
    rw [Nat.zero_add];subst hg;exact wpAny_of_seq tail n listed a w ht h.1 h.2
  | f+1,listed,a,w,h=>by
    rw [show f+1+g=(f+g)+1 from by omega];exact ⟨fun h0=>absurd h0 h.1,fun i hi=>wpOp_mono (fun a' w' h'=>headU_any hg ht f _ a' w' h'.2) (h.2 i hi).2⟩
theorem headU_first (ok:PhaseOK md ops n) {i:Nat} {oi:Oper} {v:Value} (hi:ops[i]?=some oi) (hin:i<n) (hui:u≠i) (hd:∃ ou,ops[u]?=some ou/\∃ e∈ou.after,Region.binds md e=true/\e.on=i) (hQ:∀ c a w,Q (.panic c) (a.put oi.dst v) w->Q (.panic c) a w) :
    ∀ (f:Nat) (listed:Array Bool) (a:Act) (w:World),HeadInv md ops n listed->listed.getD u true=false ->
      (∀ j oj,ops[j]?=some oj->j≠i->listed.getD j true=false->(∀ e∈oj.after,Region.binds md e=true->e.on≠i)->oi.apart ops oj=true) ->
      i∈Region.ready md ops listed->YieldsIf P ops S oi v a->S w->HeadU P md ops S Q n g u tail f (listed.setIfInBounds i true) (a.put oi.dst v) w->HeadU P md ops S Q n g u tail (f+1) listed a w:=by
  have hsel:=Region.noSelect_spec ok.sel;have gi:∀ listed:Array Bool,(listed.setIfInBounds i true).getD u true=listed.getD u true:=fun listed=>getD_set_ne true (Ne.symm hui);intro f
  induction f with
  | zero =>
    intro listed a w inv hul _ hr hy hS H;refine ⟨fun h0=>by rw [h0] at hr;exact absurd hr (by simp),fun j hj=>?_⟩;have hjn:j<n:=Nat.lt_of_not_le fun hle=>tail_waits ok.sink ok.chain ok.lt inv _ i rfl hin (mem_ready.1 hr).1 j hle hj;by_cases hji:j=i
    · subst hji;exact ⟨hjn,hy.wpOp hi hS ⟨fun _=>hS,H⟩⟩
    · exact absurd (seqB_ready H.1 j (ready_mono hj hji)) (by omega)
  | succ f ih =>
    intro listed a w inv hul hfree hr hy hS H;refine ⟨fun h0=>by rw [h0] at hr;exact absurd hr (by simp),fun j hj=>?_⟩;have hun:=(mem_ready.1 hr).1;have hjn:j<n:=Nat.lt_of_not_le fun hle=>tail_waits ok.sink ok.chain ok.lt inv _ i rfl hin hun j hle hj;by_cases hji:j=i
    · subst hji;exact ⟨hjn,hy.wpOp hi hS ⟨fun _=>hS,H⟩⟩
    · have h1:=(H.2 j (ready_mono hj hji)).2;obtain ⟨hjun,oj,hoj,hall⟩:=mem_ready.1 hj
      have hnot:∀ e∈oj.after,Region.binds md e=true->e.on≠i:=fun e he hb heq=>by
        have h1:=hall e he hb;rw [heq,getD_both hun] at h1;cases h1
      have hju:j≠u:=fun e=>by
        obtain ⟨ou,hou,e1,he1,hb1,hon1⟩:=hd;subst e;rw [hoj] at hou;cases hou;exact hnot e1 he1 hb1 hon1
      have gj:(listed.setIfInBounds j true).getD u true=false:=by rw [getD_set_ne true hju];exact hul
      have h2:=wpOp_putIf hoj (hfree j oj hoj hji hjun hnot) (fun cs b=>hsel i oi cs b hi) (fun cs b=>hsel j oj cs b hoj) hQ hy h1;have gij:((listed.setIfInBounds i true).setIfInBounds j true).getD u true=(listed.setIfInBounds j true).getD u true:=by rw [Array.setIfInBounds_comm _ _ (Ne.symm hji),gi]
      have cont:∀ a' w',(YieldsIf P ops S oi v a'/\((((listed.setIfInBounds i true).setIfInBounds j true).getD u true=false->S w')/\HeadU P md ops S Q n g u tail f ((listed.setIfInBounds i true).setIfInBounds j true) (a'.put oi.dst v) w'))->(((listed.setIfInBounds j true).getD u true=false->S w')/\HeadU P md ops S Q n g u tail (f+1) (listed.setIfInBounds j true) a' w'):=by
        intro a' w' h3;have hS':(listed.setIfInBounds j true).getD u true=false->S w':=fun h=>h3.2.1 (by rw [gij];exact h);refine ⟨hS',ih (listed.setIfInBounds j true) a' w' (inv.set hj hjn) gj (fun k ok' hk hki hku hno=>?_) (ready_mono hr (Ne.symm hji)) h3.1 (hS' gj) ?_⟩
        · refine hfree k ok' hk hki ?_ hno;by_cases hjk:j=k
          · subst hjk;exact hjun
          · rw [getD_set_ne true hjk] at hku;exact hku
        · rw [Array.setIfInBounds_comm _ _ hji];exact h3.2.2
      exact ⟨hjn,wpOp_mono cont h2⟩
theorem headU_pure (ok:PhaseOK md ops n) {i:Nat} {oi:Oper} {v:Value} (hi:ops[i]?=some oi) (hin:i<n) (hui:u≠i) (hQ:∀ c a w,Q (.panic c) (a.put oi.dst v) w->Q (.panic c) a w) :
    ∀ (f:Nat) (listed:Array Bool) (a:Act) (w:World),HeadInv md ops n listed ->
      (∀ j oj,ops[j]?=some oj->j≠i->listed.getD j true=false->(∀ e∈oj.after,Region.binds md e=true->e.on≠i)->oi.apart ops oj=true) ->
      i∈Region.ready md ops listed->YieldsIf P ops (fun _=>True) oi v a->(listed.getD u true=false->S w)->HeadU P md ops S Q n g u tail f (listed.setIfInBounds i true) (a.put oi.dst v) w->HeadU P md ops S Q n g u tail (f+1) listed a w:=by
  have hsel:=Region.noSelect_spec ok.sel;have gi:∀ listed:Array Bool,(listed.setIfInBounds i true).getD u true=listed.getD u true:=fun listed=>getD_set_ne true (Ne.symm hui);intro f
  induction f with
  | zero =>
    intro listed a w inv _ hr hy hS H;refine ⟨fun h0=>by rw [h0] at hr;exact absurd hr (by simp),fun j hj=>?_⟩;have hjn:j<n:=Nat.lt_of_not_le fun hle=>tail_waits ok.sink ok.chain ok.lt inv _ i rfl hin (mem_ready.1 hr).1 j hle hj;by_cases hji:j=i
    · subst hji;exact ⟨hjn,hy.wpOp hi trivial ⟨fun h=>hS (by rw [<- gi];exact h),H⟩⟩
    · exact absurd (seqB_ready H.1 j (ready_mono hj hji)) (by omega)
  | succ f ih =>
    intro listed a w inv hfree hr hy hS H;refine ⟨fun h0=>by rw [h0] at hr;exact absurd hr (by simp),fun j hj=>?_⟩;have hun:=(mem_ready.1 hr).1;have hjn:j<n:=Nat.lt_of_not_le fun hle=>tail_waits ok.sink ok.chain ok.lt inv _ i rfl hin hun j hle hj;by_cases hji:j=i
    · subst hji;exact ⟨hjn,hy.wpOp hi trivial ⟨fun h=>hS (by rw [<- gi];exact h),H⟩⟩
    · have h1:=(H.2 j (ready_mono hj hji)).2;obtain ⟨hjun,oj,hoj,hall⟩:=mem_ready.1 hj
      have hnot:∀ e∈oj.after,Region.binds md e=true->e.on≠i:=fun e he hb heq=>by
        have h1:=hall e he hb;rw [heq,getD_both hun] at h1;cases h1
      have h2:=wpOp_putIf hoj (hfree j oj hoj hji hjun hnot) (fun cs b=>hsel i oi cs b hi) (fun cs b=>hsel j oj cs b hoj) hQ hy h1;have gij:((listed.setIfInBounds i true).setIfInBounds j true).getD u true=(listed.setIfInBounds j true).getD u true:=by rw [Array.setIfInBounds_comm _ _ (Ne.symm hji),gi]
      have cont:∀ a' w',(YieldsIf P ops (fun _=>True) oi v a'/\((((listed.setIfInBounds i true).setIfInBounds j true).getD u true=false->S w')/\HeadU P md ops S Q n g u tail f ((listed.setIfInBounds i true).setIfInBounds j true) (a'.put oi.dst v) w'))->(((listed.setIfInBounds j true).getD u true=false->S w')/\HeadU P md ops S Q n g u tail (f+1) (listed.setIfInBounds j true) a' w'):=by
        intro a' w' h3;have hS':(listed.setIfInBounds j true).getD u true=false->S w':=fun h=>h3.2.1 (by rw [gij];exact h);refine ⟨hS',ih (listed.setIfInBounds j true) a' w' (inv.set hj hjn) (fun k ok' hk hki hku hno=>?_) (ready_mono hr (Ne.symm hji)) h3.1 hS' ?_⟩
        · refine hfree k ok' hk hki ?_ hno;by_cases hjk:j=k
          · subst hjk;exact hjun
          · rw [getD_set_ne true hjk] at hku;exact hku
        · rw [Array.setIfInBounds_comm _ _ hji];exact h3.2.2
      exact ⟨hjn,wpOp_mono cont h2⟩
def HU (P:Program) (md:Region.Mode) (ops:Array Oper) (S:World->Prop) (Q:Exit->Act->World->Prop) (n g u:Nat) (tail:List Oper) (f:Nat) (listed:Array Bool) (a:Act) (w:World):Prop :=
  HeadInv md ops n listed->HeadU P md ops S Q n g u tail f listed a w
variable {f:Nat} {listed:Array Bool} {a:Act} {w:World}
theorem hu_take (ok:PhaseOK md ops n) {i:Nat} {oi:Oper} (v:Value) (hi:ops[i]?=some oi) (hin:i<n) (hui:u≠i) {ou:Oper} (hou:ops[u]?=some ou) (hd:(ou.after.any fun e=>Region.binds md e && e.on == i)=true) (hul:listed.getD u true=false) (hf:Region.free md ops listed i=true) (hr:(Region.ready md ops listed).contains i=true)
    (hQ:∀ c a w,Q (.panic c) (a.put oi.dst v) w->Q (.panic c) a w) (hy:YieldsIf P ops S oi v a) (hS:S w) (h:HU P md ops S Q n g u tail f (listed.setIfInBounds i true) (a.put oi.dst v) w):HU P md ops S Q n g u tail (f+1) listed a w:=fun inv =>
  have hr':i∈Region.ready md ops listed:=by simpa using hr
  have hd':∃ ou,ops[u]?=some ou/\∃ e∈ou.after,Region.binds md e=true/\e.on=i:=by
    obtain ⟨e,he,hb⟩:=Array.any_eq_true'.1 hd;simp only [Bool.and_eq_true,beq_iff_eq] at hb;exact ⟨ou,hou,e,he,hb.1,hb.2⟩
  headU_first ok hi hin hui hd' hQ f listed a w inv hul (Region.free_spec hi hf) hr' hy hS (h (inv.set hr' hin))
theorem hu_pure (ok:PhaseOK md ops n) {i:Nat} {oi:Oper} (v:Value) (hi:ops[i]?=some oi) (hin:i<n) (hui:u≠i) (hf:Region.free md ops listed i=true) (hr:(Region.ready md ops listed).contains i=true)
    (hQ:∀ c a w,Q (.panic c) (a.put oi.dst v) w->Q (.panic c) a w) (hy:YieldsIf P ops (fun _=>True) oi v a) (hS:S w) (h:HU P md ops S Q n g u tail f (listed.setIfInBounds i true) (a.put oi.dst v) w):HU P md ops S Q n g u tail (f+1) listed a w:=fun inv =>
  have hr':i∈Region.ready md ops listed:=by simpa using hr
  headU_pure ok hi hin hui hQ f listed a w inv (Region.free_spec hi hf) hr' hy (fun _=>hS) (h (inv.set hr' hin))
theorem hu_one {i:Nat} {oi:Oper} (hi:ops[i]?=some oi) (hin:i<n) (hr:Region.ready md ops listed=[i])
    (h:∀ K:Act->World->Prop,(∀ a' w',S w'->HU P md ops S Q n g u tail f (listed.setIfInBounds i true) a' w'->K a' w')->if Region.wanted oi (yielded ops a.tmps)=true then Oper.wp P oi a w K Q else K (a.put oi.dst undef) w):HU P md ops S Q n g u tail (f+1) listed a w:=fun inv=>by
  refine ⟨by rw [hr];simp,fun j hj=>?_⟩;have hj':=hj;rw [hr] at hj;obtain rfl:j=i:=by simpa using hj
  refine ⟨hin,?_⟩;have:=h (fun a' w'=>((listed.setIfInBounds j true).getD u true=false->S w')/\HeadU P md ops S Q n g u tail f (listed.setIfInBounds j true) a' w') (fun a' w' hS hh=>⟨fun _=>hS,hh (inv.set hj' hin)⟩);unfold wpOp;simp only [hi];split at this
  · rename_i hw;simp only [hw,if_true];exact .inl this
  · rename_i hw;simp only [hw];exact this
theorem hu_last {oi:Oper} (hi:ops[u]?=some oi) (hin:u<n) (hr:Region.ready md ops listed=[u]) (hl:u<listed.size)
    (h:∀ K:Act->World->Prop,(∀ a' w',HU P md ops S Q n g u tail f (listed.setIfInBounds u true) a' w'->K a' w')->if Region.wanted oi (yielded ops a.tmps)=true then Oper.wp P oi a w K Q else K (a.put oi.dst undef) w):HU P md ops S Q n g u tail (f+1) listed a w:=fun inv=>by
  refine ⟨by rw [hr];simp,fun j hj=>?_⟩;have hj':=hj;rw [hr] at hj;obtain rfl:j=u:=by simpa using hj
  refine ⟨hin,?_⟩;have gu:(listed.setIfInBounds j true).getD j true=true:=by simp [Array.getD]
  have:=h (fun a' w'=>((listed.setIfInBounds j true).getD j true=false->S w')/\HeadU P md ops S Q n g j tail f (listed.setIfInBounds j true) a' w') (fun a' w' hh=>⟨fun e=>(by rw [gu] at e;cases e),hh (inv.set hj' hin)⟩);unfold wpOp;simp only [hi];split at this
  · rename_i hw;simp only [hw,if_true];exact .inl this
  · rename_i hw;simp only [hw];exact this
theorem hu_done (hB:Region.seqB md ops g n listed=true) (h:wpList P ops Q tail a w):HU P md ops S Q n g u tail 0 listed a w:=fun _=>⟨hB,h⟩
theorem wp_region_phase_u {id:Nat} {l:List Oper} (n u:Nat) (S:World->Prop) (hm:P.follows .mixedOrders=true) (hsel:Region.noSelect l.toArray=true) (hs:Region.sinkB .any l.toArray n=true) (hc:Region.chainB .any l.toArray n=true) (hn:decide (n<l.toArray.size)=true)
    (h:PhaseOK .any l.toArray n->HU P .any l.toArray S Q n (l.drop n).length u (l.drop n) n (Array.replicate l.toArray.size false) a w.drew):(Code.region id l.toArray true).wp P Q a w:=by
  have hn:=of_decide_eq_true hn;refine wp_region_any hm ?_
  have inv0:HeadInv .any l.toArray n (Array.replicate l.toArray.size false) :=
    ⟨by simp,fun j oj _ hl=>(by rw [getD_replicate_false] at hl;cases hl),fun t _ ht=>getD_in (by simpa using ht) (getD_replicate_false _ _)⟩
  have H:=headU_any (P:=P) (S:=S) (Q:=Q) (md := .any) (ops:=l.toArray) (n:=n) (u:=u) (tail:=l.drop n) rfl (fun j=>by simp [List.getElem?_drop]) n _ a _ (h ⟨hsel,hs,hc,hn⟩ inv0)
  have e:n+(l.drop n).length=l.toArray.size:=by
    have:n<l.length:=by simpa using hn
    simp;omega
  rw [e] at H;exact H
end
end Go.Proofs.YtdipoojjlddohaaGreat
