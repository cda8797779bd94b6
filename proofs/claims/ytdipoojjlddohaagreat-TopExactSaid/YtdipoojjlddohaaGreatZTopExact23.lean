/- What the law TopExact needs, joined of its texts by a program (slim2.py); part 23. -/
import Derived.Test.YtdipoojjlddohaaGreatZTopExact1
import Derived.Test.YtdipoojjlddohaaGreatZTopExact2
import Derived.Test.YtdipoojjlddohaaGreatZTopExact12
import Derived.Test.YtdipoojjlddohaaGreatZTopExact14
import Derived.Test.YtdipoojjlddohaaGreatZTopExact17
import Derived.Test.YtdipoojjlddohaaGreatZTopExact18
import Derived.Test.YtdipoojjlddohaaGreatZTopExact20
import Derived.Test.YtdipoojjlddohaaGreatZTopExact22
set_option linter.unusedVariables false
set_option linter.unusedSimpArgs false
set_option linter.unusedSectionVars false
set_option linter.unnecessarySimpa false
section
/- Synopses of extremes, with what they know of the stream. -/
namespace Go.Proofs.YtdipoojjlddohaaGreat
open Go.RowKit
def exArg (wd cap:Int):Prop:=1≤wd∧wd≤cap∧cap≤65536
def ExI (g:Bool) (wd cap:Int) (ad:List Itm) (now:Int) (A:Option Addr) (m c:Nat) (w:World):Prop:=∃ l,DIn A m c l w∧(DQ g ad now wd l∧exArg wd cap∧0≤now∧now≤16777216)
theorem exI_ok (g:Bool) (wd cap:Int) (ad:List Itm) (now:Int):InOK (ExI g wd cap ad now):=inOK_it _
theorem exArg.val {g:Bool} {wd cap now:Int} {ad l:List Itm} (h:DQ g ad now wd l∧exArg wd cap∧0≤now∧now≤16777216):DqS g wd cap now l:=by
  obtain ⟨h1,⟨a,b,c⟩,d,e⟩:=h
  exact h1.valid ⟨a,by omega,by omega,c,d,e⟩ b
theorem ex_cfg {wd cap mx:Int} (h:exArg wd cap) (m0:0≤mx) (m1:mx≤1) (w:World):Calls Tryz.prog 108 #[.agg #[.int .i64 8, .int .i64 0, .int .i64 wd, .int .i64 0, .int .i64 cap, .int .i64 0, .int .i64 0, .int .i64 mx]] w fun e w'=>e = .returned (.int .i64 0)∧Below w.heap.size w w':=by
  obtain ⟨a,b,c⟩:=h
  exact pcfgExtreme cap mx wd w (by omega) c m0 m1 a (by omega)
theorem kExtreme {g:Bool} {wd cap mx:Int} {N:Nat} (h:exArg wd cap) (m0:0≤mx) (m1:mx≤1) (eM:(mx == 1)=g):KindOK #[.int .i64 8, .int .i64 0, .int .i64 wd, .int .i64 0, .int .i64 cap, .int .i64 0, .int .i64 0, .int .i64 mx] (ExI g wd cap) (fun ad now A m c=>#[.int .i64 8, .int .i64 0, .int .i64 wd, .int .i64 0, .int .i64 cap, .int .i64 0, .int .i64 0, .int .i64 mx, .int .i64 0, .int .i64 0, .int .i64 0, .slice none 0 0, .int .i64 0, .int .i64 0, .int .i64 0, .int .i64 0, .slice none 0 0, .int .i64 0, .int .i64 0, .int .i64 0, .int .i64 0, .int .i64 0, .slice none 0 0, .int .i64 0, .int .i64 0, .int .i64 0, .int .i64 0, .int .i64 0, .int .i64 0, .slice none 0 0, .int .i64 0, .int .i64 0, .int .i64 0, .int .i64 0, .int .i64 0, .slice none 0 0, .int .i64 0, .int .i64 0, .int .i64 0, .slice none 0 0, .int .i64 0, .slice none 0 0, .bool g, .int .i64 wd, .int .i64 cap, .int .i64 now, .slice A m c, .slice none 0 0, .int .i64 0, .int .i64 0, .int .i64 0, .slice none 0 0, .int .i64 0, .int .i64 0, .int .i64 0, .int .i64 0, .slice none 0 0]) (fun v => -4096≤v∧v≤4096) N where
  inok:=fun ad now=>exI_ok g wd cap ad now
  size:=fun _ _ _ _ _=>rfl
  one:=fun _ _ _ _ _=>all_one rfl
  new:=fun w=>by
    have hg:1≤wd∧wd≤1048576∧1≤cap∧cap≤65536∧(0:Int)≤0∧(0:Int)≤16777216:=by unfold exArg at h;omega
    refine pyNewExtreme g wd cap mx 0 w (ExI g wd cap [] 0) (exI_ok g wd cap [] 0) (by omega) (by omega) eM (Lib.hid (ex_cfg h m0 m1)) (Lib.hid (fun w'=>(pexnew g wd cap 0 w' hg).mono fun e w'' ⟨he,hb⟩=>?_))
    exact ⟨none,0,0,he,⟨[],DIn.nil,DQ.nil g 0 wd,h,by omega,by omega⟩,hb,fun _ a e=>by cases e⟩
  adv:=fun ad now tt A m c w hi h1 h2=>by
    obtain ⟨l,hin,hp⟩:=hi
    have hv:=exArg.val hp
    refine pyAdvanceExtreme A m c g wd cap mx now tt w (ExI g wd cap ad tt) (exI_ok g wd cap ad tt) _ (fun b hb=>?_) (Lib.hid (fun w' hb=>pexval A m c l g wd cap now w' (hin.below hb) hv)) (Lib.hid (ex_cfg h m0 m1)) eM (Lib.hid (fun w' hb=>(pexadv A m c l g wd cap now tt w' (hin.below hb) hv h1 h2).mono fun e w'' hq=>?_))
    · obtain ⟨hm,a,e,rfl⟩:=hb
      exact reads_blk hin.reads hm a e
    · obtain ⟨A',m',c',l',he,hin',⟨j,rfl,hj,hl⟩,hb',hf⟩:=hq
      exact ⟨A',m',c',he,⟨_,hin',hp.1.tick h1 j hj hl,h,by have:=hp.2.2.1;omega,h2⟩,hb',fun _ a e => .inl (hf a e)⟩
  add:=fun ad now v A m c w hi hn hv0=>by
    obtain ⟨l,hin,hp⟩:=hi
    have hv:=exArg.val hp
    refine pyAddExtreme A m c g wd cap mx now v w (ExI g wd cap (ad ++ [(⟨now,v⟩:Itm)]) now) (exI_ok g wd cap _ now) _ (fun b hb=>?_) (Lib.hid (fun w' hb=>pexval A m c l g wd cap now w' (hin.below hb) hv)) (Lib.hid (ex_cfg h m0 m1)) eM (Lib.hid (fun w' hb=>(pexadd A m c l g wd cap now v w' (hin.below hb) hv hv0.1 hv0.2 h.2.1).mono fun e w'' hq=>?_))
    · obtain ⟨hm,a,e,rfl⟩:=hb
      exact reads_blk hin.reads hm a e
    · obtain ⟨A',m',c',l',he,hin',⟨j,hj,hl,hc⟩,hb',hf⟩:=hq
      have hA:=hp.1.add hp.2.2.1 h.1 hv0 j hj hl
      refine ⟨A',m',c',he,⟨l',hin',?_,h,hp.2.2⟩,hb',fun _ a e => .inl (hf a e)⟩
      rcases hc with ⟨h1,rfl⟩ | ⟨h1,rfl⟩
      · exact hA.1 h1
      · exact hA.2 h1
def ExA (g:Bool) (wd now:Int) (ad:List Itm) (w:World) (e:Ending) (w':World):Prop :=
  ((∃ (q:Nat) (y:Itm),e = .returned (.tuple #[.agg #[.int .i64 0, .int .i64 0, .int .i64 0, .int .i64 0, .int .i64 0, .int .i64 0, .slice (some ⟨q,0,none⟩) 1 1, .int .u64 0, .int .u64 0, .int .u64 0, .int .u64 0], .int .i64 0])∧Row w' q 2 #[.int .i64 y.v]∧(y∈liveI now wd ad∧∀ x∈liveI now wd ad,exKey g x.v≤exKey g y.v))∨e = .returned (.tuple #[.agg #[.int .i64 0, .int .i64 0, .int .i64 0, .int .i64 0, .int .i64 0, .int .i64 0, .slice none 0 0, .int .u64 0, .int .u64 0, .int .u64 0, .int .u64 0], .int .i64 7])∧liveI now wd ad=[])∧Below w.heap.size w w'
theorem txAsk {A:Option Addr} {m c:Nat} {g:Bool} {wd cap mx now:Int} {ad:List Itm} {w:World} (h:ExI g wd cap ad now A m c w) (m0:0≤mx) (m1:mx≤1) (eM:(mx == 1)=g) (qa qb:Int):Calls Tryz.prog 12 #[.agg #[.int .i64 8, .int .i64 0, .int .i64 wd, .int .i64 0, .int .i64 cap, .int .i64 0, .int .i64 0, .int .i64 mx, .int .i64 0, .int .i64 0, .int .i64 0, .slice none 0 0, .int .i64 0, .int .i64 0, .int .i64 0, .int .i64 0, .slice none 0 0, .int .i64 0, .int .i64 0, .int .i64 0, .int .i64 0, .int .i64 0, .slice none 0 0, .int .i64 0, .int .i64 0, .int .i64 0, .int .i64 0, .int .i64 0, .int .i64 0, .slice none 0 0, .int .i64 0, .int .i64 0, .int .i64 0, .int .i64 0, .int .i64 0, .slice none 0 0, .int .i64 0, .int .i64 0, .int .i64 0, .slice none 0 0, .int .i64 0, .slice none 0 0, .bool g, .int .i64 wd, .int .i64 cap, .int .i64 now, .slice A m c, .slice none 0 0, .int .i64 0, .int .i64 0, .int .i64 0, .slice none 0 0, .int .i64 0, .int .i64 0, .int .i64 0, .int .i64 0, .slice none 0 0], .agg #[.int .i64 6, .int .i64 qa, .int .i64 qb]] w (ExA g wd now ad w):=by
  obtain ⟨l,hin,hp⟩:=h
  have hv:=exArg.val hp
  have hc:=hp.2.1
  have HC:=Lib.hid (ex_cfg (mx:=mx) hc m0 m1)
  have HV:RowKit.Hid (∀ w',Below w.heap.size w w'→Calls Tryz.prog 144 #[.agg #[.bool g, .int .i64 wd, .int .i64 cap, .int .i64 now, .slice A m c]] w' fun e w''=>e = .returned (.int .i64 0)∧Below w'.heap.size w' w''):=Lib.hid (fun w' hb=>pexval A m c l g wd cap now w' (hin.below hb) hv)
  have hl:=hin.len
  by_cases h0:m=0
  · have he:l=[]:=by simpa [h0] using hl
    refine (pyAskExtreme_nil A m c g wd cap mx now qa qb w HV HC eM (Lib.hid (fun w'=>pansExtreme wd cap mx w' HC)) (Lib.hid (fun w' hb=>pexask_nil A m c l g wd cap now w' (hin.below hb) hv h0))).mono fun e w' ⟨he',hb⟩=>?_
    subst he
    exact ⟨.inr ⟨he',hp.1.none⟩,hb⟩
  · obtain ⟨y,r,rfl⟩:∃ y r,l=y :: r:=by
      cases l with
      | nil=>simp at hl;omega
      | cons y r=>exact ⟨y,r,rfl⟩
    refine (pyAskExtreme_one A m c g wd cap mx now qa qb y.v w HV HC eM (Lib.hid (fun w'=>pansExtreme wd cap mx w' HC)) (Lib.hid (fun w' hb=>pexask_one A m c (y :: r) g wd cap now w' (hin.below hb) hv (by omega)))).mono fun e w' ⟨q,he',hR,_,hb⟩=>?_
    exact ⟨.inl ⟨q,y,he',hR,hp.1.ask⟩,hb⟩
end Go.Proofs.YtdipoojjlddohaaGreat
end
section
/- The least and the greatest value of items, walked. -/
namespace Go.Proofs.YtdipoojjlddohaaGreat
open Go.RowKit
def exFold (g:Bool) (l:List Itm) (k:Nat):Int:=(l.take k).foldl (fun a x=>if g then max a x.v else min a x.v) (itmAt l 0).v
theorem exFold_step {g:Bool} {l:List Itm} {k:Nat} (h:k<l.length):exFold g l (k+1)=if g then max (exFold g l k) (itmAt l k).v else min (exFold g l k) (itmAt l k).v:=by
  unfold exFold
  rw [List.take_succ_eq_append_getElem h,itm_eq h,List.foldl_append]
  rfl
theorem exFold_is {g:Bool} {l:List Itm}:∀ k,k≤l.length→0<l.length→(∃ x∈l,x.v=exFold g l k)∧(∀ i,i<k→exKey g (itmAt l i).v≤exKey g (exFold g l k))
  | 0,_,h=>⟨⟨itmAt l 0,by rw [← itm_eq h];exact List.getElem_mem _,rfl⟩,fun i hi=>by omega⟩
  | k+1,hk,h=>by
    obtain ⟨⟨x,hx,e⟩,h2⟩:=exFold_is (g:=g) k (by omega) h
    have hm:itmAt l k∈l:=by rw [← itm_eq (show k<l.length by omega)];exact List.getElem_mem _
    rw [exFold_step (by omega)]
    cases g
    · simp only [Bool.false_eq_true,if_false,exKey] at h2 ⊢
      refine ⟨?_,fun i hi=>?_⟩
      · rcases Int.le_total (exFold false l k) (itmAt l k).v with c | c
        · exact ⟨x,hx,by omega⟩
        · exact ⟨_,hm,by omega⟩
      · by_cases e2:i=k
        · rw [e2];omega
        · have:=h2 i (by omega);omega
    · simp only [if_true,exKey] at h2 ⊢
      refine ⟨?_,fun i hi=>?_⟩
      · rcases Int.le_total (exFold true l k) (itmAt l k).v with c | c
        · exact ⟨_,hm,by omega⟩
        · exact ⟨x,hx,by omega⟩
      · by_cases e2:i=k
        · rw [e2];omega
        · have:=h2 i (by omega);omega
theorem exFold_eq {g:Bool} {l:List Itm} {y:Itm} (hy:y∈l) (h:∀ x∈l,exKey g x.v≤exKey g y.v):exFold g l l.length=y.v:=by
  have hl:0<l.length:=List.length_pos_of_mem hy
  obtain ⟨⟨x,hx,e⟩,h2⟩:=exFold_is (g:=g) l.length (Nat.le_refl _) hl
  obtain ⟨i,hi,rfl⟩:=List.mem_iff_getElem.1 hy
  have h3:=h2 i hi
  rw [itm_eq hi] at h ⊢
  have h4:=h x hx
  rw [e] at h4
  unfold exKey at h3 h4
  cases g<;>simp at h3 h4<;>omega
set_option maxRecDepth 100000 in
set_option maxHeartbeats 2000000 in
theorem pleastE0 (A:Option Addr) (c:Nat) (w:World):Calls Tryz.prog 22 #[.slice A 0 c] w fun e w'=>e = .returned (.tuple #[.int .i64 0, .bool false])∧Below w.heap.size w w':=by
  go_enter Tryz.func22,Tryz.ntmps22
  go_wp2
  exact bodyPost_ret (v := .tuple #[.int .i64 0, .bool false]) (by simp [results,Tryz.results22,go_sem]) rfl ⟨rfl,Below.refl _ _⟩
set_option maxRecDepth 100000 in
set_option maxHeartbeats 2000000 in
theorem pleastE (A:Option Addr) (m c:Nat) (l:List Itm) (w:World) (hr:Reads w w.heap.size 2 A m (icells l)) (h0:0<m) (hmB:m≤1000000):Calls Tryz.prog 22 #[.slice A m c] w fun e w'=>e = .returned (.tuple #[.int .i64 (exFold false l l.length), .bool true])∧Below w.heap.size w w':=by
  have HL:=Lib.hid hr.itm_len
  have HR:=Lib.hid hr
  obtain ⟨ad,rfl,hadb,hi0⟩:=hr.itm (i:=0) h0
  have hi0:ItmCells w ad (itmAt l 0):=hi0
  obtain ⟨c0,c1⟩:=hi0
  have hz:exFold false l 0=(itmAt l 0).v:=rfl
  rw [← hz] at c1
  clear hz hr
  have e0:((m:Int) == 0)=false:=by simp;omega
  have e1:(0:Int)<(m:Int):=by omega
  go_enter Tryz.func22,Tryz.ntmps22
  go_wp2
  clear c0 c1 e0 e1
  go_loopw [4,16] (fun u i wr=>∃ k:Nat,k≤m∧i = .int .i64 (k:Nat)∧u = .int .i64 (exFold false l k)∧Below w.heap.size w wr) (fun _ i _=>m-(intOf i).toNat)
  case atStart=>exact ⟨0,by omega,rfl,rfl,Below.refl _ _⟩
  case round =>
    obtain ⟨k,hk,rfl,rfl,o⟩:=hrel
    by_cases hlt:k<m
    · obtain ⟨ad',ea,hadb',ht0⟩:=HR.out.itm hlt
      obtain rfl:ad=ad':=by injection ea
      obtain ⟨g0,g1⟩:=ht0.below o (by rw [block_of_add];exact hadb')
      have hst:=exFold_step (g:=false) (show k<l.length by rw [HL.out];exact hlt)
      simp only [Bool.false_eq_true,if_false,if_true] at hst
      generalize hx0:exFold false l k=x0 at hst
      generalize (itmAt l k).v=vk at g1 hst
      generalize (itmAt l k).t=tk at g0
      replace hst:=Lib.hid hst
      have i1:(k:Int)<(m:Int):=by omega
      have i2:(0:Int)≤(k:Int):=by omega
      clear ht0 hx0 ea
      go_upto_region 7 with (fail)
      have ti:Row (wr.alloc (.cells #[.int .i64 tk, .int .i64 vk] 90)) wr.heap.size 90 #[.int .i64 tk, .int .i64 vk]:=row_new rfl
      replace o:=o.alloc o.size (.cells #[.int .i64 tk, .int .i64 vk] 90)
      clear g0 g1
      generalize wr.alloc (.cells #[.int .i64 tk, .int .i64 vk] 90)=wq at ti o ⊢
      generalize wr.heap.size=tb at ti ⊢
      obtain ⟨I0,I1,If0,If1⟩:=row_two ti
      go_wp2
      go_roundw
      case rel=>exact ⟨k+1,by omega,by go_num,(by rw [hst.out]),o⟩
      case measure=>simp [intOf];omega
    · have i1:¬ (k:Int)<(m:Int):=by omega
      obtain rfl:k=l.length:=by have:=HL.out;omega
      go_wp2
      exact bodyPost_ret (v := .tuple #[.int .i64 (exFold false l l.length), .bool true]) (by simp [results,Tryz.results22,go_sem]) rfl ⟨rfl,o⟩
set_option maxRecDepth 100000 in
set_option maxHeartbeats 2000000 in
theorem pgreatE0 (A:Option Addr) (c:Nat) (w:World):Calls Tryz.prog 24 #[.slice A 0 c] w fun e w'=>e = .returned (.tuple #[.int .i64 0, .bool false])∧Below w.heap.size w w':=by
  go_enter Tryz.func24,Tryz.ntmps24
  go_wp2
  exact bodyPost_ret (v := .tuple #[.int .i64 0, .bool false]) (by simp [results,Tryz.results24,go_sem]) rfl ⟨rfl,Below.refl _ _⟩
set_option maxRecDepth 100000 in
set_option maxHeartbeats 2000000 in
theorem pgreatE (A:Option Addr) (m c:Nat) (l:List Itm) (w:World) (hr:Reads w w.heap.size 2 A m (icells l)) (h0:0<m) (hmB:m≤1000000):Calls Tryz.prog 24 #[.slice A m c] w fun e w'=>e = .returned (.tuple #[.int .i64 (exFold true l l.length), .bool true])∧Below w.heap.size w w':=by
  have HL:=Lib.hid hr.itm_len
  have HR:=Lib.hid hr
  obtain ⟨ad,rfl,hadb,hi0⟩:=hr.itm (i:=0) h0
  have hi0:ItmCells w ad (itmAt l 0):=hi0
  obtain ⟨c0,c1⟩:=hi0
  have hz:exFold true l 0=(itmAt l 0).v:=rfl
  rw [← hz] at c1
  clear hz hr
  have e0:((m:Int) == 0)=false:=by simp;omega
  have e1:(0:Int)<(m:Int):=by omega
  go_enter Tryz.func24,Tryz.ntmps24
  go_wp2
  clear c0 c1 e0 e1
  go_loopw [4,16] (fun u i wr=>∃ k:Nat,k≤m∧i = .int .i64 (k:Nat)∧u = .int .i64 (exFold true l k)∧Below w.heap.size w wr) (fun _ i _=>m-(intOf i).toNat)
  case atStart=>exact ⟨0,by omega,rfl,rfl,Below.refl _ _⟩
  case round =>
    obtain ⟨k,hk,rfl,rfl,o⟩:=hrel
    by_cases hlt:k<m
    · obtain ⟨ad',ea,hadb',ht0⟩:=HR.out.itm hlt
      obtain rfl:ad=ad':=by injection ea
      obtain ⟨g0,g1⟩:=ht0.below o (by rw [block_of_add];exact hadb')
      have hst:=exFold_step (g:=true) (show k<l.length by rw [HL.out];exact hlt)
      simp only [Bool.false_eq_true,if_false,if_true] at hst
      generalize hx0:exFold true l k=x0 at hst
      generalize (itmAt l k).v=vk at g1 hst
      generalize (itmAt l k).t=tk at g0
      replace hst:=Lib.hid hst
      have i1:(k:Int)<(m:Int):=by omega
      have i2:(0:Int)≤(k:Int):=by omega
      clear ht0 hx0 ea
      go_upto_region 7 with (fail)
      have ti:Row (wr.alloc (.cells #[.int .i64 tk, .int .i64 vk] 90)) wr.heap.size 90 #[.int .i64 tk, .int .i64 vk]:=row_new rfl
      replace o:=o.alloc o.size (.cells #[.int .i64 tk, .int .i64 vk] 90)
      clear g0 g1
      generalize wr.alloc (.cells #[.int .i64 tk, .int .i64 vk] 90)=wq at ti o ⊢
      generalize wr.heap.size=tb at ti ⊢
      obtain ⟨I0,I1,If0,If1⟩:=row_two ti
      go_wp2
      go_roundw
      case rel=>exact ⟨k+1,by omega,by go_num,(by rw [hst.out]),o⟩
      case measure=>simp [intOf];omega
    · have i1:¬ (k:Int)<(m:Int):=by omega
      obtain rfl:k=l.length:=by have:=HL.out;omega
      go_wp2
      exact bodyPost_ret (v := .tuple #[.int .i64 (exFold true l l.length), .bool true]) (by simp [results,Tryz.results24,go_sem]) rfl ⟨rfl,o⟩
end Go.Proofs.YtdipoojjlddohaaGreat
end
section
/- The law of Phase with one operation (u) behind which the condition S need not hold: what stands behind it hangs on no load. -/
namespace Go.Proofs.YtdipoojjlddohaaGreat
open Go.RowKit
section
variable {P:Program} {ops:Array Oper} {md:Region.Mode} {S:World→Prop} {Q:Exit→Act→World→Prop} {n g u:Nat} {tail:List Oper}
def HeadU (P:Program) (md:Region.Mode) (ops:Array Oper) (S:World→Prop) (Q:Exit→Act→World→Prop) (n g u:Nat) (tail:List Oper):Nat→Array Bool→Act→World→Prop
  | 0,listed,a,w=>Region.seqB md ops g n listed=true∧wpList P ops Q tail a w
  | f+1,listed,a,w=>Region.ready md ops listed≠[]∧∀ i∈Region.ready md ops listed,i<n∧wpOp P ops Q i (fun a' w'=>((listed.setIfInBounds i true).getD u true=false→S w')∧HeadU P md ops S Q n g u tail f (listed.setIfInBounds i true) a' w') a w
theorem headU_any (hg:tail.length=g) (ht:∀ j,tail[j]?=ops[n+j]?):∀ (f:Nat) (listed:Array Bool) (a:Act) (w:World),HeadU P md ops S Q n g u tail f listed a w→wpAny P md ops Q (f+g) listed a w
  | 0,listed,a,w,h=>by
    rw [Nat.zero_add]
    subst hg
    exact wpAny_of_seq tail n listed a w ht h.1 h.2
  | f+1,listed,a,w,h=>by
    rw [show f+1+g=(f+g)+1 from by omega]
    exact ⟨fun h0=>absurd h0 h.1,fun i hi=>wpOp_mono (fun a' w' h'=>headU_any hg ht f _ a' w' h'.2) (h.2 i hi).2⟩
theorem headU_first (ok:PhaseOK md ops n) {i:Nat} {oi:Oper} {v:Value} (hi:ops[i]?=some oi) (hin:i<n) (hui:u≠i) (hd:∃ ou,ops[u]?=some ou∧∃ e∈ou.after,Region.binds md e=true∧e.on=i) (hQ:∀ c a w,Q (.panic c) (a.put oi.dst v) w→Q (.panic c) a w) :
    ∀ (f:Nat) (listed:Array Bool) (a:Act) (w:World),HeadInv md ops n listed→listed.getD u true=false →
      (∀ j oj,ops[j]?=some oj→j≠i→listed.getD j true=false→(∀ e∈oj.after,Region.binds md e=true→e.on≠i)→oi.apart ops oj=true) →
      i∈Region.ready md ops listed→YieldsIf P ops S oi v a→S w→HeadU P md ops S Q n g u tail f (listed.setIfInBounds i true) (a.put oi.dst v) w→HeadU P md ops S Q n g u tail (f+1) listed a w:=by
  have hsel:=Region.noSelect_spec ok.sel
  have gi:∀ listed:Array Bool,(listed.setIfInBounds i true).getD u true=listed.getD u true:=fun listed=>getD_set_ne true (Ne.symm hui)
  intro f
  induction f with
  | zero =>
    intro listed a w inv hul _ hr hy hS H
    refine ⟨fun h0=>by rw [h0] at hr;exact absurd hr (by simp),fun j hj=>?_⟩
    have hjn:j<n:=Nat.lt_of_not_le fun hle=>tail_waits ok.sink ok.chain ok.lt inv _ i rfl hin (mem_ready.1 hr).1 j hle hj
    by_cases hji:j=i
    · subst hji
      exact ⟨hjn,hy.wpOp hi hS ⟨fun _=>hS,H⟩⟩
    · exact absurd (seqB_ready H.1 j (ready_mono hj hji)) (by omega)
  | succ f ih =>
    intro listed a w inv hul hfree hr hy hS H
    refine ⟨fun h0=>by rw [h0] at hr;exact absurd hr (by simp),fun j hj=>?_⟩
    have hun:=(mem_ready.1 hr).1
    have hjn:j<n:=Nat.lt_of_not_le fun hle=>tail_waits ok.sink ok.chain ok.lt inv _ i rfl hin hun j hle hj
    by_cases hji:j=i
    · subst hji
      exact ⟨hjn,hy.wpOp hi hS ⟨fun _=>hS,H⟩⟩
    · have h1:=(H.2 j (ready_mono hj hji)).2
      obtain ⟨hjun,oj,hoj,hall⟩:=mem_ready.1 hj
      have hnot:∀ e∈oj.after,Region.binds md e=true→e.on≠i:=fun e he hb heq=>by
        have h1:=hall e he hb
        rw [heq,getD_both hun] at h1
        cases h1
      have hju:j≠u:=fun e=>by
        obtain ⟨ou,hou,e1,he1,hb1,hon1⟩:=hd
        subst e
        rw [hoj] at hou
        cases hou
        exact hnot e1 he1 hb1 hon1
      have gj:(listed.setIfInBounds j true).getD u true=false:=by rw [getD_set_ne true hju];exact hul
      have h2:=wpOp_putIf hoj (hfree j oj hoj hji hjun hnot) (fun cs b=>hsel i oi cs b hi) (fun cs b=>hsel j oj cs b hoj) hQ hy h1
      have gij:((listed.setIfInBounds i true).setIfInBounds j true).getD u true=(listed.setIfInBounds j true).getD u true:=by rw [Array.setIfInBounds_comm _ _ (Ne.symm hji),gi]
      have cont:∀ a' w',(YieldsIf P ops S oi v a'∧((((listed.setIfInBounds i true).setIfInBounds j true).getD u true=false→S w')∧HeadU P md ops S Q n g u tail f ((listed.setIfInBounds i true).setIfInBounds j true) (a'.put oi.dst v) w'))→(((listed.setIfInBounds j true).getD u true=false→S w')∧HeadU P md ops S Q n g u tail (f+1) (listed.setIfInBounds j true) a' w'):=by
        intro a' w' h3
        have hS':(listed.setIfInBounds j true).getD u true=false→S w':=fun h=>h3.2.1 (by rw [gij];exact h)
        refine ⟨hS',ih (listed.setIfInBounds j true) a' w' (inv.set hj hjn) gj (fun k ok' hk hki hku hno=>?_) (ready_mono hr (Ne.symm hji)) h3.1 (hS' gj) ?_⟩
        · refine hfree k ok' hk hki ?_ hno
          by_cases hjk:j=k
          · subst hjk
            exact hjun
          · rw [getD_set_ne true hjk] at hku
            exact hku
        · rw [Array.setIfInBounds_comm _ _ hji]
          exact h3.2.2
      exact ⟨hjn,wpOp_mono cont h2⟩
theorem headU_pure (ok:PhaseOK md ops n) {i:Nat} {oi:Oper} {v:Value} (hi:ops[i]?=some oi) (hin:i<n) (hui:u≠i) (hQ:∀ c a w,Q (.panic c) (a.put oi.dst v) w→Q (.panic c) a w) :
    ∀ (f:Nat) (listed:Array Bool) (a:Act) (w:World),HeadInv md ops n listed →
      (∀ j oj,ops[j]?=some oj→j≠i→listed.getD j true=false→(∀ e∈oj.after,Region.binds md e=true→e.on≠i)→oi.apart ops oj=true) →
      i∈Region.ready md ops listed→YieldsIf P ops (fun _=>True) oi v a→(listed.getD u true=false→S w)→HeadU P md ops S Q n g u tail f (listed.setIfInBounds i true) (a.put oi.dst v) w→HeadU P md ops S Q n g u tail (f+1) listed a w:=by
  have hsel:=Region.noSelect_spec ok.sel
  have gi:∀ listed:Array Bool,(listed.setIfInBounds i true).getD u true=listed.getD u true:=fun listed=>getD_set_ne true (Ne.symm hui)
  intro f
  induction f with
  | zero =>
    intro listed a w inv _ hr hy hS H
    refine ⟨fun h0=>by rw [h0] at hr;exact absurd hr (by simp),fun j hj=>?_⟩
    have hjn:j<n:=Nat.lt_of_not_le fun hle=>tail_waits ok.sink ok.chain ok.lt inv _ i rfl hin (mem_ready.1 hr).1 j hle hj
    by_cases hji:j=i
    · subst hji
      exact ⟨hjn,hy.wpOp hi trivial ⟨fun h=>hS (by rw [← gi];exact h),H⟩⟩
    · exact absurd (seqB_ready H.1 j (ready_mono hj hji)) (by omega)
  | succ f ih =>
    intro listed a w inv hfree hr hy hS H
    refine ⟨fun h0=>by rw [h0] at hr;exact absurd hr (by simp),fun j hj=>?_⟩
    have hun:=(mem_ready.1 hr).1
    have hjn:j<n:=Nat.lt_of_not_le fun hle=>tail_waits ok.sink ok.chain ok.lt inv _ i rfl hin hun j hle hj
    by_cases hji:j=i
    · subst hji
      exact ⟨hjn,hy.wpOp hi trivial ⟨fun h=>hS (by rw [← gi];exact h),H⟩⟩
    · have h1:=(H.2 j (ready_mono hj hji)).2
      obtain ⟨hjun,oj,hoj,hall⟩:=mem_ready.1 hj
      have hnot:∀ e∈oj.after,Region.binds md e=true→e.on≠i:=fun e he hb heq=>by
        have h1:=hall e he hb
        rw [heq,getD_both hun] at h1
        cases h1
      have h2:=wpOp_putIf hoj (hfree j oj hoj hji hjun hnot) (fun cs b=>hsel i oi cs b hi) (fun cs b=>hsel j oj cs b hoj) hQ hy h1
      have gij:((listed.setIfInBounds i true).setIfInBounds j true).getD u true=(listed.setIfInBounds j true).getD u true:=by rw [Array.setIfInBounds_comm _ _ (Ne.symm hji),gi]
      have cont:∀ a' w',(YieldsIf P ops (fun _=>True) oi v a'∧((((listed.setIfInBounds i true).setIfInBounds j true).getD u true=false→S w')∧HeadU P md ops S Q n g u tail f ((listed.setIfInBounds i true).setIfInBounds j true) (a'.put oi.dst v) w'))→(((listed.setIfInBounds j true).getD u true=false→S w')∧HeadU P md ops S Q n g u tail (f+1) (listed.setIfInBounds j true) a' w'):=by
        intro a' w' h3
        have hS':(listed.setIfInBounds j true).getD u true=false→S w':=fun h=>h3.2.1 (by rw [gij];exact h)
        refine ⟨hS',ih (listed.setIfInBounds j true) a' w' (inv.set hj hjn) (fun k ok' hk hki hku hno=>?_) (ready_mono hr (Ne.symm hji)) h3.1 hS' ?_⟩
        · refine hfree k ok' hk hki ?_ hno
          by_cases hjk:j=k
          · subst hjk
            exact hjun
          · rw [getD_set_ne true hjk] at hku
            exact hku
        · rw [Array.setIfInBounds_comm _ _ hji]
          exact h3.2.2
      exact ⟨hjn,wpOp_mono cont h2⟩
def HU (P:Program) (md:Region.Mode) (ops:Array Oper) (S:World→Prop) (Q:Exit→Act→World→Prop) (n g u:Nat) (tail:List Oper) (f:Nat) (listed:Array Bool) (a:Act) (w:World):Prop :=
  HeadInv md ops n listed→HeadU P md ops S Q n g u tail f listed a w
variable {f:Nat} {listed:Array Bool} {a:Act} {w:World}
theorem hu_take (ok:PhaseOK md ops n) {i:Nat} {oi:Oper} (v:Value) (hi:ops[i]?=some oi) (hin:i<n) (hui:u≠i) {ou:Oper} (hou:ops[u]?=some ou) (hd:(ou.after.any fun e=>Region.binds md e && e.on == i)=true) (hul:listed.getD u true=false) (hf:Region.free md ops listed i=true) (hr:(Region.ready md ops listed).contains i=true)
    (hQ:∀ c a w,Q (.panic c) (a.put oi.dst v) w→Q (.panic c) a w) (hy:YieldsIf P ops S oi v a) (hS:S w) (h:HU P md ops S Q n g u tail f (listed.setIfInBounds i true) (a.put oi.dst v) w):HU P md ops S Q n g u tail (f+1) listed a w:=fun inv =>
  have hr':i∈Region.ready md ops listed:=by simpa using hr
  have hd':∃ ou,ops[u]?=some ou∧∃ e∈ou.after,Region.binds md e=true∧e.on=i:=by
    obtain ⟨e,he,hb⟩:=Array.any_eq_true'.1 hd
    simp only [Bool.and_eq_true,beq_iff_eq] at hb
    exact ⟨ou,hou,e,he,hb.1,hb.2⟩
  headU_first ok hi hin hui hd' hQ f listed a w inv hul (Region.free_spec hi hf) hr' hy hS (h (inv.set hr' hin))
theorem hu_pure (ok:PhaseOK md ops n) {i:Nat} {oi:Oper} (v:Value) (hi:ops[i]?=some oi) (hin:i<n) (hui:u≠i) (hf:Region.free md ops listed i=true) (hr:(Region.ready md ops listed).contains i=true)
    (hQ:∀ c a w,Q (.panic c) (a.put oi.dst v) w→Q (.panic c) a w) (hy:YieldsIf P ops (fun _=>True) oi v a) (hS:S w) (h:HU P md ops S Q n g u tail f (listed.setIfInBounds i true) (a.put oi.dst v) w):HU P md ops S Q n g u tail (f+1) listed a w:=fun inv =>
  have hr':i∈Region.ready md ops listed:=by simpa using hr
  headU_pure ok hi hin hui hQ f listed a w inv (Region.free_spec hi hf) hr' hy (fun _=>hS) (h (inv.set hr' hin))
theorem hu_one {i:Nat} {oi:Oper} (hi:ops[i]?=some oi) (hin:i<n) (hr:Region.ready md ops listed=[i])
    (h:∀ K:Act→World→Prop,(∀ a' w',S w'→HU P md ops S Q n g u tail f (listed.setIfInBounds i true) a' w'→K a' w')→if Region.wanted oi (yielded ops a.tmps)=true then Oper.wp P oi a w K Q else K (a.put oi.dst undef) w):HU P md ops S Q n g u tail (f+1) listed a w:=fun inv=>by
  refine ⟨by rw [hr];simp,fun j hj=>?_⟩
  have hj':=hj
  rw [hr] at hj
  obtain rfl:j=i:=by simpa using hj
  refine ⟨hin,?_⟩
  have:=h (fun a' w'=>((listed.setIfInBounds j true).getD u true=false→S w')∧HeadU P md ops S Q n g u tail f (listed.setIfInBounds j true) a' w') (fun a' w' hS hh=>⟨fun _=>hS,hh (inv.set hj' hin)⟩)
  unfold wpOp
  simp only [hi]
  split at this
  · rename_i hw
    simp only [hw,if_true]
    exact .inl this
  · rename_i hw
    simp only [hw]
    exact this
theorem hu_last {oi:Oper} (hi:ops[u]?=some oi) (hin:u<n) (hr:Region.ready md ops listed=[u]) (hl:u<listed.size)
    (h:∀ K:Act→World→Prop,(∀ a' w',HU P md ops S Q n g u tail f (listed.setIfInBounds u true) a' w'→K a' w')→if Region.wanted oi (yielded ops a.tmps)=true then Oper.wp P oi a w K Q else K (a.put oi.dst undef) w):HU P md ops S Q n g u tail (f+1) listed a w:=fun inv=>by
  refine ⟨by rw [hr];simp,fun j hj=>?_⟩
  have hj':=hj
  rw [hr] at hj
  obtain rfl:j=u:=by simpa using hj
  refine ⟨hin,?_⟩
  have gu:(listed.setIfInBounds j true).getD j true=true:=by simp [Array.getD]
  have:=h (fun a' w'=>((listed.setIfInBounds j true).getD j true=false→S w')∧HeadU P md ops S Q n g j tail f (listed.setIfInBounds j true) a' w') (fun a' w' hh=>⟨fun e=>(by rw [gu] at e;cases e),hh (inv.set hj' hin)⟩)
  unfold wpOp
  simp only [hi]
  split at this
  · rename_i hw
    simp only [hw,if_true]
    exact .inl this
  · rename_i hw
    simp only [hw]
    exact this
theorem hu_done (hB:Region.seqB md ops g n listed=true) (h:wpList P ops Q tail a w):HU P md ops S Q n g u tail 0 listed a w:=fun _=>⟨hB,h⟩
theorem wp_region_phase_u {id:Nat} {l:List Oper} (n u:Nat) (S:World→Prop) (hm:P.follows .mixedOrders=true) (hsel:Region.noSelect l.toArray=true) (hs:Region.sinkB .any l.toArray n=true) (hc:Region.chainB .any l.toArray n=true) (hn:decide (n<l.toArray.size)=true)
    (h:PhaseOK .any l.toArray n→HU P .any l.toArray S Q n (l.drop n).length u (l.drop n) n (Array.replicate l.toArray.size false) a w.drew):(Code.region id l.toArray true).wp P Q a w:=by
  have hn:=of_decide_eq_true hn
  refine wp_region_any hm ?_
  have inv0:HeadInv .any l.toArray n (Array.replicate l.toArray.size false) :=
    ⟨by simp,fun j oj _ hl=>(by rw [getD_replicate_false] at hl;cases hl),fun t _ ht=>getD_in (by simpa using ht) (getD_replicate_false _ _)⟩
  have H:=headU_any (P:=P) (S:=S) (Q:=Q) (md := .any) (ops:=l.toArray) (n:=n) (u:=u) (tail:=l.drop n) rfl (fun j=>by simp [List.getElem?_drop]) n _ a _ (h ⟨hsel,hs,hc,hn⟩ inv0)
  have e:n+(l.drop n).length=l.toArray.size:=by
    have:n<l.length:=by simpa using hn
    simp
    omega
  rw [e] at H
  exact H
end
end Go.Proofs.YtdipoojjlddohaaGreat
end
