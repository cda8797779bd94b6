/- What the law TopRelative needs, joined of its texts by a program (slim2.py); part 21. -/
import Derived.Test.YtdipoojjlddohaaGreatZTopRelative1
import Derived.Test.YtdipoojjlddohaaGreatZTopRelative4
import Derived.Test.YtdipoojjlddohaaGreatZTopRelative5
import Derived.Test.YtdipoojjlddohaaGreatZTopRelative12
import Derived.Test.YtdipoojjlddohaaGreatZTopRelative18
import Derived.Test.YtdipoojjlddohaaGreatZTopRelative20
set_option linter.unusedVariables false
set_option linter.unusedSimpArgs false
set_option linter.unusedSectionVars false
set_option linter.unnecessarySimpa false
set_option maxRecDepth 100000
namespace Go.Proofs.YtdipoojjlddohaaGreat
open MC
open MT
open Go
theorem wpList_of_quiet {P:Program} {ops:Array Oper} {C:World->Prop} {Q:Act->Prop} {Q':Exit->Act->World->Prop} (hQ:∀ a w,C w->Q a->Q' .normal a w):∀ (l:List Oper) (a:Act) (w:World),C w->wpQuiet P ops C Q l a->wpList P ops Q' l a w
  | [],_,_,hw,h=>hQ _ _ hw h
  | o :: rest,a,w,hw,h=>by
    unfold wpQuiet at h;unfold wpList;split
    · rename_i hg;rw [if_pos hg] at h;exact .inl (Oper.wp_of_quiet hw (fun a' w' hw' h'=>wpList_of_quiet hQ rest a' w' hw' h') h)
    · rename_i hg;rw [if_neg hg] at h;exact wpList_of_quiet hQ rest _ w hw h
theorem wp_region_quietF {P:Program} {id:Nat} {Q:Exit->Act->World->Prop} {a:Act} {w:World} {l:List Oper} (h:wpQuiet P l.toArray (fun w'=>∃ n,w'=w.drewN n) (fun a'=>∀ w',(∃ n,w'=w.drewN n)->Q .normal a' w') l a):(Code.region id l.toArray false).wp P Q a w :=
  wp_region_lit (wpList_of_quiet (C:=fun w'=>∃ n,w'=w.drewN n) (fun _ w' hw h=>h w' hw) l a w ⟨0,rfl⟩ h)
end Go.Proofs.YtdipoojjlddohaaGreat
namespace Go.Proofs.YtdipoojjlddohaaGreat
open MC
open MT
open Go.RowKit
theorem rmayaggD (agg:Int) (w:World):Calls Tryz.prog 185 #[agg] w (Rd (.bool (decide (1<=agg/\agg<=4))) w):=rmayagg agg w
set_option maxRecDepth 100000 in
set_option maxHeartbeats 4000000 in
theorem pprune (near:Mk->Mk->Bool) (fc:FuncId) (xb:Nat) (A:Option Addr) (m c:Nat) (l:List Mk) (w:World) (hin:MIn A m c l w) (hm:m<=1000000)
    (hfc:∀ (args:Array Value) (w:World),Sem.run Tryz.prog (callFunc fc args) w = .ok (.enter fc args) w)
    (HN:∀ (i j:Nat) (w':World),i<j->j<m->Below w w w'->Calls Tryz.prog fc #[.agg (J1 (.int .i64 (mkAt l i).seq) (.int .i64 (mkAt l i).t) (.int .i64 (mkAt l i).n) (.int .i64 (mkAt l i).s) (.int .i64 (mkAt l i).q) (.int .i64 (mkAt l i).lo) (.int .i64 (mkAt l i).hi)), .agg (J1 (.int .i64 (mkAt l j).seq) (.int .i64 (mkAt l j).t) (.int .i64 (mkAt l j).n) (.int .i64 (mkAt l j).s) (.int .i64 (mkAt l j).q) (.int .i64 (mkAt l j).lo) (.int .i64 (mkAt l j).hi)), .pointer (some ⟨xb,0,none⟩)] w' (Rr (.bool (near (mkAt l i) (mkAt l j))) w')) :
    Calls Tryz.prog 214 #[.slice A m c, .func (.func fc) #[] #[.pointer (some ⟨xb,0,none⟩)]] w fun e w'=>MRet (prune near l).length (prune near l) w e w':=by
  have HR:=Lib.hid hin;have HL:=Lib.hid hin.len;replace HN:=Lib.hid HN;have HFC:=Lib.hid hfc;clear hfc;obtain ⟨i0,hi0,iz0,iz1,iz2⟩:=info_parts info_mk;clear hin;go_enter Tryz.func214,Tryz.ntmps214;go_wp2;go_loopw [5,6] (fun u i wr=>∃ (k:Nat) (p:List Mk),k<=m/\i = .int .i64 (k:Nat)/\wr.ownsRow w.heap.size 228 7 u p.length (mcells p)/\RowKit.Hid (p ++ prune near (l.drop k)=prune near l)/\p.length<=k/\Below w w wr) (fun _ i _=>m-(intOf i).toNat)
  case atStart=>exact ⟨0,[],by omega,rfl,World.ownsRow_nil _ _ _ _,Lib.hid rfl,by simp,Below.refl _ _⟩
  case round =>
    obtain ⟨k,p,hk,rfl,own,HP,hpl,o⟩:=hrel;by_cases hlt:k<m
    · obtain ⟨ad,rfl,hadb,hta⟩:=HR.out.reads.mk hlt;have HE:RowKit.Hid (mcells (p ++ [mkAt l k])=mcells p ++ mcells [mkAt l k]):=Lib.hid (mcells_append _ _)
      have HD:RowKit.Hid (prune near (l.drop k)=mkAt l k :: prune near (l.drop (k+1+lastN (near (mkAt l k)) (l.drop (k+1))))):=Lib.hid (by
        rw [drop_mk (by rw [HL.out];exact hlt),prune_cons,List.drop_drop])
      obtain ⟨N,hN⟩:∃ N,N=k+1+lastN (near (mkAt l k)) (l.drop (k+1)):=⟨_,rfl⟩
      have HNx:=Lib.hid hN;have hN0:k+1<=N:=by omega
      have hN1:N<=m:=by
        have:=HL.out;by_cases e:l.drop (k+1)=[]
        · rw [hN,e];have:lastN (near (mkAt l k)) []=0:=rfl;omega
        · have:=lastN_le (near (mkAt l k)) _ e;rw [List.length_drop] at this;omega
      generalize hA:mkAt l k=ma at hta HE;have HAm:=Lib.hid hA;obtain ⟨sq,tk,n,s,q,lo,hi⟩:=ma;have HA0:=Lib.hid hta;obtain ⟨p0,p1,p2,p3,p4,p5,p6⟩:=hta.below o (by rw [block_of_add];exact hadb);dsimp only at p0 p1 p2 p3 p4 p5 p6;have HX:RowKit.Hid (mcells [(⟨sq,tk,n,s,q,lo,hi⟩:Mk)]=((J1 sq tk n s q lo hi):Array Value).toList):=Lib.hid rfl;have i1:(k:Int)<(m:Int):=by omega
      have i2:(0:Int)<=(k:Int):=by omega
      have hbl:=own.lt;have OWN:=Lib.hid own;have zo:=o.size;have wm:IntKind.i64.wrap ((m:Int)-1)=(m:Int)-1:=IntWalk.i64_in _ (by omega);have wk:IntKind.i64.wrap ((k:Int)+1)=(k:Int)+1:=IntWalk.i64_in _ (by omega);clear own hA hta hN
      go_upto_block 2 with (at_builtin;refine wpList_push rfl _ _ 35 rfl 228 i0 (.agg #[(),(),(),(),(),(),()]) 7 56 Tryz.underlying35 hi0 iz0 iz1 iz2 rfl (by decide) w.heap.size u5 p.length (mcells p) rfl OWN.out (J1 sq tk n s q lo hi) rfl rfl (by simp [Value.oneCell']) (by unfold maxLen;omega) (by omega) (by omega) ?_;intro g' c4 w9 own9 hg9 hat9 hgr9)
      have own:w9.ownsRow w.heap.size 228 7 (.slice (some ⟨g',0,none⟩) (p.length+1) c4) (p.length+1) (mcells (p ++ [mkAt l k])):=by
        rw [HAm.out,HE.out,HX.out];exact own9.row hg9
      replace o:=below_grown (o.alloc o.size (.cells (J1 sq tk n s q lo hi) 228)) hgr9 (fun b e=>(hbl b e).1) (by simp;omega);clear own9 hgr9 hat9 OWN zo p0 p1 p2 p3 p4 p5 p6 hbl;go_cut [7] (fun nx wx=>nx = .int .i64 (N:Nat)/\wx.ownsRow w.heap.size 228 7 (.slice (some ⟨g',0,none⟩) (p.length+1) c4) (p.length+1) (mcells (p ++ [mkAt l k]))/\Below w w wx)
      case first =>
        go_wp2_with fail;go_loopw [7,8] (fun nx j wr=>∃ J:Nat,k<=J/\J<m/\nx = .int .i64 ((k:Int)+1)/\j = .int .i64 (J:Nat)/\RowKit.Hid (∀ e,J<e->e<m->near (mkAt l k) (mkAt l e)=false)/\wr.ownsRow w.heap.size 228 7 (.slice (some ⟨g',0,none⟩) (p.length+1) c4) (p.length+1) (mcells (p ++ [mkAt l k]))/\Below w w wr) (fun _ j _=>(intOf j).toNat)
        case atStart=>exact ⟨m-1,by omega,by omega,rfl,congrArg (Value.int .i64) (by omega),Lib.hid (fun e h h'=>absurd h (by omega)),own,o⟩
        case round =>
          clear own o;obtain ⟨J,hJ0,hJ1,rfl,rfl,HF,own,o⟩:=hrel;by_cases hjk:k<J
          · have g1:(k:Int)<(J:Int):=by omega
            obtain ⟨ad',ea,_,htb⟩:=HR.out.reads.mk hJ1;obtain rfl:ad=ad':=by injection ea
            have PN:=fun w' hb=>HN.out k J w' hjk hJ1 hb;obtain ⟨nv,hnv⟩:∃ b,near (mkAt l k) (mkAt l J)=b:=⟨_,rfl⟩
            rw [hnv] at PN;have HV:=Lib.hid hnv;rw [HAm.out] at PN;generalize hB:mkAt l J=mb at htb PN;obtain ⟨osq,otk,on,os,oq,olo,ohi⟩:=mb;dsimp only at PN;replace PN:=Lib.hid PN;have HB0:=Lib.hid htb;clear hB htb ea hnv;have j1:(J:Int)<(m:Int):=by omega
            have j0:(0:Int)<=(J:Int):=by omega
            have wJ:IntKind.i64.wrap ((J:Int)-1)=(J:Int)-1:=IntWalk.i64_in _ (by omega);have own5:=own;go_upto_region 9 with (fail)
            refine wp_region_free0 [1,2,3,5,6,7,0,4,8] [] [0,1,2,3,4,5,6,7,8] 9 (fun w'=>World.ownsRow w' w.heap.size 228 7 (.slice (some ⟨g',0,none⟩) (p.length+1) c4) (p.length+1) (mcells (p ++ [mkAt l k]))/\Below w w w') (by kernel_rfl) (by kernel_rfl) (fun _ _ d _ _ h=>by cases d<;>exact h) ?_ ?_
            · exact ⟨own,o.drew⟩
            iterate 7 (refine plp rfl rfl ?_;simp only [put9])
            iterate 2 (refine plv rfl rfl rfl (fun w' hS=>by obtain ⟨p0,p1,p2,p3,p4,p5,p6⟩:=HA0.out.below hS.2 (by rw [block_of_add];exact hadb);obtain ⟨q0,q1,q2,q3,q4,q5,q6⟩:=HB0.out.below hS.2 (by rw [block_of_add];exact hadb);dsimp only at p0 p1 p2 p3 p4 p5 p6 q0 q1 q2 q3 q4 q5 q6;exact gs9) ?_;simp only [put9])
            refine plan_nil ?_;intro w5 L5;simp only [List.drop_succ_cons,List.drop_zero];try simp only [put9]
            obtain ⟨own,o⟩:=L5;clear own5;go_wp2_with fail;rw [HFC.out];simp only [Oper.upon];refine (PN.out _ o).mono ?_;rintro e w6 ⟨rfl,hb6⟩;replace own:=orow_keep own (fun g e=>hb6.block g (own.lt g e).2);replace o:=o.trans (hb6.mono o.size);cases nv
            · go_wp2;go_roundw
              case rel =>
                refine ⟨J-1,by omega,by omega,rfl,congrArg (Value.int .i64) (by omega),Lib.hid (fun e h h'=>?_),own,o⟩;rcases Nat.lt_or_ge J e with g | g
                · exact HF.out e g h'
                · rw [show e=J by omega];exact HV.out
              case measure=>simp [intOf];omega
            · have HJ:RowKit.Hid (N=J):=Lib.hid (by
                rw [HNx.out,lastN_is (p:=J-(k+1)) (by rw [List.length_drop,HL.out];omega) (by rw [mkAt_drop,show k+1+(J-(k+1))=J by omega];exact HV.out) (fun i h1 h2=>by
                  rw [List.length_drop,HL.out] at h2;rw [mkAt_drop]
                  exact HF.out _ (by omega) (by omega))]
                omega)
              go_wp2;go_meet;exact ⟨by rw [HJ.out],own,o⟩
          · obtain rfl:J=k:=by omega
            have g1:¬ (J:Int)<(J:Int):=by omega
            have HJ:RowKit.Hid ((N:Int)=(J:Int)+1):=Lib.hid (by
              have e:=HNx.out
              rw [lastN_none (fun i hi=>by
                rw [List.length_drop,HL.out] at hi;rw [mkAt_drop]
                exact HF.out _ (by omega) (by omega))] at e
              omega)
            go_wp2;go_meet;exact ⟨by rw [HJ.out],own,o⟩
      case rest =>
        clear own o;obtain ⟨rfl,own,o⟩:=hcut;go_wp2;go_roundw
        case rel=>exact ⟨N,p ++ [mkAt l k],hN1,rfl,by rw [List.length_append];exact own,Lib.hid (by rw [<- HP.out,HD.out,HNx.out];simp),by rw [List.length_append];simp;omega,o⟩
        case measure=>simp [intOf];omega
    · have i1:¬ (k:Int)<(m:Int):=by omega
      obtain rfl:k=m:=by omega
      have HE:RowKit.Hid (p=prune near l):=Lib.hid (by
        rw [<- HP.out,List.drop_of_length_le (by rw [HL.out];exact Nat.le_refl _),prune_nil,List.append_nil])
      go_wp2;go_ret;exact ⟨_,rfl,by rw [<- HE.out];exact own,o⟩
theorem M64.of_one {seq cap now w least:Int} {m:Mk} (h:oneP seq cap now w least m) (hs:seq<=1099511627777) (hc:cap<=65536) (hn:now<=16777216) (hl : -4096<=least):M64 m:=by
  obtain ⟨⟨n0,n1⟩,⟨s0,s1⟩,q0,q1⟩:=SmallM.of_one h hc hl;obtain ⟨h1,h2,h3,h4,h5,h6,h7,h8,h9,_⟩:=h;unfold M64 I64;omega
theorem mkAt_out {l:List Mk} {i:Nat} (h:l.length<=i):mkAt l i=Mk.zero:=by
  unfold mkAt;rw [List.getD_eq_getElem?_getD,List.getElem?_eq_none h];rfl
theorem M64.all {l:List Mk} (h:∀ m∈l,M64 m) (i:Nat):M64 (mkAt l i):=by
  by_cases hi:i<l.length
  · exact h _ (mkAt_mem hi)
  · rw [mkAt_out (by omega)];exact M64_zero
theorem MIn.of_row {w:World} {base n:Nat} {v:Value} {l:List Mk} (h:w.ownsRow base 228 7 v n (mcells l)) (hB:∀ i,M64 (mkAt l i)):∃ A c,v = .slice A n c/\MIn A n c l w/\∀ a,A=some a->base<=a.block/\a.block<w.heap.size:=by
  obtain ⟨A,c,rfl,hr,h1,h2,h3⟩:=orow_forms h;exact ⟨A,c,rfl,⟨hr,hB,h1,h2⟩,h3⟩
theorem MIn.keep {A:Option Addr} {m c:Nat} {l:List Mk} {w w':World} (h:MIn A m c l w) (hs:w.heap.size<=w'.heap.size) (hk:∀ a,A=some a->w'.heap[a.block]?=w.heap[a.block]?):MIn A m c l w':=by
  refine ⟨⟨h.reads.1,fun hn=>?_⟩,h.mB,h.mc,h.cB⟩;obtain ⟨ad,e,hb,hc⟩:=h.reads.2 hn;exact ⟨ad,e,Nat.lt_of_lt_of_le hb hs,fun j u hu=>(World.cell?_of_block (by rw [block_of_add];exact hk ad e)).trans (hc j u hu)⟩
def SmRet (A0:Option Addr) (r:SmOut) (w:World) (e:Ending) (w':World):Prop :=
  ∃ (A:Option Addr) (m c:Nat),e = .returned (.tuple #[.agg (J1 r.agg r.wd r.k r.cap r.now r.seq (.slice A m c)), .int .i64 r.f])/\MIn A m c r.ms w'/\Below w w w'/\∀ a,A=some a->(w.heap.size<=a.block/\a.block<w'.heap.size)∨∃ b,A0=some b/\a.block=b.block
theorem min_nil {w:World}:MIn none 0 0 [] w:=⟨by simpa [mcells_nil] using Reads.none_,fun i=>by rw [mkAt_out (by simp)];exact M64_zero,Nat.le_refl _,Nat.zero_le _⟩
theorem smret_new {A0 : Option Addr} {w w' : World} {agg wd k cap now f : Int} (hb : Below w w w') : SmRet A0 ⟨agg, wd, k, cap, now, 0, [], f⟩ w (.returned (.tuple #[.agg #[agg, wd, k, cap, now,(),""], .int .i64 f])) w' :=
  ⟨none,0,0,rfl,min_nil,hb,fun a h=>by cases h⟩
theorem smret_zero {A0:Option Addr} {w w':World} {f:Int} (hb:Below w w w'):SmRet A0 (smZero f) w (.returned (.tuple #[.agg J39,f])) w':=smret_new hb
theorem smret_ok {A0 A:Option Addr} {m c:Nat} {w w':World} {agg wd k cap now seq f:Int} {ms:List Mk} (h:MIn A m c ms w') (hb:Below w w w') (hf:∀ a,A=some a->(w.heap.size<=a.block/\a.block<w'.heap.size)∨∃ b,A0=some b/\a.block=b.block) :
    SmRet A0 ⟨agg,wd,k,cap,now,seq,ms,f⟩ w (.returned (.tuple #[.agg (J1 agg wd k cap now seq (.slice A m c)),f])) w':=⟨A,m,c,rfl,h,hb,hf⟩
end Go.Proofs.YtdipoojjlddohaaGreat
