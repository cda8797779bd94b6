/- What the law TopRelative needs, joined of its texts by a program (slim2.py); part 42. -/
import Derived.Test.YtdipoojjlddohaaGreatZTopRelative1
import Derived.Test.YtdipoojjlddohaaGreatZTopRelative6
set_option linter.unusedVariables false
set_option linter.unusedSimpArgs false
set_option linter.unusedSectionVars false
set_option linter.unnecessarySimpa false
set_option maxRecDepth 100000
namespace Go.Proofs.YtdipoojjlddohaaGreat
open MC
open MT
open Go.RowKit
def mkN (wd:Nat) (l:List Itm):Nat->List Itm×Int
  | 0=>([],0)
  | k+1=>((mkN wd l k).1 ++ [(⟨(mkN wd l k).2+mgap (itmAt l k).t (wd:Int),mval (itmAt l k).v⟩:Itm)],(mkN wd l k).2+mgap (itmAt l k).t (wd:Int))
def mkL (wd most m:Nat) (l:List Itm):List Itm:=(mkN wd l (min m most)).1
theorem mkN_len (wd:Nat) (l:List Itm):∀ k,(mkN wd l k).1.length=k
  | 0=>rfl
  | k+1=>by rw [mkN,List.length_append,mkN_len wd l k];rfl
theorem mkL_len (wd most m:Nat) (l:List Itm):(mkL wd most m l).length=min m most:=mkN_len wd l _
def IRetD (L:List Itm) (most:Nat) (st lo hi:Int) (w:World) (e:Ending) (w':World):Prop :=
  ∃ (v:Value) (last:Int),e = .returned v/\w'.ownsRow w.heap.size 90 2 v L.length (icells L)/\L.length<=most/\Made st lo hi last L/\Below w w w'
set_option maxHeartbeats 2000000 in
theorem pitemsD (A:Option Addr) (m c:Nat) (l:List Itm) (wd most:Nat) (w:World) (hin:RIn A m c l w) (hw1:1<=wd) (hw2:wd<=1048576) (hmost:most<=100000) :
    Calls Tryz.prog 10 #[.slice A m c,wd,most] w (IRetD (mkL wd most m l) most (2*(wd:Int)+1) (-4096) 4096 w):=by
  have HR:=Lib.hid hin;have hmB:m<=9223372036854775807:=by have:=hin.mc;have:=hin.cB;unfold maxLen at *;omega
  obtain ⟨i1,hi1,iz0,iz1,iz2⟩:=info_parts info_itm;clear hin;go_enter Tryz.func10,Tryz.ntmps10;go_wp2;go_loopw [7,8,9] (fun v tt i wr=>∃ (l':List Itm) (last:Int),l'.length<=m/\l'.length<=most/\i = .int .i64 (l'.length:Nat)/\tt = .int .i64 last/\wr.ownsRow w.heap.size 90 2 v l'.length (icells l')/\RowKit.Hid (Made (2*(wd:Int)+1) (-4096) 4096 last l')/\RowKit.Hid (mkN wd l l'.length=(l',last))/\Below w w wr) (fun _ _ i _=>m-(intOf i).toNat)
  case atStart=>exact ⟨[],0,by simp,by simp,rfl,rfl,World.ownsRow_nil _ _ _ _,Lib.hid made_nil,Lib.hid rfl,Below.refl _ _⟩
  case round =>
    obtain ⟨l',last,hk1,hk2,rfl,rfl,own,HM,HD,hb⟩:=hrel;have lb:=made_bound HM.out (by omega) (by omega) (by omega);have lb0:=HM.out.2.1;have hd:=HD.out;clear HD;generalize hk:l'.length=k at hk1 hk2 own hd |-
    have HD:=Lib.hid hd;clear hd;have HK:=Lib.hid hk;clear hk;by_cases hlt:k<m
    · by_cases hlt2:k<most
      · obtain ⟨ad,rfl,hadb,hi0⟩:=HR.out.reads.itm hlt;obtain ⟨c0,c1⟩:=hi0.below hb (by rw [block_of_add];exact hadb);have tB:=HR.out.tB k;have vB:=HR.out.vB k;have PG:=Lib.hid (fun w=>pgap (itmAt l k).t (wd:Int) tB (by omega) (by omega) w);have PV:=Lib.hid (fun w=>pval (itmAt l k).v vB w);have gB:=mgap_bd (itmAt l k).t (w:=(wd:Int)) (by omega);have wB:=mval_bd (itmAt l k).v;have hd2:mkN wd l (k+1)=(l' ++ [(⟨last+mgap (itmAt l k).t (wd:Int),mval (itmAt l k).v⟩:Itm)],last+mgap (itmAt l k).t (wd:Int)):=by unfold mkN;rw [HD.out]
        generalize mgap (itmAt l k).t (wd:Int)=g at PG gB hd2;generalize mval (itmAt l k).v=v at PV wB hd2;replace hd2:=Lib.hid hd2;generalize (itmAt l k).t=rt at c0 PG;generalize (itmAt l k).v=rv at c1 PV;obtain ⟨gB0,gB1⟩:=gB;obtain ⟨wB0,wB1⟩:=wB;have HM2:=Lib.hid (made_snoc HM.out gB0 gB1 wB0 wB1);have i2:(k:Int)<(m:Int):=by omega
        have i3:(k:Int)<(most:Int):=by omega
        have i4:(0:Int)<=(k:Int):=by omega
        have hbl:=own.lt;have OWN:=Lib.hid own;have zb:=hb.size;clear hi0 tB vB own;go_wp2_with (first | (go_at_call 35;with_reducible refine (PG.out _).mono ?_;rintro e w9 ⟨rfl,rfl⟩) | (go_at_call 36;with_reducible refine (PV.out _).mono ?_;rintro e w9 ⟨rfl,rfl⟩) | (at_builtin;refine wpList_push rfl _ _ 22 rfl 90 i1 (.agg #[(),()]) 2 16 Tryz.underlying22 hi1 iz0 iz1 iz2 rfl (by decide) w.heap.size u7 k (icells l') rfl OWN.out #[.int .i64 (last+g),v] rfl rfl (by simp [Value.oneCell']) (by unfold maxLen;omega) (by omega) zb ?_;intro g' c4 w8 own8 hg8 hat8 hgr8))
        have L8:w8.ownsRow w.heap.size 90 2 (.slice (some ⟨g',0,none⟩) (k+1) c4) (l' ++ [(⟨last+g,v⟩:Itm)]).length (icells (l' ++ [(⟨last+g,v⟩:Itm)])):=by
          rw [icells_append,List.length_append,HK.out];exact own8.row hg8
        have L9:Below w w w8:=below_grown (hb.alloc zb _) hgr8 (fun b e=>(hbl b e).1) (by simp;omega);have hlen:(l' ++ [(⟨last+g,v⟩:Itm)]).length=k+1:=by rw [List.length_append,HK.out];rfl
        clear own8 hgr8 hat8;go_roundw
        case rel=>exact ⟨l' ++ [(⟨last+g,v⟩:Itm)],last+g,by omega,by omega,by rw [hlen];go_num,rfl,L8,HM2,Lib.hid (by rw [hlen];exact hd2.out),L9⟩
        case measure=>simp [intOf];omega
      · have i2:(k:Int)<(m:Int):=by omega
        have i3:¬ (k:Int)<(most:Int):=by omega
        go_wp2;go_ret;have eL:mkL wd most m l=l':=by unfold mkL;rw [show min m most=k by omega,HD.out]
        exact ⟨_,last,rfl,by rw [eL,HK.out];exact own,by rw [eL,HK.out];omega,by rw [eL];exact HM.out,hb⟩
    · have i2:¬ (k:Int)<(m:Int):=by omega
      go_wp2;go_ret;have eL:mkL wd most m l=l':=by unfold mkL;rw [show min m most=k by omega,HD.out]
      exact ⟨_,last,rfl,by rw [eL,HK.out];exact own,by rw [eL,HK.out];omega,by rw [eL];exact HM.out,hb⟩
set_option maxHeartbeats 2000000 in
theorem pposD (A:Option Addr) (m c:Nat) (l:List Itm) (wd most top:Nat) (w:World) (hin:RIn A m c l w) (hw1:1<=wd) (hw2:wd<=1048576) (hmost:most<=100000) (htop:top<=1000000) :
    Calls Tryz.prog 62 (J25 (.slice A m c) wd most top) w (IRetD ((mkL wd most m l).map (imod ((top:Int)+1))) most (2*(wd:Int)+1) 0 top w):=by
  have PI:=Lib.hid (fun w1 (hb:Below w w w1)=>pitemsD A m c l wd most w1 (hin.below hb) hw1 hw2 hmost);have hq1:(1:Int)<=(top:Int)+1:=by omega
  clear hin;go_enter Tryz.func62,Tryz.ntmps62;go_wp2_with fail;refine (PI.out _ (Below.refl _ _)).mono ?_;intro e w1 hq;obtain ⟨v,last,rfl,own1,hlm,HM0,hb1⟩:=hq;generalize hL:mkL wd most m l=l' at own1 hlm HM0;replace hL:=Lib.hid hL;have HM:=Lib.hid (made_map hq1 HM0);have vB:=Lib.hid (fun i (hi:i<l'.length)=>(HM0.1 i hi).2.2.2);clear HM0
  obtain ⟨A1,c1,rfl⟩:∃ A1 c1,v = .slice A1 l'.length c1:=by
    rcases own1.2 with ⟨h1,h2⟩ | ⟨g,cap,cur,h1,_⟩
    · exact ⟨none,0,by rw [h1,h2]⟩
    · exact ⟨_,_,h1⟩
  generalize hn:l'.length=n at own1 hlm vB |-
  have HN:=Lib.hid hn;clear hn;have OWN:w1.ownsRow w.heap.size 90 2 (.slice A1 n c1) n (icells (ipart ((top:Int)+1) l' 0)):=by rw [ipart_zero];exact own1
  clear own1;go_wp2;go_loopw [17] (fun i wr=>∃ k:Nat,k<=n/\i = .int .i64 (k:Nat)/\wr.ownsRow w.heap.size 90 2 (.slice A1 n c1) n (icells (ipart ((top:Int)+1) l' k))/\Below w w wr) (fun i _=>n-(intOf i).toNat)
  case atStart=>exact ⟨0,by omega,rfl,OWN,hb1⟩
  case round =>
    clear OWN;obtain ⟨k,hk,rfl,own,hb⟩:=hrel;by_cases hlt:k<n
    · obtain ⟨g,c2,hv,hg,hgl⟩:=own.form (by omega);simp only [Value.slice.injEq] at hv;obtain ⟨rfl,_,rfl⟩:=hv;obtain ⟨own2,_⟩:=own_of_row own;have hl2:(ipart ((top:Int)+1) l' k).length=n:=by rw [ipart_len,HN.out]
      have hat:=icells_at (ipart ((top:Int)+1) l' k) k (by omega);rw [ipart_at (by rw [HN.out];exact hlt)] at hat;have hx:=(own2.cell (j:=k*2+1) (by omega)).trans hat.2;have hfr:=own2.free (k*2+1);have st:=own2.set (k*2+1) (.int .i64 ((itmAt l' k).v % ((top:Int)+1)));rw [icells_set _ _ (by omega),ipart_step (by rw [HN.out];exact hlt)] at st;have PM:=Lib.hid (fun w=>pmod (itmAt l' k).v ((top:Int)+1) hq1 (by omega) w);generalize (itmAt l' k).v % ((top:Int)+1)=r at st PM;generalize (itmAt l' k).v=rv at hx PM;have sb:Below w w (wr.setCell ⟨g,k*2+1,none⟩ (.int .i64 r)):=hb.setCell hg _;have ST:=Lib.hid st;have i1:(k:Int)<(n:Int):=by omega
      have i2:(0:Int)<=(k:Int):=by omega
      have nm:n<=100000:=by omega
      clear hat st own own2;go_wp2_with (first | (go_at_call 8;with_reducible refine (PM.out _).mono ?_;rintro e w9 ⟨rfl,rfl⟩));go_roundw
      case rel=>exact ⟨k+1,by omega,by go_num,ST.out.row hg,sb⟩
      case measure=>simp [intOf];omega
    · have i1:¬ (k:Int)<(n:Int):=by omega
      obtain rfl:k=n:=by omega
      have ha:=ipart_all ((top:Int)+1) l';rw [HN.out] at ha;rw [ha] at own;have HM2:=HM.out;rw [show (top:Int)+1-1=(top:Int) by omega] at HM2;have HMM:=Lib.hid HM2;have hlen:(l'.map (imod ((top:Int)+1))).length=k:=by rw [List.length_map,HN.out]
      clear ha HM2;go_wp2;go_ret;rw [hL.out];exact ⟨_,last,rfl,by rw [hlen];exact own,by rw [hlen];exact hlm,HMM.out,hb⟩
end Go.Proofs.YtdipoojjlddohaaGreat
