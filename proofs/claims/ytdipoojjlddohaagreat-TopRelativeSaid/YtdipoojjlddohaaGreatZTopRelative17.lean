/- What the law TopRelative needs, joined of its texts by a program (slim2.py); part 17. -/
import Derived.Test.YtdipoojjlddohaaGreatZTopRelative1
import Derived.Test.YtdipoojjlddohaaGreatZTopRelative12
import Derived.Test.YtdipoojjlddohaaGreatZTopRelative16
set_option linter.unusedVariables false
set_option linter.unusedSimpArgs false
set_option linter.unusedSectionVars false
set_option linter.unnecessarySimpa false
set_option maxRecDepth 100000
namespace Go.Proofs.YtdipoojjlddohaaGreat
open MC
open MT
open Go.RowKit
theorem BIn.none_at {A:Option Addr} {c:Nat} {w:World} (hc:c<=maxLen):BIn A 0 c [] w:=⟨⟨rfl,fun h=>by omega⟩,Nat.zero_le _,hc⟩
def lenE:Value->Nat
  | .slice _ n _=>n
  | _=>0
def ExpP (l:List Bk) (fst:Int) (l':List Bk):Prop:=∃ j,l'=l.drop j/\(∀ b∈l.take j,b.t<fst)/\∀ b∈l.drop j,fst<=b.t
set_option maxRecDepth 100000 in
set_option maxHeartbeats 4000000 in
theorem pbExpire (A:Option Addr) (m c:Nat) (l:List Bk) (fst:Int) (w:World) (hin:BIn A m c l w) (ho:l.Pairwise ordR) (hm:m<=1000000) :
    Calls Tryz.prog 159 #[.slice A m c,fst] w (BRet (ExpP l fst) w):=by
  obtain ⟨ib,hib,iz0,iz1,iz2⟩:=info_parts info_bk;have HO:=Lib.hid ho;have hln:=Lib.hid hin.len;clear ho;go_enter Tryz.func159,Tryz.ntmps159;go_wp2;go_loopw [0] (fun s wr=>∃ (A':Option Addr) (m' c' j:Nat),s = .slice A' m' c'/\RowKit.Hid (BIn A' m' c' (l.drop j) w)/\m'+j=m/\RowKit.Hid (∀ b∈l.take j,b.t<fst)/\w=wr) (fun s _=>lenE s)
  case atStart=>exact ⟨A,m,c,0,rfl,Lib.hid hin,rfl,Lib.hid (by simp),rfl⟩
  case round =>
    clear hin;obtain ⟨A',m',c',j,rfl,HI,hmj,HD,rfl⟩:=hrel;have hcm:=HI.out.mc;have hcB:=HI.out.cB;by_cases m0:m'=0
    · have i0:¬ (0:Int)<(m':Int):=by omega
      have i1:¬ 0<m':=by omega
      have HF:RowKit.Hid (∀ b∈l.drop j,fst<=b.t):=Lib.hid (fun b hb=>by
        rw [List.drop_of_length_le (by rw [hln.out];omega)] at hb
        cases hb)
      clear m0;go_wp2_with (at_builtin;refine wpList_clone rfl _ _ 30 rfl 318 ib (.agg #[(),()]) 2 16 Tryz.underlying30 hib iz0 iz1 iz2 rfl (by decide) rfl w.heap.size A' m' c' (bcells (l.drop j)) rfl HI.out.reads (Nat.le_refl _) (bcells_one _) (by unfold maxLen;omega) (by omega) ?_;intro g c2 w4 own4 hg4 hb4 hz4);go_ret;exact ⟨_,m',c2,l.drop j,rfl,BIn.of_own own4,⟨j,rfl,HD.out,HF.out⟩,hb4,fun a e=>by cases e;exact hg4⟩
    · have i0:(0:Int)<(m':Int):=by omega
      have i1:0<m':=by omega
      obtain ⟨ad,rfl,hadb,hi0⟩:=HI.out.reads.bk (i:=0) (by omega);have hi0:BkCells w ad (bkAt (l.drop j) 0):=hi0;have hjl:j<l.length:=by rw [hln.out];omega
      have hd:=drop_bk hjl;rw [hd] at hi0;have hi0:BkCells w ad (bkAt l j):=hi0;obtain ⟨c0,_⟩:=hi0;by_cases hlt:(bkAt l j).t<fst
      · have HD2:RowKit.Hid (∀ b∈l.take (j+1),b.t<fst):=Lib.hid (fun b hb=>by
          rw [take_bk hjl] at hb;rcases List.mem_append.1 hb with hb | hb
          · exact HD.out b hb
          · rw [List.mem_singleton.1 hb];exact hlt)
        generalize (bkAt l j).t=tj at c0 hlt;have i2:(1:Int)<=(m':Int):=by omega
        have i3:(m':Int)<=(c':Int):=by omega
        have i4:(1:Int)<=(c':Int):=by omega
        by_cases c1:c'=1
        · subst c1;obtain rfl:m'=1:=by omega
          have HI2:RowKit.Hid (BIn (some ad) 0 0 (l.drop (j+1)) w):=Lib.hid (by
            rw [List.drop_of_length_le (by rw [hln.out];omega)]
            exact BIn.none_at (by omega))
          clear HD HI m0 i0 i1 i2 i3 i4 hcm hcB;go_wp2;go_roundw
          case rel=>exact ⟨some ad,0,0,j+1,rfl,HI2,by omega,HD2,by trivial⟩
          case measure=>simp [lenE]
        · have HI2:RowKit.Hid (BIn (some ⟨ad.block,ad.off+2,none⟩) (m'-1) (c'-1) (l.drop (j+1)) w):=Lib.hid (by
            have:=HI.out;rw [hd] at this
            exact this.tail)
          have c1':((c':Int) == 1)=false:=by simp;omega
          clear HD HI m0;go_wp2;go_roundw
          case rel=>exact ⟨_,m'-1,c'-1,j+1,rfl,HI2,by omega,HD2,by trivial⟩
          case measure=>simp [lenE];omega
      · have HF:RowKit.Hid (∀ b∈l.drop j,fst<=b.t):=Lib.hid (fun b hb=>by
          rw [hd] at hb;have ho:=HO.out;rw [<- List.take_append_drop j l,hd] at ho;have ho:=(List.pairwise_cons.1 (List.pairwise_append.1 ho).2.1).1;rcases List.mem_cons.1 hb with rfl | hb
          · omega
          · have:=(ho b hb).1
            omega)
        generalize (bkAt l j).t=tj at c0 hlt;clear m0;go_wp2_with (at_builtin;refine wpList_clone rfl _ _ 30 rfl 318 ib (.agg #[(),()]) 2 16 Tryz.underlying30 hib iz0 iz1 iz2 rfl (by decide) rfl w.heap.size (some ad) m' c' (bcells (l.drop j)) rfl HI.out.reads (Nat.le_refl _) (bcells_one _) (by unfold maxLen;omega) (by omega) ?_;intro g c2 w4 own4 hg4 hb4 hz4);go_ret;exact ⟨_,m',c2,l.drop j,rfl,BIn.of_own own4,⟨j,rfl,HD.out,HF.out⟩,hb4,fun a e=>by cases e;exact hg4⟩
def qLo (l:List Bk):Nat:=if l=[] then 0 else btot l-2 ^ topL l+1
def qV (lo hi:Nat):Value := .agg (J30 (lo:Nat) (.int .i64 ((lo+hi) / 2:Nat)) (hi:Nat))
set_option maxRecDepth 100000 in
set_option maxHeartbeats 4000000 in
theorem pbQuery (A:Option Addr) (m c:Nat) (l:List Bk) (w:World) (hin:BIn A m c l w) (hv:∀ b∈l,b.lv<=30) (hT:btot l<=1073741824) :
    Calls Tryz.prog 134 #[.slice A m c] w (Rr (qV (qLo l) (btot l)) w):=by
  have hln:=hin.len;by_cases m0:m=0
  · obtain rfl:l=[]:=List.eq_nil_of_length_eq_zero (by omega);have m0b:((m:Int) == 0)=true:=by simp;omega
    have P1:=Lib.hid (fun w=>pratio 0 w);have P2:=Lib.hid (fun w=>pexactR 0 1 w (by decide) (by decide) (by decide) (by decide));clear hin hv hT hln m0;rw [show qV (qLo []) (btot []) = .agg J42 from rfl];go_enter Tryz.func134,Tryz.ntmps134;go_upto_region 1 with (fail)
    have R:Row (w.alloc (.cells J29 64)) w.heap.size 64 J29:=row_new rfl;have o:Below w w (w.alloc (.cells J29 64)):=bel9;generalize w.alloc (.cells J29 64)=w1 at R o |-
    go_wp2_with fail;refine (P1.out _).mono ?_;rintro e w2 ⟨rfl,hb⟩;replace R:=row_call R hb;replace o:=o.trans (hb.mono o.size);clear hb;go_wp2_with fail;refine (P2.out _).mono ?_;rintro e w3 ⟨rfl,hb⟩;replace R:=row_call R hb;replace o:=o.trans (hb.mono o.size);clear hb;cases r6 R;go_wp2;have S:=row_six_of (row_set (row_set (row_set (row_set (row_set (row_set R 0 (.int .i64 0)) 1 (.int .i64 1)) 2 (.int .i64 0)) 3 (.int .i64 1)) 4 (.int .i64 0)) 5 (.int .i64 1));obtain ⟨S0,S1,S2,S3,S4,S5⟩:=S;exact bodyPost_ret (v := .agg J42) (by simp [results,Tryz.results134,go_sem,S0,S1,S2,S3,S4,S5]) rfl ⟨rfl,below_six o (Nat.le_refl _) _ _ _ _ _ _⟩
  · obtain ⟨ad,rfl,hadb,hi0⟩:=hin.reads.bk (i:=0) (by omega);have hi0:BkCells w ad (bkAt l 0):=hi0;have hne:l≠[]:=fun e=>by subst e;simp at hln;omega
    have m0b:((m:Int) == 0)=false:=by simp;omega
    have vB:=hv _ (bk_mem (l:=l) (i:=0) (by omega));have hle:=tot_mem (bk_mem (l:=l) (i:=0) (by omega));have PT:=Lib.hid (fun w' (hb:Below w w w')=>pbtotal (some ad) m c l w' (hin.below hb) hv hT);have hq:qV (qLo l) (btot l)=qV (btot l-2 ^ (bkAt l 0).lv+1) (btot l):=by unfold qLo topL;rw [if_neg hne]
    rw [hq];have PL:=fun w=>pblevel ((bkAt l 0).lv:Nat) w (by omega) (by omega);obtain ⟨c0,c1⟩:=hi0;generalize btot l=N at PT hle hT |-
    generalize (bkAt l 0).lv=tp at c1 vB hle PL |-
    replace PL:=Lib.hid PL;have p1:=Nat.one_le_two_pow (n:=tp)
    have sw:RowKit.Hid (RowKit.wrap64 (2 ^ tp)=((2 ^ tp:Nat):Int)):=Lib.hid (by
      have e:((2:Int) ^ tp)=((2 ^ tp:Nat):Int):=by simp
      rw [e]
      exact IntWalk.wrap64_in _ (by omega))
    have PW:=fun w=>pwhole (N-2 ^ tp+1) N (by omega) (by omega) w;unfold qV;have i0:(0:Int)<(m:Int):=by omega
    have v0:(0:Int)<=(tp:Int):=by omega
    clear c0 hin hv hq hne m0 hln;generalize hP:2 ^ tp=P at sw p1 hle PW |-
    have LO:RowKit.Hid (((N-P+1:Nat):Int)=(N:Int)-(P:Int)+1):=Lib.hid (by omega);generalize (N-P+1+N) / 2=md at PW |-
    generalize N-P+1=lo at PW LO |-
    replace PW:=Lib.hid PW;clear hP;have o:=Below.refl w.heap.size w;go_enter Tryz.func134,Tryz.ntmps134;go_upto_region 1 with (fail)
    have R:Row (w.alloc (.cells J29 64)) w.heap.size 64 J29:=row_new rfl;replace o:=o.alloc o.size (.cells J29 64);generalize w.alloc (.cells J29 64)=w1 at R o |-
    go_wp2_with fail;refine (PT.out _ o).mono ?_;rintro e w2 ⟨rfl,hb⟩;replace R:=row_call R hb;replace o:=o.trans (hb.mono o.size);clear hb PT;replace c1:=(o.cell (p:=⟨ad.block,ad.off+1,none⟩) hadb).trans c1;go_upto_region 6 with (go_at_call 228;with_reducible refine (PL.out _).mono ?_;rintro e w9 ⟨rfl,h9⟩;obtain rfl:=h9.symm)
    rw [sw.out];clear PL sw c1;go_wp2_with fail;rw [<- LO.out];refine (PW.out _).mono ?_;rintro e w3 ⟨rfl,hb⟩;replace R:=row_call R hb;replace o:=o.trans (hb.mono o.size);clear hb PW;go_upto_region 7 with (fail)
    have B:Row (w3.alloc (.cells (J30 (lo:Nat) (md:Nat) (N:Nat)) 64)) w3.heap.size 64 (J30 (lo:Nat) (md:Nat) (N:Nat)):=row_new rfl;replace R:=row_alloc R (.cells (J30 (lo:Nat) (md:Nat) (N:Nat)) 64);replace o:=o.alloc o.size (.cells (J30 (lo:Nat) (md:Nat) (N:Nat)) 64);generalize w3.alloc (.cells (J30 (lo:Nat) (md:Nat) (N:Nat)) 64)=w4 at R B o |-
    generalize w3.heap.size=bb at B |-
    cases r6 R;cases r6 B;go_wp2;have S:=row_six_of (row_set (row_set (row_set (row_set (row_set (row_set R 0 (.int .i64 (lo:Nat))) 1 (.int .i64 1)) 2 (.int .i64 (md:Nat))) 3 (.int .i64 1)) 4 (.int .i64 (N:Nat))) 5 (.int .i64 1));obtain ⟨S0,S1,S2,S3,S4,S5⟩:=S;exact bodyPost_ret (v := .agg (J30 (lo:Nat) (md:Nat) (N:Nat))) (by simp [results,Tryz.results134,go_sem,S0,S1,S2,S3,S4,S5]) rfl ⟨rfl,below_six o (Nat.le_refl _) _ _ _ _ _ _⟩
end Go.Proofs.YtdipoojjlddohaaGreat
