/- What the law TopSummaries needs, joined of its texts by a program (slim2.py); part 33. -/
import Derived.Test.YtdipoojjlddohaaGreatZTopSummaries1
import Derived.Test.YtdipoojjlddohaaGreatZTopSummaries11
import Derived.Test.YtdipoojjlddohaaGreatZTopSummaries29
set_option linter.unusedVariables false
set_option linter.unusedSimpArgs false
set_option linter.unusedSectionVars false
set_option linter.unnecessarySimpa false
section
/- Exact rank summaries: the rank of a value, walked. -/
namespace Go.Proofs.YtdipoojjlddohaaGreat
open Go.RowKit
set_option maxRecDepth 100000 in
set_option maxHeartbeats 4000000 in
theorem prkrank (A:Option Addr) (m c:Nat) (vs:List Int) (v:Int) (w:World) (hin:RkIn A m c vs w):Calls Tryz.prog 239 #[.agg #[.int .i64 (m:Nat), .slice A m c], .int .i64 v] w fun e w'=>e = .returned (.tuple #[.agg #[.int .i64 (cle vs v:Nat), .int .i64 1, .int .i64 (cle vs v:Nat), .int .i64 1, .int .i64 (cle vs v:Nat), .int .i64 1], .int .i64 0])∧Below w.heap.size w w':=by
  have PV:=Lib.hid (fun w' (hb:Below w.heap.size w w')=>prkval A m c vs w' (hin.below hb))
  have HS:=Lib.hid hin.srt
  have hln:=Lib.hid hin.len
  obtain ⟨h1,h2⟩:=hin.mB
  obtain ⟨ad,rfl,hadb,_⟩:=hin.reads.rk (i:=0) (by omega)
  have HR:=Lib.hid hin.reads
  have hmc:=hin.mc
  obtain ⟨n,hn⟩:∃ n,n=cle vs v:=⟨_,rfl⟩
  have PW:=fun w=>pwhole n n (Nat.le_refl _) (by have:=cle_len vs v;have:=hln.out;omega) w
  rw [show (n+n) / 2=n by omega] at PW
  rw [← hn]
  replace PW:=Lib.hid PW
  replace hn:=Lib.hid hn
  clear hin
  go_enter Tryz.func239,Tryz.ntmps239
  go_upto_region 1 with (fail)
  have X:Row ((w.alloc (.cells #[.int .i64 (m:Nat), .slice (some ad) m c] 188)).alloc (.cells #[.int .i64 0, .int .i64 0, .int .i64 0, .int .i64 0, .int .i64 0, .int .i64 0] 64)) (w.heap.size) 188 #[.int .i64 (m:Nat), .slice (some ad) m c]:=row_alloc (row_new rfl) _
  have R:Row ((w.alloc (.cells #[.int .i64 (m:Nat), .slice (some ad) m c] 188)).alloc (.cells #[.int .i64 0, .int .i64 0, .int .i64 0, .int .i64 0, .int .i64 0, .int .i64 0] 64)) (w.heap.size+1) 64 #[.int .i64 0, .int .i64 0, .int .i64 0, .int .i64 0, .int .i64 0, .int .i64 0]:=row_new (by simp)
  have o:Below w.heap.size w ((w.alloc (.cells #[.int .i64 (m:Nat), .slice (some ad) m c] 188)).alloc (.cells #[.int .i64 0, .int .i64 0, .int .i64 0, .int .i64 0, .int .i64 0, .int .i64 0] 64)):=by (repeat (first | exact Below.refl _ _ | refine Below.setCell ?_ (by (try simp)<;>omega) _ | refine Below.alloc ?_ (by (try simp)<;>omega) _ | refine Below.drew ?_ | refine Below.trans ?_ (Below.mono (by assumption) (by (try simp)<;>omega))))
  generalize ((w.alloc (.cells #[.int .i64 (m:Nat), .slice (some ad) m c] 188)).alloc (.cells #[.int .i64 0, .int .i64 0, .int .i64 0, .int .i64 0, .int .i64 0, .int .i64 0] 64))=w1 at X R o ⊢
  obtain ⟨X0,X1,Xf0,Xf1⟩:=row_two X
  go_wp2_with fail
  refine (PV.out _ o).mono ?_
  rintro e w2 ⟨rfl,hb⟩
  replace X:=row_call X hb
  replace R:=row_call R hb
  replace o:=o.trans (hb.mono o.size)
  clear hb PV X0 X1 Xf0 Xf1
  obtain ⟨X0,X1,Xf0,Xf1⟩:=row_two X
  go_upto_region 4 with (fail)
  go_region
  replace X:=row_drew X
  replace R:=row_drew R
  replace o:=o.drew
  clear X0 X1 Xf0 Xf1
  generalize w2.drew=w3 at X R o ⊢
  obtain ⟨X0,X1,Xf0,Xf1⟩:=row_two X
  go_wp2
  clear X X0 X1 Xf0 Xf1
  go_loopw [7,8,10,24] (fun u7 u8 _ i wr=>∃ j:Nat,j≤m∧i = .int .i64 (j:Nat)∧u7 = .int .i64 (j:Nat)∧u8 = .int .i64 (m:Nat)∧RowKit.Hid (∀ e,e<j→vs.getD e 0≤v)∧Row wr (w.heap.size+1) 64 #[.int .i64 0, .int .i64 0, .int .i64 0, .int .i64 0, .int .i64 0, .int .i64 0]∧Below w.heap.size w wr) (fun _ _ _ i _=>m-(intOf i).toNat)
  case atStart=>exact ⟨0,Nat.zero_le _,rfl,rfl,rfl,Lib.hid (fun e he=>absurd he (by omega)),R,o⟩
  case round =>
    clear R o
    obtain ⟨j,hj,rfl,rfl,rfl,HA,R,o⟩:=hrel
    by_cases hlt:j<m
    · obtain ⟨_,ea,_,hi0⟩:=HR.out.rk hlt
      obtain rfl:ad=_:=by injection ea
      clear ea
      obtain ⟨c0,c1,c2⟩:=hi0.below o (by rw [block_of_add];exact hadb)
      obtain ⟨vj,hvj⟩:∃ x,x=vs.getD j 0:=⟨_,rfl⟩
      rw [← hvj] at c0
      replace hvj:=Lib.hid hvj
      have i1:(j:Int)<(m:Int):=by omega
      have i2:(0:Int)≤(j:Int):=by omega
      have wj:IntKind.i64.wrap (((j+1:Nat):Int)-1)=(j:Int):=by rw [IntWalk.i64_in _ (by omega)];omega
      obtain ⟨jn,hjn⟩:∃ x,x=((j+1:Nat):Int):=⟨_,rfl⟩
      rw [← hjn] at c1 c2 wj
      replace hjn:=Lib.hid hjn
      have zR:=row_lt R
      clear hi0
      go_upto_region 8 with (fail)
      have E:Row (wr.alloc (.cells #[.int .i64 vj, .int .i64 jn, .int .i64 jn] 242)) wr.heap.size 242 #[.int .i64 vj, .int .i64 jn, .int .i64 jn]:=row_new rfl
      replace R:=row_alloc R (.cells #[.int .i64 vj, .int .i64 jn, .int .i64 jn] 242)
      replace o:=o.alloc o.size (.cells #[.int .i64 vj, .int .i64 jn, .int .i64 jn] 242)
      clear c0 c1 c2
      generalize wr.alloc (.cells #[.int .i64 vj, .int .i64 jn, .int .i64 jn] 242)=w5 at R E o ⊢
      generalize wr.heap.size=eb at E zR ⊢
      obtain ⟨E0,E1,E2,_,_,_⟩:=row_three E
      by_cases hg:v<vj
      · have e1:j=n:=by rw [hn.out];exact (HS.out.cle_eq (by rw [hln.out];exact hj) HA.out (fun _=>by rw [← hvj.out];exact hg)).symm
        rw [e1] at wj ⊢
        clear e1 i1 i2
        go_upto_region 13 with (go_at_call 139;with_reducible refine (PW.out _).mono ?_;rintro e w5 ⟨rfl,hb5⟩)
        replace R:=row_alloc (row_call R hb5) (.cells #[.int .i64 (n:Nat), .int .i64 1, .int .i64 (n:Nat), .int .i64 1, .int .i64 (n:Nat), .int .i64 1] 64)
        have M:Row (w5.alloc (.cells #[.int .i64 (n:Nat), .int .i64 1, .int .i64 (n:Nat), .int .i64 1, .int .i64 (n:Nat), .int .i64 1] 64)) w5.heap.size 64 #[.int .i64 (n:Nat), .int .i64 1, .int .i64 (n:Nat), .int .i64 1, .int .i64 (n:Nat), .int .i64 1]:=row_new rfl
        replace o:=o.trans (hb5.mono o.size)
        replace o:=o.alloc o.size (.cells #[.int .i64 (n:Nat), .int .i64 1, .int .i64 (n:Nat), .int .i64 1, .int .i64 (n:Nat), .int .i64 1] 64)
        generalize w5.alloc (.cells #[.int .i64 (n:Nat), .int .i64 1, .int .i64 (n:Nat), .int .i64 1, .int .i64 (n:Nat), .int .i64 1] 64)=w6 at R M o ⊢
        generalize w5.heap.size=mb at M ⊢
        clear hb5 PW
        obtain ⟨R0,R1,R2,R3,R4,R5,Rf0,Rf1,Rf2,Rf3,Rf4,Rf5⟩:=row_six R
        obtain ⟨M0,M1,M2,M3,M4,M5,Mf0,Mf1,Mf2,Mf3,Mf4,Mf5⟩:=row_six M
        go_wp2
        have Sr0:=row_set R 0 (.int .i64 (n:Nat))
        have Sr1:=row_set Sr0 1 (.int .i64 1)
        have Sr2:=row_set Sr1 2 (.int .i64 (n:Nat))
        have Sr3:=row_set Sr2 3 (.int .i64 1)
        have Sr4:=row_set Sr3 4 (.int .i64 (n:Nat))
        have Sr5:=row_set Sr4 5 (.int .i64 1)
        have o90:=o.setCell (p:=⟨w.heap.size+1,0,none⟩) (by show w.heap.size≤w.heap.size+1;omega) (.int .i64 (n:Nat))
        have o91:=o90.setCell (p:=⟨w.heap.size+1,1,none⟩) (by show w.heap.size≤w.heap.size+1;omega) (.int .i64 1)
        have o92:=o91.setCell (p:=⟨w.heap.size+1,2,none⟩) (by show w.heap.size≤w.heap.size+1;omega) (.int .i64 (n:Nat))
        have o93:=o92.setCell (p:=⟨w.heap.size+1,3,none⟩) (by show w.heap.size≤w.heap.size+1;omega) (.int .i64 1)
        have o94:=o93.setCell (p:=⟨w.heap.size+1,4,none⟩) (by show w.heap.size≤w.heap.size+1;omega) (.int .i64 (n:Nat))
        have o95:=o94.setCell (p:=⟨w.heap.size+1,5,none⟩) (by show w.heap.size≤w.heap.size+1;omega) (.int .i64 1)
        obtain ⟨S0,S1,S2,S3,S4,S5,_,_,_,_,_,_⟩:=row_six Sr5
        exact bodyPost_ret (v := .tuple #[.agg #[.int .i64 (n:Nat), .int .i64 1, .int .i64 (n:Nat), .int .i64 1, .int .i64 (n:Nat), .int .i64 1], .int .i64 0]) (by simp [results,Tryz.results239,go_sem,S0,S1,S2,S3,S4,S5]) rfl ⟨rfl,o95⟩
      · have HB:=Lib.hid (fun e (he:e<j+1)=>by
          rcases Nat.lt_or_ge e j with q | q
          · exact HA.out e q
          · rw [show e=j by omega,← hvj.out];exact Int.not_lt.1 hg)
        have hg2:¬ v<vj:=hg
        clear wj
        go_wp2
        go_roundw
        case rel=>exact ⟨j+1,by omega,by go_num,by rw [hjn.out],rfl,HB,R,o⟩
        case measure=>simp [intOf];omega
    · have i1:¬ (j:Int)<(m:Int):=by omega
      have e1:m=n:=by
        obtain rfl:j=m:=by omega
        rw [hn.out]
        exact (HS.out.cle_eq (by rw [hln.out];exact hj) HA.out (fun h=>absurd h (by rw [hln.out];omega))).symm
      obtain rfl:j=m:=by omega
      rw [e1] at i1 ⊢
      clear e1
      go_upto_region 13 with (go_at_call 139;with_reducible refine (PW.out _).mono ?_;rintro e w5 ⟨rfl,hb5⟩)
      replace R:=row_alloc (row_call R hb5) (.cells #[.int .i64 (n:Nat), .int .i64 1, .int .i64 (n:Nat), .int .i64 1, .int .i64 (n:Nat), .int .i64 1] 64)
      have M:Row (w5.alloc (.cells #[.int .i64 (n:Nat), .int .i64 1, .int .i64 (n:Nat), .int .i64 1, .int .i64 (n:Nat), .int .i64 1] 64)) w5.heap.size 64 #[.int .i64 (n:Nat), .int .i64 1, .int .i64 (n:Nat), .int .i64 1, .int .i64 (n:Nat), .int .i64 1]:=row_new rfl
      replace o:=o.trans (hb5.mono o.size)
      replace o:=o.alloc o.size (.cells #[.int .i64 (n:Nat), .int .i64 1, .int .i64 (n:Nat), .int .i64 1, .int .i64 (n:Nat), .int .i64 1] 64)
      generalize w5.alloc (.cells #[.int .i64 (n:Nat), .int .i64 1, .int .i64 (n:Nat), .int .i64 1, .int .i64 (n:Nat), .int .i64 1] 64)=w6 at R M o ⊢
      generalize w5.heap.size=mb at M ⊢
      clear hb5 PW
      obtain ⟨R0,R1,R2,R3,R4,R5,Rf0,Rf1,Rf2,Rf3,Rf4,Rf5⟩:=row_six R
      obtain ⟨M0,M1,M2,M3,M4,M5,Mf0,Mf1,Mf2,Mf3,Mf4,Mf5⟩:=row_six M
      go_wp2
      have Sr0:=row_set R 0 (.int .i64 (n:Nat))
      have Sr1:=row_set Sr0 1 (.int .i64 1)
      have Sr2:=row_set Sr1 2 (.int .i64 (n:Nat))
      have Sr3:=row_set Sr2 3 (.int .i64 1)
      have Sr4:=row_set Sr3 4 (.int .i64 (n:Nat))
      have Sr5:=row_set Sr4 5 (.int .i64 1)
      have o90:=o.setCell (p:=⟨w.heap.size+1,0,none⟩) (by show w.heap.size≤w.heap.size+1;omega) (.int .i64 (n:Nat))
      have o91:=o90.setCell (p:=⟨w.heap.size+1,1,none⟩) (by show w.heap.size≤w.heap.size+1;omega) (.int .i64 1)
      have o92:=o91.setCell (p:=⟨w.heap.size+1,2,none⟩) (by show w.heap.size≤w.heap.size+1;omega) (.int .i64 (n:Nat))
      have o93:=o92.setCell (p:=⟨w.heap.size+1,3,none⟩) (by show w.heap.size≤w.heap.size+1;omega) (.int .i64 1)
      have o94:=o93.setCell (p:=⟨w.heap.size+1,4,none⟩) (by show w.heap.size≤w.heap.size+1;omega) (.int .i64 (n:Nat))
      have o95:=o94.setCell (p:=⟨w.heap.size+1,5,none⟩) (by show w.heap.size≤w.heap.size+1;omega) (.int .i64 1)
      obtain ⟨S0,S1,S2,S3,S4,S5,_,_,_,_,_,_⟩:=row_six Sr5
      exact bodyPost_ret (v := .tuple #[.agg #[.int .i64 (n:Nat), .int .i64 1, .int .i64 (n:Nat), .int .i64 1, .int .i64 (n:Nat), .int .i64 1], .int .i64 0]) (by simp [results,Tryz.results239,go_sem,S0,S1,S2,S3,S4,S5]) rfl ⟨rfl,o95⟩
end Go.Proofs.YtdipoojjlddohaaGreat
end
