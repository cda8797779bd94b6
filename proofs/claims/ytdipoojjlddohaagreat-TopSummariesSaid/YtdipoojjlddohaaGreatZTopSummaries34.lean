/- What the law TopSummaries needs, joined of its texts by a program (slim2.py); part 34. -/
import Derived.Test.YtdipoojjlddohaaGreatZTopSummaries1
import Derived.Test.YtdipoojjlddohaaGreatZTopSummaries30
import Derived.Test.YtdipoojjlddohaaGreatZTopSummaries31
import Derived.Test.YtdipoojjlddohaaGreatZTopSummaries33
set_option linter.unusedVariables false
set_option linter.unusedSimpArgs false
set_option linter.unusedSectionVars false
set_option linter.unnecessarySimpa false
section
/- Blocks of exact summaries: what is surely live, joined; ranks, walked. -/
namespace Go.Proofs.YtdipoojjlddohaaGreat
open Go.RowKit
theorem qvs_part (l:List Bq) (a b:Nat):(qvs ((l.drop a).take b)).length≤(qvs l).length:=by
  have e:l=l.take a ++ ((l.drop a).take b ++ (l.drop a).drop b):=by rw [List.take_append_drop,List.take_append_drop]
  have h:=congrArg (fun x=>(qvs x).length) e
  simp only [qvs_append,List.length_append] at h
  omega
set_option maxRecDepth 100000 in
set_option maxHeartbeats 8000000 in
theorem pqsure (A:Option Addr) (m c:Nat) (l:List Bq) (sz:Nat) (w:World) (hin:QIn A m c l w) (ho:∀ b∈l,BqOK sz b) (hl30:∀ b∈l,b.lv≤30) (hm:1≤m) (hT:(qvs l).length≤90000):Calls Tryz.prog 238 #[.slice A m c] w fun e w'=>∃ (Ao:Option Addr) (no co:Nat),e = .returned (.tuple #[.agg #[.int .i64 (no:Nat), .slice Ao no co], .int .i64 0])∧RkIn Ao no co (joinQ [(bqAt l 0).last] (l.drop 1)) w'∧Below w.heap.size w w':=by
  obtain ⟨ad,rfl,hadb,_⟩:=hin.reads.bq (i:=0) (by omega)
  have HT:=Lib.hid hT
  have hln:=Lib.hid hin.len
  have HE:=Lib.hid hin.ent
  have HO:=Lib.hid ho
  have HL30:=Lib.hid hl30
  have HRD:=Lib.hid hin.reads
  have hmc:=hin.mc
  have hcB:=hin.cB
  have hmB:m≤9223372036854775807:=by unfold maxLen at hcB;omega
  obtain ⟨ls,hls⟩:∃ x,x=(bqAt l 0).last:=⟨_,rfl⟩
  rw [← hls]
  replace hls:=Lib.hid hls
  obtain ⟨su,hsu⟩:∃ x,x=joinQ [ls] (l.drop 1):=⟨_,rfl⟩
  rw [← hsu]
  replace hsu:=Lib.hid hsu
  clear hin ho hT hl30
  go_enter Tryz.func238,Tryz.ntmps238
  go_upto_region 1 with (fail)
  have R:Row (w.alloc (.cells #[.int .i64 0, .slice none 0 0] 188)) (w.heap.size) 188 #[.int .i64 0, .slice none 0 0]:=row_new rfl
  have o:Below w.heap.size w (w.alloc (.cells #[.int .i64 0, .slice none 0 0] 188)):=by (repeat (first | exact Below.refl _ _ | refine Below.setCell ?_ (by (try simp)<;>omega) _ | refine Below.alloc ?_ (by (try simp)<;>omega) _ | refine Below.drew ?_ | refine Below.trans ?_ (Below.mono (by assumption) (by (try simp)<;>omega))))
  generalize (w.alloc (.cells #[.int .i64 0, .slice none 0 0] 188))=w1 at R o ⊢
  go_upto_block 0 with (fail)
  go_wp2
  go_loopw [5,13] (fun _ i wr=>∃ j:Nat,j≤m∧i = .int .i64 (j:Nat)∧Row wr (w.heap.size) 188 #[.int .i64 0, .slice none 0 0]∧Below w.heap.size w wr) (fun _ i _=>m-(intOf i).toNat)
  case atStart=>exact ⟨0,Nat.zero_le _,rfl,R,o⟩
  case round =>
    clear R o
    obtain ⟨j,hj,rfl,R,o⟩:=hrel
    by_cases hlt:j<m
    · obtain ⟨_,ea,_,hi0⟩:=HRD.out.bq hlt
      obtain rfl:ad=_:=by injection ea
      clear ea
      have jl:j<l.length:=by rw [hln.out];exact hlt
      have hE:=HE.out _ (bq_mem jl)
      have hlv:=HL30.out _ (bq_mem jl)
      have hi0:=hi0.below o (by rw [block_of_add];exact hadb)
      obtain ⟨⟨tj,lj,vj,us,Aj,cj⟩,hx⟩:∃ x,x=bqAt l j:=⟨_,rfl⟩
      rw [← hx] at hi0 hE hlv
      unfold BqCells at hi0
      dsimp only at hi0 hE hlv
      generalize us.length=nj at hi0 hE
      have PV:=Lib.hid (fun w' (hb:Below w.heap.size w w')=>prkval Aj nj cj us w' (hE.below hb))
      obtain ⟨c0,c1,c2,c3,c4⟩:=hi0
      have i1:(j:Int)<(m:Int):=by omega
      have i2:(0:Int)≤(j:Int):=by omega
      have v1:¬ (vj:Int)<0:=by omega
      have v2:¬ (30:Int)<(vj:Int):=by omega
      clear hx jl hE
      go_upto_region 4 with (fail)
      have B:Row (wr.alloc (.cells #[.int .i64 tj, .int .i64 lj, .int .i64 (vj:Nat), .int .i64 (nj:Nat), .slice Aj nj cj] 190)) wr.heap.size 190 #[.int .i64 tj, .int .i64 lj, .int .i64 (vj:Nat), .int .i64 (nj:Nat), .slice Aj nj cj]:=row_new rfl
      replace R:=row_alloc R (.cells #[.int .i64 tj, .int .i64 lj, .int .i64 (vj:Nat), .int .i64 (nj:Nat), .slice Aj nj cj] 190)
      replace o:=o.alloc o.size (.cells #[.int .i64 tj, .int .i64 lj, .int .i64 (vj:Nat), .int .i64 (nj:Nat), .slice Aj nj cj] 190)
      clear c0 c1 c2 c3 c4
      generalize wr.alloc (.cells #[.int .i64 tj, .int .i64 lj, .int .i64 (vj:Nat), .int .i64 (nj:Nat), .slice Aj nj cj] 190)=w5 at R B o ⊢
      generalize wr.heap.size=bb at B ⊢
      obtain ⟨B0,B1,B2,B3,B4,Bf0,Bf1,Bf2,Bf3,Bf4⟩:=row_five B
      go_wp2_with fail
      refine (PV.out _ o).mono ?_
      rintro e w6 ⟨rfl,hb⟩
      clear B0 Bf0 B1 Bf1 B2 Bf2 B3 Bf3 B4 Bf4
      replace R:=row_call R hb
      replace B:=row_call B hb
      replace o:=o.trans (hb.mono o.size)
      clear hb PV
      obtain ⟨B0,B1,B2,B3,B4,Bf0,Bf1,Bf2,Bf3,Bf4⟩:=row_five B
      go_wp2
      go_roundw
      case rel=>exact ⟨j+1,by omega,by go_num,R,o⟩
      case measure=>simp [intOf];omega
    · have i1:¬ (j:Int)<(m:Int):=by omega
      have d1:((m:Int) == 0)=false:=by simp;omega
      have hl0:0<l.length:=by rw [hln.out];omega
      have hO:=HO.out _ (bq_mem hl0)
      have hE:=HE.out _ (bq_mem hl0)
      obtain ⟨_,ea,_,hi0⟩:=HRD.out.bq (i:=0) (by omega)
      obtain rfl:ad=_:=by injection ea
      clear ea
      have hi0:BqCells w ad (bqAt l 0):=hi0
      have hls':=hls.out
      have PS:=Lib.hid (fun w=>pqsingle ls w)
      obtain ⟨⟨tj,lj,vj,us,Aj,cj⟩,hx⟩:∃ x,x=bqAt l 0:=⟨_,rfl⟩
      rw [← hx] at hi0 hO hE hls'
      unfold BqCells at hi0
      obtain ⟨o1,o2,o3,o4,o5⟩:=hO
      dsimp only at hi0 hE hls' o1 o4
      subst hls'
      have H0:vj=0→us=[ls]:=fun h=>by
        rw [h] at o1
        obtain ⟨x,rfl⟩:=List.length_eq_one_iff.1 o1
        rw [List.mem_singleton.1 o4]
      have HC:=fun w' (hb:Below w.heap.size w w')=>BqCells.below (w':=w') (B:=w.heap.size) (b:=⟨tj,ls,vj,us,Aj,cj⟩) (a:=ad) hi0 hb hadb
      unfold BqCells at HC
      dsimp only at HC
      generalize hnj:us.length=nj at HC hE
      replace HC:=Lib.hid HC
      obtain ⟨c0,c1,c2,c3,c4⟩:=HC.out _ o
      have i2:(0:Int)<(m:Int):=by omega
      have zR:=row_lt R
      clear hx o1 o2 o3 o4 o5 hl0 hi0
      go_wp2_with fail
      refine (PS.out _).mono ?_
      rintro e w6 ⟨g6,c6,rfl,in6,hg6,hb⟩
      have zo6:=o.size
      clear c0 c1 c2 c3 c4 PS
      replace R:=row_call R hb
      replace o:=o.trans (hb.mono o.size)
      clear hb
      have zR6:=row_lt R
      obtain ⟨c0,c1,c2,c3,c4⟩:=HC.out _ o
      replace in6:RkIn (some ⟨g6,0,none⟩) 1 c6 [ls] w6:=in6
      have O:Row (w6.alloc (.cells #[.int .i64 1, .slice (some ⟨g6,0,none⟩) 1 c6] 188)) w6.heap.size 188 #[.int .i64 1, .slice (some ⟨g6,0,none⟩) 1 c6]:=row_new rfl
      go_upto_region 10 with (fail)
      replace R:=row_alloc R (.cells #[.int .i64 1, .slice (some ⟨g6,0,none⟩) 1 c6] 188)
      have inO:=in6.below ((Below.refl _ _).alloc (Nat.le_refl _) (.cells #[.int .i64 1, .slice (some ⟨g6,0,none⟩) 1 c6] 188))
      have g6l:g6<w6.heap.size:=by
        obtain ⟨a,e,h⟩:=in6.ptr
        cases e
        exact h
      replace o:=o.alloc o.size (.cells #[.int .i64 1, .slice (some ⟨g6,0,none⟩) 1 c6] 188)
      clear c0 c1 c2 c3 c4 in6
      generalize w6.alloc (.cells #[.int .i64 1, .slice (some ⟨g6,0,none⟩) 1 c6] 188)=w7 at R O inO o ⊢
      generalize w6.heap.size=ob at O zR6 g6l ⊢
      obtain ⟨c0,c1,c2,c3,c4⟩:=HC.out _ o
      by_cases hv0:vj=0
      · have v0:((vj:Int) == 0)=true:=by simp;omega
        have e1:=H0 hv0
        obtain rfl:nj=1:=by rw [← hnj,e1];rfl
        rw [e1] at hE
        have neO:RowKit.Hid (∀ a,Aj=some a→a.block≠w.heap.size∧a.block≠ob):=Lib.hid (fun a e=>by
          obtain ⟨a',e',h⟩:=hE.ptr
          rw [e'] at e
          cases e
          exact ⟨by omega,by omega⟩)
        have inE:=hE.below o
        obtain ⟨O0,O1,Of0,Of1⟩:=row_two O
        go_upto_region 12 with (fail)
        clear inO O0 O1 Of0 Of1 c0 c1 c2 c3 c4
        have inO:=(inE.setc (p:=⟨ob,0,none⟩) (fun a e=>(neO.out a e).2.symm) (.int .i64 1)).setc (p:=⟨ob,1,none⟩) (fun a e=>(neO.out a e).2.symm) (.slice Aj 1 cj)
        replace O:Row ((w7.setCell ⟨ob,0,none⟩ (.int .i64 1)).setCell ⟨ob,1,none⟩ (.slice Aj 1 cj)) ob 188 #[.int .i64 1, .slice Aj 1 cj]:=row_set (row_set O 0 (.int .i64 1)) 1 (.slice Aj 1 cj)
        replace R:=row_other (p:=⟨ob,1,none⟩) (row_other (p:=⟨ob,0,none⟩) R (by show w.heap.size≠ob;omega) (.int .i64 1)) (by show w.heap.size≠ob;omega) (.slice Aj 1 cj)
        replace o:=(o.setCell (p:=⟨ob,0,none⟩) (by show w.heap.size≤ob;omega) (.int .i64 1)).setCell (p:=⟨ob,1,none⟩) (by show w.heap.size≤ob;omega) (.slice Aj 1 cj)
        generalize (w7.setCell ⟨ob,0,none⟩ (.int .i64 1)).setCell ⟨ob,1,none⟩ (.slice Aj 1 cj)=w8 at R O inO o ⊢
        clear hE inE H0 hv0 v0 hnj e1 g6l
        obtain ⟨Ao,hAo⟩:∃ x:Option Addr,x=Aj:=⟨_,rfl⟩
        obtain ⟨no,hno⟩:∃ x:Nat,x=1:=⟨_,rfl⟩
        obtain ⟨co,hco⟩:∃ x,x=cj:=⟨_,rfl⟩
        replace O:Row w8 ob 188 #[.int .i64 (no:Nat), .slice Ao no co]:=by rw [hAo,hno,hco];exact O
        replace inO:RkIn Ao no co [ls] w8:=by rw [hAo,hno,hco];exact inO
        replace neO:RowKit.Hid (∀ a,Ao=some a→a.block≠w.heap.size∧a.block≠ob):=by rw [hAo];exact neO
        clear hAo hno hco
        by_cases c1:c=1
        · subst c1
          obtain rfl:m=1:=by omega
          replace hsu:RowKit.Hid (su=[ls]):=Lib.hid (by rw [hsu.out,List.drop_of_length_le (show l.length≤1 by rw [hln.out];omega)];rfl)
          go_wp2
          go_loopw [54] (fun i wr=>i = .int .i64 0∧Row wr (w.heap.size) 188 #[.int .i64 0, .slice none 0 0]∧Row wr ob 188 #[.int .i64 (no:Nat), .slice Ao no co]∧RkIn Ao no co [ls] wr∧Below w.heap.size w wr) (fun _ _=>0)
          case atStart=>exact ⟨rfl,R,O,inO,o⟩
          case round =>
            clear R O inO o
            obtain ⟨rfl,R,O,inO,o⟩:=hrel
            rw [← hsu.out] at inO
            have neO':=neO.out
            obtain ⟨R0,R1,Rf0,Rf1⟩:=row_two R
            obtain ⟨O0,O1,Of0,Of1⟩:=row_two O
            go_wp2
            have Sr0:=row_set R 0 (.int .i64 (no:Nat))
            have Sr1:=row_set Sr0 1 (.slice Ao no co)
            have o90:=o.setCell (p:=⟨w.heap.size,0,none⟩) (Nat.le_refl _) (.int .i64 (no:Nat))
            have o91:=o90.setCell (p:=⟨w.heap.size,1,none⟩) (Nat.le_refl _) (.slice Ao no co)
            have in90:=inO.setc (p:=⟨w.heap.size,0,none⟩) (fun a e=>(neO' a e).1.symm) (.int .i64 (no:Nat))
            have in91:=in90.setc (p:=⟨w.heap.size,1,none⟩) (fun a e=>(neO' a e).1.symm) (.slice Ao no co)
            obtain ⟨S0,S1,_,_⟩:=row_two Sr1
            exact bodyPost_ret (v := .tuple #[.agg #[.int .i64 (no:Nat), .slice Ao no co], .int .i64 0]) (by simp [results,Tryz.results238,go_sem,S0,S1]) rfl ⟨Ao,no,co,rfl,in91,o91⟩
        · have RD2:=Lib.hid (show Reads w w.heap.size 5 (some ⟨ad.block,ad.off+5,none⟩) (m-1) (qcells (l.drop 1)) by
            have h:=HRD.out
            have hd:=drop_bq (l:=l) (k:=0) (by rw [hln.out];omega)
            rw [List.drop_zero] at hd
            rw [hd] at h
            exact qreads_tail h)
          obtain ⟨m2,hm2⟩:∃ m2:Nat,m=m2+1:=⟨m-1,by omega⟩
          rw [show m-1=m2 by omega] at RD2
          have wm2:(m:Int)-1=(m2:Int):=by omega
          have wm3:m-1=m2:=by omega
          have d2:(1:Int)≤(m:Int):=by omega
          have d3:(m:Int)≤(c:Int):=by omega
          have d4:(1:Int)≤(c:Int):=by omega
          have d5:((c:Int) == 1)=false:=by simp;omega
          go_wp2
          try rw [wm3]
          try rw [wm2]
          replace hm2:=Lib.hid hm2
          go_loopw [8,9,10,54] (fun _ _ _ i wr=>∃ (j no co:Nat) (Ao:Option Addr),j≤m2∧i = .int .i64 (j:Nat)∧Row wr (w.heap.size) 188 #[.int .i64 0, .slice none 0 0]∧Row wr ob 188 #[.int .i64 (no:Nat), .slice Ao no co]∧RkIn Ao no co (joinQ [ls] ((l.drop 1).take j)) wr∧RowKit.Hid (∀ a,Ao=some a→a.block≠w.heap.size∧a.block≠ob)∧Below w.heap.size w wr) (fun _ _ _ i _=>m2-(intOf i).toNat)
          case atStart=>exact ⟨0,no,co,Ao,Nat.zero_le _,rfl,R,O,inO,neO,o⟩
          case round =>
            clear R O inO neO o
            obtain ⟨j,no,co,Ao,hj,rfl,R,O,inO,neO,o⟩:=hrel
            by_cases hlt:j<m2
            · obtain ⟨a2,e2,hadb2,hi0⟩:=RD2.out.bq hlt
              have e3:(⟨ad.block,ad.off+5,none⟩:Addr)=a2:=by injection e2
              subst e3
              clear e2
              have jl:j<(l.drop 1).length:=by rw [List.length_drop,hln.out];omega
              have hE:=HE.out _ (List.mem_of_mem_drop (bq_mem jl))
              have HJ:joinQ [ls] ((l.drop 1).take (j+1))=mgI (joinQ [ls] ((l.drop 1).take j)) (bqAt (l.drop 1) j).vs:=by rw [take_bq jl,joinQ_snoc]
              have hi0:=hi0.below o (by rw [block_of_add];exact hadb2)
              rw [lit_add] at hi0
              have hTT:=(joinQ_perm ((l.drop 1).take (j+1)) [ls]).length_eq
              have hTQ:=qvs_part l 1 (j+1)
              rw [HJ,mgI_len,inO.len,List.length_append,List.length_singleton] at hTT
              have hTot:=HT.out
              obtain ⟨⟨tk,lk,vk,us,Aj,cj⟩,hx⟩:∃ x,x=bqAt (l.drop 1) j:=⟨_,rfl⟩
              rw [← hx] at hi0 hE HJ hTT
              unfold BqCells at hi0
              dsimp only at hi0 hE HJ hTT
              obtain ⟨aj,rfl,hab⟩:=hE.ptr
              have PM:=fun w1 (hx:RkIn Ao no co (joinQ [ls] ((l.drop 1).take j)) w1) (hb:Below w.heap.size w w1)=>prkmerge Ao (some aj) no co us.length cj _ us w1 hx (hE.below hb) (by omega)
              unfold RkRet2 at PM
              rw [← HJ] at PM
              obtain ⟨n6,hn6⟩:∃ x,x=(joinQ [ls] ((l.drop 1).take (j+1))).length:=⟨_,rfl⟩
              rw [← hn6] at PM
              replace PM:=Lib.hid PM
              generalize us.length=nj at hi0 PM hTT
              obtain ⟨c0,c1,c2,c3,c4⟩:=hi0
              have i1:(j:Int)<(m2:Int):=by omega
              have i2:(0:Int)≤(j:Int):=by omega
              clear hx jl hE hTT hTQ hTot HJ hn6
              have zO:=row_lt O
              have zR:=row_lt R
              go_upto_region 15 with (fail)
              have B:Row (wr.alloc (.cells #[.int .i64 tk, .int .i64 lk, .int .i64 (vk:Nat), .int .i64 (nj:Nat), .slice (some aj) nj cj] 190)) wr.heap.size 190 #[.int .i64 tk, .int .i64 lk, .int .i64 (vk:Nat), .int .i64 (nj:Nat), .slice (some aj) nj cj]:=row_new rfl
              replace R:=row_alloc R (.cells #[.int .i64 tk, .int .i64 lk, .int .i64 (vk:Nat), .int .i64 (nj:Nat), .slice (some aj) nj cj] 190)
              replace O:=row_alloc O (.cells #[.int .i64 tk, .int .i64 lk, .int .i64 (vk:Nat), .int .i64 (nj:Nat), .slice (some aj) nj cj] 190)
              replace inO:=inO.below ((Below.refl _ _).alloc (Nat.le_refl _) (.cells #[.int .i64 tk, .int .i64 lk, .int .i64 (vk:Nat), .int .i64 (nj:Nat), .slice (some aj) nj cj] 190))
              replace o:=o.alloc o.size (.cells #[.int .i64 tk, .int .i64 lk, .int .i64 (vk:Nat), .int .i64 (nj:Nat), .slice (some aj) nj cj] 190)
              clear c0 c1 c2 c3 c4
              generalize wr.alloc (.cells #[.int .i64 tk, .int .i64 lk, .int .i64 (vk:Nat), .int .i64 (nj:Nat), .slice (some aj) nj cj] 190)=w5 at R O B inO o ⊢
              generalize wr.heap.size=bb at B zO zR ⊢
              obtain ⟨B0,B1,B2,B3,B4,Bf0,Bf1,Bf2,Bf3,Bf4⟩:=row_five B
              obtain ⟨O0,O1,Of0,Of1⟩:=row_two O
              go_wp2_with fail
              refine (PM.out _ inO o).mono ?_
              rintro e w6 ⟨g6,c6,rfl,in6,hg6,hb6⟩
              clear B0 Bf0 B1 Bf1 B2 Bf2 B3 Bf3 B4 Bf4 O0 O1 Of0 Of1
              have zR6:=row_lt R
              have zO6:=row_lt O
              replace R:=row_call R hb6
              replace O:=row_call O hb6
              replace o:=o.trans (hb6.mono o.size)
              clear hb6 PM inO neO B
              go_upto_region 16 with (fail)
              have N:Row (w6.alloc (.cells #[.int .i64 (n6:Nat), .slice (some ⟨g6,0,none⟩) n6 c6] 188)) w6.heap.size 188 #[.int .i64 (n6:Nat), .slice (some ⟨g6,0,none⟩) n6 c6]:=row_new rfl
              have zR7:=row_lt R
              have zO7:=row_lt O
              replace R:=row_alloc R (.cells #[.int .i64 (n6:Nat), .slice (some ⟨g6,0,none⟩) n6 c6] 188)
              replace O:=row_alloc O (.cells #[.int .i64 (n6:Nat), .slice (some ⟨g6,0,none⟩) n6 c6] 188)
              replace in6:=in6.below ((Below.refl _ _).alloc (Nat.le_refl _) (.cells #[.int .i64 (n6:Nat), .slice (some ⟨g6,0,none⟩) n6 c6] 188))
              replace o:=o.alloc o.size (.cells #[.int .i64 (n6:Nat), .slice (some ⟨g6,0,none⟩) n6 c6] 188)
              have neO:RowKit.Hid (∀ a,some (⟨g6,0,none⟩:Addr)=some a→a.block≠w.heap.size∧a.block≠ob):=Lib.hid (fun a e=>by cases e;exact ⟨by show g6≠_;omega,by show g6≠_;omega⟩)
              generalize w6.alloc (.cells #[.int .i64 (n6:Nat), .slice (some ⟨g6,0,none⟩) n6 c6] 188)=w7 at R O N in6 o ⊢
              generalize w6.heap.size=nb at N zR7 zO7 ⊢
              obtain ⟨N0,N1,_,_⟩:=row_two N
              obtain ⟨O0,O1,Of0,Of1⟩:=row_two O
              have zo7:=o.size
              go_wp2
              go_roundw
              case rel =>
                refine ⟨j+1,n6,c6,some ⟨g6,0,none⟩,by omega,by go_num,?_,row_set (row_set O 0 _) 1 _,?_,neO,?_⟩
                · exact row_other (p:=⟨ob,1,none⟩) (row_other (p:=⟨ob,0,none⟩) R (by show w.heap.size≠ob;omega) _) (by show w.heap.size≠ob;omega) _
                · exact (in6.setc (p:=⟨ob,0,none⟩) (fun a e=>by cases e;show ob≠g6;omega) _).setc (p:=⟨ob,1,none⟩) (fun a e=>by cases e;show ob≠g6;omega) _
                · exact (o.setCell (p:=⟨ob,0,none⟩) (by show w.heap.size≤ob;omega) _).setCell (p:=⟨ob,1,none⟩) (by show w.heap.size≤ob;omega) _
              case measure=>simp [intOf];omega
            · have i1:¬ (j:Int)<(m2:Int):=by omega
              rw [List.take_of_length_le (by rw [List.length_drop,hln.out];omega),← hsu.out] at inO
              have neO':=neO.out
              obtain ⟨R0,R1,Rf0,Rf1⟩:=row_two R
              obtain ⟨O0,O1,Of0,Of1⟩:=row_two O
              go_wp2
              have Sr0:=row_set R 0 (.int .i64 (no:Nat))
              have Sr1:=row_set Sr0 1 (.slice Ao no co)
              have o90:=o.setCell (p:=⟨w.heap.size,0,none⟩) (Nat.le_refl _) (.int .i64 (no:Nat))
              have o91:=o90.setCell (p:=⟨w.heap.size,1,none⟩) (Nat.le_refl _) (.slice Ao no co)
              have in90:=inO.setc (p:=⟨w.heap.size,0,none⟩) (fun a e=>(neO' a e).1.symm) (.int .i64 (no:Nat))
              have in91:=in90.setc (p:=⟨w.heap.size,1,none⟩) (fun a e=>(neO' a e).1.symm) (.slice Ao no co)
              obtain ⟨S0,S1,_,_⟩:=row_two Sr1
              exact bodyPost_ret (v := .tuple #[.agg #[.int .i64 (no:Nat), .slice Ao no co], .int .i64 0]) (by simp [results,Tryz.results238,go_sem,S0,S1]) rfl ⟨Ao,no,co,rfl,in91,o91⟩
      · have v0:((vj:Int) == 0)=false:=by simp;omega
        have neO:RowKit.Hid (∀ a,some (⟨g6,0,none⟩:Addr)=some a→a.block≠w.heap.size∧a.block≠ob):=Lib.hid (fun a e=>by cases e;exact ⟨by show g6≠_;omega,by show g6≠_;omega⟩)
        go_upto_region 12 with (fail)
        clear c0 c1 c2 c3 c4 hE H0 hv0 v0 hnj g6l
        obtain ⟨Ao,hAo⟩:∃ x:Option Addr,x=(some ⟨g6,0,none⟩):=⟨_,rfl⟩
        obtain ⟨no,hno⟩:∃ x:Nat,x=1:=⟨_,rfl⟩
        obtain ⟨co,hco⟩:∃ x,x=c6:=⟨_,rfl⟩
        replace O:Row w7 ob 188 #[.int .i64 (no:Nat), .slice Ao no co]:=by rw [hAo,hno,hco];exact O
        replace inO:RkIn Ao no co [ls] w7:=by rw [hAo,hno,hco];exact inO
        replace neO:RowKit.Hid (∀ a,Ao=some a→a.block≠w.heap.size∧a.block≠ob):=by rw [hAo];exact neO
        clear hAo hno hco
        by_cases c1:c=1
        · subst c1
          obtain rfl:m=1:=by omega
          replace hsu:RowKit.Hid (su=[ls]):=Lib.hid (by rw [hsu.out,List.drop_of_length_le (show l.length≤1 by rw [hln.out];omega)];rfl)
          go_wp2
          go_loopw [54] (fun i wr=>i = .int .i64 0∧Row wr (w.heap.size) 188 #[.int .i64 0, .slice none 0 0]∧Row wr ob 188 #[.int .i64 (no:Nat), .slice Ao no co]∧RkIn Ao no co [ls] wr∧Below w.heap.size w wr) (fun _ _=>0)
          case atStart=>exact ⟨rfl,R,O,inO,o⟩
          case round =>
            clear R O inO o
            obtain ⟨rfl,R,O,inO,o⟩:=hrel
            rw [← hsu.out] at inO
            have neO':=neO.out
            obtain ⟨R0,R1,Rf0,Rf1⟩:=row_two R
            obtain ⟨O0,O1,Of0,Of1⟩:=row_two O
            go_wp2
            have Sr0:=row_set R 0 (.int .i64 (no:Nat))
            have Sr1:=row_set Sr0 1 (.slice Ao no co)
            have o90:=o.setCell (p:=⟨w.heap.size,0,none⟩) (Nat.le_refl _) (.int .i64 (no:Nat))
            have o91:=o90.setCell (p:=⟨w.heap.size,1,none⟩) (Nat.le_refl _) (.slice Ao no co)
            have in90:=inO.setc (p:=⟨w.heap.size,0,none⟩) (fun a e=>(neO' a e).1.symm) (.int .i64 (no:Nat))
            have in91:=in90.setc (p:=⟨w.heap.size,1,none⟩) (fun a e=>(neO' a e).1.symm) (.slice Ao no co)
            obtain ⟨S0,S1,_,_⟩:=row_two Sr1
            exact bodyPost_ret (v := .tuple #[.agg #[.int .i64 (no:Nat), .slice Ao no co], .int .i64 0]) (by simp [results,Tryz.results238,go_sem,S0,S1]) rfl ⟨Ao,no,co,rfl,in91,o91⟩
        · have RD2:=Lib.hid (show Reads w w.heap.size 5 (some ⟨ad.block,ad.off+5,none⟩) (m-1) (qcells (l.drop 1)) by
            have h:=HRD.out
            have hd:=drop_bq (l:=l) (k:=0) (by rw [hln.out];omega)
            rw [List.drop_zero] at hd
            rw [hd] at h
            exact qreads_tail h)
          obtain ⟨m2,hm2⟩:∃ m2:Nat,m=m2+1:=⟨m-1,by omega⟩
          rw [show m-1=m2 by omega] at RD2
          have wm2:(m:Int)-1=(m2:Int):=by omega
          have wm3:m-1=m2:=by omega
          have d2:(1:Int)≤(m:Int):=by omega
          have d3:(m:Int)≤(c:Int):=by omega
          have d4:(1:Int)≤(c:Int):=by omega
          have d5:((c:Int) == 1)=false:=by simp;omega
          go_wp2
          try rw [wm3]
          try rw [wm2]
          replace hm2:=Lib.hid hm2
          go_loopw [8,9,10,54] (fun _ _ _ i wr=>∃ (j no co:Nat) (Ao:Option Addr),j≤m2∧i = .int .i64 (j:Nat)∧Row wr (w.heap.size) 188 #[.int .i64 0, .slice none 0 0]∧Row wr ob 188 #[.int .i64 (no:Nat), .slice Ao no co]∧RkIn Ao no co (joinQ [ls] ((l.drop 1).take j)) wr∧RowKit.Hid (∀ a,Ao=some a→a.block≠w.heap.size∧a.block≠ob)∧Below w.heap.size w wr) (fun _ _ _ i _=>m2-(intOf i).toNat)
          case atStart=>exact ⟨0,no,co,Ao,Nat.zero_le _,rfl,R,O,inO,neO,o⟩
          case round =>
            clear R O inO neO o
            obtain ⟨j,no,co,Ao,hj,rfl,R,O,inO,neO,o⟩:=hrel
            by_cases hlt:j<m2
            · obtain ⟨a2,e2,hadb2,hi0⟩:=RD2.out.bq hlt
              have e3:(⟨ad.block,ad.off+5,none⟩:Addr)=a2:=by injection e2
              subst e3
              clear e2
              have jl:j<(l.drop 1).length:=by rw [List.length_drop,hln.out];omega
              have hE:=HE.out _ (List.mem_of_mem_drop (bq_mem jl))
              have HJ:joinQ [ls] ((l.drop 1).take (j+1))=mgI (joinQ [ls] ((l.drop 1).take j)) (bqAt (l.drop 1) j).vs:=by rw [take_bq jl,joinQ_snoc]
              have hi0:=hi0.below o (by rw [block_of_add];exact hadb2)
              rw [lit_add] at hi0
              have hTT:=(joinQ_perm ((l.drop 1).take (j+1)) [ls]).length_eq
              have hTQ:=qvs_part l 1 (j+1)
              rw [HJ,mgI_len,inO.len,List.length_append,List.length_singleton] at hTT
              have hTot:=HT.out
              obtain ⟨⟨tk,lk,vk,us,Aj,cj⟩,hx⟩:∃ x,x=bqAt (l.drop 1) j:=⟨_,rfl⟩
              rw [← hx] at hi0 hE HJ hTT
              unfold BqCells at hi0
              dsimp only at hi0 hE HJ hTT
              obtain ⟨aj,rfl,hab⟩:=hE.ptr
              have PM:=fun w1 (hx:RkIn Ao no co (joinQ [ls] ((l.drop 1).take j)) w1) (hb:Below w.heap.size w w1)=>prkmerge Ao (some aj) no co us.length cj _ us w1 hx (hE.below hb) (by omega)
              unfold RkRet2 at PM
              rw [← HJ] at PM
              obtain ⟨n6,hn6⟩:∃ x,x=(joinQ [ls] ((l.drop 1).take (j+1))).length:=⟨_,rfl⟩
              rw [← hn6] at PM
              replace PM:=Lib.hid PM
              generalize us.length=nj at hi0 PM hTT
              obtain ⟨c0,c1,c2,c3,c4⟩:=hi0
              have i1:(j:Int)<(m2:Int):=by omega
              have i2:(0:Int)≤(j:Int):=by omega
              clear hx jl hE hTT hTQ hTot HJ hn6
              have zO:=row_lt O
              have zR:=row_lt R
              go_upto_region 15 with (fail)
              have B:Row (wr.alloc (.cells #[.int .i64 tk, .int .i64 lk, .int .i64 (vk:Nat), .int .i64 (nj:Nat), .slice (some aj) nj cj] 190)) wr.heap.size 190 #[.int .i64 tk, .int .i64 lk, .int .i64 (vk:Nat), .int .i64 (nj:Nat), .slice (some aj) nj cj]:=row_new rfl
              replace R:=row_alloc R (.cells #[.int .i64 tk, .int .i64 lk, .int .i64 (vk:Nat), .int .i64 (nj:Nat), .slice (some aj) nj cj] 190)
              replace O:=row_alloc O (.cells #[.int .i64 tk, .int .i64 lk, .int .i64 (vk:Nat), .int .i64 (nj:Nat), .slice (some aj) nj cj] 190)
              replace inO:=inO.below ((Below.refl _ _).alloc (Nat.le_refl _) (.cells #[.int .i64 tk, .int .i64 lk, .int .i64 (vk:Nat), .int .i64 (nj:Nat), .slice (some aj) nj cj] 190))
              replace o:=o.alloc o.size (.cells #[.int .i64 tk, .int .i64 lk, .int .i64 (vk:Nat), .int .i64 (nj:Nat), .slice (some aj) nj cj] 190)
              clear c0 c1 c2 c3 c4
              generalize wr.alloc (.cells #[.int .i64 tk, .int .i64 lk, .int .i64 (vk:Nat), .int .i64 (nj:Nat), .slice (some aj) nj cj] 190)=w5 at R O B inO o ⊢
              generalize wr.heap.size=bb at B zO zR ⊢
              obtain ⟨B0,B1,B2,B3,B4,Bf0,Bf1,Bf2,Bf3,Bf4⟩:=row_five B
              obtain ⟨O0,O1,Of0,Of1⟩:=row_two O
              go_wp2_with fail
              refine (PM.out _ inO o).mono ?_
              rintro e w6 ⟨g6,c6,rfl,in6,hg6,hb6⟩
              clear B0 Bf0 B1 Bf1 B2 Bf2 B3 Bf3 B4 Bf4 O0 O1 Of0 Of1
              have zR6:=row_lt R
              have zO6:=row_lt O
              replace R:=row_call R hb6
              replace O:=row_call O hb6
              replace o:=o.trans (hb6.mono o.size)
              clear hb6 PM inO neO B
              go_upto_region 16 with (fail)
              have N:Row (w6.alloc (.cells #[.int .i64 (n6:Nat), .slice (some ⟨g6,0,none⟩) n6 c6] 188)) w6.heap.size 188 #[.int .i64 (n6:Nat), .slice (some ⟨g6,0,none⟩) n6 c6]:=row_new rfl
              have zR7:=row_lt R
              have zO7:=row_lt O
              replace R:=row_alloc R (.cells #[.int .i64 (n6:Nat), .slice (some ⟨g6,0,none⟩) n6 c6] 188)
              replace O:=row_alloc O (.cells #[.int .i64 (n6:Nat), .slice (some ⟨g6,0,none⟩) n6 c6] 188)
              replace in6:=in6.below ((Below.refl _ _).alloc (Nat.le_refl _) (.cells #[.int .i64 (n6:Nat), .slice (some ⟨g6,0,none⟩) n6 c6] 188))
              replace o:=o.alloc o.size (.cells #[.int .i64 (n6:Nat), .slice (some ⟨g6,0,none⟩) n6 c6] 188)
              have neO:RowKit.Hid (∀ a,some (⟨g6,0,none⟩:Addr)=some a→a.block≠w.heap.size∧a.block≠ob):=Lib.hid (fun a e=>by cases e;exact ⟨by show g6≠_;omega,by show g6≠_;omega⟩)
              generalize w6.alloc (.cells #[.int .i64 (n6:Nat), .slice (some ⟨g6,0,none⟩) n6 c6] 188)=w7 at R O N in6 o ⊢
              generalize w6.heap.size=nb at N zR7 zO7 ⊢
              obtain ⟨N0,N1,_,_⟩:=row_two N
              obtain ⟨O0,O1,Of0,Of1⟩:=row_two O
              have zo7:=o.size
              go_wp2
              go_roundw
              case rel =>
                refine ⟨j+1,n6,c6,some ⟨g6,0,none⟩,by omega,by go_num,?_,row_set (row_set O 0 _) 1 _,?_,neO,?_⟩
                · exact row_other (p:=⟨ob,1,none⟩) (row_other (p:=⟨ob,0,none⟩) R (by show w.heap.size≠ob;omega) _) (by show w.heap.size≠ob;omega) _
                · exact (in6.setc (p:=⟨ob,0,none⟩) (fun a e=>by cases e;show ob≠g6;omega) _).setc (p:=⟨ob,1,none⟩) (fun a e=>by cases e;show ob≠g6;omega) _
                · exact (o.setCell (p:=⟨ob,0,none⟩) (by show w.heap.size≤ob;omega) _).setCell (p:=⟨ob,1,none⟩) (by show w.heap.size≤ob;omega) _
              case measure=>simp [intOf];omega
            · have i1:¬ (j:Int)<(m2:Int):=by omega
              rw [List.take_of_length_le (by rw [List.length_drop,hln.out];omega),← hsu.out] at inO
              have neO':=neO.out
              obtain ⟨R0,R1,Rf0,Rf1⟩:=row_two R
              obtain ⟨O0,O1,Of0,Of1⟩:=row_two O
              go_wp2
              have Sr0:=row_set R 0 (.int .i64 (no:Nat))
              have Sr1:=row_set Sr0 1 (.slice Ao no co)
              have o90:=o.setCell (p:=⟨w.heap.size,0,none⟩) (Nat.le_refl _) (.int .i64 (no:Nat))
              have o91:=o90.setCell (p:=⟨w.heap.size,1,none⟩) (Nat.le_refl _) (.slice Ao no co)
              have in90:=inO.setc (p:=⟨w.heap.size,0,none⟩) (fun a e=>(neO' a e).1.symm) (.int .i64 (no:Nat))
              have in91:=in90.setc (p:=⟨w.heap.size,1,none⟩) (fun a e=>(neO' a e).1.symm) (.slice Ao no co)
              obtain ⟨S0,S1,_,_⟩:=row_two Sr1
              exact bodyPost_ret (v := .tuple #[.agg #[.int .i64 (no:Nat), .slice Ao no co], .int .i64 0]) (by simp [results,Tryz.results238,go_sem,S0,S1]) rfl ⟨Ao,no,co,rfl,in91,o91⟩
end Go.Proofs.YtdipoojjlddohaaGreat
end
