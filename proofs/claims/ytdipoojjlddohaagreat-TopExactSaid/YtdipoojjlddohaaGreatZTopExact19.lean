/- What the law TopExact needs, joined of its texts by a program (slim2.py); part 19. -/
import Derived.Test.YtdipoojjlddohaaGreatZTopExact1
import Derived.Test.YtdipoojjlddohaaGreatZTopExact18
set_option linter.unusedVariables false
set_option linter.unusedSimpArgs false
set_option linter.unusedSectionVars false
set_option linter.unnecessarySimpa false
section
/- The deque of a window: Advance, Add, Ask, walked. -/
namespace Go.Proofs.YtdipoojjlddohaaGreat
open Go.RowKit
theorem DIn.setc {A:Option Addr} {m c:Nat} {l:List Itm} {w:World} (h:DIn A m c l w) {p:Addr} (hne:∀ a,A=some a→p.block≠a.block) (u:Value):DIn A m c l (w.setCell p u) :=
  ⟨by rw [size_setCell];exact reads_set h.reads (fun a e=>fun x=>hne a e x.symm) u,h.mc,h.cB⟩
def ExRet (P:List Itm→Prop) (cs:Option Addr→Nat→Nat→Array Value) (er:Int) (w:World) (e:Ending) (w':World):Prop :=
  ∃ (A:Option Addr) (m c:Nat) (l:List Itm),e = .returned (.tuple #[.agg (cs A m c), .int .i64 er])∧DIn A m c l w'∧P l∧Below w.heap.size w w'∧∀ a,A=some a→w.heap.size≤a.block
def ExpI (l:List Itm) (fst:Int) (l':List Itm):Prop:=∃ j,l'=l.drop j∧(∀ y∈l.take j,y.t≤fst)∧∀ y∈l.drop j,fst<y.t
theorem drop_itm {l:List Itm} {j:Nat} (h:j<l.length):l.drop j=itmAt l j :: l.drop (j+1):=by rw [List.drop_eq_getElem_cons h,itm_eq h]
theorem take_itm {l:List Itm} {j:Nat} (h:j<l.length):l.take (j+1)=l.take j ++ [itmAt l j]:=by rw [List.take_succ_eq_append_getElem h,itm_eq h]
set_option maxRecDepth 100000 in
set_option maxHeartbeats 4000000 in
theorem pexadv (A:Option Addr) (m c:Nat) (l:List Itm) (g:Bool) (wd cap now:Int) (tt:Int) (w:World) (hin:DIn A m c l w) (hs:DqS g wd cap now l) (h1:now≤tt) (h2:tt≤16777216):Calls Tryz.prog 71 #[.agg #[.bool g, .int .i64 wd, .int .i64 cap, .int .i64 now, .slice A m c], .int .i64 tt] w (ExRet (ExpI l (tt-wd)) (fun A m c=>#[.bool g, .int .i64 wd, .int .i64 cap, .int .i64 tt, .slice A m c]) 0 w):=by
  have P:=Lib.hid (fun w' (hb:Below w.heap.size w w')=>pexval A m c l g wd cap now w' (hin.below hb) hs)
  obtain ⟨ii,hii,iz0,iz1,iz2⟩:=info_parts info_itm
  have hln:=Lib.hid hin.len
  have HS:=Lib.hid hs
  have hm:m≤65536:=by have:=hin.len;have:=hs.len;have:=hs.good;omega
  obtain ⟨g0,g1,g2,g3,g4,g5⟩:=hs.good
  have PC:=Lib.hid (fun w=>pclk_yes now tt w (by omega) (by omega) h1 h2)
  have HIN:=Lib.hid hin
  clear hin hs
  go_enter Tryz.func71,Tryz.ntmps71
  go_upto_region 1 with (fail)
  have X:Row ((w.alloc (.cells #[.bool g, .int .i64 wd, .int .i64 cap, .int .i64 now, .slice A m c] 47)).alloc (.cells #[.bool false, .int .i64 0, .int .i64 0, .int .i64 0, .slice none 0 0] 47)) w.heap.size 47 #[.bool g, .int .i64 wd, .int .i64 cap, .int .i64 now, .slice A m c]:=row_alloc (row_new rfl) _
  have R:Row ((w.alloc (.cells #[.bool g, .int .i64 wd, .int .i64 cap, .int .i64 now, .slice A m c] 47)).alloc (.cells #[.bool false, .int .i64 0, .int .i64 0, .int .i64 0, .slice none 0 0] 47)) (w.heap.size+1) 47 #[.bool false, .int .i64 0, .int .i64 0, .int .i64 0, .slice none 0 0]:=row_new (by simp)
  have o:Below w.heap.size w ((w.alloc (.cells #[.bool g, .int .i64 wd, .int .i64 cap, .int .i64 now, .slice A m c] 47)).alloc (.cells #[.bool false, .int .i64 0, .int .i64 0, .int .i64 0, .slice none 0 0] 47)):=by (repeat (first | exact Below.refl _ _ | refine Below.setCell ?_ (by (try simp)<;>omega) _ | refine Below.alloc ?_ (by (try simp)<;>omega) _ | refine Below.drew ?_ | refine Below.trans ?_ (Below.mono (by assumption) (by (try simp)<;>omega))))
  generalize ((w.alloc (.cells #[.bool g, .int .i64 wd, .int .i64 cap, .int .i64 now, .slice A m c] 47)).alloc (.cells #[.bool false, .int .i64 0, .int .i64 0, .int .i64 0, .slice none 0 0] 47))=w1 at X R o ⊢
  obtain ⟨X0,X1,X2,X3,X4,Xf0,Xf1,Xf2,Xf3,Xf4⟩:=row_five X
  go_wp2_with fail
  refine (P.out _ o).mono ?_
  rintro e w2 ⟨rfl,hb⟩
  replace X:=row_call X hb
  replace R:=row_call R hb
  replace o:=o.trans (hb.mono o.size)
  clear hb P X0 Xf0 X1 Xf1 X2 Xf2 X3 Xf3 X4 Xf4
  obtain ⟨X0,X1,X2,X3,X4,Xf0,Xf1,Xf2,Xf3,Xf4⟩:=row_five X
  go_upto_region 7 with (go_at_call 157;with_reducible refine (PC.out _).mono ?_;rintro e w9 ⟨rfl,h9⟩;obtain rfl:=h9.symm)
  go_upto_region 8 with (fail)
  replace X:=row_set X 3 (.int .i64 tt)
  replace X:Row (w2.setCell ⟨w.heap.size,3,none⟩ (.int .i64 tt)) w.heap.size 47 #[.bool g, .int .i64 wd, .int .i64 cap, .int .i64 tt, .slice A m c]:=X
  replace R:=row_other (p:=⟨w.heap.size,3,none⟩) R (by show w.heap.size+1≠w.heap.size;omega) (.int .i64 tt)
  replace o:=o.setCell (p:=⟨w.heap.size,3,none⟩) (Nat.le_refl _) (.int .i64 tt)
  generalize w2.setCell ⟨w.heap.size,3,none⟩ (.int .i64 tt)=w5 at X R o ⊢
  clear X0 Xf0 X1 Xf1 X2 Xf2 X3 Xf3 X4 Xf4 PC
  obtain ⟨X0,X1,X2,X3,X4,Xf0,Xf1,Xf2,Xf3,Xf4⟩:=row_five X
  go_wp2
  clear X0 Xf0 X1 Xf1 X2 Xf2 X3 Xf3 X4 Xf4
  go_loopw [9] (fun u wr=>∃ (A':Option Addr) (m' c' j:Nat),u = .slice A' m' c'∧RowKit.Hid (DIn A' m' c' (l.drop j) w)∧m'+j=m∧RowKit.Hid (∀ y∈l.take j,y.t≤tt-wd)∧Row wr w.heap.size 47 #[.bool g, .int .i64 wd, .int .i64 cap, .int .i64 tt, .slice A m c]∧Row wr (w.heap.size+1) 47 #[.bool false, .int .i64 0, .int .i64 0, .int .i64 0, .slice none 0 0]∧Below w.heap.size w wr) (fun u _=>lenE u)
  case atStart=>exact ⟨A,m,c,0,rfl,HIN,rfl,Lib.hid (by simp),X,R,o⟩
  case round =>
    clear X R o HIN
    obtain ⟨A',m',c',j,rfl,HI,hmj,HD,X,R,o⟩:=hrel
    have hcm:=HI.out.mc
    have hcB:=HI.out.cB
    by_cases m0:m'=0
    · have i0:¬ (0:Int)<(m':Int):=by omega
      have i0n:¬ 0<m':=by omega
      have HF:RowKit.Hid (∀ y∈l.drop j,tt-wd<y.t):=Lib.hid (fun b hb=>by
        rw [List.drop_of_length_le (by rw [hln.out];omega)] at hb
        cases hb)
      clear m0
      go_upto_region 9 with (fail)
      refine wp_region_free0 [0,1,2,3,4,5,6,7,8,9,10,11,12] [] [0,1,2,3,4,5,6,7,8,9,10,11,12] 13 (fun w'=>Below wr.heap.size wr w') (by kernel_rfl) (by kernel_rfl) (fun _ _ d _ _ h=>by cases d<;>exact h) ?_ ?_
      · exact (Below.refl _ _).drew
      (refine plan_pure ?_ rfl rfl (fun w'=>?_) ?_;rotate_left;(go_simp;try with_reducible rfl);simp only [put9])
      (refine plan_val ?_ rfl rfl rfl (fun w' hS=>?_) ?_;rotate_left;(skip;go_simp;try with_reducible rfl);simp only [put9])
      (refine plan_pure ?_ rfl rfl (fun w'=>?_) ?_;rotate_left;(go_simp;try with_reducible rfl);simp only [put9])
      (refine plan_pure ?_ rfl rfl (fun w'=>?_) ?_;rotate_left;(go_simp;try with_reducible rfl);simp only [put9])
      revert i0;intro i0
      refine plan_not rfl rfl ?_
      simp only [put9]
      refine plan_not rfl rfl ?_
      simp only [put9]
      refine plan_not rfl rfl ?_
      simp only [put9]
      refine plan_not rfl rfl ?_
      simp only [put9]
      refine plan_not rfl rfl ?_
      simp only [put9]
      refine plan_not rfl rfl ?_
      simp only [put9]
      refine plan_not rfl rfl ?_
      simp only [put9]
      refine plan_not rfl rfl ?_
      simp only [put9]
      refine plan_not rfl rfl ?_
      simp only [put9]
      refine plan_nil ?_
      intro w6 L6
      simp only [List.drop_succ_cons,List.drop_zero]
      try simp only [put9]
      replace X:=row_call X L6
      replace R:=row_call R L6
      replace o:=o.trans (L6.mono o.size)
      have rz:=row_lt R
      go_upto_region 12 with (at_builtin;refine wpList_clone rfl _ _ 22 rfl 90 ii (.agg #[.int .i64 0, .int .i64 0]) 2 16 Tryz.underlying22 hii iz0 iz1 iz2 rfl (by decide) rfl w6.heap.size A' m' c' (icells (l.drop j)) rfl (HI.out.below o).reads (Nat.le_refl _) (icells_one _) (by unfold maxLen;omega) (by omega) ?_;intro g5 c5 w7 own7 hg7 hb7 hz7;replace X:=row_call X hb7;obtain ⟨X0,X1,X2,X3,X4,Xf0,Xf1,Xf2,Xf3,Xf4⟩:=row_five X)
      replace R:=row_call R hb7
      replace o:=o.trans (hb7.mono o.size)
      have in5:=DIn.of_own own7
      clear hb7 hz7 own7 L6 HI
      replace X:=row_set X 4 (.slice (some ⟨g5,0,none⟩) m' c5)
      replace X:Row (w7.setCell ⟨w.heap.size,4,none⟩ (.slice (some ⟨g5,0,none⟩) m' c5)) (w.heap.size) 47 #[.bool g, .int .i64 wd, .int .i64 cap, .int .i64 tt, .slice (some ⟨g5,0,none⟩) m' c5]:=X
      replace R:=row_other (p:=⟨w.heap.size,4,none⟩) R (by show w.heap.size+1≠w.heap.size;omega) (.slice (some ⟨g5,0,none⟩) m' c5)
      replace o:=o.setCell (p:=⟨w.heap.size,4,none⟩) (Nat.le_refl _) (.slice (some ⟨g5,0,none⟩) m' c5)
      replace in5:=in5.setc (p:=⟨w.heap.size,4,none⟩) (fun a e=>by cases e;show w.heap.size≠g5;omega) (.slice (some ⟨g5,0,none⟩) m' c5)
      generalize w7.setCell ⟨w.heap.size,4,none⟩ (.slice (some ⟨g5,0,none⟩) m' c5)=w8 at X R o in5 ⊢
      clear X0 Xf0 X1 Xf1 X2 Xf2 X3 Xf3 X4 Xf4
      obtain ⟨X0,X1,X2,X3,X4,Xf0,Xf1,Xf2,Xf3,Xf4⟩:=row_five X
      obtain ⟨R0,R1,R2,R3,R4,Rf0,Rf1,Rf2,Rf3,Rf4⟩:=row_five R
      go_wp2
      have Sr0:=row_set R 0 (.bool g)
      have Sr1:=row_set Sr0 1 (.int .i64 wd)
      have Sr2:=row_set Sr1 2 (.int .i64 cap)
      have Sr3:=row_set Sr2 3 (.int .i64 tt)
      have Sr4:=row_set Sr3 4 (.slice (some ⟨g5,0,none⟩) m' c5)
      have o90:=o.setCell (p:=⟨w.heap.size+1,0,none⟩) (by show w.heap.size≤w.heap.size+1;omega) (.bool g)
      have o91:=o90.setCell (p:=⟨w.heap.size+1,1,none⟩) (by show w.heap.size≤w.heap.size+1;omega) (.int .i64 wd)
      have o92:=o91.setCell (p:=⟨w.heap.size+1,2,none⟩) (by show w.heap.size≤w.heap.size+1;omega) (.int .i64 cap)
      have o93:=o92.setCell (p:=⟨w.heap.size+1,3,none⟩) (by show w.heap.size≤w.heap.size+1;omega) (.int .i64 tt)
      have o94:=o93.setCell (p:=⟨w.heap.size+1,4,none⟩) (by show w.heap.size≤w.heap.size+1;omega) (.slice (some ⟨g5,0,none⟩) m' c5)
      have b90:=in5.setc (p:=⟨w.heap.size+1,0,none⟩) (fun a e=>by cases e;show w.heap.size+1≠g5;omega) (.bool g)
      have b91:=b90.setc (p:=⟨w.heap.size+1,1,none⟩) (fun a e=>by cases e;show w.heap.size+1≠g5;omega) (.int .i64 wd)
      have b92:=b91.setc (p:=⟨w.heap.size+1,2,none⟩) (fun a e=>by cases e;show w.heap.size+1≠g5;omega) (.int .i64 cap)
      have b93:=b92.setc (p:=⟨w.heap.size+1,3,none⟩) (fun a e=>by cases e;show w.heap.size+1≠g5;omega) (.int .i64 tt)
      have b94:=b93.setc (p:=⟨w.heap.size+1,4,none⟩) (fun a e=>by cases e;show w.heap.size+1≠g5;omega) (.slice (some ⟨g5,0,none⟩) m' c5)
      obtain ⟨S0,S1,S2,S3,S4,_,_,_,_,_⟩:=row_five Sr4
      exact bodyPost_ret (v := .tuple #[.agg #[.bool g, .int .i64 wd, .int .i64 cap, .int .i64 tt, .slice (some ⟨g5,0,none⟩) m' c5], .int .i64 0]) (by simp [results,Tryz.results71,go_sem,S0,S1,S2,S3,S4]) rfl ⟨_,_,_,_,rfl,b94,⟨j,rfl,HD.out,HF.out⟩,o94,fun a e=>by cases e;show w.heap.size≤g5;omega⟩
    · have i0:(0:Int)<(m':Int):=by omega
      have i0n:0<m':=by omega
      obtain ⟨ad,rfl,hadb,hi0⟩:=HI.out.reads.itm (i:=0) (by omega)
      have hi0:ItmCells w ad (itmAt (l.drop j) 0):=hi0
      have hjl:j<l.length:=by rw [hln.out];omega
      have hd:=drop_itm hjl
      rw [hd] at hi0
      have hi0:ItmCells w ad (itmAt l j):=hi0
      have HP:=Lib.hid (fun w' (hb:Below wr.heap.size wr w')=>hi0.below (o.trans (hb.mono o.size)) hadb)
      have lB:=HS.out.live _ (itm_at_mem hjl)
      have PL:=fun w=>plive tt wd (itmAt l j).t w (by omega) (by omega) (by omega) (by omega) lB.1.2.1 (by omega)
      by_cases hlt:(itmAt l j).t≤tt-wd
      · have HD2:RowKit.Hid (∀ y∈l.take (j+1),y.t≤tt-wd):=Lib.hid (fun b hb=>by
          rw [take_itm hjl] at hb
          rcases List.mem_append.1 hb with hb | hb
          · exact HD.out b hb
          · rw [List.mem_singleton.1 hb];exact hlt)
        rw [decide_eq_false (by omega)] at PL
        obtain ⟨y,hy⟩:∃ y,itmAt l j=y:=⟨_,rfl⟩
        rw [hy] at hi0 HP PL
        obtain ⟨tj,vj⟩:=y
        dsimp only at PL
        replace PL:=Lib.hid PL
        have i2:(1:Int)≤(m':Int):=by omega
        have i3:(m':Int)≤(c':Int):=by omega
        have i4:(1:Int)≤(c':Int):=by omega
        have i5:(0:Int)≤0:=by omega
        clear hlt lB hi0 hy
        go_upto_region 9 with (fail)
        refine wp_region_free0 [0,1,2,3,4,5,6,7,8,9,10,11,12] [] [0,1,2,3,4,5,6,7,8,9,10,11,12] 13 (fun w'=>Below wr.heap.size wr w') (by kernel_rfl) (by kernel_rfl) (fun _ _ d _ _ h=>by cases d<;>exact h) ?_ ?_
        · exact (Below.refl _ _).drew
        (refine plan_pure ?_ rfl rfl (fun w'=>?_) ?_;rotate_left;(go_simp;try with_reducible rfl);simp only [put9])
        (refine plan_val ?_ rfl rfl rfl (fun w' hS=>?_) ?_;rotate_left;(obtain ⟨X0,X1,X2,X3,X4,Xf0,Xf1,Xf2,Xf3,Xf4⟩:=row_five (row_call X hS);obtain ⟨p0,p1⟩:=HP.out _ hS;go_simp;try with_reducible rfl);simp only [put9])
        (refine plan_pure ?_ rfl rfl (fun w'=>?_) ?_;rotate_left;(go_simp;try with_reducible rfl);simp only [put9])
        (refine plan_pure ?_ rfl rfl (fun w'=>?_) ?_;rotate_left;(go_simp;try with_reducible rfl);simp only [put9])
        revert i0;intro i0
        (refine plan_pure ?_ rfl rfl (fun w'=>?_) ?_;rotate_left;(go_simp;try with_reducible rfl);simp only [put9])
        (refine plan_pure ?_ rfl rfl (fun w'=>?_) ?_;rotate_left;(go_simp;try with_reducible rfl);simp only [put9])
        (refine plan_val ?_ rfl rfl rfl (fun w' hS=>?_) ?_;rotate_left;(obtain ⟨X0,X1,X2,X3,X4,Xf0,Xf1,Xf2,Xf3,Xf4⟩:=row_five (row_call X hS);obtain ⟨p0,p1⟩:=HP.out _ hS;go_simp;try with_reducible rfl);simp only [put9])
        (refine plan_pure ?_ rfl rfl (fun w'=>?_) ?_;rotate_left;(go_simp;try with_reducible rfl);simp only [put9])
        (refine plan_pure ?_ rfl rfl (fun w'=>?_) ?_;rotate_left;(go_simp;try with_reducible rfl);simp only [put9])
        (refine plan_pure ?_ rfl rfl (fun w'=>?_) ?_;rotate_left;(go_simp;try with_reducible rfl);simp only [put9])
        (refine plan_val ?_ rfl rfl rfl (fun w' hS=>?_) ?_;rotate_left;(obtain ⟨X0,X1,X2,X3,X4,Xf0,Xf1,Xf2,Xf3,Xf4⟩:=row_five (row_call X hS);obtain ⟨p0,p1⟩:=HP.out _ hS;go_simp;try with_reducible rfl);simp only [put9])
        refine plan_call (.bool false) 137 #[.int .i64 tt, .int .i64 wd, .int .i64 tj] rfl rfl rfl (fun _ _ h hb=>h.trans (hb.mono h.size)) (fun w' hS=>by obtain ⟨X0,X1,X2,X3,X4,Xf0,Xf1,Xf2,Xf3,Xf4⟩:=row_five (row_call X hS);obtain ⟨p0,p1⟩:=HP.out _ hS;go_simp) (fun w' hS=>(PL.out w').mono (fun e w'' h=>⟨h.1,by rw [h.2];exact Below.refl _ _⟩)) ?_
        simp only [put9]
        (refine plan_pure ?_ rfl rfl (fun w'=>?_) ?_;rotate_left;(go_simp;try with_reducible rfl);simp only [put9])
        refine plan_nil ?_
        intro w6 L6
        simp only [List.drop_succ_cons,List.drop_zero]
        try simp only [put9]
        replace X:=row_call X L6
        replace R:=row_call R L6
        replace o:=o.trans (L6.mono o.size)
        clear L6 HP PL
        by_cases c1:c'=1
        · subst c1
          obtain rfl:m'=1:=by omega
          have HI2:RowKit.Hid (DIn (some ad) 0 0 (l.drop (j+1)) w):=Lib.hid (by
            rw [List.drop_of_length_le (by rw [hln.out];omega)]
            exact DIn.none_at (by omega))
          clear HD HI m0 i0 i2 i3 i4 hcm hcB
          go_wp2
          go_roundw
          case rel=>exact ⟨some ad,0,0,j+1,rfl,HI2,by omega,HD2,X,R,o⟩
          case measure=>simp [lenE]
        · have HI2:RowKit.Hid (DIn (some ⟨ad.block,ad.off+2,none⟩) (m'-1) (c'-1) (l.drop (j+1)) w):=Lib.hid (by
            have:=HI.out
            rw [hd] at this
            exact this.tail)
          have c1':((c':Int) == 1)=false:=by simp;omega
          clear HD HI m0
          go_wp2
          go_roundw
          case rel=>exact ⟨_,m'-1,c'-1,j+1,rfl,HI2,by omega,HD2,X,R,o⟩
          case measure=>simp [lenE];omega
      · have HF:RowKit.Hid (∀ y∈l.drop j,tt-wd<y.t):=Lib.hid (fun b hb=>by
          rw [hd] at hb
          have ho:=HS.out.ord
          rw [← List.take_append_drop j l,hd] at ho
          have ho:=(List.pairwise_cons.1 (List.pairwise_append.1 ho).2.1).1
          rcases List.mem_cons.1 hb with rfl | hb
          · omega
          · have:=(ho b hb).1
            omega)
        rw [decide_eq_true (by omega)] at PL
        obtain ⟨y,hy⟩:∃ y,itmAt l j=y:=⟨_,rfl⟩
        rw [hy] at hi0 HP PL
        obtain ⟨tj,vj⟩:=y
        dsimp only at PL
        replace PL:=Lib.hid PL
        have i5:(0:Int)≤0:=by omega
        clear m0 hlt lB hi0 hy
        go_upto_region 9 with (fail)
        refine wp_region_free0 [0,1,2,3,4,5,6,7,8,9,10,11,12] [] [0,1,2,3,4,5,6,7,8,9,10,11,12] 13 (fun w'=>Below wr.heap.size wr w') (by kernel_rfl) (by kernel_rfl) (fun _ _ d _ _ h=>by cases d<;>exact h) ?_ ?_
        · exact (Below.refl _ _).drew
        (refine plan_pure ?_ rfl rfl (fun w'=>?_) ?_;rotate_left;(go_simp;try with_reducible rfl);simp only [put9])
        (refine plan_val ?_ rfl rfl rfl (fun w' hS=>?_) ?_;rotate_left;(obtain ⟨X0,X1,X2,X3,X4,Xf0,Xf1,Xf2,Xf3,Xf4⟩:=row_five (row_call X hS);obtain ⟨p0,p1⟩:=HP.out _ hS;go_simp;try with_reducible rfl);simp only [put9])
        (refine plan_pure ?_ rfl rfl (fun w'=>?_) ?_;rotate_left;(go_simp;try with_reducible rfl);simp only [put9])
        (refine plan_pure ?_ rfl rfl (fun w'=>?_) ?_;rotate_left;(go_simp;try with_reducible rfl);simp only [put9])
        revert i0;intro i0
        (refine plan_pure ?_ rfl rfl (fun w'=>?_) ?_;rotate_left;(go_simp;try with_reducible rfl);simp only [put9])
        (refine plan_pure ?_ rfl rfl (fun w'=>?_) ?_;rotate_left;(go_simp;try with_reducible rfl);simp only [put9])
        (refine plan_val ?_ rfl rfl rfl (fun w' hS=>?_) ?_;rotate_left;(obtain ⟨X0,X1,X2,X3,X4,Xf0,Xf1,Xf2,Xf3,Xf4⟩:=row_five (row_call X hS);obtain ⟨p0,p1⟩:=HP.out _ hS;go_simp;try with_reducible rfl);simp only [put9])
        (refine plan_pure ?_ rfl rfl (fun w'=>?_) ?_;rotate_left;(go_simp;try with_reducible rfl);simp only [put9])
        (refine plan_pure ?_ rfl rfl (fun w'=>?_) ?_;rotate_left;(go_simp;try with_reducible rfl);simp only [put9])
        (refine plan_pure ?_ rfl rfl (fun w'=>?_) ?_;rotate_left;(go_simp;try with_reducible rfl);simp only [put9])
        (refine plan_val ?_ rfl rfl rfl (fun w' hS=>?_) ?_;rotate_left;(obtain ⟨X0,X1,X2,X3,X4,Xf0,Xf1,Xf2,Xf3,Xf4⟩:=row_five (row_call X hS);obtain ⟨p0,p1⟩:=HP.out _ hS;go_simp;try with_reducible rfl);simp only [put9])
        refine plan_call (.bool true) 137 #[.int .i64 tt, .int .i64 wd, .int .i64 tj] rfl rfl rfl (fun _ _ h hb=>h.trans (hb.mono h.size)) (fun w' hS=>by obtain ⟨X0,X1,X2,X3,X4,Xf0,Xf1,Xf2,Xf3,Xf4⟩:=row_five (row_call X hS);obtain ⟨p0,p1⟩:=HP.out _ hS;go_simp) (fun w' hS=>(PL.out w').mono (fun e w'' h=>⟨h.1,by rw [h.2];exact Below.refl _ _⟩)) ?_
        simp only [put9]
        (refine plan_pure ?_ rfl rfl (fun w'=>?_) ?_;rotate_left;(go_simp;try with_reducible rfl);simp only [put9])
        refine plan_nil ?_
        intro w6 L6
        simp only [List.drop_succ_cons,List.drop_zero]
        try simp only [put9]
        replace X:=row_call X L6
        replace R:=row_call R L6
        replace o:=o.trans (L6.mono o.size)
        have rz:=row_lt R
        go_upto_region 12 with (at_builtin;refine wpList_clone rfl _ _ 22 rfl 90 ii (.agg #[.int .i64 0, .int .i64 0]) 2 16 Tryz.underlying22 hii iz0 iz1 iz2 rfl (by decide) rfl w6.heap.size (some ad) m' c' (icells (l.drop j)) rfl (HI.out.below o).reads (Nat.le_refl _) (icells_one _) (by unfold maxLen;omega) (by omega) ?_;intro g5 c5 w7 own7 hg7 hb7 hz7;replace X:=row_call X hb7;obtain ⟨X0,X1,X2,X3,X4,Xf0,Xf1,Xf2,Xf3,Xf4⟩:=row_five X)
        replace R:=row_call R hb7
        replace o:=o.trans (hb7.mono o.size)
        have in5:=DIn.of_own own7
        clear hb7 hz7 own7 L6 HI
        replace X:=row_set X 4 (.slice (some ⟨g5,0,none⟩) m' c5)
        replace X:Row (w7.setCell ⟨w.heap.size,4,none⟩ (.slice (some ⟨g5,0,none⟩) m' c5)) (w.heap.size) 47 #[.bool g, .int .i64 wd, .int .i64 cap, .int .i64 tt, .slice (some ⟨g5,0,none⟩) m' c5]:=X
        replace R:=row_other (p:=⟨w.heap.size,4,none⟩) R (by show w.heap.size+1≠w.heap.size;omega) (.slice (some ⟨g5,0,none⟩) m' c5)
        replace o:=o.setCell (p:=⟨w.heap.size,4,none⟩) (Nat.le_refl _) (.slice (some ⟨g5,0,none⟩) m' c5)
        replace in5:=in5.setc (p:=⟨w.heap.size,4,none⟩) (fun a e=>by cases e;show w.heap.size≠g5;omega) (.slice (some ⟨g5,0,none⟩) m' c5)
        generalize w7.setCell ⟨w.heap.size,4,none⟩ (.slice (some ⟨g5,0,none⟩) m' c5)=w8 at X R o in5 ⊢
        clear X0 Xf0 X1 Xf1 X2 Xf2 X3 Xf3 X4 Xf4
        obtain ⟨X0,X1,X2,X3,X4,Xf0,Xf1,Xf2,Xf3,Xf4⟩:=row_five X
        obtain ⟨R0,R1,R2,R3,R4,Rf0,Rf1,Rf2,Rf3,Rf4⟩:=row_five R
        go_wp2
        have Sr0:=row_set R 0 (.bool g)
        have Sr1:=row_set Sr0 1 (.int .i64 wd)
        have Sr2:=row_set Sr1 2 (.int .i64 cap)
        have Sr3:=row_set Sr2 3 (.int .i64 tt)
        have Sr4:=row_set Sr3 4 (.slice (some ⟨g5,0,none⟩) m' c5)
        have o90:=o.setCell (p:=⟨w.heap.size+1,0,none⟩) (by show w.heap.size≤w.heap.size+1;omega) (.bool g)
        have o91:=o90.setCell (p:=⟨w.heap.size+1,1,none⟩) (by show w.heap.size≤w.heap.size+1;omega) (.int .i64 wd)
        have o92:=o91.setCell (p:=⟨w.heap.size+1,2,none⟩) (by show w.heap.size≤w.heap.size+1;omega) (.int .i64 cap)
        have o93:=o92.setCell (p:=⟨w.heap.size+1,3,none⟩) (by show w.heap.size≤w.heap.size+1;omega) (.int .i64 tt)
        have o94:=o93.setCell (p:=⟨w.heap.size+1,4,none⟩) (by show w.heap.size≤w.heap.size+1;omega) (.slice (some ⟨g5,0,none⟩) m' c5)
        have b90:=in5.setc (p:=⟨w.heap.size+1,0,none⟩) (fun a e=>by cases e;show w.heap.size+1≠g5;omega) (.bool g)
        have b91:=b90.setc (p:=⟨w.heap.size+1,1,none⟩) (fun a e=>by cases e;show w.heap.size+1≠g5;omega) (.int .i64 wd)
        have b92:=b91.setc (p:=⟨w.heap.size+1,2,none⟩) (fun a e=>by cases e;show w.heap.size+1≠g5;omega) (.int .i64 cap)
        have b93:=b92.setc (p:=⟨w.heap.size+1,3,none⟩) (fun a e=>by cases e;show w.heap.size+1≠g5;omega) (.int .i64 tt)
        have b94:=b93.setc (p:=⟨w.heap.size+1,4,none⟩) (fun a e=>by cases e;show w.heap.size+1≠g5;omega) (.slice (some ⟨g5,0,none⟩) m' c5)
        obtain ⟨S0,S1,S2,S3,S4,_,_,_,_,_⟩:=row_five Sr4
        exact bodyPost_ret (v := .tuple #[.agg #[.bool g, .int .i64 wd, .int .i64 cap, .int .i64 tt, .slice (some ⟨g5,0,none⟩) m' c5], .int .i64 0]) (by simp [results,Tryz.results71,go_sem,S0,S1,S2,S3,S4]) rfl ⟨_,_,_,_,rfl,b94,⟨j,rfl,HD.out,HF.out⟩,o94,fun a e=>by cases e;show w.heap.size≤g5;omega⟩
end Go.Proofs.YtdipoojjlddohaaGreat
end
