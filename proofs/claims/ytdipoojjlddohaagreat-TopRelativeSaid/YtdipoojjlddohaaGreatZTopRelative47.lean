/- What the law TopRelative needs, joined of its texts by a program (slim2.py); part 47. -/
import Derived.Test.YtdipoojjlddohaaGreatZTopRelative1
import Derived.Test.YtdipoojjlddohaaGreatZTopRelative45
import Derived.Test.YtdipoojjlddohaaGreatZTopRelative46
set_option linter.unusedVariables false
set_option linter.unusedSimpArgs false
set_option linter.unusedSectionVars false
set_option linter.unnecessarySimpa false
set_option maxRecDepth 100000
namespace Go.Proofs.YtdipoojjlddohaaGreat
open MC
open MT
open Go.RowKit
theorem orow_le {w:World} {b base:Nat} {e:TypeId} {size:Nat} {v:Value} {n:Nat} {xs:List Value} (h:w.ownsRow base e size v n xs) (hb:b<=base):w.ownsRow b e size v n xs :=
  ⟨h.1,h.2.imp id (fun ⟨g,cap,cur,h1,h2,h3⟩=>⟨g,cap,cur,h1,Nat.le_trans hb h2,h3⟩)⟩
theorem wp_ssyn {o:Oper} {a:Act} {w:World} {b:Nat} {cs old:Array Value} {K:Act->World->Prop} {Q:Exit->Act->World->Prop} (R:Row w b 58 old) (hs:old.size=57) (hc:cs.size=57) (h1:cs.all (·.oneCell')=true) (x y:Operand) (ho:o.op = .store 58 x y) (hx:a.eval x = .pointer (some ⟨b,0,none⟩)) (hy:a.eval y = .agg cs)
    (h:K (a.put o.dst undef) (w.setRow b cs)):o.wp Tryz.prog a w K Q:=wp_store_row 58 x y ho b cs hx hy 58 old R (by rw [hc];exact info_syn) (hs.trans hc.symm) h1 h
theorem wp_sans {o:Oper} {a:Act} {w:World} {b:Nat} {cs old:Array Value} {K:Act->World->Prop} {Q:Exit->Act->World->Prop} (R:Row w b 71 old) (hs:old.size=11) (hc:cs.size=11) (h1:cs.all (·.oneCell')=true) (x y:Operand) (ho:o.op = .store 71 x y) (hx:a.eval x = .pointer (some ⟨b,0,none⟩)) (hy:a.eval y = .agg cs)
    (h:K (a.put o.dst undef) (w.setRow b cs)):o.wp Tryz.prog a w K Q:=wp_store_row 71 x y ho b cs hx hy 71 old R (by rw [hc];exact info_ans) (hs.trans hc.symm) h1 h
theorem pRAsk (op:Int) (ob:1<=op/\op<=5) (A:Option Addr) (m c:Nat) (l:List Itm) (wd now:Int) (w:World) (hr:Reads w w.heap.size 2 A m (icells l)) (hm:m<=200) (d0:1<=wd) (d1:wd<=1048576) (n0:0<=now) (n1:now<=16777216) (hl:LOK now (-4096) 4096 l) (hv:∀ x∈l,now-wd<x.t) (h0:op=2->0<=isum l):Calls Tryz.prog 28 #[.agg #[wd, .int .i64 200,now, .slice A m c], .agg #[op,(),()]] w (RAns op l w):=by
  have h:op=1∨op=2∨op=3∨op=4∨op=5:=by omega
  rcases h with rfl | rfl | rfl | rfl | rfl
  · exact pRAsk1 A m c l wd now w hr hm d0 d1 n0 n1 hl hv
  · exact pRAsk2 A m c l wd now w hr hm d0 d1 n0 n1 hl hv (h0 rfl)
  · exact pRAsk3 A m c l wd now w hr hm d0 d1 n0 n1 hl hv
  · exact pRAsk4 A m c l wd now w hr hm d0 d1 n0 n1 hl hv
  · exact pRAsk5 A m c l wd now w hr hm d0 d1 n0 n1 hl hv
set_option maxRecDepth 100000 in
set_option maxHeartbeats 16000000 in
theorem topRel (x0 x1 x2 x3 x4 x5 x6 x7:Int) (rN:Nat) (cv r0 r1 wd:Int) (kk:Nat) (r4 r5 r6 r7 lo hi op M:Int) (A:Option Addr) (m c:Nat) (l L:List Itm) (IN:List Itm->Int->Option Addr->Nat->Nat->World->Prop) (csf:List Itm->Int->Option Addr->Nat->Nat->Array Value) (hr:x0 % 5=(rN:Int)) (h5:rN<5) (hcv:(J34:Array Value)[rN]?=some (.int .i64 cv)) (RK:RowKit.Hid (RelK x0 x1 x2 x3 x4 x5 x6 x7 cv r0 r1 wd kk r4 r5 r6 r7 lo hi op M A m c l L IN csf)) (later:Int) (w:World) (hin:RIn A m c l w):Calls Tryz.prog 6 #[.agg #[x0,x1,x2,x3,x4,x5,x6,x7], .slice A m c, .int .i64 later] w (Rr (.bool true) w):=by
  have PI:=fun w=>pint x0 5 (by omega) (by omega) w;rw [hr] at PI;replace PI:=Lib.hid PI;have HCV:=Lib.hid hcv;have wb:=RK.out.wb;have kb:=RK.out.kb;have ob:=RK.out.ob;have lb:=RK.out.lb;have HLEN:=Lib.hid RK.out.len;have h80:L.length<=80:=by have:=HLEN.out;omega
  have PCF:=Lib.hid RK.out.cfg;have PQ:=Lib.hid RK.out.qst;have PM:=Lib.hid RK.out.most;have PST:=Lib.hid (fun w' (hb:Below w w w')=>RK.out.str w' (hin.below hb));have HK:=Lib.hid RK.out.kind;have hmB:m<=9223372036854775807:=by have:=hin.mc;have:=hin.cB;unfold maxLen at *;omega
  have PR:RowKit.Hid (∀ (A1:Option Addr) (c1:Nat) (w1:World),Reads w1 w1.heap.size 2 A1 L.length (icells L)->(∀ i,i<L.length->nowK L i<=(itmAt L i).t/\(itmAt L i).t<=16777216/\(lo<=(itmAt L i).v/\(itmAt L i).v<=hi))->Calls Tryz.prog 11 #[.agg #[r0,r1,wd, .int .i64 (kk:Nat),r4,r5,r6,r7], .slice A1 L.length c1] w1 (RunRetP IN csf L w1)):=Lib.hid (fun A1 c1 w1 h1 h3=>prunP _ _ _ _ _ _ _ _ _ _ _ 80 HK A1 _ c1 L w1 h1 (by omega) (by omega) h3);have g0:=Int.emod_nonneg later (show (2*wd+2:Int)≠0 by omega);have g1:=Int.emod_lt_of_pos later (show (0:Int)<2*wd+2 by omega);have PMD:=fun w=>pmod later (2*wd+2) (by omega) (by omega) w;generalize later % (2*wd+2)=md at g0 g1 PMD;replace PMD:=Lib.hid PMD;have PW:=Lib.hid awakeT;have v1:(rN:Int)<5:=by omega
  have v0:(0:Int)<=(rN:Int):=by omega
  have ww1:IntKind.i64.wrap (2*wd)=2*wd:=IntWalk.i64_in _ (by omega);have ww2:IntKind.i64.wrap (2*wd+2)=2*wd+2:=IntWalk.i64_in _ (by omega);clear hin hr hcv h5;go_enter Tryz.func6,Tryz.ntmps6;go_upto_region 1 with (fail)
  have X:Row (w.alloc (.cells #[x0,x1,x2,x3,x4,x5,x6,x7] 27)) w.heap.size 27 #[x0,x1,x2,x3,x4,x5,x6,x7]:=row_new rfl;have o:Below w w (w.alloc (.cells #[x0,x1,x2,x3,x4,x5,x6,x7] 27)):=bel9;generalize w.alloc (.cells #[x0,x1,x2,x3,x4,x5,x6,x7] 27)=w1 at X o |-
  go_cut [] (fun wx=>Row wx (w.heap.size) 27 #[r0,r1,wd, .int .i64 (kk:Nat),r4,r5,r6,r7]/\Below w w wx)
  case first =>
    refine wp_region_phase 8 (fun w'=>Row w' (w.heap.size) 27 #[x0,x1,x2,x3,x4,x5,x6,x7]/\Below w w w') (by kernel_rfl) (by kernel_rfl) (by kernel_rfl) (by kernel_rfl) (by kernel_rfl) (fun HOK=>?_);have HS:=(⟨row_drew X,o.drew⟩:Row w1.drew (w.heap.size) 27 #[x0,x1,x2,x3,x4,x5,x6,x7]/\Below w w w1.drew)
    (refine hwt HOK 0 HS rfl (fun w' hS=>by obtain ⟨X0,X1,X2,X3,X4,X5,X6,X7,Xf0,Xf1,Xf2,Xf3,Xf4,Xf5,Xf6,Xf7⟩:=row_eight hS.1;exact gs9) ?_;simp only [put9]);(refine hwt HOK 2 HS rfl (fun w' hS=>gs9) ?_;simp only [put9]);(refine hwt HOK 3 HS rfl (fun w' hS=>by obtain ⟨X0,X1,X2,X3,X4,X5,X6,X7,Xf0,Xf1,Xf2,Xf3,Xf4,Xf5,Xf6,Xf7⟩:=row_eight hS.1;exact gs9) ?_;simp only [put9]);replace X:Row w1.drew (w.heap.size) 27 #[x0,x1,x2,x3,x4,x5,x6,x7]:=X;replace o:=o.drew;clear HS;generalize w1.drew=w2 at X o |-
    refine hw_two (i:=1) (j:=4) rfl rfl (by decide) (by decide) (by kernel_rfl) (fun K hK=>?_) (fun K hK=>?_);go_simp;have zx:=row_lt X;replace X:=row_alloc X (.cells J34 3);replace o:=o.alloc o.size (.cells J34 3);have NB:Row (w2.alloc (.cells J34 3)) w2.heap.size 3 J34:=row_new rfl;refine hK _ (w2.alloc (.cells J34 3)) ⟨X,o⟩ ?_;generalize w2.alloc (.cells J34 3)=w3 at X o NB |-
    generalize w2.heap.size=nb at NB zx |-
    clear hK K;try simp only [put9]
    refine hw_one (i:=4) rfl (by decide) (by kernel_rfl) (fun K hK=>?_);go_simp;refine (PI.out _).mono ?_;rintro e wx ⟨rfl,hx⟩;obtain rfl:=hx.symm;refine hK _ _ ⟨X,o⟩ ?_;clear hK K;try simp only [put9]
    rotate_left;go_simp;refine (PI.out _).mono ?_;rintro e wx ⟨rfl,hx⟩;obtain rfl:=hx.symm;refine hK _ _ ⟨X,o⟩ ?_;clear hK K;try simp only [put9]
    refine hw_one (i:=1) rfl (by decide) (by kernel_rfl) (fun K hK=>?_);go_simp;have zx:=row_lt X;replace X:=row_alloc X (.cells J34 3);replace o:=o.alloc o.size (.cells J34 3);have NB:Row (w2.alloc (.cells J34 3)) w2.heap.size 3 J34:=row_new rfl;refine hK _ (w2.alloc (.cells J34 3)) ⟨X,o⟩ ?_;generalize w2.alloc (.cells J34 3)=w3 at X o NB |-
    generalize w2.heap.size=nb at NB zx |-
    clear hK K;try simp only [put9]
    rotate_left
    all_goals
      have NBr:=(row_cell NB rN).trans HCV.out;refine hw_one (i:=5) rfl (by decide) (by kernel_rfl) (fun K hK=>?_);go_simp;refine hK _ _ ⟨X,o⟩ ?_;clear hK K;try simp only [put9]
      refine hw_one (i:=6) rfl (by decide) (by kernel_rfl) (fun K hK=>?_);go_simp;refine hK _ _ ⟨X,o⟩ ?_;clear hK K;try simp only [put9]
      refine hw_one (i:=7) rfl (by decide) (by kernel_rfl) (fun K hK=>?_);go_simp;refine (PCF.out _).mono ?_;rintro e w4 ⟨rfl,hb⟩;replace X:=row_call X hb;replace o:=o.trans (hb.mono o.size);refine hK _ _ ⟨X,o⟩ ?_;clear hK K hb NB NBr PI PCF;try simp only [put9]
      refine hw_done (by kernel_rfl) ?_;try simp only [List.drop_succ_cons,List.drop_zero]
      clear HOK;obtain ⟨X0,X1,X2,X3,X4,X5,X6,X7,Xf0,Xf1,Xf2,Xf3,Xf4,Xf5,Xf6,Xf7⟩:=row_eight X;go_wp2_with fail;go_meet;clear X0 Xf0 X1 Xf1 X2 Xf2 X3 Xf3 X4 Xf4 X5 Xf5 X6 Xf6 X7 Xf7;replace X:=row_set X 0 (.int .i64 r0);replace o:=o.setCell (p:=⟨w,0,none⟩) (Nat.le_refl _) (.int .i64 r0);replace X:Row (w4.setCell ⟨w,0,none⟩ (.int .i64 r0)) (w.heap.size) 27 #[r0,x1,x2,x3,x4,x5,x6,x7]:=X;replace X:=row_set X 1 (.int .i64 r1);replace o:=o.setCell (p:=⟨w,1,none⟩) (Nat.le_refl _) (.int .i64 r1);replace X:Row ((w4.setCell ⟨w,0,none⟩ (.int .i64 r0)).setCell ⟨w,1,none⟩ (.int .i64 r1)) (w.heap.size) 27 #[r0,r1,x2,x3,x4,x5,x6,x7]:=X;replace X:=row_set X 2 (.int .i64 wd);replace o:=o.setCell (p:=⟨w,2,none⟩) (Nat.le_refl _) (.int .i64 wd);replace X:Row (((w4.setCell ⟨w,0,none⟩ (.int .i64 r0)).setCell ⟨w,1,none⟩ (.int .i64 r1)).setCell ⟨w,2,none⟩ (.int .i64 wd)) (w.heap.size) 27 #[r0,r1,wd,x3,x4,x5,x6,x7]:=X;replace X:=row_set X 3 (.int .i64 (kk:Nat));replace o:=o.setCell (p:=⟨w,3,none⟩) (Nat.le_refl _) (.int .i64 (kk:Nat));replace X:Row ((((w4.setCell ⟨w,0,none⟩ (.int .i64 r0)).setCell ⟨w,1,none⟩ (.int .i64 r1)).setCell ⟨w,2,none⟩ (.int .i64 wd)).setCell ⟨w,3,none⟩ (.int .i64 (kk:Nat))) (w.heap.size) 27 #[r0,r1,wd, .int .i64 (kk:Nat),x4,x5,x6,x7]:=X;replace X:=row_set X 4 (.int .i64 r4);replace o:=o.setCell (p:=⟨w,4,none⟩) (Nat.le_refl _) (.int .i64 r4);replace X:Row (((((w4.setCell ⟨w,0,none⟩ (.int .i64 r0)).setCell ⟨w,1,none⟩ (.int .i64 r1)).setCell ⟨w,2,none⟩ (.int .i64 wd)).setCell ⟨w,3,none⟩ (.int .i64 (kk:Nat))).setCell ⟨w,4,none⟩ (.int .i64 r4)) (w.heap.size) 27 #[r0,r1,wd, .int .i64 (kk:Nat),r4,x5,x6,x7]:=X;replace X:=row_set X 5 (.int .i64 r5);replace o:=o.setCell (p:=⟨w,5,none⟩) (Nat.le_refl _) (.int .i64 r5);replace X:Row ((((((w4.setCell ⟨w,0,none⟩ (.int .i64 r0)).setCell ⟨w,1,none⟩ (.int .i64 r1)).setCell ⟨w,2,none⟩ (.int .i64 wd)).setCell ⟨w,3,none⟩ (.int .i64 (kk:Nat))).setCell ⟨w,4,none⟩ (.int .i64 r4)).setCell ⟨w,5,none⟩ (.int .i64 r5)) (w.heap.size) 27 #[r0,r1,wd, .int .i64 (kk:Nat),r4,r5,x6,x7]:=X;replace X:=row_set X 6 (.int .i64 r6);replace o:=o.setCell (p:=⟨w,6,none⟩) (Nat.le_refl _) (.int .i64 r6);replace X:Row (((((((w4.setCell ⟨w,0,none⟩ (.int .i64 r0)).setCell ⟨w,1,none⟩ (.int .i64 r1)).setCell ⟨w,2,none⟩ (.int .i64 wd)).setCell ⟨w,3,none⟩ (.int .i64 (kk:Nat))).setCell ⟨w,4,none⟩ (.int .i64 r4)).setCell ⟨w,5,none⟩ (.int .i64 r5)).setCell ⟨w,6,none⟩ (.int .i64 r6)) (w.heap.size) 27 #[r0,r1,wd, .int .i64 (kk:Nat),r4,r5,r6,x7]:=X;replace X:=row_set X 7 (.int .i64 r7);replace o:=o.setCell (p:=⟨w,7,none⟩) (Nat.le_refl _) (.int .i64 r7);replace X:Row ((((((((w4.setCell ⟨w,0,none⟩ (.int .i64 r0)).setCell ⟨w,1,none⟩ (.int .i64 r1)).setCell ⟨w,2,none⟩ (.int .i64 wd)).setCell ⟨w,3,none⟩ (.int .i64 (kk:Nat))).setCell ⟨w,4,none⟩ (.int .i64 r4)).setCell ⟨w,5,none⟩ (.int .i64 r5)).setCell ⟨w,6,none⟩ (.int .i64 r6)).setCell ⟨w,7,none⟩ (.int .i64 r7)) (w.heap.size) 27 #[r0,r1,wd, .int .i64 (kk:Nat),r4,r5,r6,r7]:=X;exact ⟨X,o⟩
  case rest =>
    obtain ⟨X,o⟩:=hcut;clear PI PCF HCV v0 v1;generalize wc=w5 at X o |-
    go_upto_region 2 with (fail)
    go_cut [7,8,9] (fun v7 v8 v9 wx=>∃ (sb:Nat) (ad:List Itm) (A2:Option Addr) (m2 c2:Nat),v7 = .pointer (some ⟨sb,0,none⟩)/\v9 = .bool true/\RowKit.Hid (ad.Sublist L)/\Row wx sb 58 (csf ad (nowK L L.length) A2 m2 c2)/\Row wx (w.heap.size) 27 #[r0,r1,wd, .int .i64 (kk:Nat),r4,r5,r6,r7]/\IN ad (nowK L L.length) A2 m2 c2 wx/\RowKit.Hid (0<m2->∀ a,A2=some a->a.block≠sb)/\wx.ownsRow w.heap.size 90 2 v8 ad.length (icells ad)/\v8.ownBlock≠some sb/\w.heap.size<sb/\RowKit.Hid (LOK (nowK L L.length) lo hi L/\0<=nowK L L.length/\nowK L L.length<=3280)/\Below w w wx)
    case first =>
      refine wp_region_phase 12 (fun w'=>Row w' (w.heap.size) 27 #[r0,r1,wd, .int .i64 (kk:Nat),r4,r5,r6,r7]/\Below w w w') (by kernel_rfl) (by kernel_rfl) (by kernel_rfl) (by kernel_rfl) (by kernel_rfl) (fun HOK=>?_);have HS:=(⟨row_drew X,o.drew⟩:Row w5.drew (w.heap.size) 27 #[r0,r1,wd, .int .i64 (kk:Nat),r4,r5,r6,r7]/\Below w w w5.drew)
      (refine hwt HOK 0 HS rfl (fun w' hS=>by obtain ⟨X0,X1,X2,X3,X4,X5,X6,X7,Xf0,Xf1,Xf2,Xf3,Xf4,Xf5,Xf6,Xf7⟩:=row_eight hS.1;exact gs9) ?_;simp only [put9]);(refine hwt HOK 1 HS rfl (fun w' hS=>by obtain ⟨X0,X1,X2,X3,X4,X5,X6,X7,Xf0,Xf1,Xf2,Xf3,Xf4,Xf5,Xf6,Xf7⟩:=row_eight hS.1;exact gs9) ?_;simp only [put9]);(refine hwt HOK 2 HS rfl (fun w' hS=>gs9) ?_;simp only [put9]);replace X:Row w5.drew (w.heap.size) 27 #[r0,r1,wd, .int .i64 (kk:Nat),r4,r5,r6,r7]:=X;replace o:=o.drew;clear HS;generalize w5.drew=y1 at X o |-
      refine hw_two (i:=3) (j:=9) rfl rfl (by decide) (by decide) (by kernel_rfl) (fun K hK=>?_) (fun K hK=>?_)
      · go_simp;refine (PST.out _ o).mono ?_;rintro e y2 ⟨v,last,rfl,own,hl80,hmade,hb⟩;replace X:=row_call X hb;replace o:=o.trans (hb.mono o.size);obtain ⟨A1,c1,rfl,R1,_,_,_⟩:=orow_forms own;have hl0:=hmade.2.1;have hl2:=hmade.2.2
        have HN:=Lib.hid (show LOK (nowK L L.length) lo hi L/\0<=nowK L L.length/\nowK L L.length<=3280 from ⟨made_lok hmade,by
          unfold nowK;split
          · exact Int.le_refl _
          · exact (hmade.1 (L.length-1) (by omega)).1,by
          unfold nowK;split
          · omega
          · have:=(hmade.1 (L.length-1) (by omega)).2.1
            omega⟩)
        have HT:=Lib.hid (made_runP hmade (by omega));clear own hmade hb hl0 hl2;refine hK _ _ ⟨X,o⟩ ?_;clear hK K;try simp only [put9]
        refine hw_two (i:=4) (j:=9) rfl rfl (by decide) (by decide) (by kernel_rfl) (fun K hK=>?_) (fun K hK=>?_)
        · go_simp;refine (PR.out A1 c1 _ R1 HT.out).mono ?_;rintro e y3 ⟨ad,A2,m2,c2,v2,hsub,he,in1,hfr,own2,hb⟩;subst he;replace X:=row_call X hb;have ow:=o.size;replace o:=o.trans (hb.mono o.size);have IO1:=HK.out.inok ad (nowK L L.length);have hs1:=HK.out.size ad (nowK L L.length) A2 m2 c2;have h1:=HK.out.one ad (nowK L L.length) A2 m2 c2;have bk:=IO1.blk in1;replace own2:y3.ownsRow w.heap.size 90 2 v2 ad.length (icells ad):=orow_le own2 (by omega);clear hb R1 HT;refine hK _ _ ⟨X,o⟩ ?_;clear hK K;try simp only [put9]
          have HS:Row y3 (w.heap.size) 27 #[r0,r1,wd, .int .i64 (kk:Nat),r4,r5,r6,r7]/\Below w w y3:=⟨X,o⟩
          (refine hwt HOK 5 HS rfl (fun w' hS=>gs9) ?_;simp only [put9]);(refine hwt HOK 6 HS rfl (fun w' hS=>gs9) ?_;simp only [put9]);(refine hwt HOK 7 HS rfl (fun w' hS=>gs9) ?_;simp only [put9]);(refine hwt HOK 8 HS rfl (fun w' hS=>gs9) ?_;simp only [put9]);clear HS;refine hw_one (i:=9) rfl (by decide) (by kernel_rfl) (fun K hK=>?_);go_simp;have zx:=row_lt X;replace X:=row_alloc X (.cells J0 58);replace o:=o.alloc o.size (.cells J0 58);have SZ:Row (y3.alloc (.cells J0 58)) y3.heap.size 58 J0:=row_new rfl;refine hK _ (y3.alloc (.cells J0 58)) ⟨X,o⟩ ?_;obtain ⟨y4,hy4⟩:∃ x,x=y3.alloc (.cells J0 58):=⟨_,rfl⟩
          have O8:Below y3.heap.size y3 y4:=by rw [hy4];exact (Below.refl _ _).alloc (Nat.le_refl _) _
          rw [<- hy4] at X o SZ |-
          clear hy4;obtain ⟨sb,hsb⟩:∃ x,x=y3.heap.size:=⟨_,rfl⟩
          rw [<- hsb] at SZ zx |-
          clear hK K;try simp only [put9]
          have hne:0<m2->∀ a,A2=some a->a.block≠sb:=fun hm a e=>by have:=bk hm a e;omega
          replace in1:=IO1.below in1 O8;replace own2:=orow_keep own2 (fun g e=>O8.block g (own2.lt g e).2);clear O8 hsb;have hnw:=orow_ne_row own2 SZ (by decide);refine hw_one (i:=10) rfl (by decide) (by kernel_rfl) (fun K hK=>?_);rw [if_pos (show Region.wanted _ _=true from rfl)];refine wp_ssyn SZ rfl hs1 h1 _ _ rfl rfl rfl ?_;have SR:=row_setRow (cs:=csf ad (nowK L L.length) A2 m2 c2) SZ;replace X:=row_setRow_other (g:=sb) (cs':=csf ad (nowK L L.length) A2 m2 c2) X (by omega);replace in1:=IO1.setr (g:=sb) (csf ad (nowK L L.length) A2 m2 c2) in1 (fun hm a e=>(hne hm a e).symm);replace own2:=orow_keep own2 (fun g e=>heap_setRow_other y4 sb (csf ad (nowK L L.length) A2 m2 c2) g (fun x=>hnw (x ▸ e)));replace o:=below_setRow (g:=sb) o (by omega) (csf ad (nowK L L.length) A2 m2 c2);refine hK _ _ ⟨X,o⟩ ?_;obtain ⟨y6,h6⟩:∃ x,x=y4.setRow sb (csf ad (nowK L L.length) A2 m2 c2):=⟨_,rfl⟩
          rw [<- h6] at SR X in1 own2 o |-
          clear h6 hK K SZ;try simp only [put9]
          refine hw_one (i:=11) rfl (by decide) (by kernel_rfl) (fun K hK=>?_);go_simp;refine hK _ _ ⟨X,o⟩ ?_;clear hK K;try simp only [put9]
          refine hw_done (by kernel_rfl) ?_;try simp only [List.drop_succ_cons,List.drop_zero]
          clear HOK;go_wp2;go_meet;exact ⟨sb,ad,A2,m2,c2,rfl,rfl,Lib.hid hsub,SR,X,in1,Lib.hid hne,own2,hnw,zx,HN,o⟩
        · go_simp;have zx:=row_lt X;replace X:=row_alloc X (.cells J0 58);replace o:=o.alloc o.size (.cells J0 58);have SZ:Row (y2.alloc (.cells J0 58)) y2.heap.size 58 J0:=row_new rfl;refine hK _ (y2.alloc (.cells J0 58)) ⟨X,o⟩ ?_;obtain ⟨y3,hy3⟩:∃ x,x=y2.alloc (.cells J0 58):=⟨_,rfl⟩
          have O8:Below y2.heap.size y2 y3:=by rw [hy3];exact (Below.refl _ _).alloc (Nat.le_refl _) _
          rw [<- hy3] at X o SZ |-
          clear hy3;obtain ⟨sb,hsb⟩:∃ x,x=y2.heap.size:=⟨_,rfl⟩
          rw [<- hsb] at SZ zx |-
          clear hK K;try simp only [put9]
          replace R1:=(R1.below O8).more O8.size;clear O8 hsb;refine hw_one (i:=4) rfl (by decide) (by kernel_rfl) (fun K hK=>?_);have zs:=row_lt SZ;go_simp;refine (PR.out A1 c1 _ R1 HT.out).mono ?_;rintro e y4 ⟨ad,A2,m2,c2,v2,hsub,he,in1,hfr,own2,hb⟩;subst he;replace SZ:=row_call SZ hb;replace X:=row_call X hb;have ow:=o.size;replace o:=o.trans (hb.mono o.size);have IO1:=HK.out.inok ad (nowK L L.length);have hs1:=HK.out.size ad (nowK L L.length) A2 m2 c2;have h1:=HK.out.one ad (nowK L L.length) A2 m2 c2;have bk:=IO1.blk in1;replace own2:y4.ownsRow w.heap.size 90 2 v2 ad.length (icells ad):=orow_le own2 (by omega);clear hb R1 HT;refine hK _ _ ⟨X,o⟩ ?_;clear hK K;try simp only [put9]
          have HS:Row y4 (w.heap.size) 27 #[r0,r1,wd, .int .i64 (kk:Nat),r4,r5,r6,r7]/\Below w w y4:=⟨X,o⟩
          (refine hwt HOK 5 HS rfl (fun w' hS=>gs9) ?_;simp only [put9]);(refine hwt HOK 6 HS rfl (fun w' hS=>gs9) ?_;simp only [put9]);(refine hwt HOK 7 HS rfl (fun w' hS=>gs9) ?_;simp only [put9]);(refine hwt HOK 8 HS rfl (fun w' hS=>gs9) ?_;simp only [put9]);clear HS;have hne:0<m2->∀ a,A2=some a->a.block≠sb:=fun hm a e=>by have:=hfr hm a e;omega
          have hnw:=orow_ne_row own2 SZ (by decide);refine hw_one (i:=10) rfl (by decide) (by kernel_rfl) (fun K hK=>?_);rw [if_pos (show Region.wanted _ _=true from rfl)];refine wp_ssyn SZ rfl hs1 h1 _ _ rfl rfl rfl ?_;have SR:=row_setRow (cs:=csf ad (nowK L L.length) A2 m2 c2) SZ;replace X:=row_setRow_other (g:=sb) (cs':=csf ad (nowK L L.length) A2 m2 c2) X (by omega);replace in1:=IO1.setr (g:=sb) (csf ad (nowK L L.length) A2 m2 c2) in1 (fun hm a e=>(hne hm a e).symm);replace own2:=orow_keep own2 (fun g e=>heap_setRow_other y4 sb (csf ad (nowK L L.length) A2 m2 c2) g (fun x=>hnw (x ▸ e)));replace o:=below_setRow (g:=sb) o (by omega) (csf ad (nowK L L.length) A2 m2 c2);refine hK _ _ ⟨X,o⟩ ?_;obtain ⟨y6,h6⟩:∃ x,x=y4.setRow sb (csf ad (nowK L L.length) A2 m2 c2):=⟨_,rfl⟩
          rw [<- h6] at SR X in1 own2 o |-
          clear h6 hK K SZ;try simp only [put9]
          refine hw_one (i:=11) rfl (by decide) (by kernel_rfl) (fun K hK=>?_);go_simp;refine hK _ _ ⟨X,o⟩ ?_;clear hK K;try simp only [put9]
          refine hw_done (by kernel_rfl) ?_;try simp only [List.drop_succ_cons,List.drop_zero]
          clear HOK;go_wp2;go_meet;exact ⟨sb,ad,A2,m2,c2,rfl,rfl,Lib.hid hsub,SR,X,in1,Lib.hid hne,own2,hnw,zx,HN,o⟩
      · go_simp;have zx:=row_lt X;replace X:=row_alloc X (.cells J0 58);replace o:=o.alloc o.size (.cells J0 58);have SZ:Row (y1.alloc (.cells J0 58)) y1.heap.size 58 J0:=row_new rfl;refine hK _ (y1.alloc (.cells J0 58)) ⟨X,o⟩ ?_;obtain ⟨y2,hy2⟩:∃ x,x=y1.alloc (.cells J0 58):=⟨_,rfl⟩
        have O8:Below y1.heap.size y1 y2:=by rw [hy2];exact (Below.refl _ _).alloc (Nat.le_refl _) _
        rw [<- hy2] at X o SZ |-
        clear hy2;obtain ⟨sb,hsb⟩:∃ x,x=y1.heap.size:=⟨_,rfl⟩
        rw [<- hsb] at SZ zx |-
        clear hK K;try simp only [put9]
        clear O8 hsb;refine hw_one (i:=3) rfl (by decide) (by kernel_rfl) (fun K hK=>?_);go_simp;refine (PST.out _ o).mono ?_;rintro e y3 ⟨v,last,rfl,own,hl80,hmade,hb⟩;replace SZ:=row_call SZ hb;replace X:=row_call X hb;replace o:=o.trans (hb.mono o.size);obtain ⟨A1,c1,rfl,R1,_,_,_⟩:=orow_forms own;have hl0:=hmade.2.1;have hl2:=hmade.2.2
        have HN:=Lib.hid (show LOK (nowK L L.length) lo hi L/\0<=nowK L L.length/\nowK L L.length<=3280 from ⟨made_lok hmade,by
          unfold nowK;split
          · exact Int.le_refl _
          · exact (hmade.1 (L.length-1) (by omega)).1,by
          unfold nowK;split
          · omega
          · have:=(hmade.1 (L.length-1) (by omega)).2.1
            omega⟩)
        have HT:=Lib.hid (made_runP hmade (by omega));clear own hmade hb hl0 hl2;refine hK _ _ ⟨X,o⟩ ?_;clear hK K;try simp only [put9]
        refine hw_one (i:=4) rfl (by decide) (by kernel_rfl) (fun K hK=>?_);have zs:=row_lt SZ;go_simp;refine (PR.out A1 c1 _ R1 HT.out).mono ?_;rintro e y4 ⟨ad,A2,m2,c2,v2,hsub,he,in1,hfr,own2,hb⟩;subst he;replace SZ:=row_call SZ hb;replace X:=row_call X hb;have ow:=o.size;replace o:=o.trans (hb.mono o.size);have IO1:=HK.out.inok ad (nowK L L.length);have hs1:=HK.out.size ad (nowK L L.length) A2 m2 c2;have h1:=HK.out.one ad (nowK L L.length) A2 m2 c2;have bk:=IO1.blk in1;replace own2:y4.ownsRow w.heap.size 90 2 v2 ad.length (icells ad):=orow_le own2 (by omega);clear hb R1 HT;refine hK _ _ ⟨X,o⟩ ?_;clear hK K;try simp only [put9]
        have HS:Row y4 (w.heap.size) 27 #[r0,r1,wd, .int .i64 (kk:Nat),r4,r5,r6,r7]/\Below w w y4:=⟨X,o⟩
        (refine hwt HOK 5 HS rfl (fun w' hS=>gs9) ?_;simp only [put9]);(refine hwt HOK 6 HS rfl (fun w' hS=>gs9) ?_;simp only [put9]);(refine hwt HOK 7 HS rfl (fun w' hS=>gs9) ?_;simp only [put9]);(refine hwt HOK 8 HS rfl (fun w' hS=>gs9) ?_;simp only [put9]);clear HS;have hne:0<m2->∀ a,A2=some a->a.block≠sb:=fun hm a e=>by have:=hfr hm a e;omega
        have hnw:=orow_ne_row own2 SZ (by decide);refine hw_one (i:=10) rfl (by decide) (by kernel_rfl) (fun K hK=>?_);rw [if_pos (show Region.wanted _ _=true from rfl)];refine wp_ssyn SZ rfl hs1 h1 _ _ rfl rfl rfl ?_;have SR:=row_setRow (cs:=csf ad (nowK L L.length) A2 m2 c2) SZ;replace X:=row_setRow_other (g:=sb) (cs':=csf ad (nowK L L.length) A2 m2 c2) X (by omega);replace in1:=IO1.setr (g:=sb) (csf ad (nowK L L.length) A2 m2 c2) in1 (fun hm a e=>(hne hm a e).symm);replace own2:=orow_keep own2 (fun g e=>heap_setRow_other y4 sb (csf ad (nowK L L.length) A2 m2 c2) g (fun x=>hnw (x ▸ e)));replace o:=below_setRow (g:=sb) o (by omega) (csf ad (nowK L L.length) A2 m2 c2);refine hK _ _ ⟨X,o⟩ ?_;obtain ⟨y6,h6⟩:∃ x,x=y4.setRow sb (csf ad (nowK L L.length) A2 m2 c2):=⟨_,rfl⟩
        rw [<- h6] at SR X in1 own2 o |-
        clear h6 hK K SZ;try simp only [put9]
        refine hw_one (i:=11) rfl (by decide) (by kernel_rfl) (fun K hK=>?_);go_simp;refine hK _ _ ⟨X,o⟩ ?_;clear hK K;try simp only [put9]
        refine hw_done (by kernel_rfl) ?_;try simp only [List.drop_succ_cons,List.drop_zero]
        clear HOK;go_wp2;go_meet;exact ⟨sb,ad,A2,m2,c2,rfl,rfl,Lib.hid hsub,SR,X,in1,Lib.hid hne,own2,hnw,zx,HN,o⟩
    case rest =>
      obtain ⟨sb,ad,A2,m2,c2,rfl,rfl,HSB,SR,X,in1,HNE,own2,hnw,zx,HN,o⟩:=hcut;obtain ⟨A3,c3,rfl,R3,_,_,_⟩:=orow_forms own2;have hz0:L.length=0->nowK L L.length=0:=fun h=>by unfold nowK;rw [if_pos h]
      have hlast:0<L.length->nowK L L.length=(itmAt L (L.length-1)).t:=fun h=>by unfold nowK;rw [if_neg (by omega)]
      generalize nowK L L.length=tn at SR in1 HN hz0 hlast;obtain ⟨hlk,ht0,ht1⟩:=HN.out;have hA3:=Lib.hid (fun (a:Addr) (e:A3=some a) (h:a.block=sb)=>hnw (by subst e;simp [Value.ownBlock,h]));clear own2 hnw HN;have IO1:=HK.out.inok ad tn;go_upto_region 6 with (fail)
      by_cases hm0:m=0
      case' pos =>
        obtain rfl:tn=0:=hz0 (by have:=HLEN.out;omega);have n0:¬ 0<m:=by omega
        have n1:¬ (0:Int)<(m:Int):=by omega
        replace hm0:=Lib.hid hm0;clear hz0 hlast;obtain ⟨tt,htt⟩:∃ tt,md=tt:=⟨_,rfl⟩
        have wt:IntKind.i64.wrap md=tt:=by rw [htt,<- htt];exact IntWalk.i64_in _ (by omega)
        have wt2:IntKind.i64.wrap (0+md)=tt:=by rw [Int.zero_add];exact wt
        have tb:0<=tt/\tt<=3400:=by omega
        have t5:0<=tt:=by omega
        have HL5:=Lib.hid ((hlk.sub HSB.out).later tb.1);have PAD:=Lib.hid (fun A m c w (h:IN ad 0 A m c w)=>HK.out.adv ad 0 tt A m c w h tb.1 (by omega));have hs0:=HK.out.size ad 0 A2 m2 c2;generalize wc=w7 at X SR in1 R3 o |-
        go_upto_region 11 with (fail)
      case' neg =>
        have n0:0<m:=by omega
        have n1:(0:Int)<(m:Int):=by omega
        obtain ⟨X0,X1,X2,X3,X4,X5,X6,X7,Xf0,Xf1,Xf2,Xf3,Xf4,Xf5,Xf6,Xf7⟩:=row_eight X;go_wp2_with fail;refine (PST.out _ o).mono ?_;rintro e w7 ⟨v9,last,rfl,own9,_,hmade9,hb⟩;clear X0 Xf0 X1 Xf1 X2 Xf2 X3 Xf3 X4 Xf4 X5 Xf5 X6 Xf6 X7 Xf7;replace X:=row_call X hb;replace SR:=row_call SR hb;replace in1:=IO1.below in1 hb;replace R3:=(R3.below hb).more hb.size;replace o:=o.trans (hb.mono o.size);obtain ⟨A9,c9,rfl,R9,_,_,_⟩:=orow_forms own9;have hL9:0<L.length:=by have:=HLEN.out;omega
        obtain ⟨p9,hp9⟩:∃ p9:Nat,L.length=p9+1:=⟨L.length-1,by omega⟩
        obtain ⟨ad9,rfl,hadb9,hi9⟩:=R9.itm (i:=p9) (by omega);have hlt9:=hlast hL9;rw [show L.length-1=p9 by omega] at hlt9;obtain ⟨c0,_⟩:=hi9;rw [<- hlt9] at c0;have n2:(0:Int)<(L.length:Int):=by omega
        have p0:(0:Int)<=(p9:Int):=by omega
        have p1:(p9:Int)<(L.length:Int):=by omega
        have wj:IntKind.i64.wrap ((L.length:Int)-1)=(p9:Int):=by rw [IntWalk.i64_in _ (by omega)];omega
        replace hp9:=Lib.hid hp9;obtain ⟨tt,htt⟩:∃ tt,tn+md=tt:=⟨_,rfl⟩
        have wt:IntKind.i64.wrap (tn+md)=tt:=by rw [htt,<- htt];exact IntWalk.i64_in _ (by omega)
        have tb:tn<=tt/\tt<=3400:=by omega
        have HL5:=Lib.hid ((hlk.sub HSB.out).later tb.1);have PAD:=Lib.hid (fun A m c w (h:IN ad tn A m c w)=>HK.out.adv ad tn tt A m c w h tb.1 (by omega));have hs0:=HK.out.size ad tn A2 m2 c2;have t5:0<=tt:=by omega
        clear hlt9 hlast hz0 own9 hmade9 hb R9 hm0;go_upto_region 11 with (fail)
        clear c0 p0 p1 wj hadb9
      all_goals
        replace htt:=Lib.hid htt;obtain ⟨X0,X1,X2,X3,X4,X5,X6,X7,Xf0,Xf1,Xf2,Xf3,Xf4,Xf5,Xf6,Xf7⟩:=row_eight X;go_upto_region 12 with (go_at_call 8;with_reducible refine (PMD.out _).mono ?_;rintro e wx ⟨rfl,hx⟩;obtain rfl:=hx.symm)
        clear X0 Xf0 X1 Xf1 X2 Xf2 X3 Xf3 X4 Xf4 X5 Xf5 X6 Xf6 X7 Xf7;go_wp2_with (with_reducible refine wpList_lsyn SR hs0 rfl _ rfl rfl ?_);refine (PAD.out _ _ _ _ in1).mono ?_;rintro e w10 ⟨A5,m5,c5,rfl,in5,hb,fr5⟩;have zs:=row_lt SR
        have hne5:0<m5->∀ a,A5=some a->a.block≠sb:=fun hm a e=>by
          rcases fr5 hm a e with h | ⟨h,b,eb,h'⟩
          · omega
          · have:=HNE.out h b eb;omega
        replace SR:=row_call SR hb;replace X:=row_call X hb;replace R3:=(R3.below hb).more hb.size;replace o:=o.trans (hb.mono o.size);have IO5:=HK.out.inok ad tt;have hs5:=HK.out.size ad tt A5 m5 c5;have h15:=HK.out.one ad tt A5 m5 c5;go_upto_region 13 with (with_reducible refine wpList_ssyn SR hs0 hs5 h15 rfl _ _ rfl rfl rfl ?_)
        replace SR:=row_setRow (cs:=csf ad tt A5 m5 c5) SR;replace X:=row_setRow_other (g:=sb) (cs':=csf ad tt A5 m5 c5) X (by omega);replace in5:=IO5.setr (g:=sb) (csf ad tt A5 m5 c5) in5 (fun hm a e=>(hne5 hm a e).symm);replace R3:=reads_keep R3 (fun a e _=>heap_setRow_other w10 sb (csf ad tt A5 m5 c5) a.block (hA3.out a e));replace o:=below_setRow (g:=sb) o (by omega) (csf ad tt A5 m5 c5);rw [<- size_setRow w10 sb (csf ad tt A5 m5 c5)] at R3;obtain ⟨w11,h11⟩:∃ x,x=w10.setRow sb (csf ad tt A5 m5 c5):=⟨_,rfl⟩
        rw [<- h11] at SR X in5 R3 o |-
        obtain ⟨nrec,hle,hrec⟩:=RK.out.recs ad tt A5 m5 c5 w11 in5;have HRC:=Lib.hid hrec;have PA:=Lib.hid (fun w' (hb:Below w11 w11 w')=>RK.out.ask ad tt A5 m5 c5 w' HL5.out (IO5.below in5 hb));have hadL:ad.length<=80:=by have:=HSB.out.length_le;omega
        have PLV:=Lib.hid (fun w' (hb:Below w11 w11 w')=>pmlive A3 ad.length c3 ad tt wd w' ((R3.below hb).more hb.size) (by omega) t5 (by omega) (by omega) (by omega));obtain ⟨hll,hlv⟩:=HL5.out.live wd;have hLn:(liveI tt wd ad).length<=80:=Nat.le_trans (List.length_filter_le _ _) hadL;have hps:=RK.out.pos;have PX:=Lib.hid (fun (A6:Option Addr) (c6:Nat) (w':World) (h:Reads w' w'.heap.size 2 A6 (liveI tt wd ad).length (icells (liveI tt wd ad)))=>pRAsk op ob A6 (liveI tt wd ad).length c6 (liveI tt wd ad) wd tt w' h (by omega) (by omega) (by omega) t5 (by omega) ⟨hll.tick,fun x hx=>by have:=hll.val x hx;omega,hll.ord⟩ hlv (fun e=>isum_nonneg _ (fun x hx=>by have:=(hll.val x hx).1;have:=hps e;omega)));generalize liveI tt wd ad=LL at PA PLV PX hLn
        delta AskRet at PA
        delta RAns at PX
        generalize exN op LL=n at PA PX;generalize exD op LL=d at PA PX;have o11:=Below.refl w11.heap.size w11;have OW11:=o.size;clear h11 hb fr5 hne5 in1 in5 R3 PAD hs0 IO1 hll hlv hrec HL5 hps HNE hA3 zs hs5 h15 IO5;have hs5:=HK.out.size ad tt A5 m5 c5;generalize csf ad tt A5 m5 c5=c9 at SR PA HRC hs5;go_cut [14,15] (fun v14 v15 wx=>(∃ ab l1 l2 b1 b2 h1 h2:Nat,v14 = .pointer (some ⟨ab,0,none⟩)/\v15 = .int .i64 0/\w11.heap.size<=ab/\Row wx ab 71 (J13 (l1:Nat) (l2:Nat) (b1:Nat) (b2:Nat) (h1:Nat) (h2:Nat))/\RowKit.Hid (AnsOK kk l1 l2 b1 b2 h1 h2 n d)/\Below w11 w11 wx))
        case first =>
          refine wp_region_phase 10 (fun w'=>Below w11 w11 w') (by kernel_rfl) (by kernel_rfl) (by kernel_rfl) (by kernel_rfl) (by kernel_rfl) (fun HOK=>?_);have HS:=(o11.drew:Below w11 w11 w11.drew)
          (refine hw_take HOK (i:=0) (.agg c9) rfl (by decide) (by kernel_rfl) (by kernel_rfl) (by exact fun _ _ _ h=>h) (Or.inl ⟨by rfl,fun w' hS=>exec_lsyn (row_call SR hS) hs5 _ rfl rfl⟩) HS ?_;try simp only [put9]);(refine hwt HOK 1 HS rfl (fun w' hS=>by have hX:=row_call X hS;obtain ⟨X0,X1,X2,X3,X4,X5,X6,X7,Xf0,Xf1,Xf2,Xf3,Xf4,Xf5,Xf6,Xf7⟩:=row_eight hX;exact gs9) ?_;simp only [put9]);replace o11:=o11.drew;clear HS;generalize w11.drew=y1 at o11 |-
          refine hw_two (i:=2) (j:=8) rfl rfl (by decide) (by decide) (by kernel_rfl) (fun K hK=>?_) (fun K hK=>?_)
          · go_simp;refine (PQ.out _).mono ?_;rintro e y2 ⟨rfl,hb⟩;replace o11:=o11.trans (hb.mono o11.size);refine hK _ _ o11 ?_;clear hK K hb;try simp only [put9]
            have HS:Below w11 w11 y2:=o11;(refine hwt HOK 3 HS rfl (fun w' hS=>gs9) ?_;simp only [put9]);clear HS;refine hw_two (i:=4) (j:=8) rfl rfl (by decide) (by decide) (by kernel_rfl) (fun K hK=>?_) (fun K hK=>?_)
            · go_simp;refine (PA.out _ o11).mono ?_;rintro e y3 ⟨l1,l2,b1,b2,h1,h2,rfl,hans,hb⟩;replace o11:=o11.trans (hb.mono o11.size);replace hans:=Lib.hid hans;refine hK _ _ o11 ?_;clear hK K hb;try simp only [put9]
              have HS:Below w11 w11 y3:=o11;(refine hwt HOK 5 HS rfl (fun w' hS=>gs9) ?_;simp only [put9]);(refine hwt HOK 6 HS rfl (fun w' hS=>gs9) ?_;simp only [put9]);(refine hwt HOK 7 HS rfl (fun w' hS=>gs9) ?_;simp only [put9]);clear HS;refine hw_one (i:=8) rfl (by decide) (by kernel_rfl) (fun K hK=>?_);go_simp;have zo:=o11.size;replace o11:=o11.alloc o11.size (.cells J12 71);have SZ:Row (y3.alloc (.cells J12 71)) y3.heap.size 71 J12:=row_new rfl;refine hK _ (y3.alloc (.cells J12 71)) o11 ?_;generalize y3.alloc (.cells J12 71)=y4 at o11 SZ |-
              generalize y3.heap.size=ab at SZ zo |-
              clear hK K;try simp only [put9]
              have hone:((J13 (l1:Nat) (l2:Nat) (b1:Nat) (b2:Nat) (h1:Nat) (h2:Nat)):Array Value).all (·.oneCell')=true:=all_one rfl;refine hw_one (i:=9) rfl (by decide) (by kernel_rfl) (fun K hK=>?_);rw [if_pos (show Region.wanted _ _=true from rfl)];refine wp_sans SZ rfl rfl hone _ _ rfl rfl rfl ?_;have AR:=row_setRow (cs:=(J13 (l1:Nat) (l2:Nat) (b1:Nat) (b2:Nat) (h1:Nat) (h2:Nat))) SZ;replace o11:=below_setRow (g:=ab) o11 zo (J13 (l1:Nat) (l2:Nat) (b1:Nat) (b2:Nat) (h1:Nat) (h2:Nat));refine hK _ _ o11 ?_;obtain ⟨y6,h6⟩:∃ x,x=y4.setRow ab (J13 (l1:Nat) (l2:Nat) (b1:Nat) (b2:Nat) (h1:Nat) (h2:Nat)):=⟨_,rfl⟩
              rw [<- h6] at AR o11 |-
              clear h6 hK K SZ;try simp only [put9]
              refine hw_done (by kernel_rfl) ?_;try simp only [List.drop_succ_cons,List.drop_zero]
              clear HOK;go_wp2;go_meet;exact ⟨ab,l1,l2,b1,b2,h1,h2,rfl,rfl,zo,AR,hans,o11⟩
            · go_simp;have zo:=o11.size;replace o11:=o11.alloc o11.size (.cells J12 71);have SZ:Row (y2.alloc (.cells J12 71)) y2.heap.size 71 J12:=row_new rfl;refine hK _ (y2.alloc (.cells J12 71)) o11 ?_;generalize y2.alloc (.cells J12 71)=y3 at o11 SZ |-
              generalize y2.heap.size=ab at SZ zo |-
              clear hK K;try simp only [put9]
              refine hw_one (i:=4) rfl (by decide) (by kernel_rfl) (fun K hK=>?_);go_simp;refine (PA.out _ o11).mono ?_;rintro e y4 ⟨l1,l2,b1,b2,h1,h2,rfl,hans,hb⟩;replace SZ:=row_call SZ hb;replace o11:=o11.trans (hb.mono o11.size);replace hans:=Lib.hid hans;refine hK _ _ o11 ?_;clear hK K hb;try simp only [put9]
              have HS:Below w11 w11 y4:=o11;(refine hwt HOK 5 HS rfl (fun w' hS=>gs9) ?_;simp only [put9]);(refine hwt HOK 6 HS rfl (fun w' hS=>gs9) ?_;simp only [put9]);(refine hwt HOK 7 HS rfl (fun w' hS=>gs9) ?_;simp only [put9]);clear HS;have hone:((J13 (l1:Nat) (l2:Nat) (b1:Nat) (b2:Nat) (h1:Nat) (h2:Nat)):Array Value).all (·.oneCell')=true:=all_one rfl;refine hw_one (i:=9) rfl (by decide) (by kernel_rfl) (fun K hK=>?_);rw [if_pos (show Region.wanted _ _=true from rfl)];refine wp_sans SZ rfl rfl hone _ _ rfl rfl rfl ?_;have AR:=row_setRow (cs:=(J13 (l1:Nat) (l2:Nat) (b1:Nat) (b2:Nat) (h1:Nat) (h2:Nat))) SZ;replace o11:=below_setRow (g:=ab) o11 zo (J13 (l1:Nat) (l2:Nat) (b1:Nat) (b2:Nat) (h1:Nat) (h2:Nat));refine hK _ _ o11 ?_;obtain ⟨y6,h6⟩:∃ x,x=y4.setRow ab (J13 (l1:Nat) (l2:Nat) (b1:Nat) (b2:Nat) (h1:Nat) (h2:Nat)):=⟨_,rfl⟩
              rw [<- h6] at AR o11 |-
              clear h6 hK K SZ;try simp only [put9]
              refine hw_done (by kernel_rfl) ?_;try simp only [List.drop_succ_cons,List.drop_zero]
              clear HOK;go_wp2;go_meet;exact ⟨ab,l1,l2,b1,b2,h1,h2,rfl,rfl,zo,AR,hans,o11⟩
          · go_simp;have zo:=o11.size;replace o11:=o11.alloc o11.size (.cells J12 71);have SZ:Row (y1.alloc (.cells J12 71)) y1.heap.size 71 J12:=row_new rfl;refine hK _ (y1.alloc (.cells J12 71)) o11 ?_;generalize y1.alloc (.cells J12 71)=y2 at o11 SZ |-
            generalize y1.heap.size=ab at SZ zo |-
            clear hK K;try simp only [put9]
            refine hw_one (i:=2) rfl (by decide) (by kernel_rfl) (fun K hK=>?_);go_simp;refine (PQ.out _).mono ?_;rintro e y3 ⟨rfl,hb⟩;replace SZ:=row_call SZ hb;replace o11:=o11.trans (hb.mono o11.size);refine hK _ _ o11 ?_;clear hK K hb;try simp only [put9]
            have HS:Below w11 w11 y3:=o11;(refine hwt HOK 3 HS rfl (fun w' hS=>gs9) ?_;simp only [put9]);clear HS;refine hw_one (i:=4) rfl (by decide) (by kernel_rfl) (fun K hK=>?_);go_simp;refine (PA.out _ o11).mono ?_;rintro e y4 ⟨l1,l2,b1,b2,h1,h2,rfl,hans,hb⟩;replace SZ:=row_call SZ hb;replace o11:=o11.trans (hb.mono o11.size);replace hans:=Lib.hid hans;refine hK _ _ o11 ?_;clear hK K hb;try simp only [put9]
            have HS:Below w11 w11 y4:=o11;(refine hwt HOK 5 HS rfl (fun w' hS=>gs9) ?_;simp only [put9]);(refine hwt HOK 6 HS rfl (fun w' hS=>gs9) ?_;simp only [put9]);(refine hwt HOK 7 HS rfl (fun w' hS=>gs9) ?_;simp only [put9]);clear HS;have hone:((J13 (l1:Nat) (l2:Nat) (b1:Nat) (b2:Nat) (h1:Nat) (h2:Nat)):Array Value).all (·.oneCell')=true:=all_one rfl;refine hw_one (i:=9) rfl (by decide) (by kernel_rfl) (fun K hK=>?_);rw [if_pos (show Region.wanted _ _=true from rfl)];refine wp_sans SZ rfl rfl hone _ _ rfl rfl rfl ?_;have AR:=row_setRow (cs:=(J13 (l1:Nat) (l2:Nat) (b1:Nat) (b2:Nat) (h1:Nat) (h2:Nat))) SZ;replace o11:=below_setRow (g:=ab) o11 zo (J13 (l1:Nat) (l2:Nat) (b1:Nat) (b2:Nat) (h1:Nat) (h2:Nat));refine hK _ _ o11 ?_;obtain ⟨y6,h6⟩:∃ x,x=y4.setRow ab (J13 (l1:Nat) (l2:Nat) (b1:Nat) (b2:Nat) (h1:Nat) (h2:Nat)):=⟨_,rfl⟩
            rw [<- h6] at AR o11 |-
            clear h6 hK K SZ;try simp only [put9]
            refine hw_done (by kernel_rfl) ?_;try simp only [List.drop_succ_cons,List.drop_zero]
            clear HOK;go_wp2;go_meet;exact ⟨ab,l1,l2,b1,b2,h1,h2,rfl,rfl,zo,AR,hans,o11⟩
        case rest =>
          obtain ⟨ab,l1,l2,b1,b2,h1,h2,rfl,rfl,zab,AR,hans,o12⟩:=hcut;clear PA;generalize wc=w12 at AR o12 |-
          go_upto_region 14 with (fail)
          go_cut [16] (fun v16 wx=>(∃ (xb:Nat) (A6:Option Addr) (c6:Nat),v16 = .pointer (some ⟨xb,0,none⟩)/\Row wx xb 29 #[wd, .int .i64 200,tt, .slice A6 LL.length c6]/\RowKit.Hid (Reads wx wx.heap.size 2 A6 LL.length (icells LL))/\Row wx ab 71 (J13 (l1:Nat) (l2:Nat) (b1:Nat) (b2:Nat) (h1:Nat) (h2:Nat))/\Below w11 w11 wx))
          case first =>
            have X12:=row_call X o12;have o14:=Below.refl w12.heap.size w12;refine wp_region_phase 10 (fun w'=>Below w12 w12 w') (by kernel_rfl) (by kernel_rfl) (by kernel_rfl) (by kernel_rfl) (by kernel_rfl) (fun HOK=>?_);have HS:=(o14.drew:Below w12 w12 w12.drew)
            (refine hwt HOK 0 HS rfl (fun w' hS=>gs9) ?_;simp only [put9]);(refine hwt HOK 5 HS rfl (fun w' hS=>gs9) ?_;simp only [put9]);(refine hwt HOK 1 HS rfl (fun w' hS=>by have hX:=row_call X12 hS;obtain ⟨X0,X1,X2,X3,X4,X5,X6,X7,Xf0,Xf1,Xf2,Xf3,Xf4,Xf5,Xf6,Xf7⟩:=row_eight hX;exact gs9) ?_;simp only [put9]);(refine hwt HOK 6 HS rfl (fun w' hS=>by have hX:=row_call X12 hS;obtain ⟨X0,X1,X2,X3,X4,X5,X6,X7,Xf0,Xf1,Xf2,Xf3,Xf4,Xf5,Xf6,Xf7⟩:=row_eight hX;exact gs9) ?_;simp only [put9]);(refine hwt HOK 2 HS rfl (fun w' hS=>gs9) ?_;simp only [put9]);(refine hwt HOK 3 HS rfl (fun w' hS=>gs9) ?_;simp only [put9]);(refine hwt HOK 4 HS rfl (fun w' hS=>gs9) ?_;simp only [put9]);replace o14:=o14.drew;clear HS;generalize w12.drew=y1 at o14 |-
            refine hw_two (i:=7) (j:=9) rfl rfl (by decide) (by decide) (by kernel_rfl) (fun K hK=>?_) (fun K hK=>?_)
            · go_simp;refine (PLV.out _ (o12.trans (o14.mono o12.size))).mono ?_;rintro e y2 ⟨v6,rfl,own6,hb⟩;obtain ⟨A6,c6,rfl,R6,_,_,hb6⟩:=orow_forms own6;replace o14:=o14.trans (hb.mono o14.size);refine hK _ _ o14 ?_;clear hK K hb own6;try simp only [put9]
              have HS:Below w12 w12 y2:=o14;(refine hwt HOK 8 HS rfl (fun w' hS=>gs9) ?_;simp only [put9]);clear HS;refine hw_one (i:=9) rfl (by decide) (by kernel_rfl) (fun K hK=>?_);go_simp;have zo:=o14.size;replace o14 := o14.alloc o14.size (.cells #[(),(),(),""] 29)
              have SZ : Row (y2.alloc (.cells #[(),(),(),""] 29)) y2.heap.size 29 #[(),(),(),""] := row_new rfl
              refine hK _ (y2.alloc (.cells #[(),(),(),""] 29)) o14 ?_
              obtain ⟨y3, hy3⟩ : ∃ x, x = y2.alloc (.cells #[(),(),(),""] 29) := ⟨_, rfl⟩
              have O8:Below y2.heap.size y2 y3:=by rw [hy3];exact (Below.refl _ _).alloc (Nat.le_refl _) _
              rw [<- hy3] at o14 SZ |-
              clear hy3;obtain ⟨xb,hxb⟩:∃ x,x=y2.heap.size:=⟨_,rfl⟩
              rw [<- hxb] at SZ zo |-
              clear hK K;try simp only [put9]
              have hne6:=Lib.hid (fun (a:Addr) (e:A6=some a)=>(by have:=hb6 a e;omega:a.block≠xb));replace R6:=(R6.below O8).more O8.size;clear O8 hxb;refine hw_done (by kernel_rfl) ?_;try simp only [List.drop_succ_cons,List.drop_zero]
              clear HOK;cases Go.Proofs.YtdipoojjlddohaaGreat.r4 SZ;go_wp2;go_meet;replace SZ : Row (y3.setCell ⟨xb, 0, none⟩ (.int .i64 wd)) xb 29 #[wd,(),(),""] := row_set SZ 0 (.int .i64 wd)
              replace o14:=o14.setCell (p:=⟨xb,0,none⟩) zo (.int .i64 wd);replace R6:Reads (y3.setCell ⟨xb,0,none⟩ (.int .i64 wd)) y3.heap.size 2 A6 LL.length (icells LL):=reads_keep R6 (fun a e _=>Below.heap_setCell _ _ _ _ (hne6.out a e));replace SZ : Row ((y3.setCell ⟨xb, 0, none⟩ (.int .i64 wd)).setCell ⟨xb, 1, none⟩ (.int .i64 200)) xb 29 #[wd, .int .i64 200,(),""] := row_set SZ 1 (.int .i64 200)
              replace o14:=o14.setCell (p:=⟨xb,1,none⟩) zo (.int .i64 200);replace R6:Reads ((y3.setCell ⟨xb,0,none⟩ (.int .i64 wd)).setCell ⟨xb,1,none⟩ (.int .i64 200)) y3.heap.size 2 A6 LL.length (icells LL):=reads_keep R6 (fun a e _=>Below.heap_setCell _ _ _ _ (hne6.out a e));replace SZ : Row (((y3.setCell ⟨xb, 0, none⟩ (.int .i64 wd)).setCell ⟨xb, 1, none⟩ (.int .i64 200)).setCell ⟨xb, 2, none⟩ (.int .i64 tt)) xb 29 #[wd, .int .i64 200, tt,""] := row_set SZ 2 (.int .i64 tt)
              replace o14:=o14.setCell (p:=⟨xb,2,none⟩) zo (.int .i64 tt);replace R6:Reads (((y3.setCell ⟨xb,0,none⟩ (.int .i64 wd)).setCell ⟨xb,1,none⟩ (.int .i64 200)).setCell ⟨xb,2,none⟩ (.int .i64 tt)) y3.heap.size 2 A6 LL.length (icells LL):=reads_keep R6 (fun a e _=>Below.heap_setCell _ _ _ _ (hne6.out a e));replace SZ:Row ((((y3.setCell ⟨xb,0,none⟩ (.int .i64 wd)).setCell ⟨xb,1,none⟩ (.int .i64 200)).setCell ⟨xb,2,none⟩ (.int .i64 tt)).setCell ⟨xb,3,none⟩ (.slice A6 LL.length c6)) xb 29 #[wd, .int .i64 200,tt, .slice A6 LL.length c6]:=row_set SZ 3 (.slice A6 LL.length c6);replace o14:=o14.setCell (p:=⟨xb,3,none⟩) zo (.slice A6 LL.length c6);replace R6:Reads ((((y3.setCell ⟨xb,0,none⟩ (.int .i64 wd)).setCell ⟨xb,1,none⟩ (.int .i64 200)).setCell ⟨xb,2,none⟩ (.int .i64 tt)).setCell ⟨xb,3,none⟩ (.slice A6 LL.length c6)) y3.heap.size 2 A6 LL.length (icells LL):=reads_keep R6 (fun a e _=>Below.heap_setCell _ _ _ _ (hne6.out a e));have zab:=row_lt AR;exact ⟨xb,A6,c6,rfl,SZ,Lib.hid (R6.more (by simp only [size_setCell];exact Nat.le_refl _)),row_call AR o14,o12.trans (o14.mono o12.size)⟩
            · go_simp;have zo:=o14.size;replace o14 := o14.alloc o14.size (.cells #[(),(),(),""] 29)
              have SZ : Row (y1.alloc (.cells #[(),(),(),""] 29)) y1.heap.size 29 #[(),(),(),""] := row_new rfl
              refine hK _ (y1.alloc (.cells #[(),(),(),""] 29)) o14 ?_
              obtain ⟨y2, hy2⟩ : ∃ x, x = y1.alloc (.cells #[(),(),(),""] 29) := ⟨_, rfl⟩
              have O8:Below y1.heap.size y1 y2:=by rw [hy2];exact (Below.refl _ _).alloc (Nat.le_refl _) _
              rw [<- hy2] at o14 SZ |-
              clear hy2;obtain ⟨xb,hxb⟩:∃ x,x=y1.heap.size:=⟨_,rfl⟩
              rw [<- hxb] at SZ zo |-
              clear hK K;try simp only [put9]
              clear O8 hxb;refine hw_one (i:=7) rfl (by decide) (by kernel_rfl) (fun K hK=>?_);have zs:=row_lt SZ;go_simp;refine (PLV.out _ (o12.trans (o14.mono o12.size))).mono ?_;rintro e y3 ⟨v6,rfl,own6,hb⟩;obtain ⟨A6,c6,rfl,R6,_,_,hb6⟩:=orow_forms own6;replace SZ:=row_call SZ hb;have hne6:=Lib.hid (fun (a:Addr) (e:A6=some a)=>(by have:=hb6 a e;omega:a.block≠xb));replace o14:=o14.trans (hb.mono o14.size);refine hK _ _ o14 ?_;clear hK K hb own6;try simp only [put9]
              have HS:Below w12 w12 y3:=o14;(refine hwt HOK 8 HS rfl (fun w' hS=>gs9) ?_;simp only [put9]);clear HS;refine hw_done (by kernel_rfl) ?_;try simp only [List.drop_succ_cons,List.drop_zero]
              clear HOK;cases Go.Proofs.YtdipoojjlddohaaGreat.r4 SZ;go_wp2;go_meet;replace SZ : Row (y3.setCell ⟨xb, 0, none⟩ (.int .i64 wd)) xb 29 #[wd,(),(),""] := row_set SZ 0 (.int .i64 wd)
              replace o14:=o14.setCell (p:=⟨xb,0,none⟩) zo (.int .i64 wd);replace R6:Reads (y3.setCell ⟨xb,0,none⟩ (.int .i64 wd)) y3.heap.size 2 A6 LL.length (icells LL):=reads_keep R6 (fun a e _=>Below.heap_setCell _ _ _ _ (hne6.out a e));replace SZ : Row ((y3.setCell ⟨xb, 0, none⟩ (.int .i64 wd)).setCell ⟨xb, 1, none⟩ (.int .i64 200)) xb 29 #[wd, .int .i64 200,(),""] := row_set SZ 1 (.int .i64 200)
              replace o14:=o14.setCell (p:=⟨xb,1,none⟩) zo (.int .i64 200);replace R6:Reads ((y3.setCell ⟨xb,0,none⟩ (.int .i64 wd)).setCell ⟨xb,1,none⟩ (.int .i64 200)) y3.heap.size 2 A6 LL.length (icells LL):=reads_keep R6 (fun a e _=>Below.heap_setCell _ _ _ _ (hne6.out a e));replace SZ : Row (((y3.setCell ⟨xb, 0, none⟩ (.int .i64 wd)).setCell ⟨xb, 1, none⟩ (.int .i64 200)).setCell ⟨xb, 2, none⟩ (.int .i64 tt)) xb 29 #[wd, .int .i64 200, tt,""] := row_set SZ 2 (.int .i64 tt)
              replace o14:=o14.setCell (p:=⟨xb,2,none⟩) zo (.int .i64 tt);replace R6:Reads (((y3.setCell ⟨xb,0,none⟩ (.int .i64 wd)).setCell ⟨xb,1,none⟩ (.int .i64 200)).setCell ⟨xb,2,none⟩ (.int .i64 tt)) y3.heap.size 2 A6 LL.length (icells LL):=reads_keep R6 (fun a e _=>Below.heap_setCell _ _ _ _ (hne6.out a e));replace SZ:Row ((((y3.setCell ⟨xb,0,none⟩ (.int .i64 wd)).setCell ⟨xb,1,none⟩ (.int .i64 200)).setCell ⟨xb,2,none⟩ (.int .i64 tt)).setCell ⟨xb,3,none⟩ (.slice A6 LL.length c6)) xb 29 #[wd, .int .i64 200,tt, .slice A6 LL.length c6]:=row_set SZ 3 (.slice A6 LL.length c6);replace o14:=o14.setCell (p:=⟨xb,3,none⟩) zo (.slice A6 LL.length c6);replace R6:Reads ((((y3.setCell ⟨xb,0,none⟩ (.int .i64 wd)).setCell ⟨xb,1,none⟩ (.int .i64 200)).setCell ⟨xb,2,none⟩ (.int .i64 tt)).setCell ⟨xb,3,none⟩ (.slice A6 LL.length c6)) y3.heap.size 2 A6 LL.length (icells LL):=reads_keep R6 (fun a e _=>Below.heap_setCell _ _ _ _ (hne6.out a e));have zab:=row_lt AR;exact ⟨xb,A6,c6,rfl,SZ,Lib.hid (R6.more (by simp only [size_setCell];exact Nat.le_refl _)),row_call AR o14,o12.trans (o14.mono o12.size)⟩
          case rest =>
            obtain ⟨xb,A6,c6,rfl,XR,R6,AR',o13⟩:=hcut;clear AR PLV o12;have AR:=AR';clear AR';generalize wc=w13 at AR XR R6 o13 |-
            go_upto_region 15 with (fail)
            go_cut [17,18] (fun v17 v18 wx=>(∃ bb:Nat,v17 = .pointer (some ⟨bb,0,none⟩)/\v18 = .int .i64 0/\Row wx bb 71 (J18 (n:Nat) (d:Nat))/\Row wx ab 71 (J13 (l1:Nat) (l2:Nat) (b1:Nat) (b2:Nat) (h1:Nat) (h2:Nat))/\Below w11 w11 wx))
            case first =>
              have X13:=row_call X o13;have o15:=Below.refl w13.heap.size w13;refine wp_region_phase 10 (fun w'=>Below w13 w13 w') (by kernel_rfl) (by kernel_rfl) (by kernel_rfl) (by kernel_rfl) (by kernel_rfl) (fun HOK=>?_);have HS:=(o15.drew:Below w13 w13 w13.drew)
              (refine hwt HOK 0 HS rfl (fun w' hS=>by have hX:=row_call XR hS;obtain ⟨X0,X1,X2,X3,Xf0,Xf1,Xf2,Xf3⟩:=row_four hX;exact gs9) ?_;simp only [put9]);(refine hwt HOK 1 HS rfl (fun w' hS=>by have hX:=row_call X13 hS;obtain ⟨X0,X1,X2,X3,X4,X5,X6,X7,Xf0,Xf1,Xf2,Xf3,Xf4,Xf5,Xf6,Xf7⟩:=row_eight hX;exact gs9) ?_;simp only [put9]);replace o15:=o15.drew;clear HS;generalize w13.drew=y1 at o15 |-
              refine hw_two (i:=2) (j:=8) rfl rfl (by decide) (by decide) (by kernel_rfl) (fun K hK=>?_) (fun K hK=>?_)
              · go_simp;refine (PQ.out _).mono ?_;rintro e y2 ⟨rfl,hb⟩;replace o15:=o15.trans (hb.mono o15.size);refine hK _ _ o15 ?_;clear hK K hb;try simp only [put9]
                have HS:Below w13 w13 y2:=o15;(refine hwt HOK 3 HS rfl (fun w' hS=>gs9) ?_;simp only [put9]);clear HS;refine hw_two (i:=4) (j:=8) rfl rfl (by decide) (by decide) (by kernel_rfl) (fun K hK=>?_) (fun K hK=>?_)
                · go_simp;refine (PX.out A6 c6 _ ((R6.out.below o15).more o15.size)).mono ?_;rintro e y3 ⟨rfl,hb⟩;replace o15:=o15.trans (hb.mono o15.size);refine hK _ _ o15 ?_;clear hK K hb;try simp only [put9]
                  have HS:Below w13 w13 y3:=o15;(refine hwt HOK 5 HS rfl (fun w' hS=>gs9) ?_;simp only [put9]);(refine hwt HOK 6 HS rfl (fun w' hS=>gs9) ?_;simp only [put9]);(refine hwt HOK 7 HS rfl (fun w' hS=>gs9) ?_;simp only [put9]);clear HS;refine hw_one (i:=8) rfl (by decide) (by kernel_rfl) (fun K hK=>?_);go_simp;have zo:=o15.size;replace o15:=o15.alloc o15.size (.cells J12 71);have SZ:Row (y3.alloc (.cells J12 71)) y3.heap.size 71 J12:=row_new rfl;refine hK _ (y3.alloc (.cells J12 71)) o15 ?_;generalize y3.alloc (.cells J12 71)=y4 at o15 SZ |-
                  generalize y3.heap.size=bb at SZ zo |-
                  clear hK K;try simp only [put9]
                  have hone:((J18 (n:Nat) (d:Nat)):Array Value).all (·.oneCell')=true:=all_one rfl;refine hw_one (i:=9) rfl (by decide) (by kernel_rfl) (fun K hK=>?_);rw [if_pos (show Region.wanted _ _=true from rfl)];refine wp_sans SZ rfl rfl hone _ _ rfl rfl rfl ?_;have BR:=row_setRow (cs:=(J18 (n:Nat) (d:Nat))) SZ;replace o15:=below_setRow (g:=bb) o15 zo (J18 (n:Nat) (d:Nat));refine hK _ _ o15 ?_;obtain ⟨y6,h6⟩:∃ x,x=y4.setRow bb (J18 (n:Nat) (d:Nat)):=⟨_,rfl⟩
                  rw [<- h6] at BR o15 |-
                  clear h6 hK K SZ;try simp only [put9]
                  refine hw_done (by kernel_rfl) ?_;try simp only [List.drop_succ_cons,List.drop_zero]
                  clear HOK;go_wp2;go_meet;exact ⟨bb,rfl,rfl,BR,row_call AR o15,o13.trans (o15.mono o13.size)⟩
                · go_simp;have zo:=o15.size;replace o15:=o15.alloc o15.size (.cells J12 71);have SZ:Row (y2.alloc (.cells J12 71)) y2.heap.size 71 J12:=row_new rfl;refine hK _ (y2.alloc (.cells J12 71)) o15 ?_;generalize y2.alloc (.cells J12 71)=y3 at o15 SZ |-
                  generalize y2.heap.size=bb at SZ zo |-
                  clear hK K;try simp only [put9]
                  refine hw_one (i:=4) rfl (by decide) (by kernel_rfl) (fun K hK=>?_);go_simp;refine (PX.out A6 c6 _ ((R6.out.below o15).more o15.size)).mono ?_;rintro e y4 ⟨rfl,hb⟩;replace SZ:=row_call SZ hb;replace o15:=o15.trans (hb.mono o15.size);refine hK _ _ o15 ?_;clear hK K hb;try simp only [put9]
                  have HS:Below w13 w13 y4:=o15;(refine hwt HOK 5 HS rfl (fun w' hS=>gs9) ?_;simp only [put9]);(refine hwt HOK 6 HS rfl (fun w' hS=>gs9) ?_;simp only [put9]);(refine hwt HOK 7 HS rfl (fun w' hS=>gs9) ?_;simp only [put9]);clear HS;have hone:((J18 (n:Nat) (d:Nat)):Array Value).all (·.oneCell')=true:=all_one rfl;refine hw_one (i:=9) rfl (by decide) (by kernel_rfl) (fun K hK=>?_);rw [if_pos (show Region.wanted _ _=true from rfl)];refine wp_sans SZ rfl rfl hone _ _ rfl rfl rfl ?_;have BR:=row_setRow (cs:=(J18 (n:Nat) (d:Nat))) SZ;replace o15:=below_setRow (g:=bb) o15 zo (J18 (n:Nat) (d:Nat));refine hK _ _ o15 ?_;obtain ⟨y6,h6⟩:∃ x,x=y4.setRow bb (J18 (n:Nat) (d:Nat)):=⟨_,rfl⟩
                  rw [<- h6] at BR o15 |-
                  clear h6 hK K SZ;try simp only [put9]
                  refine hw_done (by kernel_rfl) ?_;try simp only [List.drop_succ_cons,List.drop_zero]
                  clear HOK;go_wp2;go_meet;exact ⟨bb,rfl,rfl,BR,row_call AR o15,o13.trans (o15.mono o13.size)⟩
              · go_simp;have zo:=o15.size;replace o15:=o15.alloc o15.size (.cells J12 71);have SZ:Row (y1.alloc (.cells J12 71)) y1.heap.size 71 J12:=row_new rfl;refine hK _ (y1.alloc (.cells J12 71)) o15 ?_;generalize y1.alloc (.cells J12 71)=y2 at o15 SZ |-
                generalize y1.heap.size=bb at SZ zo |-
                clear hK K;try simp only [put9]
                refine hw_one (i:=2) rfl (by decide) (by kernel_rfl) (fun K hK=>?_);go_simp;refine (PQ.out _).mono ?_;rintro e y3 ⟨rfl,hb⟩;replace SZ:=row_call SZ hb;replace o15:=o15.trans (hb.mono o15.size);refine hK _ _ o15 ?_;clear hK K hb;try simp only [put9]
                have HS:Below w13 w13 y3:=o15;(refine hwt HOK 3 HS rfl (fun w' hS=>gs9) ?_;simp only [put9]);clear HS;refine hw_one (i:=4) rfl (by decide) (by kernel_rfl) (fun K hK=>?_);go_simp;refine (PX.out A6 c6 _ ((R6.out.below o15).more o15.size)).mono ?_;rintro e y4 ⟨rfl,hb⟩;replace SZ:=row_call SZ hb;replace o15:=o15.trans (hb.mono o15.size);refine hK _ _ o15 ?_;clear hK K hb;try simp only [put9]
                have HS:Below w13 w13 y4:=o15;(refine hwt HOK 5 HS rfl (fun w' hS=>gs9) ?_;simp only [put9]);(refine hwt HOK 6 HS rfl (fun w' hS=>gs9) ?_;simp only [put9]);(refine hwt HOK 7 HS rfl (fun w' hS=>gs9) ?_;simp only [put9]);clear HS;have hone:((J18 (n:Nat) (d:Nat)):Array Value).all (·.oneCell')=true:=all_one rfl;refine hw_one (i:=9) rfl (by decide) (by kernel_rfl) (fun K hK=>?_);rw [if_pos (show Region.wanted _ _=true from rfl)];refine wp_sans SZ rfl rfl hone _ _ rfl rfl rfl ?_;have BR:=row_setRow (cs:=(J18 (n:Nat) (d:Nat))) SZ;replace o15:=below_setRow (g:=bb) o15 zo (J18 (n:Nat) (d:Nat));refine hK _ _ o15 ?_;obtain ⟨y6,h6⟩:∃ x,x=y4.setRow bb (J18 (n:Nat) (d:Nat)):=⟨_,rfl⟩
                rw [<- h6] at BR o15 |-
                clear h6 hK K SZ;try simp only [put9]
                refine hw_done (by kernel_rfl) ?_;try simp only [List.drop_succ_cons,List.drop_zero]
                clear HOK;go_wp2;go_meet;exact ⟨bb,rfl,rfl,BR,row_call AR o15,o13.trans (o15.mono o13.size)⟩
            case rest =>
              obtain ⟨bb,rfl,rfl,BR,AR',o14⟩:=hcut;clear AR PX XR R6 o13;have AR:=AR';clear AR';generalize wc=w14 at AR BR o14 |-
              have g0:=row_cell BR 0;have g1:=row_cell BR 1;go_upto_region 17 with (fail)
              have VR:Row (w14.alloc (.cells #[.int .i64 (n:Nat), .int .i64 (d:Nat)] 62)) w14.heap.size 62 #[.int .i64 (n:Nat), .int .i64 (d:Nat)]:=row_new rfl;replace AR:=row_alloc AR (.cells #[.int .i64 (n:Nat), .int .i64 (d:Nat)] 62);replace o14:=o14.alloc o14.size (.cells #[.int .i64 (n:Nat), .int .i64 (d:Nat)] 62);clear BR g0 g1;generalize w14.alloc (.cells #[.int .i64 (n:Nat), .int .i64 (d:Nat)] 62)=w15 at VR AR o14 |-
              generalize w14.heap.size=vb at VR |-
              have X15:=row_call X o14;have S15:=row_call SR o14;have PH:=Lib.hid (fun w=>pholds hans.out.bnd hans.out.rat hans.out.lo hans.out.hi w);have PN:=Lib.hid (fun w=>pwithin hans.out.bnd hans.out.rat kb hans.out.le hans.out.nar w);have HRC2:=Lib.hid (fun w' (hb:Below w15 w15 w')=>HRC.out w' (o14.trans (hb.mono o14.size)));clear HRC;refine wp_region_free0 [0,1,2,3,4,5,6,7,8,9,10,11,12,13,14,15,16,17,18,19,20,21,22,23,24,25,26,27,28,29,30,31,32,33] [] [0,1,2,3,4,5,6,7,8,9,10,11,12,13,14,15,16,17,18,19,20,21,22,23,24,25,26,27,28,29,30,31,32,33] 34 (fun w'=>Below w15 w15 w') (by kernel_rfl) (by kernel_rfl) (fun _ _ d _ _ h=>by cases d<;>exact h) ?_ ?_
              · exact (Below.refl _ _).drew
              iterate 12 (refine plp rfl rfl ?_;simp only [put9])
              iterate 2 (refine plv rfl rfl rfl (fun w' hS=>by have hA:=row_call AR hS;have a0:=row_cell hA 0;have a1:=row_cell hA 1;have a2:=row_cell hA 2;have a3:=row_cell hA 3;have a4:=row_cell hA 4;have a5:=row_cell hA 5;obtain ⟨V0,V1,_,_⟩:=row_two (row_call VR hS);have hX:=row_call X15 hS;obtain ⟨X0,X1,X2,X3,X4,X5,X6,X7,Xf0,Xf1,Xf2,Xf3,Xf4,Xf5,Xf6,Xf7⟩:=row_eight hX;exact gs9) ?_;simp only [put9])
              refine plan_call (.bool true) 16 #[.agg (J6 (l1:Nat) (l2:Nat) (b1:Nat) (b2:Nat) (h1:Nat) (h2:Nat)), .agg #[.int .i64 (n:Nat), .int .i64 (d:Nat)]] rfl rfl rfl (fun _ _ h hb=>h.trans (hb.mono h.size)) (fun w' hS=>by have hA:=row_call AR hS;have a0:=row_cell hA 0;have a1:=row_cell hA 1;have a2:=row_cell hA 2;have a3:=row_cell hA 3;have a4:=row_cell hA 4;have a5:=row_cell hA 5;obtain ⟨V0,V1,_,_⟩:=row_two (row_call VR hS);have hX:=row_call X15 hS;obtain ⟨X0,X1,X2,X3,X4,X5,X6,X7,Xf0,Xf1,Xf2,Xf3,Xf4,Xf5,Xf6,Xf7⟩:=row_eight hX;go_simp) (fun w' hS=>PH.out w') ?_;simp only [put9];iterate 3 (refine plp rfl rfl ?_;simp only [put9])
              (refine plv rfl rfl rfl (fun w' hS=>by have hA:=row_call AR hS;have a0:=row_cell hA 0;have a1:=row_cell hA 1;have a2:=row_cell hA 2;have a3:=row_cell hA 3;have a4:=row_cell hA 4;have a5:=row_cell hA 5;obtain ⟨V0,V1,_,_⟩:=row_two (row_call VR hS);have hX:=row_call X15 hS;obtain ⟨X0,X1,X2,X3,X4,X5,X6,X7,Xf0,Xf1,Xf2,Xf3,Xf4,Xf5,Xf6,Xf7⟩:=row_eight hX;exact gs9) ?_;simp only [put9]);(refine plp rfl rfl ?_;simp only [put9]);iterate 2 (refine plv rfl rfl rfl (fun w' hS=>by have hA:=row_call AR hS;have a0:=row_cell hA 0;have a1:=row_cell hA 1;have a2:=row_cell hA 2;have a3:=row_cell hA 3;have a4:=row_cell hA 4;have a5:=row_cell hA 5;obtain ⟨V0,V1,_,_⟩:=row_two (row_call VR hS);have hX:=row_call X15 hS;obtain ⟨X0,X1,X2,X3,X4,X5,X6,X7,Xf0,Xf1,Xf2,Xf3,Xf4,Xf5,Xf6,Xf7⟩:=row_eight hX;exact gs9) ?_;simp only [put9])
              refine plan_call (.bool true) 29 #[.agg (J6 (l1:Nat) (l2:Nat) (b1:Nat) (b2:Nat) (h1:Nat) (h2:Nat)), .int .i64 (kk:Nat), .agg #[.int .i64 (n:Nat), .int .i64 (d:Nat)]] rfl rfl rfl (fun _ _ h hb=>h.trans (hb.mono h.size)) (fun w' hS=>by have hA:=row_call AR hS;have a0:=row_cell hA 0;have a1:=row_cell hA 1;have a2:=row_cell hA 2;have a3:=row_cell hA 3;have a4:=row_cell hA 4;have a5:=row_cell hA 5;obtain ⟨V0,V1,_,_⟩:=row_two (row_call VR hS);have hX:=row_call X15 hS;obtain ⟨X0,X1,X2,X3,X4,X5,X6,X7,Xf0,Xf1,Xf2,Xf3,Xf4,Xf5,Xf6,Xf7⟩:=row_eight hX;go_simp) (fun w' hS=>PN.out w') ?_;simp only [put9];iterate 2 (refine plp rfl rfl ?_;simp only [put9])
              (refine plan_val (.agg c9) rfl rfl rfl (fun w' hS=>exec_lsyn (row_call S15 hS) hs5 _ rfl rfl) ?_;try simp only [put9]);refine plan_call (.int .i64 (nrec:Nat)) 30 #[.agg c9] rfl rfl rfl (fun _ _ h hb=>h.trans (hb.mono h.size)) (fun w' hS=>by have hA:=row_call AR hS;have a0:=row_cell hA 0;have a1:=row_cell hA 1;have a2:=row_cell hA 2;have a3:=row_cell hA 3;have a4:=row_cell hA 4;have a5:=row_cell hA 5;obtain ⟨V0,V1,_,_⟩:=row_two (row_call VR hS);have hX:=row_call X15 hS;obtain ⟨X0,X1,X2,X3,X4,X5,X6,X7,Xf0,Xf1,Xf2,Xf3,Xf4,Xf5,Xf6,Xf7⟩:=row_eight hX;go_simp) (fun w' hS=>HRC2.out w' hS) ?_;simp only [put9];(refine plv rfl rfl rfl (fun w' hS=>by have hA:=row_call AR hS;have a0:=row_cell hA 0;have a1:=row_cell hA 1;have a2:=row_cell hA 2;have a3:=row_cell hA 3;have a4:=row_cell hA 4;have a5:=row_cell hA 5;obtain ⟨V0,V1,_,_⟩:=row_two (row_call VR hS);have hX:=row_call X15 hS;obtain ⟨X0,X1,X2,X3,X4,X5,X6,X7,Xf0,Xf1,Xf2,Xf3,Xf4,Xf5,Xf6,Xf7⟩:=row_eight hX;exact gs9) ?_;simp only [put9]);refine plan_call (.int .i64 M) 31 #[.agg #[r0,r1,wd, .int .i64 (kk:Nat),r4,r5,r6,r7]] rfl rfl rfl (fun _ _ h hb=>h.trans (hb.mono h.size)) (fun w' hS=>by have hA:=row_call AR hS;have a0:=row_cell hA 0;have a1:=row_cell hA 1;have a2:=row_cell hA 2;have a3:=row_cell hA 3;have a4:=row_cell hA 4;have a5:=row_cell hA 5;obtain ⟨V0,V1,_,_⟩:=row_two (row_call VR hS);have hX:=row_call X15 hS;obtain ⟨X0,X1,X2,X3,X4,X5,X6,X7,Xf0,Xf1,Xf2,Xf3,Xf4,Xf5,Xf6,Xf7⟩:=row_eight hX;go_simp) (fun w' hS=>PM.out w') ?_;simp only [put9];iterate 3 (refine plp rfl rfl ?_;simp only [put9])
              refine plan_call (.bool true) 15 #[] rfl rfl rfl (fun _ _ h hb=>h.trans (hb.mono h.size)) (fun w' hS=>by have hA:=row_call AR hS;have a0:=row_cell hA 0;have a1:=row_cell hA 1;have a2:=row_cell hA 2;have a3:=row_cell hA 3;have a4:=row_cell hA 4;have a5:=row_cell hA 5;obtain ⟨V0,V1,_,_⟩:=row_two (row_call VR hS);have hX:=row_call X15 hS;obtain ⟨X0,X1,X2,X3,X4,X5,X6,X7,Xf0,Xf1,Xf2,Xf3,Xf4,Xf5,Xf6,Xf7⟩:=row_eight hX;go_simp) (fun w' hS=>PW.out w') ?_;simp only [put9];(refine plp rfl rfl ?_;simp only [put9]);refine plan_nil ?_;intro w16 L16;simp only [List.drop_succ_cons,List.drop_zero];try simp only [put9]
              replace o:=o.trans (o14.mono OW11);replace o:=o.trans (L16.mono o.size);go_wp2;go_ret;exact ⟨by first | rfl | simp,o⟩
end Go.Proofs.YtdipoojjlddohaaGreat
