/- What the law TopSummaries needs, joined of its texts by a program (slim2.py); part 31. -/
import Derived.Test.YtdipoojjlddohaaGreatZTopSummaries1
import Derived.Test.YtdipoojjlddohaaGreatZTopSummaries29
import Derived.Test.YtdipoojjlddohaaGreatZTopSummaries30
set_option linter.unusedVariables false
set_option linter.unusedSimpArgs false
set_option linter.unusedSectionVars false
set_option linter.unnecessarySimpa false
section
/- Exact rank summaries: joined, walked. -/
namespace Go.Proofs.YtdipoojjlddohaaGreat
open Go.RowKit
set_option maxRecDepth 100000 in
set_option maxHeartbeats 8000000 in
theorem prkmerge (A B:Option Addr) (ma ca mb cb:Nat) (xs ys:List Int) (w:World) (hx:RkIn A ma ca xs w) (hy:RkIn B mb cb ys w) (hT:ma+mb≤100000):Calls Tryz.prog 264 #[.agg #[.int .i64 (ma:Nat), .slice A ma ca], .agg #[.int .i64 (mb:Nat), .slice B mb cb]] w (RkRet2 (mgI xs ys) w):=by
  obtain ⟨ie,hie,iz0,iz1,iz2⟩:=info_parts info_en
  have HIE:=Lib.hid hie
  clear hie
  have PX:=Lib.hid (fun w' (hb:Below w.heap.size w w')=>prkval A ma ca xs w' (hx.below hb))
  have PY:=Lib.hid (fun w' (hb:Below w.heap.size w w')=>prkval B mb cb ys w' (hy.below hb))
  have lx:=hx.len
  have ly:=hy.len
  have hSR:=Lib.hid (mgI_srt hx.srt hy.srt)
  have hM:(mgI xs ys).length=ma+mb:=by rw [mgI_len,lx,ly]
  obtain ⟨x1,x2⟩:=hx.mB
  obtain ⟨y1,y2⟩:=hy.mB
  obtain ⟨a,rfl,hab,_⟩:=hx.reads.rk (i:=0) (by omega)
  obtain ⟨b,rfl,hbb,_⟩:=hy.reads.rk (i:=0) (by omega)
  have xmc:=hx.mc
  have ymc:=hy.mc
  have HX:=Lib.hid hx
  have HY:=Lib.hid hy
  unfold RkRet2
  rw [hM]
  have w1:IntKind.i64.wrap (1099511627776-(mb:Int))=1099511627776-(mb:Int):=IntWalk.i64_in _ (by omega)
  have w2:IntKind.i64.wrap ((ma:Int)+(mb:Int))=((ma+mb:Nat):Int):=by rw [IntWalk.i64_in _ (by omega)];omega
  have j1:¬ 1099511627776-(mb:Int)<(ma:Int):=by omega
  have j2:((ma:Int) == 0)=false:=by simp;omega
  have j3:((mb:Int) == 0)=false:=by simp;omega
  obtain ⟨mm,hmm⟩:∃ x,x=((ma+mb:Nat):Int):=⟨_,rfl⟩
  rw [← hmm] at w2
  replace hmm:=Lib.hid hmm
  clear hx hy
  go_enter Tryz.func264,Tryz.ntmps264
  go_upto_region 1 with (fail)
  have X:Row (((w.alloc (.cells #[.int .i64 (ma:Nat), .slice (some a) ma ca] 188)).alloc (.cells #[.int .i64 (mb:Nat), .slice (some b) mb cb] 188)).alloc (.cells #[.int .i64 0, .slice none 0 0] 188)) (w.heap.size) 188 #[.int .i64 (ma:Nat), .slice (some a) ma ca]:=row_alloc (row_alloc (row_new rfl) _) _
  have Y:Row (((w.alloc (.cells #[.int .i64 (ma:Nat), .slice (some a) ma ca] 188)).alloc (.cells #[.int .i64 (mb:Nat), .slice (some b) mb cb] 188)).alloc (.cells #[.int .i64 0, .slice none 0 0] 188)) (w.heap.size+1) 188 #[.int .i64 (mb:Nat), .slice (some b) mb cb]:=row_alloc (row_new (by simp)) _
  have R:Row (((w.alloc (.cells #[.int .i64 (ma:Nat), .slice (some a) ma ca] 188)).alloc (.cells #[.int .i64 (mb:Nat), .slice (some b) mb cb] 188)).alloc (.cells #[.int .i64 0, .slice none 0 0] 188)) (w.heap.size+2) 188 #[.int .i64 0, .slice none 0 0]:=row_new (by simp)
  have o:Below w.heap.size w (((w.alloc (.cells #[.int .i64 (ma:Nat), .slice (some a) ma ca] 188)).alloc (.cells #[.int .i64 (mb:Nat), .slice (some b) mb cb] 188)).alloc (.cells #[.int .i64 0, .slice none 0 0] 188)):=by (repeat (first | exact Below.refl _ _ | refine Below.setCell ?_ (by (try simp)<;>omega) _ | refine Below.alloc ?_ (by (try simp)<;>omega) _ | refine Below.drew ?_ | refine Below.trans ?_ (Below.mono (by assumption) (by (try simp)<;>omega))))
  generalize (((w.alloc (.cells #[.int .i64 (ma:Nat), .slice (some a) ma ca] 188)).alloc (.cells #[.int .i64 (mb:Nat), .slice (some b) mb cb] 188)).alloc (.cells #[.int .i64 0, .slice none 0 0] 188))=w1 at X Y R o ⊢
  obtain ⟨X0,X1,Xf0,Xf1⟩:=row_two X
  go_wp2_with fail
  refine (PX.out _ o).mono ?_
  rintro e w2 ⟨rfl,hb⟩
  replace X:=row_call X hb
  replace Y:=row_call Y hb
  replace R:=row_call R hb
  replace o:=o.trans (hb.mono o.size)
  clear hb PX X0 X1 Xf0 Xf1
  obtain ⟨Y0,Y1,Yf0,Yf1⟩:=row_two Y
  go_wp2_with fail
  refine (PY.out _ o).mono ?_
  rintro e w3 ⟨rfl,hb⟩
  clear Y0 Y1 Yf0 Yf1
  replace X:=row_call X hb
  replace Y:=row_call Y hb
  replace R:=row_call R hb
  replace o:=o.trans (hb.mono o.size)
  clear hb PY
  obtain ⟨X0,X1,Xf0,Xf1⟩:=row_two X
  obtain ⟨Y0,Y1,Yf0,Yf1⟩:=row_two Y
  go_upto_region 14 with (fail)
  have zr:=row_lt R
  have O:Row (w3.alloc (.cells #[.int .i64 mm, .slice none 0 0] 188)) w3.heap.size 188 #[.int .i64 mm, .slice none 0 0]:=row_new rfl
  replace X:=row_alloc X (.cells #[.int .i64 mm, .slice none 0 0] 188)
  replace Y:=row_alloc Y (.cells #[.int .i64 mm, .slice none 0 0] 188)
  replace R:=row_alloc R (.cells #[.int .i64 mm, .slice none 0 0] 188)
  replace o:=o.alloc o.size (.cells #[.int .i64 mm, .slice none 0 0] 188)
  clear X0 X1 Xf0 Xf1 Y0 Y1 Yf0 Yf1 j1 j2 j3 w1 w2
  generalize w3.alloc (.cells #[.int .i64 mm, .slice none 0 0] 188)=w4 at X Y R O o ⊢
  generalize w3.heap.size=ob at O zr ⊢
  obtain ⟨X0,X1,Xf0,Xf1⟩:=row_two X
  obtain ⟨Y0,Y1,Yf0,Yf1⟩:=row_two Y
  go_region
  replace X:=row_drew X
  replace Y:=row_drew Y
  replace R:=row_drew R
  replace O:=row_drew O
  replace o:=o.drew
  clear X0 X1 Xf0 Xf1 Y0 Y1 Yf0 Yf1
  generalize w4.drew=w5 at X Y R O o ⊢
  go_wp2
  go_loopw [11,12,13] (fun u11 u12 _ wr=>∃ (i j:Nat) (os:List Int) (sl:Value),u11 = .int .i64 (i:Nat)∧u12 = .int .i64 (j:Nat)∧i≤ma∧j≤mb∧RowKit.Hid (os ++ mgI (xs.drop i) (ys.drop j)=mgI xs ys)∧os.length=i+j∧Row wr (w.heap.size) 188 #[.int .i64 (ma:Nat), .slice (some a) ma ca]∧Row wr (w.heap.size+1) 188 #[.int .i64 (mb:Nat), .slice (some b) mb cb]∧Row wr (w.heap.size+2) 188 #[.int .i64 0, .slice none 0 0]∧Row wr ob 188 #[.int .i64 mm,sl]∧wr.ownsRow w.heap.size 242 3 sl (i+j) (rcells 0 os)∧Below w.heap.size w wr) (fun u11 u12 _ _=>(ma-(intOf u11).toNat)+(mb-(intOf u12).toNat))
  case atStart=>exact ⟨0,0,[],_,rfl,rfl,Nat.zero_le _,Nat.zero_le _,Lib.hid rfl,rfl,X,Y,R,O,World.ownsRow_nil _ _ _ _,o⟩
  case round =>
    clear X Y R O o
    obtain ⟨i,j,os,sl,rfl,rfl,hi,hj,HM,hos,X,Y,R,O,OW,o⟩:=hrel
    by_cases hfin:i=ma∧j=mb
    · obtain ⟨rfl,rfl⟩:=hfin
      have hM2:=HM.out
      rw [List.drop_of_length_le (by omega),List.drop_of_length_le (by omega),mgI_nil_r,List.append_nil] at hM2
      obtain ⟨g,c2,rfl,own,hg⟩:=orow_pos OW (by omega)
      rw [hM2] at own
      have in3:=RkIn.of_own own hSR.out (by omega) (by omega)
      have e1:¬ (i:Int)<(i:Int):=by omega
      have e2:¬ (j:Int)<(j:Int):=by omega
      have neR:g≠w.heap.size+2:=fun x=>orow_ne_row OW R (by decide) (by rw [x];rfl)
      obtain ⟨O0,O1,Of0,Of1⟩:=row_two O
      obtain ⟨R0,R1,Rf0,Rf1⟩:=row_two R
      go_wp2
      have Sr0:=row_set R 0 (.int .i64 mm)
      have Sr1:=row_set Sr0 1 (.slice (some ⟨g,0,none⟩) (i+j) c2)
      have in90:=in3.setc (p:=⟨w.heap.size+2,0,none⟩) (fun a e=>by cases e;show w.heap.size+2≠g;omega) (.int .i64 mm)
      have in91:=in90.setc (p:=⟨w.heap.size+2,1,none⟩) (fun a e=>by cases e;show w.heap.size+2≠g;omega) (.slice (some ⟨g,0,none⟩) (i+j) c2)
      have o90:=o.setCell (p:=⟨w.heap.size+2,0,none⟩) (by show w.heap.size≤w.heap.size+2;omega) (.int .i64 mm)
      have o91:=o90.setCell (p:=⟨w.heap.size+2,1,none⟩) (by show w.heap.size≤w.heap.size+2;omega) (.slice (some ⟨g,0,none⟩) (i+j) c2)
      obtain ⟨S0,S1,_,_⟩:=row_two Sr1
      exact bodyPost_ret (v := .tuple #[.agg #[.int .i64 mm, .slice (some ⟨g,0,none⟩) (i+j) c2], .int .i64 0]) (by simp [results,Tryz.results264,go_sem,S0,S1]) rfl ⟨g,c2,by rw [hmm.out];go_num,in91,by omega,o91⟩
    · have q0:(0:Int)≤(i:Int):=by omega
      have q1:(0:Int)≤(j:Int):=by omega
      by_cases cx:i<ma
      · obtain ⟨_,ea,_,hx0⟩:=HX.out.reads.rk cx
        obtain rfl:a=_:=by injection ea
        clear ea
        have hdx:=drop_vat (l:=xs) (i:=i) (by omega)
        generalize xs.getD i 0=vx at hx0 hdx
        have c1:(i:Int)<(ma:Int):=by omega
        by_cases cy:j<mb
        · obtain ⟨_,ea,_,hy0⟩:=HY.out.reads.rk cy
          obtain rfl:b=_:=by injection ea
          clear ea
          have hdy:=drop_vat (l:=ys) (i:=j) (by omega)
          generalize ys.getD j 0=vy at hy0 hdy
          have c2:(j:Int)<(mb:Int):=by omega
          have c3:((j:Int) == (mb:Int))=false:=by simp;omega
          go_upto_region 18 with (fail)
          have E:Row (wr.alloc (.cells #[.int .i64 0, .int .i64 0, .int .i64 0] 242)) wr.heap.size 242 #[.int .i64 0, .int .i64 0, .int .i64 0]:=row_new rfl
          have zO:=row_lt O
          have zR:=row_lt R
          have zo:=o.size
          have neE:sl.ownBlock≠some wr.heap.size:=fun e=>by have:=(OW.lt _ e).2;omega
          replace X:=row_alloc X (.cells #[.int .i64 0, .int .i64 0, .int .i64 0] 242)
          replace Y:=row_alloc Y (.cells #[.int .i64 0, .int .i64 0, .int .i64 0] 242)
          replace R:=row_alloc R (.cells #[.int .i64 0, .int .i64 0, .int .i64 0] 242)
          replace O:=row_alloc O (.cells #[.int .i64 0, .int .i64 0, .int .i64 0] 242)
          replace OW:=OW.alloc (.cells #[.int .i64 0, .int .i64 0, .int .i64 0] 242)
          replace o:=o.alloc o.size (.cells #[.int .i64 0, .int .i64 0, .int .i64 0] 242)
          generalize wr.alloc (.cells #[.int .i64 0, .int .i64 0, .int .i64 0] 242)=w4 at X Y R O E OW o ⊢
          generalize wr.heap.size=eb at E zO zR zo neE ⊢
          have neO:=orow_ne_row OW O (by decide)
          obtain ⟨px,_,_⟩:=hx0.below o (by rw [block_of_add];exact hab)
          obtain ⟨py,_,_⟩:=hy0.below o (by rw [block_of_add];exact hbb)
          by_cases hc:vx≤vy
          · have HM2:=HM.out
            rw [hdx,hdy,mgI_left hc,← hdy] at HM2
            replace HM2:=Lib.hid HM2
            clear HM hdx hdy hfin
            refine wp_region_quiet_lit (by as_aux_lemma=>kernel_rfl) (by as_aux_lemma=>kernel_rfl) ?_
            repeat (go_big_quiet_step (fail))
            refine wpQuiet_nil ?_
            intro _ hw'
            obtain ⟨nq,hw''⟩:=hw'
            subst hw''
            replace X:Row (w4.drewN nq) (w.heap.size) 188 #[.int .i64 (ma:Nat), .slice (some a) ma ca]:=X
            replace Y:Row (w4.drewN nq) (w.heap.size+1) 188 #[.int .i64 (mb:Nat), .slice (some b) mb cb]:=Y
            replace R:Row (w4.drewN nq) (w.heap.size+2) 188 #[.int .i64 0, .slice none 0 0]:=R
            replace O:Row (w4.drewN nq) (ob) 188 #[.int .i64 mm,sl]:=O
            replace E:Row (w4.drewN nq) (eb) 242 #[.int .i64 0, .int .i64 0, .int .i64 0]:=E
            replace OW:(w4.drewN nq).ownsRow w.heap.size 242 3 sl (i+j) (rcells 0 os):=OW
            replace o:=o.trans (⟨rfl,rfl,rfl,Nat.le_refl _,fun _ _=>rfl⟩:Below _ w4 (w4.drewN nq))
            generalize w4.drewN nq=w5 at X Y R O E OW o ⊢
            clear px py c3
            have PB:=fun w' (hb:Below w5.heap.size w5 w')=>prkbetween vx i _ _ _ _ j w' (HY.out.below (o.trans (hb.mono o.size))) (by omega) (by omega)
            have hsx:((i+j+1:Nat):Int)=((i+j+1:Nat):Int):=by omega
            have HP:∀ w',Below w5.heap.size w5 w'→RkCells w' (a.add (i*3)) vx i:=fun w' hb=>hx0.below (o.trans (hb.mono o.size)) (by rw [block_of_add];exact hab)
            unfold RkCells at HP
            rw [hsx] at PB
            obtain ⟨sx,hs9⟩:∃ x,x=((i+j+1:Nat):Int):=⟨_,rfl⟩
            generalize ((i+1:Nat):Int)=ix at PB HP
            rw [← hs9] at PB
            replace PB:=Lib.hid PB
            replace HP:=Lib.hid HP
            replace hs9:=Lib.hid hs9
            clear hsx hx0 hy0
            go_upto_region 19 with (fail)
            refine wp_region_free0 [0,1,2,3,4,5,6,7,8] [] [0,1,2,3,4,5,6,7,8] 9 (fun w'=>Below w5.heap.size w5 w') (by kernel_rfl) (by kernel_rfl) (fun _ _ d _ _ h=>by cases d<;>exact h) ?_ ?_
            · exact (Below.refl _ _).drew
            (refine plan_pure ?_ rfl rfl (fun w'=>?_) ?_;rotate_left;(go_simp;try with_reducible rfl);simp only [put9])
            (refine plan_pure ?_ rfl rfl (fun w'=>?_) ?_;rotate_left;(go_simp;try with_reducible rfl);simp only [put9])
            (refine plan_pure ?_ rfl rfl (fun w'=>?_) ?_;rotate_left;(go_simp;try with_reducible rfl);simp only [put9])
            (refine plan_val ?_ rfl rfl rfl (fun w' hS=>?_) ?_;rotate_left;(obtain ⟨Y0,Y1,Yf0,Yf1⟩:=row_two (row_call Y hS);obtain ⟨p0,p1,p2⟩:=HP.out _ hS;go_simp;try with_reducible rfl);simp only [put9])
            (refine plan_pure ?_ rfl rfl (fun w'=>?_) ?_;rotate_left;(go_simp;try with_reducible rfl);simp only [put9])
            (refine plan_pure ?_ rfl rfl (fun w'=>?_) ?_;rotate_left;(go_simp;try with_reducible rfl);simp only [put9])
            (refine plan_pure ?_ rfl rfl (fun w'=>?_) ?_;rotate_left;(go_simp;try with_reducible rfl);simp only [put9])
            (refine plan_val ?_ rfl rfl rfl (fun w' hS=>?_) ?_;rotate_left;(obtain ⟨Y0,Y1,Yf0,Yf1⟩:=row_two (row_call Y hS);obtain ⟨p0,p1,p2⟩:=HP.out _ hS;go_simp;try with_reducible rfl);simp only [put9])
            refine plan_call (.agg #[.int .i64 vx, .int .i64 sx, .int .i64 sx]) 299 #[.agg #[.int .i64 vx, .int .i64 ix, .int .i64 ix], .slice (some b) mb cb, .int .i64 (j:Nat), .int .i64 (mb:Nat)] rfl rfl rfl (fun _ _ h hb=>h.trans (hb.mono h.size)) (fun w' hS=>by obtain ⟨Y0,Y1,Yf0,Yf1⟩:=row_two (row_call Y hS);obtain ⟨p0,p1,p2⟩:=HP.out _ hS;go_simp) (fun w' hS=>PB.out _ hS) ?_
            simp only [put9]
            refine plan_nil ?_
            intro w6 L6
            simp only [List.drop_succ_cons,List.drop_zero]
            try simp only [put9]
            replace E:=row_call E L6
            replace X:=row_call X L6
            replace Y:=row_call Y L6
            replace R:=row_call R L6
            replace O:=row_call O L6
            replace OW:=orow_keep OW (fun g e=>L6.block g (OW.lt g e).2)
            replace o:=o.trans (L6.mono o.size)
            clear L6 HP PB
            obtain ⟨E0,E1,E2,Ef0,Ef1,Ef2⟩:=row_three E
            go_upto_region 23 with (fail)
            clear E0 E1 E2 Ef0 Ef1 Ef2
            replace E:=row_set E 0 (.int .i64 vx)
            replace X:=row_other (p:=⟨eb,0,none⟩) X (by show w.heap.size≠eb;omega) (.int .i64 vx)
            replace Y:=row_other (p:=⟨eb,0,none⟩) Y (by show w.heap.size+1≠eb;omega) (.int .i64 vx)
            replace R:=row_other (p:=⟨eb,0,none⟩) R (by show w.heap.size+2≠eb;omega) (.int .i64 vx)
            replace O:=row_other (p:=⟨eb,0,none⟩) O (by show ob≠eb;omega) (.int .i64 vx)
            replace OW:=orow_other (p:=⟨eb,0,none⟩) OW (by intro h;exact neE h) (.int .i64 vx)
            replace o:=o.setCell (p:=⟨eb,0,none⟩) (by show w.heap.size≤eb;omega) (.int .i64 vx)
            replace E:=row_set E 1 (.int .i64 sx)
            replace X:=row_other (p:=⟨eb,1,none⟩) X (by show w.heap.size≠eb;omega) (.int .i64 sx)
            replace Y:=row_other (p:=⟨eb,1,none⟩) Y (by show w.heap.size+1≠eb;omega) (.int .i64 sx)
            replace R:=row_other (p:=⟨eb,1,none⟩) R (by show w.heap.size+2≠eb;omega) (.int .i64 sx)
            replace O:=row_other (p:=⟨eb,1,none⟩) O (by show ob≠eb;omega) (.int .i64 sx)
            replace OW:=orow_other (p:=⟨eb,1,none⟩) OW (by intro h;exact neE h) (.int .i64 sx)
            replace o:=o.setCell (p:=⟨eb,1,none⟩) (by show w.heap.size≤eb;omega) (.int .i64 sx)
            replace E:=row_set E 2 (.int .i64 sx)
            replace X:=row_other (p:=⟨eb,2,none⟩) X (by show w.heap.size≠eb;omega) (.int .i64 sx)
            replace Y:=row_other (p:=⟨eb,2,none⟩) Y (by show w.heap.size+1≠eb;omega) (.int .i64 sx)
            replace R:=row_other (p:=⟨eb,2,none⟩) R (by show w.heap.size+2≠eb;omega) (.int .i64 sx)
            replace O:=row_other (p:=⟨eb,2,none⟩) O (by show ob≠eb;omega) (.int .i64 sx)
            replace OW:=orow_other (p:=⟨eb,2,none⟩) OW (by intro h;exact neE h) (.int .i64 sx)
            replace o:=o.setCell (p:=⟨eb,2,none⟩) (by show w.heap.size≤eb;omega) (.int .i64 sx)
            replace E:Row (((w6.setCell ⟨eb,0,none⟩ (.int .i64 vx)).setCell ⟨eb,1,none⟩ (.int .i64 sx)).setCell ⟨eb,2,none⟩ (.int .i64 sx)) eb 242 #[.int .i64 vx, .int .i64 sx, .int .i64 sx]:=E
            generalize (((w6.setCell ⟨eb,0,none⟩ (.int .i64 vx)).setCell ⟨eb,1,none⟩ (.int .i64 sx)).setCell ⟨eb,2,none⟩ (.int .i64 sx))=w7 at E X Y R O OW o ⊢
            obtain ⟨E0,E1,E2,Ef0,Ef1,Ef2⟩:=row_three E
            obtain ⟨O0,O1,Of0,Of1⟩:=row_two O
            go_wp2_with (at_builtin;refine wpList_push rfl _ _ 186 rfl 242 ie (.agg #[.int .i64 0, .int .i64 0, .int .i64 0]) 3 24 Tryz.underlying186 HIE.out iz0 iz1 iz2 rfl (by decide) w.heap.size sl (i+j) (rcells 0 os) rfl OW #[.int .i64 vx, .int .i64 sx, .int .i64 sx] rfl rfl (by intro u hu;simp at hu;rcases hu with rfl | rfl | rfl<;>rfl) (by unfold maxLen;omega) (by omega) o.size ?_;intro g8 c8 w9 own8 hg8 hat8 hgr8;have O9:=row_grown (row_alloc O (.cells #[.int .i64 vx, .int .i64 sx, .int .i64 sx] 242)) hgr8 neO;clear O0 O1 Of0 Of1;obtain ⟨O0,O1,Of0,Of1⟩:=row_two O9)
            have zo7:=o.size
            have ne8:ob≠g8:=fun x=>by
              rcases hat8 with h | h
              · exact neO (h.trans (by rw [x]))
              · have:=row_lt O
                omega
            go_roundw
            case rel =>
              refine ⟨i+1,j,os ++ [vx],_,rfl,rfl,by omega,by omega,Lib.hid (by have:=HM2.out;rw [List.append_assoc];exact this),by rw [List.length_append,hos];simp;omega,?_,?_,?_,row_set O9 1 _,?_,?_⟩
              · exact row_other (row_grown (row_alloc X (.cells #[.int .i64 vx, .int .i64 sx, .int .i64 sx] 242)) hgr8 (orow_ne_row OW X (by decide))) (by show w.heap.size≠ob;omega) _
              · exact row_other (row_grown (row_alloc Y (.cells #[.int .i64 vx, .int .i64 sx, .int .i64 sx] 242)) hgr8 (orow_ne_row OW Y (by decide))) (by show w.heap.size+1≠ob;omega) _
              · exact row_other (row_grown (row_alloc R (.cells #[.int .i64 vx, .int .i64 sx, .int .i64 sx] 242)) hgr8 (orow_ne_row OW R (by decide))) (by show w.heap.size+2≠ob;omega) _
              · have h9:=(own8.other (p:=⟨ob,1,none⟩) (fun x=>ne8 x.symm) (.slice (some ⟨g8,0,none⟩) (i+j+1) c8)).row hg8
                rw [rcells_append,Nat.zero_add,hos,show i+1+j=i+j+1 by omega]
                rw [hs9.out] at h9
                exact h9
              · exact (below_grown (o.alloc o.size (.cells #[.int .i64 vx, .int .i64 sx, .int .i64 sx] 242)) hgr8 (fun q e=>(OW.lt q e).1) (by simp;omega)).setCell (by show w.heap.size≤ob;omega) _
            case measure=>simp [intOf];omega
          · have HM2:=HM.out
            rw [hdx,hdy,mgI_right hc,← hdx] at HM2
            replace HM2:=Lib.hid HM2
            clear HM hdx hdy hfin
            refine wp_region_quiet_lit (by as_aux_lemma=>kernel_rfl) (by as_aux_lemma=>kernel_rfl) ?_
            repeat (go_big_quiet_step (fail))
            refine wpQuiet_nil ?_
            intro _ hw'
            obtain ⟨nq,hw''⟩:=hw'
            subst hw''
            replace X:Row (w4.drewN nq) (w.heap.size) 188 #[.int .i64 (ma:Nat), .slice (some a) ma ca]:=X
            replace Y:Row (w4.drewN nq) (w.heap.size+1) 188 #[.int .i64 (mb:Nat), .slice (some b) mb cb]:=Y
            replace R:Row (w4.drewN nq) (w.heap.size+2) 188 #[.int .i64 0, .slice none 0 0]:=R
            replace O:Row (w4.drewN nq) (ob) 188 #[.int .i64 mm,sl]:=O
            replace E:Row (w4.drewN nq) (eb) 242 #[.int .i64 0, .int .i64 0, .int .i64 0]:=E
            replace OW:(w4.drewN nq).ownsRow w.heap.size 242 3 sl (i+j) (rcells 0 os):=OW
            replace o:=o.trans (⟨rfl,rfl,rfl,Nat.le_refl _,fun _ _=>rfl⟩:Below _ w4 (w4.drewN nq))
            generalize w4.drewN nq=w5 at X Y R O E OW o ⊢
            clear px py c3
            have PB:=fun w' (hb:Below w5.heap.size w5 w')=>prkbetween vy j _ _ _ _ i w' (HX.out.below (o.trans (hb.mono o.size))) (by omega) (by omega)
            have hsx:((j+i+1:Nat):Int)=((i+j+1:Nat):Int):=by omega
            have HP:∀ w',Below w5.heap.size w5 w'→RkCells w' (b.add (j*3)) vy j:=fun w' hb=>hy0.below (o.trans (hb.mono o.size)) (by rw [block_of_add];exact hbb)
            unfold RkCells at HP
            rw [hsx] at PB
            obtain ⟨sx,hs9⟩:∃ x,x=((i+j+1:Nat):Int):=⟨_,rfl⟩
            generalize ((j+1:Nat):Int)=ix at PB HP
            rw [← hs9] at PB
            replace PB:=Lib.hid PB
            replace HP:=Lib.hid HP
            replace hs9:=Lib.hid hs9
            clear hsx hx0 hy0
            go_upto_region 21 with (fail)
            refine wp_region_free0 [0,1,2,3,4,5,6,7,8] [] [0,1,2,3,4,5,6,7,8] 9 (fun w'=>Below w5.heap.size w5 w') (by kernel_rfl) (by kernel_rfl) (fun _ _ d _ _ h=>by cases d<;>exact h) ?_ ?_
            · exact (Below.refl _ _).drew
            (refine plan_pure ?_ rfl rfl (fun w'=>?_) ?_;rotate_left;(go_simp;try with_reducible rfl);simp only [put9])
            (refine plan_pure ?_ rfl rfl (fun w'=>?_) ?_;rotate_left;(go_simp;try with_reducible rfl);simp only [put9])
            (refine plan_pure ?_ rfl rfl (fun w'=>?_) ?_;rotate_left;(go_simp;try with_reducible rfl);simp only [put9])
            (refine plan_val ?_ rfl rfl rfl (fun w' hS=>?_) ?_;rotate_left;(obtain ⟨X0,X1,Xf0,Xf1⟩:=row_two (row_call X hS);obtain ⟨p0,p1,p2⟩:=HP.out _ hS;go_simp;try with_reducible rfl);simp only [put9])
            (refine plan_pure ?_ rfl rfl (fun w'=>?_) ?_;rotate_left;(go_simp;try with_reducible rfl);simp only [put9])
            (refine plan_pure ?_ rfl rfl (fun w'=>?_) ?_;rotate_left;(go_simp;try with_reducible rfl);simp only [put9])
            (refine plan_pure ?_ rfl rfl (fun w'=>?_) ?_;rotate_left;(go_simp;try with_reducible rfl);simp only [put9])
            (refine plan_val ?_ rfl rfl rfl (fun w' hS=>?_) ?_;rotate_left;(obtain ⟨X0,X1,Xf0,Xf1⟩:=row_two (row_call X hS);obtain ⟨p0,p1,p2⟩:=HP.out _ hS;go_simp;try with_reducible rfl);simp only [put9])
            refine plan_call (.agg #[.int .i64 vy, .int .i64 sx, .int .i64 sx]) 299 #[.agg #[.int .i64 vy, .int .i64 ix, .int .i64 ix], .slice (some a) ma ca, .int .i64 (i:Nat), .int .i64 (ma:Nat)] rfl rfl rfl (fun _ _ h hb=>h.trans (hb.mono h.size)) (fun w' hS=>by obtain ⟨X0,X1,Xf0,Xf1⟩:=row_two (row_call X hS);obtain ⟨p0,p1,p2⟩:=HP.out _ hS;go_simp) (fun w' hS=>PB.out _ hS) ?_
            simp only [put9]
            refine plan_nil ?_
            intro w6 L6
            simp only [List.drop_succ_cons,List.drop_zero]
            try simp only [put9]
            replace E:=row_call E L6
            replace X:=row_call X L6
            replace Y:=row_call Y L6
            replace R:=row_call R L6
            replace O:=row_call O L6
            replace OW:=orow_keep OW (fun g e=>L6.block g (OW.lt g e).2)
            replace o:=o.trans (L6.mono o.size)
            clear L6 HP PB
            obtain ⟨E0,E1,E2,Ef0,Ef1,Ef2⟩:=row_three E
            go_upto_region 23 with (fail)
            clear E0 E1 E2 Ef0 Ef1 Ef2
            replace E:=row_set E 0 (.int .i64 vy)
            replace X:=row_other (p:=⟨eb,0,none⟩) X (by show w.heap.size≠eb;omega) (.int .i64 vy)
            replace Y:=row_other (p:=⟨eb,0,none⟩) Y (by show w.heap.size+1≠eb;omega) (.int .i64 vy)
            replace R:=row_other (p:=⟨eb,0,none⟩) R (by show w.heap.size+2≠eb;omega) (.int .i64 vy)
            replace O:=row_other (p:=⟨eb,0,none⟩) O (by show ob≠eb;omega) (.int .i64 vy)
            replace OW:=orow_other (p:=⟨eb,0,none⟩) OW (by intro h;exact neE h) (.int .i64 vy)
            replace o:=o.setCell (p:=⟨eb,0,none⟩) (by show w.heap.size≤eb;omega) (.int .i64 vy)
            replace E:=row_set E 1 (.int .i64 sx)
            replace X:=row_other (p:=⟨eb,1,none⟩) X (by show w.heap.size≠eb;omega) (.int .i64 sx)
            replace Y:=row_other (p:=⟨eb,1,none⟩) Y (by show w.heap.size+1≠eb;omega) (.int .i64 sx)
            replace R:=row_other (p:=⟨eb,1,none⟩) R (by show w.heap.size+2≠eb;omega) (.int .i64 sx)
            replace O:=row_other (p:=⟨eb,1,none⟩) O (by show ob≠eb;omega) (.int .i64 sx)
            replace OW:=orow_other (p:=⟨eb,1,none⟩) OW (by intro h;exact neE h) (.int .i64 sx)
            replace o:=o.setCell (p:=⟨eb,1,none⟩) (by show w.heap.size≤eb;omega) (.int .i64 sx)
            replace E:=row_set E 2 (.int .i64 sx)
            replace X:=row_other (p:=⟨eb,2,none⟩) X (by show w.heap.size≠eb;omega) (.int .i64 sx)
            replace Y:=row_other (p:=⟨eb,2,none⟩) Y (by show w.heap.size+1≠eb;omega) (.int .i64 sx)
            replace R:=row_other (p:=⟨eb,2,none⟩) R (by show w.heap.size+2≠eb;omega) (.int .i64 sx)
            replace O:=row_other (p:=⟨eb,2,none⟩) O (by show ob≠eb;omega) (.int .i64 sx)
            replace OW:=orow_other (p:=⟨eb,2,none⟩) OW (by intro h;exact neE h) (.int .i64 sx)
            replace o:=o.setCell (p:=⟨eb,2,none⟩) (by show w.heap.size≤eb;omega) (.int .i64 sx)
            replace E:Row (((w6.setCell ⟨eb,0,none⟩ (.int .i64 vy)).setCell ⟨eb,1,none⟩ (.int .i64 sx)).setCell ⟨eb,2,none⟩ (.int .i64 sx)) eb 242 #[.int .i64 vy, .int .i64 sx, .int .i64 sx]:=E
            generalize (((w6.setCell ⟨eb,0,none⟩ (.int .i64 vy)).setCell ⟨eb,1,none⟩ (.int .i64 sx)).setCell ⟨eb,2,none⟩ (.int .i64 sx))=w7 at E X Y R O OW o ⊢
            obtain ⟨E0,E1,E2,Ef0,Ef1,Ef2⟩:=row_three E
            obtain ⟨O0,O1,Of0,Of1⟩:=row_two O
            go_wp2_with (at_builtin;refine wpList_push rfl _ _ 186 rfl 242 ie (.agg #[.int .i64 0, .int .i64 0, .int .i64 0]) 3 24 Tryz.underlying186 HIE.out iz0 iz1 iz2 rfl (by decide) w.heap.size sl (i+j) (rcells 0 os) rfl OW #[.int .i64 vy, .int .i64 sx, .int .i64 sx] rfl rfl (by intro u hu;simp at hu;rcases hu with rfl | rfl | rfl<;>rfl) (by unfold maxLen;omega) (by omega) o.size ?_;intro g8 c8 w9 own8 hg8 hat8 hgr8;have O9:=row_grown (row_alloc O (.cells #[.int .i64 vy, .int .i64 sx, .int .i64 sx] 242)) hgr8 neO;clear O0 O1 Of0 Of1;obtain ⟨O0,O1,Of0,Of1⟩:=row_two O9)
            have zo7:=o.size
            have ne8:ob≠g8:=fun x=>by
              rcases hat8 with h | h
              · exact neO (h.trans (by rw [x]))
              · have:=row_lt O
                omega
            go_roundw
            case rel =>
              refine ⟨i,j+1,os ++ [vy],_,rfl,rfl,by omega,by omega,Lib.hid (by have:=HM2.out;rw [List.append_assoc];exact this),by rw [List.length_append,hos];simp;omega,?_,?_,?_,row_set O9 1 _,?_,?_⟩
              · exact row_other (row_grown (row_alloc X (.cells #[.int .i64 vy, .int .i64 sx, .int .i64 sx] 242)) hgr8 (orow_ne_row OW X (by decide))) (by show w.heap.size≠ob;omega) _
              · exact row_other (row_grown (row_alloc Y (.cells #[.int .i64 vy, .int .i64 sx, .int .i64 sx] 242)) hgr8 (orow_ne_row OW Y (by decide))) (by show w.heap.size+1≠ob;omega) _
              · exact row_other (row_grown (row_alloc R (.cells #[.int .i64 vy, .int .i64 sx, .int .i64 sx] 242)) hgr8 (orow_ne_row OW R (by decide))) (by show w.heap.size+2≠ob;omega) _
              · have h9:=(own8.other (p:=⟨ob,1,none⟩) (fun x=>ne8 x.symm) (.slice (some ⟨g8,0,none⟩) (i+j+1) c8)).row hg8
                rw [rcells_append,Nat.zero_add,hos,show i+(j+1)=i+j+1 by omega]
                rw [hs9.out] at h9
                exact h9
              · exact (below_grown (o.alloc o.size (.cells #[.int .i64 vy, .int .i64 sx, .int .i64 sx] 242)) hgr8 (fun q e=>(OW.lt q e).1) (by simp;omega)).setCell (by show w.heap.size≤ob;omega) _
            case measure=>simp [intOf];omega
        · have hy0:=True.intro
          have c2:¬ (j:Int)<(mb:Int):=by omega
          have c3:((j:Int) == (mb:Int))=true:=by simp;omega
          have HM2:=HM.out
          rw [hdx,List.drop_of_length_le (show ys.length≤j by omega),mgI_nil_r] at HM2
          replace HM2:=Lib.hid HM2
          clear HM hdx hfin
          go_upto_region 18 with (fail)
          have E:Row (wr.alloc (.cells #[.int .i64 0, .int .i64 0, .int .i64 0] 242)) wr.heap.size 242 #[.int .i64 0, .int .i64 0, .int .i64 0]:=row_new rfl
          have zO:=row_lt O
          have zR:=row_lt R
          have zo:=o.size
          have neE:sl.ownBlock≠some wr.heap.size:=fun e=>by have:=(OW.lt _ e).2;omega
          replace X:=row_alloc X (.cells #[.int .i64 0, .int .i64 0, .int .i64 0] 242)
          replace Y:=row_alloc Y (.cells #[.int .i64 0, .int .i64 0, .int .i64 0] 242)
          replace R:=row_alloc R (.cells #[.int .i64 0, .int .i64 0, .int .i64 0] 242)
          replace O:=row_alloc O (.cells #[.int .i64 0, .int .i64 0, .int .i64 0] 242)
          replace OW:=OW.alloc (.cells #[.int .i64 0, .int .i64 0, .int .i64 0] 242)
          replace o:=o.alloc o.size (.cells #[.int .i64 0, .int .i64 0, .int .i64 0] 242)
          generalize wr.alloc (.cells #[.int .i64 0, .int .i64 0, .int .i64 0] 242)=w4 at X Y R O E OW o ⊢
          generalize wr.heap.size=eb at E zO zR zo neE ⊢
          have neO:=orow_ne_row OW O (by decide)
          refine wp_region_quiet_lit (by as_aux_lemma=>kernel_rfl) (by as_aux_lemma=>kernel_rfl) ?_
          repeat (go_big_quiet_step (fail))
          refine wpQuiet_nil ?_
          intro _ hw'
          obtain ⟨nq,hw''⟩:=hw'
          subst hw''
          replace X:Row (w4.drewN nq) (w.heap.size) 188 #[.int .i64 (ma:Nat), .slice (some a) ma ca]:=X
          replace Y:Row (w4.drewN nq) (w.heap.size+1) 188 #[.int .i64 (mb:Nat), .slice (some b) mb cb]:=Y
          replace R:Row (w4.drewN nq) (w.heap.size+2) 188 #[.int .i64 0, .slice none 0 0]:=R
          replace O:Row (w4.drewN nq) (ob) 188 #[.int .i64 mm,sl]:=O
          replace E:Row (w4.drewN nq) (eb) 242 #[.int .i64 0, .int .i64 0, .int .i64 0]:=E
          replace OW:(w4.drewN nq).ownsRow w.heap.size 242 3 sl (i+j) (rcells 0 os):=OW
          replace o:=o.trans (⟨rfl,rfl,rfl,Nat.le_refl _,fun _ _=>rfl⟩:Below _ w4 (w4.drewN nq))
          generalize w4.drewN nq=w5 at X Y R O E OW o ⊢
          clear c3
          have PB:=fun w' (hb:Below w5.heap.size w5 w')=>prkbetween vx i _ _ _ _ j w' (HY.out.below (o.trans (hb.mono o.size))) (by omega) (by omega)
          have hsx:((i+j+1:Nat):Int)=((i+j+1:Nat):Int):=by omega
          have HP:∀ w',Below w5.heap.size w5 w'→RkCells w' (a.add (i*3)) vx i:=fun w' hb=>hx0.below (o.trans (hb.mono o.size)) (by rw [block_of_add];exact hab)
          unfold RkCells at HP
          rw [hsx] at PB
          obtain ⟨sx,hs9⟩:∃ x,x=((i+j+1:Nat):Int):=⟨_,rfl⟩
          generalize ((i+1:Nat):Int)=ix at PB HP
          rw [← hs9] at PB
          replace PB:=Lib.hid PB
          replace HP:=Lib.hid HP
          replace hs9:=Lib.hid hs9
          clear hsx hx0 hy0
          go_upto_region 19 with (fail)
          refine wp_region_free0 [0,1,2,3,4,5,6,7,8] [] [0,1,2,3,4,5,6,7,8] 9 (fun w'=>Below w5.heap.size w5 w') (by kernel_rfl) (by kernel_rfl) (fun _ _ d _ _ h=>by cases d<;>exact h) ?_ ?_
          · exact (Below.refl _ _).drew
          (refine plan_pure ?_ rfl rfl (fun w'=>?_) ?_;rotate_left;(go_simp;try with_reducible rfl);simp only [put9])
          (refine plan_pure ?_ rfl rfl (fun w'=>?_) ?_;rotate_left;(go_simp;try with_reducible rfl);simp only [put9])
          (refine plan_pure ?_ rfl rfl (fun w'=>?_) ?_;rotate_left;(go_simp;try with_reducible rfl);simp only [put9])
          (refine plan_val ?_ rfl rfl rfl (fun w' hS=>?_) ?_;rotate_left;(obtain ⟨Y0,Y1,Yf0,Yf1⟩:=row_two (row_call Y hS);obtain ⟨p0,p1,p2⟩:=HP.out _ hS;go_simp;try with_reducible rfl);simp only [put9])
          (refine plan_pure ?_ rfl rfl (fun w'=>?_) ?_;rotate_left;(go_simp;try with_reducible rfl);simp only [put9])
          (refine plan_pure ?_ rfl rfl (fun w'=>?_) ?_;rotate_left;(go_simp;try with_reducible rfl);simp only [put9])
          (refine plan_pure ?_ rfl rfl (fun w'=>?_) ?_;rotate_left;(go_simp;try with_reducible rfl);simp only [put9])
          (refine plan_val ?_ rfl rfl rfl (fun w' hS=>?_) ?_;rotate_left;(obtain ⟨Y0,Y1,Yf0,Yf1⟩:=row_two (row_call Y hS);obtain ⟨p0,p1,p2⟩:=HP.out _ hS;go_simp;try with_reducible rfl);simp only [put9])
          refine plan_call (.agg #[.int .i64 vx, .int .i64 sx, .int .i64 sx]) 299 #[.agg #[.int .i64 vx, .int .i64 ix, .int .i64 ix], .slice (some b) mb cb, .int .i64 (j:Nat), .int .i64 (mb:Nat)] rfl rfl rfl (fun _ _ h hb=>h.trans (hb.mono h.size)) (fun w' hS=>by obtain ⟨Y0,Y1,Yf0,Yf1⟩:=row_two (row_call Y hS);obtain ⟨p0,p1,p2⟩:=HP.out _ hS;go_simp) (fun w' hS=>PB.out _ hS) ?_
          simp only [put9]
          refine plan_nil ?_
          intro w6 L6
          simp only [List.drop_succ_cons,List.drop_zero]
          try simp only [put9]
          replace E:=row_call E L6
          replace X:=row_call X L6
          replace Y:=row_call Y L6
          replace R:=row_call R L6
          replace O:=row_call O L6
          replace OW:=orow_keep OW (fun g e=>L6.block g (OW.lt g e).2)
          replace o:=o.trans (L6.mono o.size)
          clear L6 HP PB
          obtain ⟨E0,E1,E2,Ef0,Ef1,Ef2⟩:=row_three E
          go_upto_region 23 with (fail)
          clear E0 E1 E2 Ef0 Ef1 Ef2
          replace E:=row_set E 0 (.int .i64 vx)
          replace X:=row_other (p:=⟨eb,0,none⟩) X (by show w.heap.size≠eb;omega) (.int .i64 vx)
          replace Y:=row_other (p:=⟨eb,0,none⟩) Y (by show w.heap.size+1≠eb;omega) (.int .i64 vx)
          replace R:=row_other (p:=⟨eb,0,none⟩) R (by show w.heap.size+2≠eb;omega) (.int .i64 vx)
          replace O:=row_other (p:=⟨eb,0,none⟩) O (by show ob≠eb;omega) (.int .i64 vx)
          replace OW:=orow_other (p:=⟨eb,0,none⟩) OW (by intro h;exact neE h) (.int .i64 vx)
          replace o:=o.setCell (p:=⟨eb,0,none⟩) (by show w.heap.size≤eb;omega) (.int .i64 vx)
          replace E:=row_set E 1 (.int .i64 sx)
          replace X:=row_other (p:=⟨eb,1,none⟩) X (by show w.heap.size≠eb;omega) (.int .i64 sx)
          replace Y:=row_other (p:=⟨eb,1,none⟩) Y (by show w.heap.size+1≠eb;omega) (.int .i64 sx)
          replace R:=row_other (p:=⟨eb,1,none⟩) R (by show w.heap.size+2≠eb;omega) (.int .i64 sx)
          replace O:=row_other (p:=⟨eb,1,none⟩) O (by show ob≠eb;omega) (.int .i64 sx)
          replace OW:=orow_other (p:=⟨eb,1,none⟩) OW (by intro h;exact neE h) (.int .i64 sx)
          replace o:=o.setCell (p:=⟨eb,1,none⟩) (by show w.heap.size≤eb;omega) (.int .i64 sx)
          replace E:=row_set E 2 (.int .i64 sx)
          replace X:=row_other (p:=⟨eb,2,none⟩) X (by show w.heap.size≠eb;omega) (.int .i64 sx)
          replace Y:=row_other (p:=⟨eb,2,none⟩) Y (by show w.heap.size+1≠eb;omega) (.int .i64 sx)
          replace R:=row_other (p:=⟨eb,2,none⟩) R (by show w.heap.size+2≠eb;omega) (.int .i64 sx)
          replace O:=row_other (p:=⟨eb,2,none⟩) O (by show ob≠eb;omega) (.int .i64 sx)
          replace OW:=orow_other (p:=⟨eb,2,none⟩) OW (by intro h;exact neE h) (.int .i64 sx)
          replace o:=o.setCell (p:=⟨eb,2,none⟩) (by show w.heap.size≤eb;omega) (.int .i64 sx)
          replace E:Row (((w6.setCell ⟨eb,0,none⟩ (.int .i64 vx)).setCell ⟨eb,1,none⟩ (.int .i64 sx)).setCell ⟨eb,2,none⟩ (.int .i64 sx)) eb 242 #[.int .i64 vx, .int .i64 sx, .int .i64 sx]:=E
          generalize (((w6.setCell ⟨eb,0,none⟩ (.int .i64 vx)).setCell ⟨eb,1,none⟩ (.int .i64 sx)).setCell ⟨eb,2,none⟩ (.int .i64 sx))=w7 at E X Y R O OW o ⊢
          obtain ⟨E0,E1,E2,Ef0,Ef1,Ef2⟩:=row_three E
          obtain ⟨O0,O1,Of0,Of1⟩:=row_two O
          go_wp2_with (at_builtin;refine wpList_push rfl _ _ 186 rfl 242 ie (.agg #[.int .i64 0, .int .i64 0, .int .i64 0]) 3 24 Tryz.underlying186 HIE.out iz0 iz1 iz2 rfl (by decide) w.heap.size sl (i+j) (rcells 0 os) rfl OW #[.int .i64 vx, .int .i64 sx, .int .i64 sx] rfl rfl (by intro u hu;simp at hu;rcases hu with rfl | rfl | rfl<;>rfl) (by unfold maxLen;omega) (by omega) o.size ?_;intro g8 c8 w9 own8 hg8 hat8 hgr8;have O9:=row_grown (row_alloc O (.cells #[.int .i64 vx, .int .i64 sx, .int .i64 sx] 242)) hgr8 neO;clear O0 O1 Of0 Of1;obtain ⟨O0,O1,Of0,Of1⟩:=row_two O9)
          have zo7:=o.size
          have ne8:ob≠g8:=fun x=>by
            rcases hat8 with h | h
            · exact neO (h.trans (by rw [x]))
            · have:=row_lt O
              omega
          go_roundw
          case rel =>
            refine ⟨i+1,j,os ++ [vx],_,rfl,rfl,by omega,by omega,Lib.hid (by have:=HM2.out;rw [List.append_assoc,List.drop_of_length_le (show ys.length≤j by omega),mgI_nil_r];exact this),by rw [List.length_append,hos];simp;omega,?_,?_,?_,row_set O9 1 _,?_,?_⟩
            · exact row_other (row_grown (row_alloc X (.cells #[.int .i64 vx, .int .i64 sx, .int .i64 sx] 242)) hgr8 (orow_ne_row OW X (by decide))) (by show w.heap.size≠ob;omega) _
            · exact row_other (row_grown (row_alloc Y (.cells #[.int .i64 vx, .int .i64 sx, .int .i64 sx] 242)) hgr8 (orow_ne_row OW Y (by decide))) (by show w.heap.size+1≠ob;omega) _
            · exact row_other (row_grown (row_alloc R (.cells #[.int .i64 vx, .int .i64 sx, .int .i64 sx] 242)) hgr8 (orow_ne_row OW R (by decide))) (by show w.heap.size+2≠ob;omega) _
            · have h9:=(own8.other (p:=⟨ob,1,none⟩) (fun x=>ne8 x.symm) (.slice (some ⟨g8,0,none⟩) (i+j+1) c8)).row hg8
              rw [rcells_append,Nat.zero_add,hos,show i+1+j=i+j+1 by omega]
              rw [hs9.out] at h9
              exact h9
            · exact (below_grown (o.alloc o.size (.cells #[.int .i64 vx, .int .i64 sx, .int .i64 sx] 242)) hgr8 (fun q e=>(OW.lt q e).1) (by simp;omega)).setCell (by show w.heap.size≤ob;omega) _
          case measure=>simp [intOf];omega
      · have hx0:=True.intro
        have cy:j<mb:=by omega
        have c1:¬ (i:Int)<(ma:Int):=by omega
        obtain ⟨_,ea,_,hy0⟩:=HY.out.reads.rk cy
        obtain rfl:b=_:=by injection ea
        clear ea
        have hdy:=drop_vat (l:=ys) (i:=j) (by omega)
        generalize ys.getD j 0=vy at hy0 hdy
        have c2:(j:Int)<(mb:Int):=by omega
        have c3:((j:Int) == (mb:Int))=false:=by simp;omega
        have HM2:=HM.out
        rw [hdy,List.drop_of_length_le (show xs.length≤i by omega),mgI_nil_l] at HM2
        replace HM2:=Lib.hid HM2
        clear HM hdy hfin
        go_upto_region 18 with (fail)
        have E:Row (wr.alloc (.cells #[.int .i64 0, .int .i64 0, .int .i64 0] 242)) wr.heap.size 242 #[.int .i64 0, .int .i64 0, .int .i64 0]:=row_new rfl
        have zO:=row_lt O
        have zR:=row_lt R
        have zo:=o.size
        have neE:sl.ownBlock≠some wr.heap.size:=fun e=>by have:=(OW.lt _ e).2;omega
        replace X:=row_alloc X (.cells #[.int .i64 0, .int .i64 0, .int .i64 0] 242)
        replace Y:=row_alloc Y (.cells #[.int .i64 0, .int .i64 0, .int .i64 0] 242)
        replace R:=row_alloc R (.cells #[.int .i64 0, .int .i64 0, .int .i64 0] 242)
        replace O:=row_alloc O (.cells #[.int .i64 0, .int .i64 0, .int .i64 0] 242)
        replace OW:=OW.alloc (.cells #[.int .i64 0, .int .i64 0, .int .i64 0] 242)
        replace o:=o.alloc o.size (.cells #[.int .i64 0, .int .i64 0, .int .i64 0] 242)
        generalize wr.alloc (.cells #[.int .i64 0, .int .i64 0, .int .i64 0] 242)=w4 at X Y R O E OW o ⊢
        generalize wr.heap.size=eb at E zO zR zo neE ⊢
        have neO:=orow_ne_row OW O (by decide)
        refine wp_region_quiet_lit (by as_aux_lemma=>kernel_rfl) (by as_aux_lemma=>kernel_rfl) ?_
        repeat (go_big_quiet_step (fail))
        refine wpQuiet_nil ?_
        intro _ hw'
        obtain ⟨nq,hw''⟩:=hw'
        subst hw''
        replace X:Row (w4.drewN nq) (w.heap.size) 188 #[.int .i64 (ma:Nat), .slice (some a) ma ca]:=X
        replace Y:Row (w4.drewN nq) (w.heap.size+1) 188 #[.int .i64 (mb:Nat), .slice (some b) mb cb]:=Y
        replace R:Row (w4.drewN nq) (w.heap.size+2) 188 #[.int .i64 0, .slice none 0 0]:=R
        replace O:Row (w4.drewN nq) (ob) 188 #[.int .i64 mm,sl]:=O
        replace E:Row (w4.drewN nq) (eb) 242 #[.int .i64 0, .int .i64 0, .int .i64 0]:=E
        replace OW:(w4.drewN nq).ownsRow w.heap.size 242 3 sl (i+j) (rcells 0 os):=OW
        replace o:=o.trans (⟨rfl,rfl,rfl,Nat.le_refl _,fun _ _=>rfl⟩:Below _ w4 (w4.drewN nq))
        generalize w4.drewN nq=w5 at X Y R O E OW o ⊢
        clear c3
        have PB:=fun w' (hb:Below w5.heap.size w5 w')=>prkbetween vy j _ _ _ _ i w' (HX.out.below (o.trans (hb.mono o.size))) (by omega) (by omega)
        have hsx:((j+i+1:Nat):Int)=((i+j+1:Nat):Int):=by omega
        have HP:∀ w',Below w5.heap.size w5 w'→RkCells w' (b.add (j*3)) vy j:=fun w' hb=>hy0.below (o.trans (hb.mono o.size)) (by rw [block_of_add];exact hbb)
        unfold RkCells at HP
        rw [hsx] at PB
        obtain ⟨sx,hs9⟩:∃ x,x=((i+j+1:Nat):Int):=⟨_,rfl⟩
        generalize ((j+1:Nat):Int)=ix at PB HP
        rw [← hs9] at PB
        replace PB:=Lib.hid PB
        replace HP:=Lib.hid HP
        replace hs9:=Lib.hid hs9
        clear hsx hx0 hy0
        go_upto_region 21 with (fail)
        refine wp_region_free0 [0,1,2,3,4,5,6,7,8] [] [0,1,2,3,4,5,6,7,8] 9 (fun w'=>Below w5.heap.size w5 w') (by kernel_rfl) (by kernel_rfl) (fun _ _ d _ _ h=>by cases d<;>exact h) ?_ ?_
        · exact (Below.refl _ _).drew
        (refine plan_pure ?_ rfl rfl (fun w'=>?_) ?_;rotate_left;(go_simp;try with_reducible rfl);simp only [put9])
        (refine plan_pure ?_ rfl rfl (fun w'=>?_) ?_;rotate_left;(go_simp;try with_reducible rfl);simp only [put9])
        (refine plan_pure ?_ rfl rfl (fun w'=>?_) ?_;rotate_left;(go_simp;try with_reducible rfl);simp only [put9])
        (refine plan_val ?_ rfl rfl rfl (fun w' hS=>?_) ?_;rotate_left;(obtain ⟨X0,X1,Xf0,Xf1⟩:=row_two (row_call X hS);obtain ⟨p0,p1,p2⟩:=HP.out _ hS;go_simp;try with_reducible rfl);simp only [put9])
        (refine plan_pure ?_ rfl rfl (fun w'=>?_) ?_;rotate_left;(go_simp;try with_reducible rfl);simp only [put9])
        (refine plan_pure ?_ rfl rfl (fun w'=>?_) ?_;rotate_left;(go_simp;try with_reducible rfl);simp only [put9])
        (refine plan_pure ?_ rfl rfl (fun w'=>?_) ?_;rotate_left;(go_simp;try with_reducible rfl);simp only [put9])
        (refine plan_val ?_ rfl rfl rfl (fun w' hS=>?_) ?_;rotate_left;(obtain ⟨X0,X1,Xf0,Xf1⟩:=row_two (row_call X hS);obtain ⟨p0,p1,p2⟩:=HP.out _ hS;go_simp;try with_reducible rfl);simp only [put9])
        refine plan_call (.agg #[.int .i64 vy, .int .i64 sx, .int .i64 sx]) 299 #[.agg #[.int .i64 vy, .int .i64 ix, .int .i64 ix], .slice (some a) ma ca, .int .i64 (i:Nat), .int .i64 (ma:Nat)] rfl rfl rfl (fun _ _ h hb=>h.trans (hb.mono h.size)) (fun w' hS=>by obtain ⟨X0,X1,Xf0,Xf1⟩:=row_two (row_call X hS);obtain ⟨p0,p1,p2⟩:=HP.out _ hS;go_simp) (fun w' hS=>PB.out _ hS) ?_
        simp only [put9]
        refine plan_nil ?_
        intro w6 L6
        simp only [List.drop_succ_cons,List.drop_zero]
        try simp only [put9]
        replace E:=row_call E L6
        replace X:=row_call X L6
        replace Y:=row_call Y L6
        replace R:=row_call R L6
        replace O:=row_call O L6
        replace OW:=orow_keep OW (fun g e=>L6.block g (OW.lt g e).2)
        replace o:=o.trans (L6.mono o.size)
        clear L6 HP PB
        obtain ⟨E0,E1,E2,Ef0,Ef1,Ef2⟩:=row_three E
        go_upto_region 23 with (fail)
        clear E0 E1 E2 Ef0 Ef1 Ef2
        replace E:=row_set E 0 (.int .i64 vy)
        replace X:=row_other (p:=⟨eb,0,none⟩) X (by show w.heap.size≠eb;omega) (.int .i64 vy)
        replace Y:=row_other (p:=⟨eb,0,none⟩) Y (by show w.heap.size+1≠eb;omega) (.int .i64 vy)
        replace R:=row_other (p:=⟨eb,0,none⟩) R (by show w.heap.size+2≠eb;omega) (.int .i64 vy)
        replace O:=row_other (p:=⟨eb,0,none⟩) O (by show ob≠eb;omega) (.int .i64 vy)
        replace OW:=orow_other (p:=⟨eb,0,none⟩) OW (by intro h;exact neE h) (.int .i64 vy)
        replace o:=o.setCell (p:=⟨eb,0,none⟩) (by show w.heap.size≤eb;omega) (.int .i64 vy)
        replace E:=row_set E 1 (.int .i64 sx)
        replace X:=row_other (p:=⟨eb,1,none⟩) X (by show w.heap.size≠eb;omega) (.int .i64 sx)
        replace Y:=row_other (p:=⟨eb,1,none⟩) Y (by show w.heap.size+1≠eb;omega) (.int .i64 sx)
        replace R:=row_other (p:=⟨eb,1,none⟩) R (by show w.heap.size+2≠eb;omega) (.int .i64 sx)
        replace O:=row_other (p:=⟨eb,1,none⟩) O (by show ob≠eb;omega) (.int .i64 sx)
        replace OW:=orow_other (p:=⟨eb,1,none⟩) OW (by intro h;exact neE h) (.int .i64 sx)
        replace o:=o.setCell (p:=⟨eb,1,none⟩) (by show w.heap.size≤eb;omega) (.int .i64 sx)
        replace E:=row_set E 2 (.int .i64 sx)
        replace X:=row_other (p:=⟨eb,2,none⟩) X (by show w.heap.size≠eb;omega) (.int .i64 sx)
        replace Y:=row_other (p:=⟨eb,2,none⟩) Y (by show w.heap.size+1≠eb;omega) (.int .i64 sx)
        replace R:=row_other (p:=⟨eb,2,none⟩) R (by show w.heap.size+2≠eb;omega) (.int .i64 sx)
        replace O:=row_other (p:=⟨eb,2,none⟩) O (by show ob≠eb;omega) (.int .i64 sx)
        replace OW:=orow_other (p:=⟨eb,2,none⟩) OW (by intro h;exact neE h) (.int .i64 sx)
        replace o:=o.setCell (p:=⟨eb,2,none⟩) (by show w.heap.size≤eb;omega) (.int .i64 sx)
        replace E:Row (((w6.setCell ⟨eb,0,none⟩ (.int .i64 vy)).setCell ⟨eb,1,none⟩ (.int .i64 sx)).setCell ⟨eb,2,none⟩ (.int .i64 sx)) eb 242 #[.int .i64 vy, .int .i64 sx, .int .i64 sx]:=E
        generalize (((w6.setCell ⟨eb,0,none⟩ (.int .i64 vy)).setCell ⟨eb,1,none⟩ (.int .i64 sx)).setCell ⟨eb,2,none⟩ (.int .i64 sx))=w7 at E X Y R O OW o ⊢
        obtain ⟨E0,E1,E2,Ef0,Ef1,Ef2⟩:=row_three E
        obtain ⟨O0,O1,Of0,Of1⟩:=row_two O
        go_wp2_with (at_builtin;refine wpList_push rfl _ _ 186 rfl 242 ie (.agg #[.int .i64 0, .int .i64 0, .int .i64 0]) 3 24 Tryz.underlying186 HIE.out iz0 iz1 iz2 rfl (by decide) w.heap.size sl (i+j) (rcells 0 os) rfl OW #[.int .i64 vy, .int .i64 sx, .int .i64 sx] rfl rfl (by intro u hu;simp at hu;rcases hu with rfl | rfl | rfl<;>rfl) (by unfold maxLen;omega) (by omega) o.size ?_;intro g8 c8 w9 own8 hg8 hat8 hgr8;have O9:=row_grown (row_alloc O (.cells #[.int .i64 vy, .int .i64 sx, .int .i64 sx] 242)) hgr8 neO;clear O0 O1 Of0 Of1;obtain ⟨O0,O1,Of0,Of1⟩:=row_two O9)
        have zo7:=o.size
        have ne8:ob≠g8:=fun x=>by
          rcases hat8 with h | h
          · exact neO (h.trans (by rw [x]))
          · have:=row_lt O
            omega
        go_roundw
        case rel =>
          refine ⟨i,j+1,os ++ [vy],_,rfl,rfl,by omega,by omega,Lib.hid (by have:=HM2.out;rw [List.append_assoc,List.drop_of_length_le (show xs.length≤i by omega),mgI_nil_l];exact this),by rw [List.length_append,hos];simp;omega,?_,?_,?_,row_set O9 1 _,?_,?_⟩
          · exact row_other (row_grown (row_alloc X (.cells #[.int .i64 vy, .int .i64 sx, .int .i64 sx] 242)) hgr8 (orow_ne_row OW X (by decide))) (by show w.heap.size≠ob;omega) _
          · exact row_other (row_grown (row_alloc Y (.cells #[.int .i64 vy, .int .i64 sx, .int .i64 sx] 242)) hgr8 (orow_ne_row OW Y (by decide))) (by show w.heap.size+1≠ob;omega) _
          · exact row_other (row_grown (row_alloc R (.cells #[.int .i64 vy, .int .i64 sx, .int .i64 sx] 242)) hgr8 (orow_ne_row OW R (by decide))) (by show w.heap.size+2≠ob;omega) _
          · have h9:=(own8.other (p:=⟨ob,1,none⟩) (fun x=>ne8 x.symm) (.slice (some ⟨g8,0,none⟩) (i+j+1) c8)).row hg8
            rw [rcells_append,Nat.zero_add,hos,show i+(j+1)=i+j+1 by omega]
            rw [hs9.out] at h9
            exact h9
          · exact (below_grown (o.alloc o.size (.cells #[.int .i64 vy, .int .i64 sx, .int .i64 sx] 242)) hgr8 (fun q e=>(OW.lt q e).1) (by simp;omega)).setCell (by show w.heap.size≤ob;omega) _
        case measure=>simp [intOf];omega
end Go.Proofs.YtdipoojjlddohaaGreat
end
