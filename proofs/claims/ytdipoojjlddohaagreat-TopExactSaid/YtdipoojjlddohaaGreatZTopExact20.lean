/- What the law TopExact needs, joined of its texts by a program (slim2.py); part 20. -/
import Derived.Test.YtdipoojjlddohaaGreatZTopExact1
import Derived.Test.YtdipoojjlddohaaGreatZTopExact19
set_option linter.unusedVariables false
set_option linter.unusedSimpArgs false
set_option linter.unusedSectionVars false
set_option linter.unnecessarySimpa false
section
/- The deque of a window: Add, Ask, walked. -/
namespace Go.Proofs.YtdipoojjlddohaaGreat
open Go.RowKit
def AddI (g:Bool) (l:List Itm) (now v:Int) (l':List Itm):Prop:=∃ j,(∀ y∈l.drop j,exKey g y.v≤exKey g v)∧(∀ y∈l.take j,exKey g v<exKey g y.v)∧((∀ y∈l.take j,y.t<now)∧l'=l.take j ++ [⟨now,v⟩]∨(∃ y∈l.take j,y.t=now)∧l'=l.take j)
theorem itm_take_at {l:List Itm} {j i:Nat} (h:i<j):itmAt (l.take j) i=itmAt l i:=by
  unfold itmAt
  rw [List.getD_eq_getElem?_getD,List.getD_eq_getElem?_getD,List.getElem?_take,if_pos h]
theorem take_mem_at {l:List Itm} {j:Nat} {y:Itm} (h:y∈l.take j):∃ i,i<j∧i<l.length∧itmAt l i=y:=by
  obtain ⟨i,hi,rfl⟩:=List.mem_iff_getElem.1 h
  have h2:i<j∧i<l.length:=by rw [List.length_take] at hi;omega
  exact ⟨i,h2.1,h2.2,by rw [itm_eq hi,itm_take_at h2.1]⟩
set_option maxRecDepth 100000 in
set_option maxHeartbeats 4000000 in
theorem pexadd (A:Option Addr) (m c:Nat) (l:List Itm) (g:Bool) (wd cap now:Int) (v:Int) (w:World) (hin:DIn A m c l w) (hs:DqS g wd cap now l) (v1 : -4096≤v) (v2:v≤4096) (hw:wd≤cap):Calls Tryz.prog 127 #[.agg #[.bool g, .int .i64 wd, .int .i64 cap, .int .i64 now, .slice A m c], .int .i64 v] w (ExRet (AddI g l now v) (fun A m c=>#[.bool g, .int .i64 wd, .int .i64 cap, .int .i64 now, .slice A m c]) 0 w):=by
  have P:=Lib.hid (fun w' (hb:Below w.heap.size w w')=>pexval A m c l g wd cap now w' (hin.below hb) hs)
  obtain ⟨ii,hii,iz0,iz1,iz2⟩:=info_parts info_itm
  have hln:=Lib.hid hin.len
  have HS:=Lib.hid hs
  have hm:m≤65536:=by have:=hin.len;have:=hs.len;have:=hs.good;omega
  have hmc:=hin.mc
  obtain ⟨g0,g1,g2,g3,g4,g5'⟩:=hs.good
  have v3:¬ v < -4096:=by omega
  have v4:¬ 4096<v:=by omega
  have HIN:=Lib.hid hin
  clear hin hs
  go_enter Tryz.func127,Tryz.ntmps127
  go_upto_region 1 with (fail)
  have X:Row ((w.alloc (.cells #[.bool g, .int .i64 wd, .int .i64 cap, .int .i64 now, .slice A m c] 47)).alloc (.cells #[.bool false, .int .i64 0, .int .i64 0, .int .i64 0, .slice none 0 0] 47)) w.heap.size 47 #[.bool g, .int .i64 wd, .int .i64 cap, .int .i64 now, .slice A m c]:=row_alloc (row_new rfl) _
  have R:Row ((w.alloc (.cells #[.bool g, .int .i64 wd, .int .i64 cap, .int .i64 now, .slice A m c] 47)).alloc (.cells #[.bool false, .int .i64 0, .int .i64 0, .int .i64 0, .slice none 0 0] 47)) (w.heap.size+1) 47 #[.bool false, .int .i64 0, .int .i64 0, .int .i64 0, .slice none 0 0]:=row_new (by simp)
  have o:Below w.heap.size w ((w.alloc (.cells #[.bool g, .int .i64 wd, .int .i64 cap, .int .i64 now, .slice A m c] 47)).alloc (.cells #[.bool false, .int .i64 0, .int .i64 0, .int .i64 0, .slice none 0 0] 47)):=by (repeat (first | exact Below.refl _ _ | refine Below.setCell ?_ (by (try simp)<;>omega) _ | refine Below.alloc ?_ (by (try simp)<;>omega) _ | refine Below.drew ?_ | refine Below.trans ?_ (Below.mono (by assumption) (by (try simp)<;>omega))))
  generalize ((w.alloc (.cells #[.bool g, .int .i64 wd, .int .i64 cap, .int .i64 now, .slice A m c] 47)).alloc (.cells #[.bool false, .int .i64 0, .int .i64 0, .int .i64 0, .slice none 0 0] 47))=w1 at X R o ⊢
  obtain ⟨X0,X1,X2,X3,X4,Xf0,Xf1,Xf2,Xf3,Xf4⟩:=row_five X
  go_wp2_with fail
  refine (P.out _ o).mono ?_
  rintro e w2 ⟨rfl,hb⟩
  replace X:=row_call X hb
  replace R:=row_call R hb
  replace o:=o.trans (hb.mono o.size)
  clear hb P X0 Xf0 X1 Xf1 X2 Xf2 X3 Xf3 X4 Xf4
  go_upto_region 6 with (fail)
  obtain ⟨X0,X1,X2,X3,X4,Xf0,Xf1,Xf2,Xf3,Xf4⟩:=row_five X
  go_wp2
  clear X0 Xf0 X1 Xf1 X2 Xf2 X3 Xf3 X4 Xf4 v3 v4
  go_loopw [7] (fun u wr=>∃ m':Nat,u = .slice A m' c∧m'≤m∧RowKit.Hid (∀ y∈l.drop m',exKey g y.v≤exKey g v)∧Row wr w.heap.size 47 #[.bool g, .int .i64 wd, .int .i64 cap, .int .i64 now, .slice A m c]∧Row wr (w.heap.size+1) 47 #[.bool false, .int .i64 0, .int .i64 0, .int .i64 0, .slice none 0 0]∧Below w.heap.size w wr) (fun u _=>lenE u)
  case atStart=>exact ⟨m,rfl,Nat.le_refl _,Lib.hid (by rw [List.drop_of_length_le (by rw [hln.out];exact Nat.le_refl _)];simp),X,R,o⟩
  case round =>
    clear X R o
    obtain ⟨m',rfl,hm',HD,X,R,o⟩:=hrel
    by_cases m0:m'=0
    · have i0:¬ (0:Int)<(m':Int):=by omega
      have i0n:¬ 0<m':=by omega
      have i1:((m':Int) == 0)=true:=by simp;omega
      have i2:((m':Int) == cap)=false:=by simp;omega
      have ht0:l.take m'=[]:=by rw [m0];rfl
      clear m0
      go_upto_region 7 with (fail)
      refine wp_region_free0 [0,1,2,3,4,5,6,7,8,9,10,11,12,13,14] [] [0,1,2,3,4,5,6,7,8,9,10,11,12,13,14] 15 (fun w'=>Below wr.heap.size wr w') (by kernel_rfl) (by kernel_rfl) (fun _ _ d _ _ h=>by cases d<;>exact h) ?_ ?_
      · exact (Below.refl _ _).drew
      (refine plan_pure ?_ rfl rfl (fun w'=>?_) ?_;rotate_left;(go_simp;try with_reducible rfl);simp only [put9])
      (refine plan_val ?_ rfl rfl rfl (fun w' hS=>?_) ?_;rotate_left;(skip;go_simp;try with_reducible rfl);simp only [put9])
      (refine plan_pure ?_ rfl rfl (fun w'=>?_) ?_;rotate_left;(go_simp;try with_reducible rfl);simp only [put9])
      (refine plan_pure ?_ rfl rfl (fun w'=>?_) ?_;rotate_left;(go_simp;try with_reducible rfl);simp only [put9])
      revert i0;intro i0
      refine plan_not rfl rfl ?_
      simp only [put9]
      refine plan_not rfl rfl ?_
      simp only [put9]
      refine plan_not rfl rfl ?_
      simp only [put9]
      refine plan_not rfl rfl ?_
      simp only [put9]
      refine plan_not rfl rfl ?_
      simp only [put9]
      refine plan_not rfl rfl ?_
      simp only [put9]
      refine plan_not rfl rfl ?_
      simp only [put9]
      refine plan_not rfl rfl ?_
      simp only [put9]
      refine plan_not rfl rfl ?_
      simp only [put9]
      refine plan_not rfl rfl ?_
      simp only [put9]
      refine plan_not rfl rfl ?_
      simp only [put9]
      refine plan_nil ?_
      intro w6 L6
      simp only [List.drop_succ_cons,List.drop_zero]
      try simp only [put9]
      replace X:=row_call X L6
      replace R:=row_call R L6
      replace o:=o.trans (L6.mono o.size)
      have rz:=row_lt R
      go_upto_region 10 with (at_builtin;refine wpList_clone rfl _ _ 22 rfl 90 ii (.agg #[.int .i64 0, .int .i64 0]) 2 16 Tryz.underlying22 hii iz0 iz1 iz2 rfl (by decide) rfl w6.heap.size A m' c (icells (l.take m')) rfl ((HIN.out.cut hm').below o).reads (Nat.le_refl _) (icells_one _) (by unfold maxLen;omega) (by omega) ?_;intro g5 c5 w7 own7 hg7 hb7 hz7)
      replace X:=row_call X hb7
      replace R:=row_call R hb7
      replace o:=o.trans (hb7.mono o.size)
      have zb:=o.size
      clear hb7 hz7 L6
      refine wp_region_free0 [0,1,2,3,4,5,6,7,8,9,10,11,12,13] [] [0,1,2,3,4,5,6,7,8,9,10,11,12,13] 14 (fun w'=>Below w7.heap.size w7 w') (by kernel_rfl) (by kernel_rfl) (fun _ _ d _ _ h=>by cases d<;>exact h) ?_ ?_
      · exact (Below.refl _ _).drew
      (refine plan_pure ?_ rfl rfl (fun w'=>?_) ?_;rotate_left;(go_simp;try with_reducible rfl);simp only [put9])
      (refine plan_val ?_ rfl rfl rfl (fun w' hS=>?_) ?_;rotate_left;(skip;go_simp;try with_reducible rfl);simp only [put9])
      (refine plan_pure ?_ rfl rfl (fun w'=>?_) ?_;rotate_left;(go_simp;try with_reducible rfl);simp only [put9])
      (refine plan_pure ?_ rfl rfl (fun w'=>?_) ?_;rotate_left;(go_simp;try with_reducible rfl);simp only [put9])
      revert i0;intro i0
      refine plan_not rfl rfl ?_
      simp only [put9]
      refine plan_not rfl rfl ?_
      simp only [put9]
      refine plan_not rfl rfl ?_
      simp only [put9]
      refine plan_not rfl rfl ?_
      simp only [put9]
      refine plan_not rfl rfl ?_
      simp only [put9]
      refine plan_not rfl rfl ?_
      simp only [put9]
      refine plan_not rfl rfl ?_
      simp only [put9]
      refine plan_not rfl rfl ?_
      simp only [put9]
      refine plan_not rfl rfl ?_
      simp only [put9]
      refine plan_not rfl rfl ?_
      simp only [put9]
      refine plan_nil ?_
      intro w10 L10
      simp only [List.drop_succ_cons,List.drop_zero]
      try simp only [put9]
      replace X:=row_call X L10
      replace R:=row_call R L10
      replace own7:=own7.call L10
      replace o:=o.trans (L10.mono o.size)
      clear L10
      generalize w10=w7 at *
      obtain ⟨X0,X1,X2,X3,X4,Xf0,Xf1,Xf2,Xf3,Xf4⟩:=row_five X
      go_upto_region 14 with (at_builtin;refine wpList_push rfl _ _ 22 rfl 90 ii (.agg #[.int .i64 0, .int .i64 0]) 2 16 Tryz.underlying22 hii iz0 iz1 iz2 rfl (by decide) (w.heap.size+2) (.slice (some ⟨g5,0,none⟩) m' c5) m' (icells (l.take m')) rfl (own7.row (by omega)) #[.int .i64 now, .int .i64 v] rfl rfl (by intro u hu;simp at hu;rcases hu with rfl | rfl<;>rfl) (by unfold maxLen;omega) (by omega) (by have:=row_lt R;omega) ?_;intro g8 c8 w9 own8 hg8 hat8 hgr8)
      clear X0 Xf0 X1 Xf1 X2 Xf2 X3 Xf3 X4 Xf4
      have zo9:=o.size
      have zR9:=row_lt R
      replace X:=row_grown (row_alloc X (.cells #[.int .i64 now, .int .i64 v] 90)) hgr8 (fun e=>by simp [Value.ownBlock] at e;omega)
      replace R:=row_grown (row_alloc R (.cells #[.int .i64 now, .int .i64 v] 90)) hgr8 (fun e=>by simp [Value.ownBlock] at e;omega)
      replace o:=below_grown (o.alloc o.size (.cells #[.int .i64 now, .int .i64 v] 90)) hgr8 (fun q e=>by simp [Value.ownBlock] at e;omega) (by simp;omega)
      have in5:DIn (some ⟨g8,0,none⟩) (m'+1) c8 (l.take m' ++ [⟨now,v⟩]) w9:=DIn.of_own (by rw [icells_append];exact own8)
      clear own8 hat8 hgr8 own7
      obtain ⟨X0,X1,X2,X3,X4,Xf0,Xf1,Xf2,Xf3,Xf4⟩:=row_five X
      go_upto_region 15 with (fail)
      replace X:=row_set X 4 (.slice (some ⟨g8,0,none⟩) (m'+1:Nat) c8)
      replace X:Row (w9.setCell ⟨w.heap.size,4,none⟩ (.slice (some ⟨g8,0,none⟩) (m'+1:Nat) c8)) (w.heap.size) 47 #[.bool g, .int .i64 wd, .int .i64 cap, .int .i64 now, .slice (some ⟨g8,0,none⟩) (m'+1:Nat) c8]:=X
      replace R:=row_other (p:=⟨w.heap.size,4,none⟩) R (by show w.heap.size+1≠w.heap.size;omega) (.slice (some ⟨g8,0,none⟩) (m'+1:Nat) c8)
      replace o:=o.setCell (p:=⟨w.heap.size,4,none⟩) (Nat.le_refl _) (.slice (some ⟨g8,0,none⟩) (m'+1:Nat) c8)
      replace in5:=in5.setc (p:=⟨w.heap.size,4,none⟩) (fun a e=>by cases e;show w.heap.size≠g8;omega) (.slice (some ⟨g8,0,none⟩) (m'+1:Nat) c8)
      generalize w9.setCell ⟨w.heap.size,4,none⟩ (.slice (some ⟨g8,0,none⟩) (m'+1:Nat) c8)=w8 at X R o in5 ⊢
      clear X0 Xf0 X1 Xf1 X2 Xf2 X3 Xf3 X4 Xf4
      obtain ⟨X0,X1,X2,X3,X4,Xf0,Xf1,Xf2,Xf3,Xf4⟩:=row_five X
      obtain ⟨R0,R1,R2,R3,R4,Rf0,Rf1,Rf2,Rf3,Rf4⟩:=row_five R
      go_wp2
      have Sr0:=row_set R 0 (.bool g)
      have Sr1:=row_set Sr0 1 (.int .i64 wd)
      have Sr2:=row_set Sr1 2 (.int .i64 cap)
      have Sr3:=row_set Sr2 3 (.int .i64 now)
      have Sr4:=row_set Sr3 4 (.slice (some ⟨g8,0,none⟩) (m'+1:Nat) c8)
      have o90:=o.setCell (p:=⟨w.heap.size+1,0,none⟩) (by show w.heap.size≤w.heap.size+1;omega) (.bool g)
      have o91:=o90.setCell (p:=⟨w.heap.size+1,1,none⟩) (by show w.heap.size≤w.heap.size+1;omega) (.int .i64 wd)
      have o92:=o91.setCell (p:=⟨w.heap.size+1,2,none⟩) (by show w.heap.size≤w.heap.size+1;omega) (.int .i64 cap)
      have o93:=o92.setCell (p:=⟨w.heap.size+1,3,none⟩) (by show w.heap.size≤w.heap.size+1;omega) (.int .i64 now)
      have o94:=o93.setCell (p:=⟨w.heap.size+1,4,none⟩) (by show w.heap.size≤w.heap.size+1;omega) (.slice (some ⟨g8,0,none⟩) (m'+1:Nat) c8)
      have b90:=in5.setc (p:=⟨w.heap.size+1,0,none⟩) (fun a e=>by cases e;show w.heap.size+1≠g8;omega) (.bool g)
      have b91:=b90.setc (p:=⟨w.heap.size+1,1,none⟩) (fun a e=>by cases e;show w.heap.size+1≠g8;omega) (.int .i64 wd)
      have b92:=b91.setc (p:=⟨w.heap.size+1,2,none⟩) (fun a e=>by cases e;show w.heap.size+1≠g8;omega) (.int .i64 cap)
      have b93:=b92.setc (p:=⟨w.heap.size+1,3,none⟩) (fun a e=>by cases e;show w.heap.size+1≠g8;omega) (.int .i64 now)
      have b94:=b93.setc (p:=⟨w.heap.size+1,4,none⟩) (fun a e=>by cases e;show w.heap.size+1≠g8;omega) (.slice (some ⟨g8,0,none⟩) (m'+1:Nat) c8)
      obtain ⟨S0,S1,S2,S3,S4,_,_,_,_,_⟩:=row_five Sr4
      exact bodyPost_ret (v := .tuple #[.agg #[.bool g, .int .i64 wd, .int .i64 cap, .int .i64 now, .slice (some ⟨g8,0,none⟩) (m'+1:Nat) c8], .int .i64 0]) (by simp [results,Tryz.results127,go_sem,S0,S1,S2,S3,S4]) rfl ⟨_,_,_,_,rfl,b94,⟨m',HD.out,by rw [ht0];simp, .inl ⟨by rw [ht0];simp,rfl⟩⟩,o94,fun a e=>by cases e;show w.heap.size≤g8;omega⟩
    · have i0:(0:Int)<(m':Int):=by omega
      have i0n:0<m':=by omega
      obtain ⟨p,hp⟩:∃ p:Nat,m'=p+1:=⟨m'-1,by omega⟩
      obtain ⟨ad,rfl,hadb,hi0⟩:=HIN.out.reads.itm (i:=p) (by omega)
      have hpl:p<l.length:=by rw [hln.out];omega
      have HP:=Lib.hid (fun w' (hb:Below wr.heap.size wr w')=>hi0.below (o.trans (hb.mono o.size)) (by rw [block_of_add];exact hadb))
      have PB:=fun w=>pbeats g v (itmAt l p).v w
      have wj:IntKind.i64.wrap ((m':Int)-1)=(p:Int):=by rw [IntWalk.i64_in _ (by omega)];omega
      have p1:(p:Int)<(m':Int):=by omega
      have p0:(0:Int)≤(p:Int):=by omega
      have p2:(p:Int)≤(c:Int):=by omega
      have p1n:p<m':=by omega
      have hpm:p≤m:=by omega
      replace hp:=Lib.hid hp
      by_cases hbt:exKey g (itmAt l p).v≤exKey g v
      · have HD2:RowKit.Hid (∀ y∈l.drop p,exKey g y.v≤exKey g v):=Lib.hid (fun b hb=>by
          rw [drop_itm hpl,← hp.out] at hb
          rcases List.mem_cons.1 hb with rfl | hb
          · exact hbt
          · exact HD.out b hb)
        rw [decide_eq_true hbt] at PB
        obtain ⟨y,hy⟩:∃ y,itmAt l p=y:=⟨_,rfl⟩
        rw [hy] at hi0 HP PB
        obtain ⟨tp,vp⟩:=y
        dsimp only at PB
        replace PB:=Lib.hid PB
        clear hbt hi0 hy
        go_upto_region 7 with (fail)
        refine wp_region_free0 [0,1,2,3,4,5,6,7,8,9,10,11,12,13,14] [] [0,1,2,3,4,5,6,7,8,9,10,11,12,13,14] 15 (fun w'=>Below wr.heap.size wr w') (by kernel_rfl) (by kernel_rfl) (fun _ _ d _ _ h=>by cases d<;>exact h) ?_ ?_
        · exact (Below.refl _ _).drew
        (refine plan_pure ?_ rfl rfl (fun w'=>?_) ?_;rotate_left;(go_simp;try with_reducible rfl);simp only [put9])
        (refine plan_val ?_ rfl rfl rfl (fun w' hS=>?_) ?_;rotate_left;(obtain ⟨X0,X1,X2,X3,X4,Xf0,Xf1,Xf2,Xf3,Xf4⟩:=row_five (row_call X hS);obtain ⟨p0,p1⟩:=HP.out _ hS;go_simp;try with_reducible rfl);simp only [put9])
        (refine plan_pure ?_ rfl rfl (fun w'=>?_) ?_;rotate_left;(go_simp;try with_reducible rfl);simp only [put9])
        (refine plan_pure ?_ rfl rfl (fun w'=>?_) ?_;rotate_left;(go_simp;try with_reducible rfl);simp only [put9])
        revert i0;intro i0
        (refine plan_pure ?_ rfl rfl (fun w'=>?_) ?_;rotate_left;(go_simp;try with_reducible rfl);simp only [put9])
        (refine plan_val ?_ rfl rfl rfl (fun w' hS=>?_) ?_;rotate_left;(obtain ⟨X0,X1,X2,X3,X4,Xf0,Xf1,Xf2,Xf3,Xf4⟩:=row_five (row_call X hS);obtain ⟨p0,p1⟩:=HP.out _ hS;go_simp;try with_reducible rfl);simp only [put9])
        (refine plan_pure ?_ rfl rfl (fun w'=>?_) ?_;rotate_left;(go_simp;try with_reducible rfl);simp only [put9])
        (refine plan_pure ?_ rfl rfl (fun w'=>?_) ?_;rotate_left;(go_simp;try with_reducible rfl);simp only [put9])
        (refine plan_pure ?_ rfl rfl (fun w'=>?_) ?_;rotate_left;(go_simp;try with_reducible rfl);simp only [put9])
        (refine plan_val ?_ rfl rfl rfl (fun w' hS=>?_) ?_;rotate_left;(obtain ⟨X0,X1,X2,X3,X4,Xf0,Xf1,Xf2,Xf3,Xf4⟩:=row_five (row_call X hS);obtain ⟨p0,p1⟩:=HP.out _ hS;go_simp;try with_reducible rfl);simp only [put9])
        (refine plan_pure ?_ rfl rfl (fun w'=>?_) ?_;rotate_left;(go_simp;try with_reducible rfl);simp only [put9])
        (refine plan_pure ?_ rfl rfl (fun w'=>?_) ?_;rotate_left;(go_simp;try with_reducible rfl);simp only [put9])
        (refine plan_pure ?_ rfl rfl (fun w'=>?_) ?_;rotate_left;(go_simp;try with_reducible rfl);simp only [put9])
        (refine plan_val ?_ rfl rfl rfl (fun w' hS=>?_) ?_;rotate_left;(obtain ⟨X0,X1,X2,X3,X4,Xf0,Xf1,Xf2,Xf3,Xf4⟩:=row_five (row_call X hS);obtain ⟨p0,p1⟩:=HP.out _ hS;go_simp;try with_reducible rfl);simp only [put9])
        refine plan_call (.bool true) 220 #[.bool g, .int .i64 v, .int .i64 vp] rfl rfl rfl (fun _ _ h hb=>h.trans (hb.mono h.size)) (fun w' hS=>by obtain ⟨X0,X1,X2,X3,X4,Xf0,Xf1,Xf2,Xf3,Xf4⟩:=row_five (row_call X hS);obtain ⟨p0,p1⟩:=HP.out _ hS;go_simp) (fun w' hS=>(PB.out w').mono (fun e w'' h=>⟨h.1,by rw [h.2];exact Below.refl _ _⟩)) ?_
        simp only [put9]
        refine plan_nil ?_
        intro w6 L6
        simp only [List.drop_succ_cons,List.drop_zero]
        try simp only [put9]
        replace X:=row_call X L6
        replace R:=row_call R L6
        replace o:=o.trans (L6.mono o.size)
        clear L6 HP PB HD m0
        go_wp2
        go_roundw
        case rel=>exact ⟨p,rfl,hpm,HD2,X,R,o⟩
        case measure=>simp [lenE];omega
      · have hfr:RowKit.Hid (∀ y∈l.take m',exKey g v<exKey g y.v):=Lib.hid (fun y hy=>by
          have hpo:=hp.out
          obtain ⟨i,h1,h2,rfl⟩:=take_mem_at hy
          by_cases e:i=p
          · rw [e];omega
          · have:=(HS.out.two (show i<p by omega) hpl).2
            omega)
        have hlv:=HS.out.live _ (itm_at_mem hpl)
        have htk:itmAt (l.take m') p=itmAt l p:=itm_take_at (by omega)
        have hpt:RowKit.Hid (p∈[p]∧itmAt l p∈l.take m'):=Lib.hid ⟨by simp,by rw [← htk];exact itm_at_mem (by rw [List.length_take];omega)⟩
        have hup:RowKit.Hid (∀ y∈l.take m',y.t≤(itmAt l p).t):=Lib.hid (fun y hy=>by
          have hpo:=hp.out
          obtain ⟨i,h1,h2,rfl⟩:=take_mem_at hy
          by_cases e:i=p
          · rw [e];exact Int.le_refl _
          · have:=(HS.out.two (show i<p by omega) hpl).1
            omega)
        rw [decide_eq_false hbt] at PB
        obtain ⟨y,hy⟩:∃ y,itmAt l p=y:=⟨_,rfl⟩
        rw [hy] at hi0 HP PB htk hlv hpt hup
        obtain ⟨tp,vp⟩:=y
        dsimp only at PB hlv hup
        replace PB:=Lib.hid PB
        clear hbt hi0 hy
        go_upto_region 7 with (fail)
        refine wp_region_free0 [0,1,2,3,4,5,6,7,8,9,10,11,12,13,14] [] [0,1,2,3,4,5,6,7,8,9,10,11,12,13,14] 15 (fun w'=>Below wr.heap.size wr w') (by kernel_rfl) (by kernel_rfl) (fun _ _ d _ _ h=>by cases d<;>exact h) ?_ ?_
        · exact (Below.refl _ _).drew
        (refine plan_pure ?_ rfl rfl (fun w'=>?_) ?_;rotate_left;(go_simp;try with_reducible rfl);simp only [put9])
        (refine plan_val ?_ rfl rfl rfl (fun w' hS=>?_) ?_;rotate_left;(obtain ⟨X0,X1,X2,X3,X4,Xf0,Xf1,Xf2,Xf3,Xf4⟩:=row_five (row_call X hS);obtain ⟨p0,p1⟩:=HP.out _ hS;go_simp;try with_reducible rfl);simp only [put9])
        (refine plan_pure ?_ rfl rfl (fun w'=>?_) ?_;rotate_left;(go_simp;try with_reducible rfl);simp only [put9])
        (refine plan_pure ?_ rfl rfl (fun w'=>?_) ?_;rotate_left;(go_simp;try with_reducible rfl);simp only [put9])
        revert i0;intro i0
        (refine plan_pure ?_ rfl rfl (fun w'=>?_) ?_;rotate_left;(go_simp;try with_reducible rfl);simp only [put9])
        (refine plan_val ?_ rfl rfl rfl (fun w' hS=>?_) ?_;rotate_left;(obtain ⟨X0,X1,X2,X3,X4,Xf0,Xf1,Xf2,Xf3,Xf4⟩:=row_five (row_call X hS);obtain ⟨p0,p1⟩:=HP.out _ hS;go_simp;try with_reducible rfl);simp only [put9])
        (refine plan_pure ?_ rfl rfl (fun w'=>?_) ?_;rotate_left;(go_simp;try with_reducible rfl);simp only [put9])
        (refine plan_pure ?_ rfl rfl (fun w'=>?_) ?_;rotate_left;(go_simp;try with_reducible rfl);simp only [put9])
        (refine plan_pure ?_ rfl rfl (fun w'=>?_) ?_;rotate_left;(go_simp;try with_reducible rfl);simp only [put9])
        (refine plan_val ?_ rfl rfl rfl (fun w' hS=>?_) ?_;rotate_left;(obtain ⟨X0,X1,X2,X3,X4,Xf0,Xf1,Xf2,Xf3,Xf4⟩:=row_five (row_call X hS);obtain ⟨p0,p1⟩:=HP.out _ hS;go_simp;try with_reducible rfl);simp only [put9])
        (refine plan_pure ?_ rfl rfl (fun w'=>?_) ?_;rotate_left;(go_simp;try with_reducible rfl);simp only [put9])
        (refine plan_pure ?_ rfl rfl (fun w'=>?_) ?_;rotate_left;(go_simp;try with_reducible rfl);simp only [put9])
        (refine plan_pure ?_ rfl rfl (fun w'=>?_) ?_;rotate_left;(go_simp;try with_reducible rfl);simp only [put9])
        (refine plan_val ?_ rfl rfl rfl (fun w' hS=>?_) ?_;rotate_left;(obtain ⟨X0,X1,X2,X3,X4,Xf0,Xf1,Xf2,Xf3,Xf4⟩:=row_five (row_call X hS);obtain ⟨p0,p1⟩:=HP.out _ hS;go_simp;try with_reducible rfl);simp only [put9])
        refine plan_call (.bool false) 220 #[.bool g, .int .i64 v, .int .i64 vp] rfl rfl rfl (fun _ _ h hb=>h.trans (hb.mono h.size)) (fun w' hS=>by obtain ⟨X0,X1,X2,X3,X4,Xf0,Xf1,Xf2,Xf3,Xf4⟩:=row_five (row_call X hS);obtain ⟨p0,p1⟩:=HP.out _ hS;go_simp) (fun w' hS=>(PB.out w').mono (fun e w'' h=>⟨h.1,by rw [h.2];exact Below.refl _ _⟩)) ?_
        simp only [put9]
        refine plan_nil ?_
        intro w6 L6
        simp only [List.drop_succ_cons,List.drop_zero]
        try simp only [put9]
        replace X:=row_call X L6
        replace R:=row_call R L6
        replace o:=o.trans (L6.mono o.size)
        have rz:=row_lt R
        go_upto_region 10 with (at_builtin;refine wpList_clone rfl _ _ 22 rfl 90 ii (.agg #[.int .i64 0, .int .i64 0]) 2 16 Tryz.underlying22 hii iz0 iz1 iz2 rfl (by decide) rfl w6.heap.size (some ad) m' c (icells (l.take m')) rfl ((HIN.out.cut hm').below o).reads (Nat.le_refl _) (icells_one _) (by unfold maxLen;omega) (by omega) ?_;intro g5 c5 w7 own7 hg7 hb7 hz7)
        replace X:=row_call X hb7
        replace R:=row_call R hb7
        replace o:=o.trans (hb7.mono o.size)
        have zb:=o.size
        clear hb7 hz7 L6
        have HQ:RowKit.Hid (∀ w',Below w7.heap.size w7 w'→w'.cell? ⟨g5,p*2,none⟩=some (.int .i64 tp)∧w'.cell? ⟨g5,p*2+1,none⟩=some (.int .i64 vp)):=Lib.hid (fun w' hb=>by
          have o8:=own7.call hb
          have ha:=icells_at (l.take m') p (by rw [List.length_take,hln.out];omega)
          rw [htk] at ha
          exact ⟨(o8.cell (by omega)).trans ha.1,(o8.cell (by omega)).trans ha.2⟩)
        have j0:((m':Int) == 0)=false:=by simp;omega
        have p3:(p:Int)≤(c5:Int):=by have:=own7.cap;omega
        clear HP PB
        refine wp_region_free0 [0,1,2,3,4,5,6,7,8,9,10,11,12,13] [] [0,1,2,3,4,5,6,7,8,9,10,11,12,13] 14 (fun w'=>Below w7.heap.size w7 w') (by kernel_rfl) (by kernel_rfl) (fun _ _ d _ _ h=>by cases d<;>exact h) ?_ ?_
        · exact (Below.refl _ _).drew
        (refine plan_pure ?_ rfl rfl (fun w'=>?_) ?_;rotate_left;(go_simp;try with_reducible rfl);simp only [put9])
        (refine plan_val ?_ rfl rfl rfl (fun w' hS=>?_) ?_;rotate_left;(obtain ⟨X0,X1,X2,X3,X4,Xf0,Xf1,Xf2,Xf3,Xf4⟩:=row_five (row_call X hS);obtain ⟨s0,s1⟩:=HQ.out _ hS;go_simp;try with_reducible rfl);simp only [put9])
        (refine plan_pure ?_ rfl rfl (fun w'=>?_) ?_;rotate_left;(go_simp;try with_reducible rfl);simp only [put9])
        (refine plan_pure ?_ rfl rfl (fun w'=>?_) ?_;rotate_left;(go_simp;try with_reducible rfl);simp only [put9])
        revert i0;intro i0
        (refine plan_pure ?_ rfl rfl (fun w'=>?_) ?_;rotate_left;(go_simp;try with_reducible rfl);simp only [put9])
        (refine plan_pure ?_ rfl rfl (fun w'=>?_) ?_;rotate_left;(go_simp;try with_reducible rfl);simp only [put9])
        (refine plan_val ?_ rfl rfl rfl (fun w' hS=>?_) ?_;rotate_left;(obtain ⟨X0,X1,X2,X3,X4,Xf0,Xf1,Xf2,Xf3,Xf4⟩:=row_five (row_call X hS);obtain ⟨s0,s1⟩:=HQ.out _ hS;go_simp;try with_reducible rfl);simp only [put9])
        (refine plan_pure ?_ rfl rfl (fun w'=>?_) ?_;rotate_left;(go_simp;try with_reducible rfl);simp only [put9])
        (refine plan_pure ?_ rfl rfl (fun w'=>?_) ?_;rotate_left;(go_simp;try with_reducible rfl);simp only [put9])
        (refine plan_pure ?_ rfl rfl (fun w'=>?_) ?_;rotate_left;(go_simp;try with_reducible rfl);simp only [put9])
        (refine plan_val ?_ rfl rfl rfl (fun w' hS=>?_) ?_;rotate_left;(obtain ⟨X0,X1,X2,X3,X4,Xf0,Xf1,Xf2,Xf3,Xf4⟩:=row_five (row_call X hS);obtain ⟨s0,s1⟩:=HQ.out _ hS;go_simp;try with_reducible rfl);simp only [put9])
        (refine plan_pure ?_ rfl rfl (fun w'=>?_) ?_;rotate_left;(go_simp;try with_reducible rfl);simp only [put9])
        (refine plan_val ?_ rfl rfl rfl (fun w' hS=>?_) ?_;rotate_left;(obtain ⟨X0,X1,X2,X3,X4,Xf0,Xf1,Xf2,Xf3,Xf4⟩:=row_five (row_call X hS);obtain ⟨s0,s1⟩:=HQ.out _ hS;go_simp;try with_reducible rfl);simp only [put9])
        (refine plan_pure ?_ rfl rfl (fun w'=>?_) ?_;rotate_left;(go_simp;try with_reducible rfl);simp only [put9])
        refine plan_nil ?_
        intro w10 L10
        simp only [List.drop_succ_cons,List.drop_zero]
        try simp only [put9]
        replace X:=row_call X L10
        replace R:=row_call R L10
        replace own7:=own7.call L10
        replace o:=o.trans (L10.mono o.size)
        clear L10
        generalize w10=w7 at *
        by_cases hlt:tp<now
        · have hcap:((m':Int) == cap)=false:=by
            have hx:=exR_len (l.take m') (now-wd) (now-1) (HS.out.ord.sublist (List.take_sublist _ _)) (fun y hy=>⟨(HS.out.live y (List.mem_of_mem_take hy)).1.1,by have:=hup.out y hy;omega⟩)
            rw [List.length_take,hln.out] at hx
            simp
            omega
          obtain ⟨X0,X1,X2,X3,X4,Xf0,Xf1,Xf2,Xf3,Xf4⟩:=row_five X
          go_upto_region 14 with (at_builtin;refine wpList_push rfl _ _ 22 rfl 90 ii (.agg #[.int .i64 0, .int .i64 0]) 2 16 Tryz.underlying22 hii iz0 iz1 iz2 rfl (by decide) (w.heap.size+2) (.slice (some ⟨g5,0,none⟩) m' c5) m' (icells (l.take m')) rfl (own7.row (by omega)) #[.int .i64 now, .int .i64 v] rfl rfl (by intro u hu;simp at hu;rcases hu with rfl | rfl<;>rfl) (by unfold maxLen;omega) (by omega) (by have:=row_lt R;omega) ?_;intro g8 c8 w9 own8 hg8 hat8 hgr8)
          clear X0 Xf0 X1 Xf1 X2 Xf2 X3 Xf3 X4 Xf4
          have zo9:=o.size
          have zR9:=row_lt R
          replace X:=row_grown (row_alloc X (.cells #[.int .i64 now, .int .i64 v] 90)) hgr8 (fun e=>by simp [Value.ownBlock] at e;omega)
          replace R:=row_grown (row_alloc R (.cells #[.int .i64 now, .int .i64 v] 90)) hgr8 (fun e=>by simp [Value.ownBlock] at e;omega)
          replace o:=below_grown (o.alloc o.size (.cells #[.int .i64 now, .int .i64 v] 90)) hgr8 (fun q e=>by simp [Value.ownBlock] at e;omega) (by simp;omega)
          have in5:DIn (some ⟨g8,0,none⟩) (m'+1) c8 (l.take m' ++ [⟨now,v⟩]) w9:=DIn.of_own (by rw [icells_append];exact own8)
          clear own8 hat8 hgr8 own7
          obtain ⟨X0,X1,X2,X3,X4,Xf0,Xf1,Xf2,Xf3,Xf4⟩:=row_five X
          go_upto_region 15 with (fail)
          replace X:=row_set X 4 (.slice (some ⟨g8,0,none⟩) (m'+1:Nat) c8)
          replace X:Row (w9.setCell ⟨w.heap.size,4,none⟩ (.slice (some ⟨g8,0,none⟩) (m'+1:Nat) c8)) (w.heap.size) 47 #[.bool g, .int .i64 wd, .int .i64 cap, .int .i64 now, .slice (some ⟨g8,0,none⟩) (m'+1:Nat) c8]:=X
          replace R:=row_other (p:=⟨w.heap.size,4,none⟩) R (by show w.heap.size+1≠w.heap.size;omega) (.slice (some ⟨g8,0,none⟩) (m'+1:Nat) c8)
          replace o:=o.setCell (p:=⟨w.heap.size,4,none⟩) (Nat.le_refl _) (.slice (some ⟨g8,0,none⟩) (m'+1:Nat) c8)
          replace in5:=in5.setc (p:=⟨w.heap.size,4,none⟩) (fun a e=>by cases e;show w.heap.size≠g8;omega) (.slice (some ⟨g8,0,none⟩) (m'+1:Nat) c8)
          generalize w9.setCell ⟨w.heap.size,4,none⟩ (.slice (some ⟨g8,0,none⟩) (m'+1:Nat) c8)=w8 at X R o in5 ⊢
          clear X0 Xf0 X1 Xf1 X2 Xf2 X3 Xf3 X4 Xf4
          obtain ⟨X0,X1,X2,X3,X4,Xf0,Xf1,Xf2,Xf3,Xf4⟩:=row_five X
          obtain ⟨R0,R1,R2,R3,R4,Rf0,Rf1,Rf2,Rf3,Rf4⟩:=row_five R
          go_wp2
          have Sr0:=row_set R 0 (.bool g)
          have Sr1:=row_set Sr0 1 (.int .i64 wd)
          have Sr2:=row_set Sr1 2 (.int .i64 cap)
          have Sr3:=row_set Sr2 3 (.int .i64 now)
          have Sr4:=row_set Sr3 4 (.slice (some ⟨g8,0,none⟩) (m'+1:Nat) c8)
          have o90:=o.setCell (p:=⟨w.heap.size+1,0,none⟩) (by show w.heap.size≤w.heap.size+1;omega) (.bool g)
          have o91:=o90.setCell (p:=⟨w.heap.size+1,1,none⟩) (by show w.heap.size≤w.heap.size+1;omega) (.int .i64 wd)
          have o92:=o91.setCell (p:=⟨w.heap.size+1,2,none⟩) (by show w.heap.size≤w.heap.size+1;omega) (.int .i64 cap)
          have o93:=o92.setCell (p:=⟨w.heap.size+1,3,none⟩) (by show w.heap.size≤w.heap.size+1;omega) (.int .i64 now)
          have o94:=o93.setCell (p:=⟨w.heap.size+1,4,none⟩) (by show w.heap.size≤w.heap.size+1;omega) (.slice (some ⟨g8,0,none⟩) (m'+1:Nat) c8)
          have b90:=in5.setc (p:=⟨w.heap.size+1,0,none⟩) (fun a e=>by cases e;show w.heap.size+1≠g8;omega) (.bool g)
          have b91:=b90.setc (p:=⟨w.heap.size+1,1,none⟩) (fun a e=>by cases e;show w.heap.size+1≠g8;omega) (.int .i64 wd)
          have b92:=b91.setc (p:=⟨w.heap.size+1,2,none⟩) (fun a e=>by cases e;show w.heap.size+1≠g8;omega) (.int .i64 cap)
          have b93:=b92.setc (p:=⟨w.heap.size+1,3,none⟩) (fun a e=>by cases e;show w.heap.size+1≠g8;omega) (.int .i64 now)
          have b94:=b93.setc (p:=⟨w.heap.size+1,4,none⟩) (fun a e=>by cases e;show w.heap.size+1≠g8;omega) (.slice (some ⟨g8,0,none⟩) (m'+1:Nat) c8)
          obtain ⟨S0,S1,S2,S3,S4,_,_,_,_,_⟩:=row_five Sr4
          exact bodyPost_ret (v := .tuple #[.agg #[.bool g, .int .i64 wd, .int .i64 cap, .int .i64 now, .slice (some ⟨g8,0,none⟩) (m'+1:Nat) c8], .int .i64 0]) (by simp [results,Tryz.results127,go_sem,S0,S1,S2,S3,S4]) rfl ⟨_,_,_,_,rfl,b94,⟨m',HD.out,hfr.out, .inl ⟨fun y hy=>by have:=hup.out y hy;omega,rfl⟩⟩,o94,fun a e=>by cases e;show w.heap.size≤g8;omega⟩
        · have he:tp=now:=by omega
          obtain ⟨X0,X1,X2,X3,X4,Xf0,Xf1,Xf2,Xf3,Xf4⟩:=row_five X
          go_upto_region 14 with (fail)
          clear X0 Xf0 X1 Xf1 X2 Xf2 X3 Xf3 X4 Xf4
          have in5:=DIn.of_own own7
          clear own7
          obtain ⟨X0,X1,X2,X3,X4,Xf0,Xf1,Xf2,Xf3,Xf4⟩:=row_five X
          go_upto_region 15 with (fail)
          replace X:=row_set X 4 (.slice (some ⟨g5,0,none⟩) m' c5)
          replace X:Row (w7.setCell ⟨w.heap.size,4,none⟩ (.slice (some ⟨g5,0,none⟩) m' c5)) (w.heap.size) 47 #[.bool g, .int .i64 wd, .int .i64 cap, .int .i64 now, .slice (some ⟨g5,0,none⟩) m' c5]:=X
          replace R:=row_other (p:=⟨w.heap.size,4,none⟩) R (by show w.heap.size+1≠w.heap.size;omega) (.slice (some ⟨g5,0,none⟩) m' c5)
          replace o:=o.setCell (p:=⟨w.heap.size,4,none⟩) (Nat.le_refl _) (.slice (some ⟨g5,0,none⟩) m' c5)
          replace in5:=in5.setc (p:=⟨w.heap.size,4,none⟩) (fun a e=>by cases e;show w.heap.size≠g5;omega) (.slice (some ⟨g5,0,none⟩) m' c5)
          generalize w7.setCell ⟨w.heap.size,4,none⟩ (.slice (some ⟨g5,0,none⟩) m' c5)=w8 at X R o in5 ⊢
          clear X0 Xf0 X1 Xf1 X2 Xf2 X3 Xf3 X4 Xf4
          obtain ⟨X0,X1,X2,X3,X4,Xf0,Xf1,Xf2,Xf3,Xf4⟩:=row_five X
          obtain ⟨R0,R1,R2,R3,R4,Rf0,Rf1,Rf2,Rf3,Rf4⟩:=row_five R
          go_wp2
          have Sr0:=row_set R 0 (.bool g)
          have Sr1:=row_set Sr0 1 (.int .i64 wd)
          have Sr2:=row_set Sr1 2 (.int .i64 cap)
          have Sr3:=row_set Sr2 3 (.int .i64 now)
          have Sr4:=row_set Sr3 4 (.slice (some ⟨g5,0,none⟩) m' c5)
          have o90:=o.setCell (p:=⟨w.heap.size+1,0,none⟩) (by show w.heap.size≤w.heap.size+1;omega) (.bool g)
          have o91:=o90.setCell (p:=⟨w.heap.size+1,1,none⟩) (by show w.heap.size≤w.heap.size+1;omega) (.int .i64 wd)
          have o92:=o91.setCell (p:=⟨w.heap.size+1,2,none⟩) (by show w.heap.size≤w.heap.size+1;omega) (.int .i64 cap)
          have o93:=o92.setCell (p:=⟨w.heap.size+1,3,none⟩) (by show w.heap.size≤w.heap.size+1;omega) (.int .i64 now)
          have o94:=o93.setCell (p:=⟨w.heap.size+1,4,none⟩) (by show w.heap.size≤w.heap.size+1;omega) (.slice (some ⟨g5,0,none⟩) m' c5)
          have b90:=in5.setc (p:=⟨w.heap.size+1,0,none⟩) (fun a e=>by cases e;show w.heap.size+1≠g5;omega) (.bool g)
          have b91:=b90.setc (p:=⟨w.heap.size+1,1,none⟩) (fun a e=>by cases e;show w.heap.size+1≠g5;omega) (.int .i64 wd)
          have b92:=b91.setc (p:=⟨w.heap.size+1,2,none⟩) (fun a e=>by cases e;show w.heap.size+1≠g5;omega) (.int .i64 cap)
          have b93:=b92.setc (p:=⟨w.heap.size+1,3,none⟩) (fun a e=>by cases e;show w.heap.size+1≠g5;omega) (.int .i64 now)
          have b94:=b93.setc (p:=⟨w.heap.size+1,4,none⟩) (fun a e=>by cases e;show w.heap.size+1≠g5;omega) (.slice (some ⟨g5,0,none⟩) m' c5)
          obtain ⟨S0,S1,S2,S3,S4,_,_,_,_,_⟩:=row_five Sr4
          exact bodyPost_ret (v := .tuple #[.agg #[.bool g, .int .i64 wd, .int .i64 cap, .int .i64 now, .slice (some ⟨g5,0,none⟩) m' c5], .int .i64 0]) (by simp [results,Tryz.results127,go_sem,S0,S1,S2,S3,S4]) rfl ⟨_,_,_,_,rfl,b94,⟨m',HD.out,hfr.out, .inr ⟨⟨_,hpt.out.2,he⟩,rfl⟩⟩,o94,fun a e=>by cases e;show w.heap.size≤g5;omega⟩
set_option maxRecDepth 100000 in
set_option maxHeartbeats 2000000 in
theorem pexask_nil (A:Option Addr) (m c:Nat) (l:List Itm) (g:Bool) (wd cap now:Int) (w:World) (hin:DIn A m c l w) (hs:DqS g wd cap now l) (h0:m=0):Calls Tryz.prog 47 #[.agg #[.bool g, .int .i64 wd, .int .i64 cap, .int .i64 now, .slice A m c]] w fun e w'=>e = .returned (.tuple #[.int .i64 0, .int .i64 7])∧Below w.heap.size w w':=by
  have P:=Lib.hid (fun w' (hb:Below w.heap.size w w')=>pexval A m c l g wd cap now w' (hin.below hb) hs)
  have HIN:=Lib.hid hin
  clear hin hs
  subst h0
  go_enter Tryz.func47,Tryz.ntmps47
  go_upto_region 1 with (fail)
  have X:Row (w.alloc (.cells #[.bool g, .int .i64 wd, .int .i64 cap, .int .i64 now, .slice A 0 c] 47)) w.heap.size 47 #[.bool g, .int .i64 wd, .int .i64 cap, .int .i64 now, .slice A 0 c]:=row_new rfl
  have o:Below w.heap.size w (w.alloc (.cells #[.bool g, .int .i64 wd, .int .i64 cap, .int .i64 now, .slice A 0 c] 47)):=by (repeat (first | exact Below.refl _ _ | refine Below.setCell ?_ (by (try simp)<;>omega) _ | refine Below.alloc ?_ (by (try simp)<;>omega) _ | refine Below.drew ?_ | refine Below.trans ?_ (Below.mono (by assumption) (by (try simp)<;>omega))))
  generalize (w.alloc (.cells #[.bool g, .int .i64 wd, .int .i64 cap, .int .i64 now, .slice A 0 c] 47))=w1 at X o ⊢
  obtain ⟨X0,X1,X2,X3,X4,Xf0,Xf1,Xf2,Xf3,Xf4⟩:=row_five X
  go_wp2_with fail
  refine (P.out _ o).mono ?_
  rintro e w2 ⟨rfl,hb⟩
  replace X:=row_call X hb
  replace o:=o.trans (hb.mono o.size)
  clear hb P X0 Xf0 X1 Xf1 X2 Xf2 X3 Xf3 X4 Xf4
  obtain ⟨X0,X1,X2,X3,X4,Xf0,Xf1,Xf2,Xf3,Xf4⟩:=row_five X
  go_wp2
  exact bodyPost_ret (v := .tuple #[.int .i64 0, .int .i64 7]) (by simp [results,Tryz.results47,go_sem]) rfl ⟨rfl,o⟩
set_option maxRecDepth 100000 in
set_option maxHeartbeats 2000000 in
theorem pexask_one (A:Option Addr) (m c:Nat) (l:List Itm) (g:Bool) (wd cap now:Int) (w:World) (hin:DIn A m c l w) (hs:DqS g wd cap now l) (h0:0<m):Calls Tryz.prog 47 #[.agg #[.bool g, .int .i64 wd, .int .i64 cap, .int .i64 now, .slice A m c]] w fun e w'=>e = .returned (.tuple #[.int .i64 (itmAt l 0).v, .int .i64 0])∧Below w.heap.size w w':=by
  have P:=Lib.hid (fun w' (hb:Below w.heap.size w w')=>pexval A m c l g wd cap now w' (hin.below hb) hs)
  have HIN:=Lib.hid hin
  clear hin hs
  have e0:((m:Int) == 0)=false:=by simp;omega
  have e1:(0:Int)<(m:Int):=by omega
  have e2:(0:Int)≤0:=by omega
  obtain ⟨ad,rfl,hadb,hi0⟩:=HIN.out.reads.itm (i:=0) h0
  have hi0:ItmCells w ad (itmAt l 0):=hi0
  generalize (itmAt l 0)=y at hi0 ⊢
  obtain ⟨ty,vy⟩:=y
  go_enter Tryz.func47,Tryz.ntmps47
  go_upto_region 1 with (fail)
  have X:Row (w.alloc (.cells #[.bool g, .int .i64 wd, .int .i64 cap, .int .i64 now, .slice (some ad) m c] 47)) w.heap.size 47 #[.bool g, .int .i64 wd, .int .i64 cap, .int .i64 now, .slice (some ad) m c]:=row_new rfl
  have o:Below w.heap.size w (w.alloc (.cells #[.bool g, .int .i64 wd, .int .i64 cap, .int .i64 now, .slice (some ad) m c] 47)):=by (repeat (first | exact Below.refl _ _ | refine Below.setCell ?_ (by (try simp)<;>omega) _ | refine Below.alloc ?_ (by (try simp)<;>omega) _ | refine Below.drew ?_ | refine Below.trans ?_ (Below.mono (by assumption) (by (try simp)<;>omega))))
  generalize (w.alloc (.cells #[.bool g, .int .i64 wd, .int .i64 cap, .int .i64 now, .slice (some ad) m c] 47))=w1 at X o ⊢
  obtain ⟨X0,X1,X2,X3,X4,Xf0,Xf1,Xf2,Xf3,Xf4⟩:=row_five X
  go_wp2_with fail
  refine (P.out _ o).mono ?_
  rintro e w2 ⟨rfl,hb⟩
  replace X:=row_call X hb
  replace o:=o.trans (hb.mono o.size)
  clear hb P X0 Xf0 X1 Xf1 X2 Xf2 X3 Xf3 X4 Xf4
  obtain ⟨X0,X1,X2,X3,X4,Xf0,Xf1,Xf2,Xf3,Xf4⟩:=row_five X
  obtain ⟨c0,c1⟩:=hi0.below o hadb
  go_wp2
  exact bodyPost_ret (v := .tuple #[.int .i64 vy, .int .i64 0]) (by simp [results,Tryz.results47,go_sem]) rfl ⟨rfl,o⟩
end Go.Proofs.YtdipoojjlddohaaGreat
end
