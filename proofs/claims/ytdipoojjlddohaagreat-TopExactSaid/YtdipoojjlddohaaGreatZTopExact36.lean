/- What the law TopExact needs, joined of its texts by a program (slim2.py); part 36. -/
import Derived.Test.YtdipoojjlddohaaGreatZTopExact1
import Derived.Test.YtdipoojjlddohaaGreatZTopExact25
import Derived.Test.YtdipoojjlddohaaGreatZTopExact26
import Derived.Test.YtdipoojjlddohaaGreatZTopExact34
import Derived.Test.YtdipoojjlddohaaGreatZTopExact35
set_option linter.unusedVariables false
set_option linter.unusedSimpArgs false
set_option linter.unusedSectionVars false
set_option linter.unnecessarySimpa false
section
/- The law TopExact at Poly, walked. -/
namespace Go.Proofs.YtdipoojjlddohaaGreat
open Go.RowKit Go.Shelf
set_option maxRecDepth 100000 in
set_option maxHeartbeats 16000000 in
theorem topExactPoly (x0 x1 x2 x3 x4 x5 x6 x7:Int) (A:Option Addr) (m c:Nat) (l:List Itm) (later:Int) (w:World) (hin:RIn A m c l w) (hk:x0 % 3=1):Calls Tryz.prog 5 #[.agg #[.int .i64 x0, .int .i64 x1, .int .i64 x2, .int .i64 x3, .int .i64 x4, .int .i64 x5, .int .i64 x6, .int .i64 x7], .slice A m c, .int .i64 later] w fun e w'=>e = .returned (.bool true)∧Below w.heap.size w w':=by
  have PI:=fun w=>pint x0 3 (by omega) (by omega) w
  rw [hk] at PI
  replace PI:=Lib.hid PI
  have PCF:=fun w=>pconfigPoly x0 x1 x2 x3 x4 x5 x6 x7 w
  obtain ⟨p,hp⟩:∃ p:Nat,x5 % 5=(p:Int):=⟨(x5 % 5).toNat,by omega⟩
  have hp4:p≤4:=by omega
  rw [hp] at PCF
  have HK:=Lib.hid (kPoly (N:=60) hp4 (by omega))
  clear hp
  replace PCF:RowKit.Hid (∀ w,Calls Tryz.prog 19 #[.agg #[.int .i64 x0, .int .i64 x1, .int .i64 x2, .int .i64 x3, .int .i64 x4, .int .i64 x5, .int .i64 x6, .int .i64 x7], .int .i64 6] w fun e w'=>e = .returned (.agg #[.int .i64 6, .int .i64 0, .int .i64 0, .int .i64 0, .int .i64 0, .int .i64 (p:Nat), .int .i64 0, .int .i64 0])∧Below w.heap.size w w'):=Lib.hid PCF
  have PST:RowKit.Hid (∀ w',Below w.heap.size w w'→Calls Tryz.prog 20 #[.agg #[.int .i64 6, .int .i64 0, .int .i64 0, .int .i64 0, .int .i64 0, .int .i64 (p:Nat), .int .i64 0, .int .i64 0], .slice A m c, .int .i64 60] w' (IRet 60 41 0 4096 w')):=Lib.hid (fun w' hb=>pstreamPoly 0 0 0 0 (p:Nat) 0 0 A m c l w' (hin.below hb))
  have PR:RowKit.Hid (∀ (A1:Option Addr) (c1:Nat) (its:List Itm) (w1:World),Reads w1 w1.heap.size 2 A1 its.length (icells its)→its.length≤60→(∀ i,i<its.length→nowK its i≤(itmAt its i).t∧(itmAt its i).t≤16777216∧(0≤(itmAt its i).v∧(itmAt its i).v≤4096))→Calls Tryz.prog 11 #[.agg #[.int .i64 6, .int .i64 0, .int .i64 0, .int .i64 0, .int .i64 0, .int .i64 (p:Nat), .int .i64 0, .int .i64 0], .slice A1 its.length c1] w1 (RunRet (PoI p) (fun (ad:List Itm) (now:Int) (A:Option Addr) (m c:Nat)=>(#[.int .i64 6, .int .i64 0, .int .i64 0, .int .i64 0, .int .i64 0, .int .i64 (p:Nat), .int .i64 0, .int .i64 0, .int .i64 0, .int .i64 0, .int .i64 0, .slice none 0 0, .int .i64 0, .int .i64 0, .int .i64 0, .int .i64 0, .slice none 0 0, .int .i64 0, .int .i64 0, .int .i64 0, .int .i64 0, .int .i64 0, .slice none 0 0, .int .i64 0, .int .i64 0, .int .i64 0, .int .i64 0, .int .i64 0, .int .i64 0, .slice none 0 0, .int .i64 0, .int .i64 0, .int .i64 0, .int .i64 0, .int .i64 0, .slice none 0 0, .int .i64 (p:Nat), .int .i64 0, .int .i64 now, .slice A m c, .int .i64 0, .slice none 0 0, .bool false, .int .i64 0, .int .i64 0, .int .i64 0, .slice none 0 0, .slice none 0 0, .int .i64 0, .int .i64 0, .int .i64 0, .slice none 0 0, .int .i64 0, .int .i64 0, .int .i64 0, .int .i64 0, .slice none 0 0]:Array Value)) its w1)):=Lib.hid (fun A1 c1 its w1 h1 h2 h3=>prun _ _ _ _ _ _ _ _ _ _ _ 60 HK A1 _ c1 its w1 h1 (by omega) h2 h3)
  have h0:=Int.emod_nonneg later (show (60:Int)≠0 by omega)
  have h1:=Int.emod_lt_of_pos later (show (0:Int)<60 by omega)
  have PMD:=fun w=>pmod later 60 (by omega) (by omega) w
  generalize later % 60=md at h0 h1 PMD
  replace PMD:=Lib.hid PMD
  have PW:=Lib.hid awakeT
  clear hin hk
  go_enter Tryz.func5,Tryz.ntmps5
  go_upto_region 1 with (fail)
  have X:Row (w.alloc (.cells #[.int .i64 x0, .int .i64 x1, .int .i64 x2, .int .i64 x3, .int .i64 x4, .int .i64 x5, .int .i64 x6, .int .i64 x7] 27)) w.heap.size 27 #[.int .i64 x0, .int .i64 x1, .int .i64 x2, .int .i64 x3, .int .i64 x4, .int .i64 x5, .int .i64 x6, .int .i64 x7]:=row_new rfl
  have o:Below w.heap.size w (w.alloc (.cells #[.int .i64 x0, .int .i64 x1, .int .i64 x2, .int .i64 x3, .int .i64 x4, .int .i64 x5, .int .i64 x6, .int .i64 x7] 27)):=by (repeat (first | exact Below.refl _ _ | refine Below.setCell ?_ (by (try simp)<;>omega) _ | refine Below.alloc ?_ (by (try simp)<;>omega) _ | refine Below.drew ?_ | refine Below.trans ?_ (Below.mono (by assumption) (by (try simp)<;>omega))))
  generalize w.alloc (.cells #[.int .i64 x0, .int .i64 x1, .int .i64 x2, .int .i64 x3, .int .i64 x4, .int .i64 x5, .int .i64 x6, .int .i64 x7] 27)=w1 at X o ⊢
  refine wp_region_phase 8 (fun w'=>Row w' (w.heap.size) 27 #[.int .i64 x0, .int .i64 x1, .int .i64 x2, .int .i64 x3, .int .i64 x4, .int .i64 x5, .int .i64 x6, .int .i64 x7]∧Below w.heap.size w w') (by kernel_rfl) (by kernel_rfl) (by kernel_rfl) (by kernel_rfl) (by kernel_rfl) (fun HOK=>?_)
  have HS:=(⟨row_drew X,o.drew⟩:Row w1.drew (w.heap.size) 27 #[.int .i64 x0, .int .i64 x1, .int .i64 x2, .int .i64 x3, .int .i64 x4, .int .i64 x5, .int .i64 x6, .int .i64 x7]∧Below w.heap.size w w1.drew)
  (refine hw_take HOK (i:=0) ?_ rfl (by decide) (by kernel_rfl) (by kernel_rfl) (by exact fun _ _ _ h=>h) (Or.inl ⟨by rfl,fun w' hS=>?_⟩) HS ?_;rotate_left;(obtain ⟨X0,X1,X2,X3,X4,X5,X6,X7,Xf0,Xf1,Xf2,Xf3,Xf4,Xf5,Xf6,Xf7⟩:=row_eight hS.1;go_simp;try with_reducible rfl);simp only [put9])
  (refine hw_take HOK (i:=2) ?_ rfl (by decide) (by kernel_rfl) (by kernel_rfl) (by exact fun _ _ _ h=>h) (Or.inl ⟨by rfl,fun w' hS=>?_⟩) HS ?_;rotate_left;(go_simp;try with_reducible rfl);simp only [put9])
  (refine hw_take HOK (i:=3) ?_ rfl (by decide) (by kernel_rfl) (by kernel_rfl) (by exact fun _ _ _ h=>h) (Or.inl ⟨by rfl,fun w' hS=>?_⟩) HS ?_;rotate_left;(obtain ⟨X0,X1,X2,X3,X4,X5,X6,X7,Xf0,Xf1,Xf2,Xf3,Xf4,Xf5,Xf6,Xf7⟩:=row_eight hS.1;go_simp;try with_reducible rfl);simp only [put9])
  replace X:Row w1.drew (w.heap.size) 27 #[.int .i64 x0, .int .i64 x1, .int .i64 x2, .int .i64 x3, .int .i64 x4, .int .i64 x5, .int .i64 x6, .int .i64 x7]:=X
  replace o:=o.drew
  clear HS
  generalize w1.drew=w2 at X o ⊢
  refine hw_two (i:=1) (j:=4) rfl rfl (by decide) (by decide) (by kernel_rfl) (fun K hK=>?_) (fun K hK=>?_)
  go_simp
  have zx:=row_lt X
  replace X:=row_alloc X (.cells #[.int .i64 8, .int .i64 6, .int .i64 7] 3)
  replace o:=o.alloc o.size (.cells #[.int .i64 8, .int .i64 6, .int .i64 7] 3)
  have NB:Row (w2.alloc (.cells #[.int .i64 8, .int .i64 6, .int .i64 7] 3)) w2.heap.size 3 #[.int .i64 8, .int .i64 6, .int .i64 7]:=row_new rfl
  refine hK _ (w2.alloc (.cells #[.int .i64 8, .int .i64 6, .int .i64 7] 3)) ⟨X,o⟩ ?_
  generalize w2.alloc (.cells #[.int .i64 8, .int .i64 6, .int .i64 7] 3)=w3 at X o NB ⊢
  generalize w2.heap.size=nb at NB zx ⊢
  clear hK K
  try simp only [put9]
  refine hw_one (i:=4) rfl (by decide) (by kernel_rfl) (fun K hK=>?_)
  go_simp
  refine (PI.out _).mono ?_
  rintro e wx ⟨rfl,hx⟩
  obtain rfl:=hx.symm
  refine hK _ _ ⟨X,o⟩ ?_
  clear hK K
  try simp only [put9]
  rotate_left
  go_simp
  refine (PI.out _).mono ?_
  rintro e wx ⟨rfl,hx⟩
  obtain rfl:=hx.symm
  refine hK _ _ ⟨X,o⟩ ?_
  clear hK K
  try simp only [put9]
  refine hw_one (i:=1) rfl (by decide) (by kernel_rfl) (fun K hK=>?_)
  go_simp
  have zx:=row_lt X
  replace X:=row_alloc X (.cells #[.int .i64 8, .int .i64 6, .int .i64 7] 3)
  replace o:=o.alloc o.size (.cells #[.int .i64 8, .int .i64 6, .int .i64 7] 3)
  have NB:Row (w2.alloc (.cells #[.int .i64 8, .int .i64 6, .int .i64 7] 3)) w2.heap.size 3 #[.int .i64 8, .int .i64 6, .int .i64 7]:=row_new rfl
  refine hK _ (w2.alloc (.cells #[.int .i64 8, .int .i64 6, .int .i64 7] 3)) ⟨X,o⟩ ?_
  generalize w2.alloc (.cells #[.int .i64 8, .int .i64 6, .int .i64 7] 3)=w3 at X o NB ⊢
  generalize w2.heap.size=nb at NB zx ⊢
  clear hK K
  try simp only [put9]
  rotate_left
  all_goals
    obtain ⟨NB0,NB1,NB2,_,_,_⟩:=row_three NB
    refine hw_one (i:=5) rfl (by decide) (by kernel_rfl) (fun K hK=>?_)
    go_simp
    refine hK _ _ ⟨X,o⟩ ?_
    clear hK K
    try simp only [put9]
    refine hw_one (i:=6) rfl (by decide) (by kernel_rfl) (fun K hK=>?_)
    go_simp
    refine hK _ _ ⟨X,o⟩ ?_
    clear hK K
    try simp only [put9]
    refine hw_one (i:=7) rfl (by decide) (by kernel_rfl) (fun K hK=>?_)
    go_simp
    refine (PCF.out _).mono ?_
    rintro e w4 ⟨rfl,hb⟩
    replace X:=row_call X hb
    replace o:=o.trans (hb.mono o.size)
    refine hK _ _ ⟨X,o⟩ ?_
    clear hK K hb NB NB0 NB1 NB2 PI PCF
    try simp only [put9]
    refine hw_done (by kernel_rfl) ?_
    try simp only [List.drop_succ_cons,List.drop_zero]
    clear HOK
    obtain ⟨X0,X1,X2,X3,X4,X5,X6,X7,Xf0,Xf1,Xf2,Xf3,Xf4,Xf5,Xf6,Xf7⟩:=row_eight X
    go_upto_region 2 with (fail)
    clear X0 Xf0 X1 Xf1 X2 Xf2 X3 Xf3 X4 Xf4 X5 Xf5 X6 Xf6 X7 Xf7
    replace X:=row_set X 0 (.int .i64 6)
    replace o:=o.setCell (p:=⟨w.heap.size,0,none⟩) (Nat.le_refl _) (.int .i64 6)
    replace X:Row (w4.setCell ⟨w.heap.size,0,none⟩ (.int .i64 6)) (w.heap.size) 27 #[.int .i64 6, .int .i64 x1, .int .i64 x2, .int .i64 x3, .int .i64 x4, .int .i64 x5, .int .i64 x6, .int .i64 x7]:=X
    replace X:=row_set X 1 (.int .i64 0)
    replace o:=o.setCell (p:=⟨w.heap.size,1,none⟩) (Nat.le_refl _) (.int .i64 0)
    replace X:Row ((w4.setCell ⟨w.heap.size,0,none⟩ (.int .i64 6)).setCell ⟨w.heap.size,1,none⟩ (.int .i64 0)) (w.heap.size) 27 #[.int .i64 6, .int .i64 0, .int .i64 x2, .int .i64 x3, .int .i64 x4, .int .i64 x5, .int .i64 x6, .int .i64 x7]:=X
    replace X:=row_set X 2 (.int .i64 0)
    replace o:=o.setCell (p:=⟨w.heap.size,2,none⟩) (Nat.le_refl _) (.int .i64 0)
    replace X:Row (((w4.setCell ⟨w.heap.size,0,none⟩ (.int .i64 6)).setCell ⟨w.heap.size,1,none⟩ (.int .i64 0)).setCell ⟨w.heap.size,2,none⟩ (.int .i64 0)) (w.heap.size) 27 #[.int .i64 6, .int .i64 0, .int .i64 0, .int .i64 x3, .int .i64 x4, .int .i64 x5, .int .i64 x6, .int .i64 x7]:=X
    replace X:=row_set X 3 (.int .i64 0)
    replace o:=o.setCell (p:=⟨w.heap.size,3,none⟩) (Nat.le_refl _) (.int .i64 0)
    replace X:Row ((((w4.setCell ⟨w.heap.size,0,none⟩ (.int .i64 6)).setCell ⟨w.heap.size,1,none⟩ (.int .i64 0)).setCell ⟨w.heap.size,2,none⟩ (.int .i64 0)).setCell ⟨w.heap.size,3,none⟩ (.int .i64 0)) (w.heap.size) 27 #[.int .i64 6, .int .i64 0, .int .i64 0, .int .i64 0, .int .i64 x4, .int .i64 x5, .int .i64 x6, .int .i64 x7]:=X
    replace X:=row_set X 4 (.int .i64 0)
    replace o:=o.setCell (p:=⟨w.heap.size,4,none⟩) (Nat.le_refl _) (.int .i64 0)
    replace X:Row (((((w4.setCell ⟨w.heap.size,0,none⟩ (.int .i64 6)).setCell ⟨w.heap.size,1,none⟩ (.int .i64 0)).setCell ⟨w.heap.size,2,none⟩ (.int .i64 0)).setCell ⟨w.heap.size,3,none⟩ (.int .i64 0)).setCell ⟨w.heap.size,4,none⟩ (.int .i64 0)) (w.heap.size) 27 #[.int .i64 6, .int .i64 0, .int .i64 0, .int .i64 0, .int .i64 0, .int .i64 x5, .int .i64 x6, .int .i64 x7]:=X
    replace X:=row_set X 5 (.int .i64 (p:Nat))
    replace o:=o.setCell (p:=⟨w.heap.size,5,none⟩) (Nat.le_refl _) (.int .i64 (p:Nat))
    replace X:Row ((((((w4.setCell ⟨w.heap.size,0,none⟩ (.int .i64 6)).setCell ⟨w.heap.size,1,none⟩ (.int .i64 0)).setCell ⟨w.heap.size,2,none⟩ (.int .i64 0)).setCell ⟨w.heap.size,3,none⟩ (.int .i64 0)).setCell ⟨w.heap.size,4,none⟩ (.int .i64 0)).setCell ⟨w.heap.size,5,none⟩ (.int .i64 (p:Nat))) (w.heap.size) 27 #[.int .i64 6, .int .i64 0, .int .i64 0, .int .i64 0, .int .i64 0, .int .i64 (p:Nat), .int .i64 x6, .int .i64 x7]:=X
    replace X:=row_set X 6 (.int .i64 0)
    replace o:=o.setCell (p:=⟨w.heap.size,6,none⟩) (Nat.le_refl _) (.int .i64 0)
    replace X:Row (((((((w4.setCell ⟨w.heap.size,0,none⟩ (.int .i64 6)).setCell ⟨w.heap.size,1,none⟩ (.int .i64 0)).setCell ⟨w.heap.size,2,none⟩ (.int .i64 0)).setCell ⟨w.heap.size,3,none⟩ (.int .i64 0)).setCell ⟨w.heap.size,4,none⟩ (.int .i64 0)).setCell ⟨w.heap.size,5,none⟩ (.int .i64 (p:Nat))).setCell ⟨w.heap.size,6,none⟩ (.int .i64 0)) (w.heap.size) 27 #[.int .i64 6, .int .i64 0, .int .i64 0, .int .i64 0, .int .i64 0, .int .i64 (p:Nat), .int .i64 0, .int .i64 x7]:=X
    replace X:=row_set X 7 (.int .i64 0)
    replace o:=o.setCell (p:=⟨w.heap.size,7,none⟩) (Nat.le_refl _) (.int .i64 0)
    replace X:Row ((((((((w4.setCell ⟨w.heap.size,0,none⟩ (.int .i64 6)).setCell ⟨w.heap.size,1,none⟩ (.int .i64 0)).setCell ⟨w.heap.size,2,none⟩ (.int .i64 0)).setCell ⟨w.heap.size,3,none⟩ (.int .i64 0)).setCell ⟨w.heap.size,4,none⟩ (.int .i64 0)).setCell ⟨w.heap.size,5,none⟩ (.int .i64 (p:Nat))).setCell ⟨w.heap.size,6,none⟩ (.int .i64 0)).setCell ⟨w.heap.size,7,none⟩ (.int .i64 0)) (w.heap.size) 27 #[.int .i64 6, .int .i64 0, .int .i64 0, .int .i64 0, .int .i64 0, .int .i64 (p:Nat), .int .i64 0, .int .i64 0]:=X
    generalize ((((((((w4.setCell ⟨w.heap.size,0,none⟩ (.int .i64 6)).setCell ⟨w.heap.size,1,none⟩ (.int .i64 0)).setCell ⟨w.heap.size,2,none⟩ (.int .i64 0)).setCell ⟨w.heap.size,3,none⟩ (.int .i64 0)).setCell ⟨w.heap.size,4,none⟩ (.int .i64 0)).setCell ⟨w.heap.size,5,none⟩ (.int .i64 (p:Nat))).setCell ⟨w.heap.size,6,none⟩ (.int .i64 0)).setCell ⟨w.heap.size,7,none⟩ (.int .i64 0))=w5 at X o ⊢
    obtain ⟨X0,X1,X2,X3,X4,X5,X6,X7,Xf0,Xf1,Xf2,Xf3,Xf4,Xf5,Xf6,Xf7⟩:=row_eight X
    go_upto_region 4 with (fail)
    go_wp2_with fail
    refine (PST.out _ o).mono ?_
    rintro e w7 ⟨v,its,last,rfl,own,hlen,hmade,hb⟩
    clear X0 Xf0 X1 Xf1 X2 Xf2 X3 Xf3 X4 Xf4 X5 Xf5 X6 Xf6 X7 Xf7
    replace X:=row_call X hb
    replace o:=o.trans (hb.mono o.size)
    obtain ⟨A1,c1,rfl,R1,_,_,_⟩:=orow_forms own
    have HT:=Lib.hid (made_run hmade (by omega))
    have hlb:last≤2460:=by have h3:=hmade.2.2;omega
    have hl0:=hmade.2.1
    have hnow:0≤nowK its its.length∧nowK its its.length≤last:=by
      unfold nowK
      split
      · exact ⟨Int.le_refl _,hl0⟩
      · rename_i hne
        have:=hmade.1 (its.length-1) (by omega)
        exact ⟨this.1,this.2.1⟩
    have HIV:=Lib.hid (fun x (hx:x∈its)=>(by
      obtain ⟨i,hi,rfl⟩:=List.mem_iff_getElem.1 hx
      rw [itm_eq hi]
      have:=hmade.1 i hi
      refine ⟨this.1,?_,this.2.2.2.1,this.2.2.2.2⟩
      have h2:=(hmade.1 (its.length-1) (by omega)).2.2.1 i (by omega)
      unfold nowK
      rw [if_neg (by omega)]
      exact h2:0≤x.t∧x.t≤nowK its its.length∧0≤x.v∧x.v≤4096))
    have HL:=Lib.hid hlen
    have HRD:=Lib.hid (fun w' (hb:Below w7.heap.size w7 w')=>(R1.below hb).more hb.size)
    clear own hmade PST hb hlen
    obtain ⟨X0,X1,X2,X3,X4,X5,X6,X7,Xf0,Xf1,Xf2,Xf3,Xf4,Xf5,Xf6,Xf7⟩:=row_eight X
    go_wp2_with fail
    refine (PR.out A1 c1 its w7 R1 HL.out HT.out).mono ?_
    rintro e w8 ⟨A2,m2,c2,v2,he,in1,own2,hb⟩
    obtain ⟨A3,c3,rfl,_,_,_,_⟩:=orow_forms own2
    clear X0 Xf0 X1 Xf1 X2 Xf2 X3 Xf3 X4 Xf4 X5 Xf5 X6 Xf6 X7 Xf7
    replace X:=row_call X hb
    have o1:=hb
    replace o:=o.trans (hb.mono o.size)
    clear hb own2 R1 PR HT
    have hle:its.length≤60:=HL.out
    -- the last tick
    have hlast:0<its.length→nowK its its.length=(itmAt its (its.length-1)).t:=fun h=>by unfold nowK;rw [if_neg (by omega)]
    have hz0:its.length=0→nowK its its.length=0:=fun h=>by unfold nowK;rw [if_pos h]
    generalize htn:nowK its its.length=tn at he in1 hnow HIV hlast hz0
    clear htn
    subst he
    have IO1:=HK.out.inok its tn
    have hone:(#[.int .i64 6, .int .i64 0, .int .i64 0, .int .i64 0, .int .i64 0, .int .i64 (p:Nat), .int .i64 0, .int .i64 0, .int .i64 0, .int .i64 0, .int .i64 0, .slice none 0 0, .int .i64 0, .int .i64 0, .int .i64 0, .int .i64 0, .slice none 0 0, .int .i64 0, .int .i64 0, .int .i64 0, .int .i64 0, .int .i64 0, .slice none 0 0, .int .i64 0, .int .i64 0, .int .i64 0, .int .i64 0, .int .i64 0, .int .i64 0, .slice none 0 0, .int .i64 0, .int .i64 0, .int .i64 0, .int .i64 0, .int .i64 0, .slice none 0 0, .int .i64 (p:Nat), .int .i64 0, .int .i64 tn, .slice A2 m2 c2, .int .i64 0, .slice none 0 0, .bool false, .int .i64 0, .int .i64 0, .int .i64 0, .slice none 0 0, .slice none 0 0, .int .i64 0, .int .i64 0, .int .i64 0, .slice none 0 0, .int .i64 0, .int .i64 0, .int .i64 0, .int .i64 0, .slice none 0 0]:Array Value).all (·.oneCell')=true:=all_one rfl
    have SZ:Row (w8.alloc (.cells #[.int .i64 0, .int .i64 0, .int .i64 0, .int .i64 0, .int .i64 0, .int .i64 0, .int .i64 0, .int .i64 0, .int .i64 0, .int .i64 0, .int .i64 0, .slice none 0 0, .int .i64 0, .int .i64 0, .int .i64 0, .int .i64 0, .slice none 0 0, .int .i64 0, .int .i64 0, .int .i64 0, .int .i64 0, .int .i64 0, .slice none 0 0, .int .i64 0, .int .i64 0, .int .i64 0, .int .i64 0, .int .i64 0, .int .i64 0, .slice none 0 0, .int .i64 0, .int .i64 0, .int .i64 0, .int .i64 0, .int .i64 0, .slice none 0 0, .int .i64 0, .int .i64 0, .int .i64 0, .slice none 0 0, .int .i64 0, .slice none 0 0, .bool false, .int .i64 0, .int .i64 0, .int .i64 0, .slice none 0 0, .slice none 0 0, .int .i64 0, .int .i64 0, .int .i64 0, .slice none 0 0, .int .i64 0, .int .i64 0, .int .i64 0, .int .i64 0, .slice none 0 0] 58)) w8.heap.size 58 #[.int .i64 0, .int .i64 0, .int .i64 0, .int .i64 0, .int .i64 0, .int .i64 0, .int .i64 0, .int .i64 0, .int .i64 0, .int .i64 0, .int .i64 0, .slice none 0 0, .int .i64 0, .int .i64 0, .int .i64 0, .int .i64 0, .slice none 0 0, .int .i64 0, .int .i64 0, .int .i64 0, .int .i64 0, .int .i64 0, .slice none 0 0, .int .i64 0, .int .i64 0, .int .i64 0, .int .i64 0, .int .i64 0, .int .i64 0, .slice none 0 0, .int .i64 0, .int .i64 0, .int .i64 0, .int .i64 0, .int .i64 0, .slice none 0 0, .int .i64 0, .int .i64 0, .int .i64 0, .slice none 0 0, .int .i64 0, .slice none 0 0, .bool false, .int .i64 0, .int .i64 0, .int .i64 0, .slice none 0 0, .slice none 0 0, .int .i64 0, .int .i64 0, .int .i64 0, .slice none 0 0, .int .i64 0, .int .i64 0, .int .i64 0, .int .i64 0, .slice none 0 0]:=row_new rfl
    go_upto_region 6 with (with_reducible refine wpList_ssyn SZ rfl rfl hone rfl _ _ rfl rfl rfl ?_)
    have SR:=row_setRow (cs:=#[.int .i64 6, .int .i64 0, .int .i64 0, .int .i64 0, .int .i64 0, .int .i64 (p:Nat), .int .i64 0, .int .i64 0, .int .i64 0, .int .i64 0, .int .i64 0, .slice none 0 0, .int .i64 0, .int .i64 0, .int .i64 0, .int .i64 0, .slice none 0 0, .int .i64 0, .int .i64 0, .int .i64 0, .int .i64 0, .int .i64 0, .slice none 0 0, .int .i64 0, .int .i64 0, .int .i64 0, .int .i64 0, .int .i64 0, .int .i64 0, .slice none 0 0, .int .i64 0, .int .i64 0, .int .i64 0, .int .i64 0, .int .i64 0, .slice none 0 0, .int .i64 (p:Nat), .int .i64 0, .int .i64 tn, .slice A2 m2 c2, .int .i64 0, .slice none 0 0, .bool false, .int .i64 0, .int .i64 0, .int .i64 0, .slice none 0 0, .slice none 0 0, .int .i64 0, .int .i64 0, .int .i64 0, .slice none 0 0, .int .i64 0, .int .i64 0, .int .i64 0, .int .i64 0, .slice none 0 0]) SZ
    have z9:=o.size
    have z91:=o1.size
    have zx9:=row_lt X
    have bin:=IO1.blk in1
    replace in1:=IO1.setr (g:=w8.heap.size) #[.int .i64 6, .int .i64 0, .int .i64 0, .int .i64 0, .int .i64 0, .int .i64 (p:Nat), .int .i64 0, .int .i64 0, .int .i64 0, .int .i64 0, .int .i64 0, .slice none 0 0, .int .i64 0, .int .i64 0, .int .i64 0, .int .i64 0, .slice none 0 0, .int .i64 0, .int .i64 0, .int .i64 0, .int .i64 0, .int .i64 0, .slice none 0 0, .int .i64 0, .int .i64 0, .int .i64 0, .int .i64 0, .int .i64 0, .int .i64 0, .slice none 0 0, .int .i64 0, .int .i64 0, .int .i64 0, .int .i64 0, .int .i64 0, .slice none 0 0, .int .i64 (p:Nat), .int .i64 0, .int .i64 tn, .slice A2 m2 c2, .int .i64 0, .slice none 0 0, .bool false, .int .i64 0, .int .i64 0, .int .i64 0, .slice none 0 0, .slice none 0 0, .int .i64 0, .int .i64 0, .int .i64 0, .slice none 0 0, .int .i64 0, .int .i64 0, .int .i64 0, .int .i64 0, .slice none 0 0] (IO1.below in1 ((Below.refl _ _).alloc (Nat.le_refl _) (.cells #[.int .i64 0, .int .i64 0, .int .i64 0, .int .i64 0, .int .i64 0, .int .i64 0, .int .i64 0, .int .i64 0, .int .i64 0, .int .i64 0, .int .i64 0, .slice none 0 0, .int .i64 0, .int .i64 0, .int .i64 0, .int .i64 0, .slice none 0 0, .int .i64 0, .int .i64 0, .int .i64 0, .int .i64 0, .int .i64 0, .slice none 0 0, .int .i64 0, .int .i64 0, .int .i64 0, .int .i64 0, .int .i64 0, .int .i64 0, .slice none 0 0, .int .i64 0, .int .i64 0, .int .i64 0, .int .i64 0, .int .i64 0, .slice none 0 0, .int .i64 0, .int .i64 0, .int .i64 0, .slice none 0 0, .int .i64 0, .slice none 0 0, .bool false, .int .i64 0, .int .i64 0, .int .i64 0, .slice none 0 0, .slice none 0 0, .int .i64 0, .int .i64 0, .int .i64 0, .slice none 0 0, .int .i64 0, .int .i64 0, .int .i64 0, .int .i64 0, .slice none 0 0] 58))) (fun hm a e=>by have:=bin hm a e;omega)
    have fr1:0<m2→∀ a,A2=some a→a.block<w8.heap.size:=bin
    replace X:=row_setRow_other (g:=w8.heap.size) (cs':=#[.int .i64 6, .int .i64 0, .int .i64 0, .int .i64 0, .int .i64 0, .int .i64 (p:Nat), .int .i64 0, .int .i64 0, .int .i64 0, .int .i64 0, .int .i64 0, .slice none 0 0, .int .i64 0, .int .i64 0, .int .i64 0, .int .i64 0, .slice none 0 0, .int .i64 0, .int .i64 0, .int .i64 0, .int .i64 0, .int .i64 0, .slice none 0 0, .int .i64 0, .int .i64 0, .int .i64 0, .int .i64 0, .int .i64 0, .int .i64 0, .slice none 0 0, .int .i64 0, .int .i64 0, .int .i64 0, .int .i64 0, .int .i64 0, .slice none 0 0, .int .i64 (p:Nat), .int .i64 0, .int .i64 tn, .slice A2 m2 c2, .int .i64 0, .slice none 0 0, .bool false, .int .i64 0, .int .i64 0, .int .i64 0, .slice none 0 0, .slice none 0 0, .int .i64 0, .int .i64 0, .int .i64 0, .slice none 0 0, .int .i64 0, .int .i64 0, .int .i64 0, .int .i64 0, .slice none 0 0]) (row_alloc X (.cells #[.int .i64 0, .int .i64 0, .int .i64 0, .int .i64 0, .int .i64 0, .int .i64 0, .int .i64 0, .int .i64 0, .int .i64 0, .int .i64 0, .int .i64 0, .slice none 0 0, .int .i64 0, .int .i64 0, .int .i64 0, .int .i64 0, .slice none 0 0, .int .i64 0, .int .i64 0, .int .i64 0, .int .i64 0, .int .i64 0, .slice none 0 0, .int .i64 0, .int .i64 0, .int .i64 0, .int .i64 0, .int .i64 0, .int .i64 0, .slice none 0 0, .int .i64 0, .int .i64 0, .int .i64 0, .int .i64 0, .int .i64 0, .slice none 0 0, .int .i64 0, .int .i64 0, .int .i64 0, .slice none 0 0, .int .i64 0, .slice none 0 0, .bool false, .int .i64 0, .int .i64 0, .int .i64 0, .slice none 0 0, .slice none 0 0, .int .i64 0, .int .i64 0, .int .i64 0, .slice none 0 0, .int .i64 0, .int .i64 0, .int .i64 0, .int .i64 0, .slice none 0 0] 58)) (by omega)
    replace o:=below_setRow (g:=w8.heap.size) (o.alloc o.size (.cells #[.int .i64 0, .int .i64 0, .int .i64 0, .int .i64 0, .int .i64 0, .int .i64 0, .int .i64 0, .int .i64 0, .int .i64 0, .int .i64 0, .int .i64 0, .slice none 0 0, .int .i64 0, .int .i64 0, .int .i64 0, .int .i64 0, .slice none 0 0, .int .i64 0, .int .i64 0, .int .i64 0, .int .i64 0, .int .i64 0, .slice none 0 0, .int .i64 0, .int .i64 0, .int .i64 0, .int .i64 0, .int .i64 0, .int .i64 0, .slice none 0 0, .int .i64 0, .int .i64 0, .int .i64 0, .int .i64 0, .int .i64 0, .slice none 0 0, .int .i64 0, .int .i64 0, .int .i64 0, .slice none 0 0, .int .i64 0, .slice none 0 0, .bool false, .int .i64 0, .int .i64 0, .int .i64 0, .slice none 0 0, .slice none 0 0, .int .i64 0, .int .i64 0, .int .i64 0, .slice none 0 0, .int .i64 0, .int .i64 0, .int .i64 0, .int .i64 0, .slice none 0 0] 58)) o.size #[.int .i64 6, .int .i64 0, .int .i64 0, .int .i64 0, .int .i64 0, .int .i64 (p:Nat), .int .i64 0, .int .i64 0, .int .i64 0, .int .i64 0, .int .i64 0, .slice none 0 0, .int .i64 0, .int .i64 0, .int .i64 0, .int .i64 0, .slice none 0 0, .int .i64 0, .int .i64 0, .int .i64 0, .int .i64 0, .int .i64 0, .slice none 0 0, .int .i64 0, .int .i64 0, .int .i64 0, .int .i64 0, .int .i64 0, .int .i64 0, .slice none 0 0, .int .i64 0, .int .i64 0, .int .i64 0, .int .i64 0, .int .i64 0, .slice none 0 0, .int .i64 (p:Nat), .int .i64 0, .int .i64 tn, .slice A2 m2 c2, .int .i64 0, .slice none 0 0, .bool false, .int .i64 0, .int .i64 0, .int .i64 0, .slice none 0 0, .slice none 0 0, .int .i64 0, .int .i64 0, .int .i64 0, .slice none 0 0, .int .i64 0, .int .i64 0, .int .i64 0, .int .i64 0, .slice none 0 0]
    replace o1:=below_setRow (g:=w8.heap.size) (o1.alloc o1.size (.cells #[.int .i64 0, .int .i64 0, .int .i64 0, .int .i64 0, .int .i64 0, .int .i64 0, .int .i64 0, .int .i64 0, .int .i64 0, .int .i64 0, .int .i64 0, .slice none 0 0, .int .i64 0, .int .i64 0, .int .i64 0, .int .i64 0, .slice none 0 0, .int .i64 0, .int .i64 0, .int .i64 0, .int .i64 0, .int .i64 0, .slice none 0 0, .int .i64 0, .int .i64 0, .int .i64 0, .int .i64 0, .int .i64 0, .int .i64 0, .slice none 0 0, .int .i64 0, .int .i64 0, .int .i64 0, .int .i64 0, .int .i64 0, .slice none 0 0, .int .i64 0, .int .i64 0, .int .i64 0, .slice none 0 0, .int .i64 0, .slice none 0 0, .bool false, .int .i64 0, .int .i64 0, .int .i64 0, .slice none 0 0, .slice none 0 0, .int .i64 0, .int .i64 0, .int .i64 0, .slice none 0 0, .int .i64 0, .int .i64 0, .int .i64 0, .int .i64 0, .slice none 0 0] 58)) o1.size #[.int .i64 6, .int .i64 0, .int .i64 0, .int .i64 0, .int .i64 0, .int .i64 (p:Nat), .int .i64 0, .int .i64 0, .int .i64 0, .int .i64 0, .int .i64 0, .slice none 0 0, .int .i64 0, .int .i64 0, .int .i64 0, .int .i64 0, .slice none 0 0, .int .i64 0, .int .i64 0, .int .i64 0, .int .i64 0, .int .i64 0, .slice none 0 0, .int .i64 0, .int .i64 0, .int .i64 0, .int .i64 0, .int .i64 0, .int .i64 0, .slice none 0 0, .int .i64 0, .int .i64 0, .int .i64 0, .int .i64 0, .int .i64 0, .slice none 0 0, .int .i64 (p:Nat), .int .i64 0, .int .i64 tn, .slice A2 m2 c2, .int .i64 0, .slice none 0 0, .bool false, .int .i64 0, .int .i64 0, .int .i64 0, .slice none 0 0, .slice none 0 0, .int .i64 0, .int .i64 0, .int .i64 0, .slice none 0 0, .int .i64 0, .int .i64 0, .int .i64 0, .int .i64 0, .slice none 0 0]
    obtain ⟨w9,h9⟩:∃ x,x=(w8.alloc (.cells #[.int .i64 0, .int .i64 0, .int .i64 0, .int .i64 0, .int .i64 0, .int .i64 0, .int .i64 0, .int .i64 0, .int .i64 0, .int .i64 0, .int .i64 0, .slice none 0 0, .int .i64 0, .int .i64 0, .int .i64 0, .int .i64 0, .slice none 0 0, .int .i64 0, .int .i64 0, .int .i64 0, .int .i64 0, .int .i64 0, .slice none 0 0, .int .i64 0, .int .i64 0, .int .i64 0, .int .i64 0, .int .i64 0, .int .i64 0, .slice none 0 0, .int .i64 0, .int .i64 0, .int .i64 0, .int .i64 0, .int .i64 0, .slice none 0 0, .int .i64 0, .int .i64 0, .int .i64 0, .slice none 0 0, .int .i64 0, .slice none 0 0, .bool false, .int .i64 0, .int .i64 0, .int .i64 0, .slice none 0 0, .slice none 0 0, .int .i64 0, .int .i64 0, .int .i64 0, .slice none 0 0, .int .i64 0, .int .i64 0, .int .i64 0, .int .i64 0, .slice none 0 0] 58)).setRow w8.heap.size #[.int .i64 6, .int .i64 0, .int .i64 0, .int .i64 0, .int .i64 0, .int .i64 (p:Nat), .int .i64 0, .int .i64 0, .int .i64 0, .int .i64 0, .int .i64 0, .slice none 0 0, .int .i64 0, .int .i64 0, .int .i64 0, .int .i64 0, .slice none 0 0, .int .i64 0, .int .i64 0, .int .i64 0, .int .i64 0, .int .i64 0, .slice none 0 0, .int .i64 0, .int .i64 0, .int .i64 0, .int .i64 0, .int .i64 0, .int .i64 0, .slice none 0 0, .int .i64 0, .int .i64 0, .int .i64 0, .int .i64 0, .int .i64 0, .slice none 0 0, .int .i64 (p:Nat), .int .i64 0, .int .i64 tn, .slice A2 m2 c2, .int .i64 0, .slice none 0 0, .bool false, .int .i64 0, .int .i64 0, .int .i64 0, .slice none 0 0, .slice none 0 0, .int .i64 0, .int .i64 0, .int .i64 0, .slice none 0 0, .int .i64 0, .int .i64 0, .int .i64 0, .int .i64 0, .slice none 0 0]:=⟨_,rfl⟩
    rw [← h9] at SR in1 X o o1 ⊢
    clear h9 SZ hone bin
    generalize w8.heap.size=sb at SR z9 z91 zx9 fr1 ⊢
    go_upto_region 7 with (go_at_call 8;with_reducible refine (PMD.out _).mono ?_;rintro e wx ⟨rfl,hx⟩;obtain rfl:=hx.symm)
    clear PMD
    obtain ⟨tt,htt⟩:∃ tt,md+tn=tt:=⟨_,rfl⟩
    have tb:tn≤tt∧tt≤2600:=by omega
    have PAD:RowKit.Hid (∀ (A:Option Addr) (m c:Nat) (w:World),(PoI p) its tn A m c w→Calls Tryz.prog 21 #[.agg #[.int .i64 6, .int .i64 0, .int .i64 0, .int .i64 0, .int .i64 0, .int .i64 (p:Nat), .int .i64 0, .int .i64 0, .int .i64 0, .int .i64 0, .int .i64 0, .slice none 0 0, .int .i64 0, .int .i64 0, .int .i64 0, .int .i64 0, .slice none 0 0, .int .i64 0, .int .i64 0, .int .i64 0, .int .i64 0, .int .i64 0, .slice none 0 0, .int .i64 0, .int .i64 0, .int .i64 0, .int .i64 0, .int .i64 0, .int .i64 0, .slice none 0 0, .int .i64 0, .int .i64 0, .int .i64 0, .int .i64 0, .int .i64 0, .slice none 0 0, .int .i64 (p:Nat), .int .i64 0, .int .i64 tn, .slice A m c, .int .i64 0, .slice none 0 0, .bool false, .int .i64 0, .int .i64 0, .int .i64 0, .slice none 0 0, .slice none 0 0, .int .i64 0, .int .i64 0, .int .i64 0, .slice none 0 0, .int .i64 0, .int .i64 0, .int .i64 0, .int .i64 0, .slice none 0 0], .int .i64 tt] w (GRet ((PoI p) its tt) (fun A m c=>#[.int .i64 6, .int .i64 0, .int .i64 0, .int .i64 0, .int .i64 0, .int .i64 (p:Nat), .int .i64 0, .int .i64 0, .int .i64 0, .int .i64 0, .int .i64 0, .slice none 0 0, .int .i64 0, .int .i64 0, .int .i64 0, .int .i64 0, .slice none 0 0, .int .i64 0, .int .i64 0, .int .i64 0, .int .i64 0, .int .i64 0, .slice none 0 0, .int .i64 0, .int .i64 0, .int .i64 0, .int .i64 0, .int .i64 0, .int .i64 0, .slice none 0 0, .int .i64 0, .int .i64 0, .int .i64 0, .int .i64 0, .int .i64 0, .slice none 0 0, .int .i64 (p:Nat), .int .i64 0, .int .i64 tt, .slice A m c, .int .i64 0, .slice none 0 0, .bool false, .int .i64 0, .int .i64 0, .int .i64 0, .slice none 0 0, .slice none 0 0, .int .i64 0, .int .i64 0, .int .i64 0, .slice none 0 0, .int .i64 0, .int .i64 0, .int .i64 0, .int .i64 0, .slice none 0 0]) 0 (fun b=>0<m∧∃ a,A=some a∧a.block=b) w)):=Lib.hid (fun A m c w h=>HK.out.adv its tn tt A m c w h (by omega) (by omega))
    by_cases hn:its.length=0
    case' pos =>
      have n0:¬ 0<its.length:=by omega
      have n1:¬ (0:Int)<(its.length:Int):=by omega
      have hmt:tt=md:=by
        have:=hz0 (by omega)
        omega
      subst hmt
      replace hn:=Lib.hid hn
      clear hz0 hlast
      go_upto_region 9 with (fail)
    case' neg =>
      obtain ⟨p9,hp9⟩:∃ p9:Nat,its.length=p9+1:=⟨its.length-1,by omega⟩
      obtain ⟨ad,rfl,hadb,hi0⟩:=(HRD.out _ o1).itm (i:=p9) (by omega)
      have hlt9:=hlast (by omega)
      rw [show its.length-1=p9 by omega] at hlt9
      obtain ⟨c0,_⟩:=hi0
      rw [← hlt9] at c0
      have n0:0<its.length:=by omega
      have n1:(0:Int)<(its.length:Int):=by omega
      have p0:(0:Int)≤(p9:Int):=by omega
      have p1:(p9:Int)<(its.length:Int):=by omega
      have p1n:p9<its.length:=by omega
      have wj:IntKind.i64.wrap ((its.length:Int)-1)=(p9:Int):=by rw [IntWalk.i64_in _ (by omega)];omega
      have wt:IntKind.i64.wrap (md+tn)=tt:=by rw [htt,← htt];exact IntWalk.i64_in _ (by omega)
      clear hp9 hlt9 hlast hz0
      go_upto_region 9 with (fail)
      clear c0 p0 p1 p1n wj wt hadb
      obtain ⟨A1,hA1⟩:∃ x:Option Addr,x=some ad:=⟨_,rfl⟩
      rw [← hA1] at HRD ⊢
      clear hA1
    all_goals
      go_wp2_with (with_reducible refine wpList_lsyn SR rfl rfl _ rfl rfl ?_)
      refine (PAD.out _ _ _ _ in1).mono ?_
      rintro e w10 ⟨A5,m5,c5,rfl,in5,hb,fr5⟩
      have zs:=row_lt SR
      have fr6:0<m5→∀ a,A5=some a→a.block≠sb:=fun hm a e=>by
        rcases fr5 hm a e with h | ⟨h,b,eb,h'⟩
        · omega
        · have:=fr1 h b eb
          omega
      replace SR:=row_call SR hb
      replace X:=row_call X hb
      replace o:=o.trans (hb.mono o.size)
      replace o1:=o1.trans (hb.mono o1.size)
      have IO5:=HK.out.inok its tt
      have hone:(#[.int .i64 6, .int .i64 0, .int .i64 0, .int .i64 0, .int .i64 0, .int .i64 (p:Nat), .int .i64 0, .int .i64 0, .int .i64 0, .int .i64 0, .int .i64 0, .slice none 0 0, .int .i64 0, .int .i64 0, .int .i64 0, .int .i64 0, .slice none 0 0, .int .i64 0, .int .i64 0, .int .i64 0, .int .i64 0, .int .i64 0, .slice none 0 0, .int .i64 0, .int .i64 0, .int .i64 0, .int .i64 0, .int .i64 0, .int .i64 0, .slice none 0 0, .int .i64 0, .int .i64 0, .int .i64 0, .int .i64 0, .int .i64 0, .slice none 0 0, .int .i64 (p:Nat), .int .i64 0, .int .i64 tt, .slice A5 m5 c5, .int .i64 0, .slice none 0 0, .bool false, .int .i64 0, .int .i64 0, .int .i64 0, .slice none 0 0, .slice none 0 0, .int .i64 0, .int .i64 0, .int .i64 0, .slice none 0 0, .int .i64 0, .int .i64 0, .int .i64 0, .int .i64 0, .slice none 0 0]:Array Value).all (·.oneCell')=true:=all_one rfl
      go_upto_region 10 with (with_reducible refine wpList_ssyn SR rfl rfl hone rfl _ _ rfl rfl rfl ?_)
      replace SR:=row_setRow (cs:=#[.int .i64 6, .int .i64 0, .int .i64 0, .int .i64 0, .int .i64 0, .int .i64 (p:Nat), .int .i64 0, .int .i64 0, .int .i64 0, .int .i64 0, .int .i64 0, .slice none 0 0, .int .i64 0, .int .i64 0, .int .i64 0, .int .i64 0, .slice none 0 0, .int .i64 0, .int .i64 0, .int .i64 0, .int .i64 0, .int .i64 0, .slice none 0 0, .int .i64 0, .int .i64 0, .int .i64 0, .int .i64 0, .int .i64 0, .int .i64 0, .slice none 0 0, .int .i64 0, .int .i64 0, .int .i64 0, .int .i64 0, .int .i64 0, .slice none 0 0, .int .i64 (p:Nat), .int .i64 0, .int .i64 tt, .slice A5 m5 c5, .int .i64 0, .slice none 0 0, .bool false, .int .i64 0, .int .i64 0, .int .i64 0, .slice none 0 0, .slice none 0 0, .int .i64 0, .int .i64 0, .int .i64 0, .slice none 0 0, .int .i64 0, .int .i64 0, .int .i64 0, .int .i64 0, .slice none 0 0]) SR
      replace in5:=IO5.setr (g:=sb) #[.int .i64 6, .int .i64 0, .int .i64 0, .int .i64 0, .int .i64 0, .int .i64 (p:Nat), .int .i64 0, .int .i64 0, .int .i64 0, .int .i64 0, .int .i64 0, .slice none 0 0, .int .i64 0, .int .i64 0, .int .i64 0, .int .i64 0, .slice none 0 0, .int .i64 0, .int .i64 0, .int .i64 0, .int .i64 0, .int .i64 0, .slice none 0 0, .int .i64 0, .int .i64 0, .int .i64 0, .int .i64 0, .int .i64 0, .int .i64 0, .slice none 0 0, .int .i64 0, .int .i64 0, .int .i64 0, .int .i64 0, .int .i64 0, .slice none 0 0, .int .i64 (p:Nat), .int .i64 0, .int .i64 tt, .slice A5 m5 c5, .int .i64 0, .slice none 0 0, .bool false, .int .i64 0, .int .i64 0, .int .i64 0, .slice none 0 0, .slice none 0 0, .int .i64 0, .int .i64 0, .int .i64 0, .slice none 0 0, .int .i64 0, .int .i64 0, .int .i64 0, .int .i64 0, .slice none 0 0] in5 (fun hm a e=>by have:=fr6 hm a e;omega)
      replace X:=row_setRow_other (g:=sb) (cs':=#[.int .i64 6, .int .i64 0, .int .i64 0, .int .i64 0, .int .i64 0, .int .i64 (p:Nat), .int .i64 0, .int .i64 0, .int .i64 0, .int .i64 0, .int .i64 0, .slice none 0 0, .int .i64 0, .int .i64 0, .int .i64 0, .int .i64 0, .slice none 0 0, .int .i64 0, .int .i64 0, .int .i64 0, .int .i64 0, .int .i64 0, .slice none 0 0, .int .i64 0, .int .i64 0, .int .i64 0, .int .i64 0, .int .i64 0, .int .i64 0, .slice none 0 0, .int .i64 0, .int .i64 0, .int .i64 0, .int .i64 0, .int .i64 0, .slice none 0 0, .int .i64 (p:Nat), .int .i64 0, .int .i64 tt, .slice A5 m5 c5, .int .i64 0, .slice none 0 0, .bool false, .int .i64 0, .int .i64 0, .int .i64 0, .slice none 0 0, .slice none 0 0, .int .i64 0, .int .i64 0, .int .i64 0, .slice none 0 0, .int .i64 0, .int .i64 0, .int .i64 0, .int .i64 0, .slice none 0 0]) X (by omega)
      replace o:=below_setRow (g:=sb) o z9 #[.int .i64 6, .int .i64 0, .int .i64 0, .int .i64 0, .int .i64 0, .int .i64 (p:Nat), .int .i64 0, .int .i64 0, .int .i64 0, .int .i64 0, .int .i64 0, .slice none 0 0, .int .i64 0, .int .i64 0, .int .i64 0, .int .i64 0, .slice none 0 0, .int .i64 0, .int .i64 0, .int .i64 0, .int .i64 0, .int .i64 0, .slice none 0 0, .int .i64 0, .int .i64 0, .int .i64 0, .int .i64 0, .int .i64 0, .int .i64 0, .slice none 0 0, .int .i64 0, .int .i64 0, .int .i64 0, .int .i64 0, .int .i64 0, .slice none 0 0, .int .i64 (p:Nat), .int .i64 0, .int .i64 tt, .slice A5 m5 c5, .int .i64 0, .slice none 0 0, .bool false, .int .i64 0, .int .i64 0, .int .i64 0, .slice none 0 0, .slice none 0 0, .int .i64 0, .int .i64 0, .int .i64 0, .slice none 0 0, .int .i64 0, .int .i64 0, .int .i64 0, .int .i64 0, .slice none 0 0]
      replace o1:=below_setRow (g:=sb) o1 z91 #[.int .i64 6, .int .i64 0, .int .i64 0, .int .i64 0, .int .i64 0, .int .i64 (p:Nat), .int .i64 0, .int .i64 0, .int .i64 0, .int .i64 0, .int .i64 0, .slice none 0 0, .int .i64 0, .int .i64 0, .int .i64 0, .int .i64 0, .slice none 0 0, .int .i64 0, .int .i64 0, .int .i64 0, .int .i64 0, .int .i64 0, .slice none 0 0, .int .i64 0, .int .i64 0, .int .i64 0, .int .i64 0, .int .i64 0, .int .i64 0, .slice none 0 0, .int .i64 0, .int .i64 0, .int .i64 0, .int .i64 0, .int .i64 0, .slice none 0 0, .int .i64 (p:Nat), .int .i64 0, .int .i64 tt, .slice A5 m5 c5, .int .i64 0, .slice none 0 0, .bool false, .int .i64 0, .int .i64 0, .int .i64 0, .slice none 0 0, .slice none 0 0, .int .i64 0, .int .i64 0, .int .i64 0, .slice none 0 0, .int .i64 0, .int .i64 0, .int .i64 0, .int .i64 0, .slice none 0 0]
      obtain ⟨w11,h11⟩:∃ x,x=w10.setRow sb #[.int .i64 6, .int .i64 0, .int .i64 0, .int .i64 0, .int .i64 0, .int .i64 (p:Nat), .int .i64 0, .int .i64 0, .int .i64 0, .int .i64 0, .int .i64 0, .slice none 0 0, .int .i64 0, .int .i64 0, .int .i64 0, .int .i64 0, .slice none 0 0, .int .i64 0, .int .i64 0, .int .i64 0, .int .i64 0, .int .i64 0, .slice none 0 0, .int .i64 0, .int .i64 0, .int .i64 0, .int .i64 0, .int .i64 0, .int .i64 0, .slice none 0 0, .int .i64 0, .int .i64 0, .int .i64 0, .int .i64 0, .int .i64 0, .slice none 0 0, .int .i64 (p:Nat), .int .i64 0, .int .i64 tt, .slice A5 m5 c5, .int .i64 0, .slice none 0 0, .bool false, .int .i64 0, .int .i64 0, .int .i64 0, .slice none 0 0, .slice none 0 0, .int .i64 0, .int .i64 0, .int .i64 0, .slice none 0 0, .int .i64 0, .int .i64 0, .int .i64 0, .int .i64 0, .slice none 0 0]:=⟨_,rfl⟩
      rw [← h11] at SR in5 X o o1 ⊢
      clear h11 hone hb fr5 in1 IO1 PAD
      obtain ⟨X0,X1,X2,X3,X4,X5,X6,X7,Xf0,Xf1,Xf2,Xf3,Xf4,Xf5,Xf6,Xf7⟩:=row_eight X
      go_wp2_with (with_reducible refine wpList_lsyn SR rfl rfl _ rfl rfl ?_)
      clear X0 Xf0 X1 Xf1 X2 Xf2 X3 Xf3 X4 Xf4 X5 Xf5 X6 Xf6 X7 Xf7
      have FT1:Fit 0 tt its:=fun x hx=>by have:=HIV.out x hx;exact ⟨this.1,by omega,this.2.2⟩
      have PE:=fun w' (hb:Below w7.heap.size w7 w')=>pexpoly p 0 tt A1 its.length c1 its w' hp4 (by omega) (by omega) (by omega) FT1 (HRD.out w' hb) (by omega)
      have FT2:Fit 0 tt [(⟨tt,1⟩:Itm)]:=fun x hx=>by obtain rfl:x=⟨tt,1⟩:=(by simpa using hx);exact ⟨by show (0:Int)≤tt;omega,Int.le_refl _,by show (0:Int)≤1;omega,by show (1:Int)≤4096;omega⟩
      have PF:=fun A c w1 hr=>pexpoly p 0 tt A 1 c [⟨tt,1⟩] w1 hp4 (by omega) (by omega) (by omega) FT2 hr (by omega)
      have e2:pmom 0 [(⟨tt,1⟩:Itm)] p=powN (ageN 0 tt) p:=by
        rw [pmom_cons,pmom_nil]
        unfold powT
        simp
      rw [e2] at PF
      refine (tpAsk in5 0 0).mono ?_
      rintro e w12 ⟨he,hb⟩
      clear FT1 FT2 e2
      generalize pmom 0 its p=cw at PE he
      generalize powN (ageN 0 tt) p=dn at PF he
      replace PE:=Lib.hid PE
      replace PF:=Lib.hid PF
      subst he
      replace X:=row_call X hb
      replace o:=o.trans (hb.mono o.size)
      replace o1:=o1.trans (hb.mono o1.size)
      clear hb in5 IO5 SR
      have hone:(#[.int .i64 0, .int .i64 0, .int .i64 0, .int .i64 0, .int .i64 0, .int .i64 0, .slice none 0 0, .int .u64 (hi cw), .int .u64 (lo cw), .int .u64 (hi dn), .int .u64 (lo dn)]:Array Value).all (·.oneCell')=true:=all_one rfl
      have SZ:Row (w12.alloc (.cells #[.int .i64 0, .int .i64 0, .int .i64 0, .int .i64 0, .int .i64 0, .int .i64 0, .slice none 0 0, .int .u64 0, .int .u64 0, .int .u64 0, .int .u64 0] 71)) w12.heap.size 71 #[.int .i64 0, .int .i64 0, .int .i64 0, .int .i64 0, .int .i64 0, .int .i64 0, .slice none 0 0, .int .u64 0, .int .u64 0, .int .u64 0, .int .u64 0]:=row_new rfl
      go_upto_region 19 with (with_reducible refine wpList_sans SZ rfl rfl hone rfl _ _ rfl rfl rfl ?_)
      have abR:=row_setRow (cs:=#[.int .i64 0, .int .i64 0, .int .i64 0, .int .i64 0, .int .i64 0, .int .i64 0, .slice none 0 0, .int .u64 (hi cw), .int .u64 (lo cw), .int .u64 (hi dn), .int .u64 (lo dn)]) SZ
      replace X:=row_setRow_other (g:=w12.heap.size) (cs':=#[.int .i64 0, .int .i64 0, .int .i64 0, .int .i64 0, .int .i64 0, .int .i64 0, .slice none 0 0, .int .u64 (hi cw), .int .u64 (lo cw), .int .u64 (hi dn), .int .u64 (lo dn)]) (row_alloc X (.cells #[.int .i64 0, .int .i64 0, .int .i64 0, .int .i64 0, .int .i64 0, .int .i64 0, .slice none 0 0, .int .u64 0, .int .u64 0, .int .u64 0, .int .u64 0] 71)) (by have:=row_lt X;omega)
      replace o:=below_setRow (g:=w12.heap.size) (o.alloc o.size (.cells #[.int .i64 0, .int .i64 0, .int .i64 0, .int .i64 0, .int .i64 0, .int .i64 0, .slice none 0 0, .int .u64 0, .int .u64 0, .int .u64 0, .int .u64 0] 71)) o.size #[.int .i64 0, .int .i64 0, .int .i64 0, .int .i64 0, .int .i64 0, .int .i64 0, .slice none 0 0, .int .u64 (hi cw), .int .u64 (lo cw), .int .u64 (hi dn), .int .u64 (lo dn)]
      replace o1:=below_setRow (g:=w12.heap.size) (o1.alloc o1.size (.cells #[.int .i64 0, .int .i64 0, .int .i64 0, .int .i64 0, .int .i64 0, .int .i64 0, .slice none 0 0, .int .u64 0, .int .u64 0, .int .u64 0, .int .u64 0] 71)) o1.size #[.int .i64 0, .int .i64 0, .int .i64 0, .int .i64 0, .int .i64 0, .int .i64 0, .slice none 0 0, .int .u64 (hi cw), .int .u64 (lo cw), .int .u64 (hi dn), .int .u64 (lo dn)]
      obtain ⟨w13,hw13⟩:∃ x,x=(w12.alloc (.cells #[.int .i64 0, .int .i64 0, .int .i64 0, .int .i64 0, .int .i64 0, .int .i64 0, .slice none 0 0, .int .u64 0, .int .u64 0, .int .u64 0, .int .u64 0] 71)).setRow w12.heap.size #[.int .i64 0, .int .i64 0, .int .i64 0, .int .i64 0, .int .i64 0, .int .i64 0, .slice none 0 0, .int .u64 (hi cw), .int .u64 (lo cw), .int .u64 (hi dn), .int .u64 (lo dn)]:=⟨_,rfl⟩
      rw [← hw13] at abR X o o1 ⊢
      clear hw13 SZ hone
      generalize w12.heap.size=ab at abR ⊢
      obtain ⟨X0,X1,X2,X3,X4,X5,X6,X7,Xf0,Xf1,Xf2,Xf3,Xf4,Xf5,Xf6,Xf7⟩:=row_eight X
      go_wp2_with fail
      clear X0 Xf0 X1 Xf1 X2 Xf2 X3 Xf3 X4 Xf4 X5 Xf5 X6 Xf6 X7 Xf7
      refine (PE.out _ o1).mono ?_
      rintro e w14 ⟨rfl,hb⟩
      replace X:=row_call X hb
      replace abR:=row_call abR hb
      replace o:=o.trans (hb.mono o.size)
      clear hb PE
      go_upto_region 23 with (fail)
      have FZ:Row (w14.alloc (.cells #[.int .u64 (hi cw), .int .u64 (lo cw)] 67)) w14.heap.size 67 #[.int .u64 (hi cw), .int .u64 (lo cw)]:=row_new rfl
      replace abR:=row_alloc abR (.cells #[.int .u64 (hi cw), .int .u64 (lo cw)] 67)
      replace X:=row_alloc X (.cells #[.int .u64 (hi cw), .int .u64 (lo cw)] 67)
      replace o:=o.alloc o.size (.cells #[.int .u64 (hi cw), .int .u64 (lo cw)] 67)
      generalize w14.alloc (.cells #[.int .u64 (hi cw), .int .u64 (lo cw)] 67)=w15 at abR FZ X o ⊢
      generalize w14.heap.size=fb at FZ ⊢
      have x5:=row_cell (row_alloc X (.cells #[.int .i64 tt, .int .i64 1] 90)) 5
      go_wp2_with fail
      clear x5
      have NI:Reads (w15.alloc (.cells #[.int .i64 tt, .int .i64 1] 90)) (w15.alloc (.cells #[.int .i64 tt, .int .i64 1] 90)).heap.size 2 (some ⟨w15.heap.size,0,none⟩) 1 (icells [(⟨tt,1⟩:Itm)]):=(own_new (w:=w15) (e:=90) (size:=2) (n:=1) (cs:=#[.int .i64 tt, .int .i64 1]) rfl (by unfold maxLen;omega) (by first | (simp;done) | omega | decide)).reads
      refine (PF.out _ _ _ NI).mono ?_
      rintro e w16 ⟨rfl,hb⟩
      replace abR:=row_call (row_alloc abR (.cells #[.int .i64 tt, .int .i64 1] 90)) hb
      replace FZ:=row_call (row_alloc FZ (.cells #[.int .i64 tt, .int .i64 1] 90)) hb
      replace o:=(o.alloc o.size (.cells #[.int .i64 tt, .int .i64 1] 90)).trans (hb.mono (o.alloc o.size (.cells #[.int .i64 tt, .int .i64 1] 90)).size)
      clear hb PF NI X
      go_upto_region 24 with (fail)
      have GZ:Row (w16.alloc (.cells #[.int .u64 (hi dn), .int .u64 (lo dn)] 67)) w16.heap.size 67 #[.int .u64 (hi dn), .int .u64 (lo dn)]:=row_new rfl
      replace abR:=row_alloc abR (.cells #[.int .u64 (hi dn), .int .u64 (lo dn)] 67)
      replace FZ:=row_alloc FZ (.cells #[.int .u64 (hi dn), .int .u64 (lo dn)] 67)
      replace o:=o.alloc o.size (.cells #[.int .u64 (hi dn), .int .u64 (lo dn)] 67)
      generalize w16.alloc (.cells #[.int .u64 (hi dn), .int .u64 (lo dn)] 67)=w17 at abR FZ GZ o ⊢
      generalize w16.heap.size=gb at GZ ⊢
      obtain ⟨F0,F1,_,_⟩:=row_two FZ
      obtain ⟨G0,G1,_,_⟩:=row_two GZ
      have a7:=row_cell abR 7
      have a8:=row_cell abR 8
      have a9:=row_cell abR 9
      have a10:=row_cell abR 10
      go_wp2_with fail
      refine (PW.out _).mono ?_
      rintro e w99 ⟨rfl,hb⟩
      replace o:=o.trans (hb.mono o.size)
      clear hb
      go_wp2
      go_ret
      exact ⟨by first | rfl | exact ret_bool (by simp) | simp,o⟩
end Go.Proofs.YtdipoojjlddohaaGreat
end
