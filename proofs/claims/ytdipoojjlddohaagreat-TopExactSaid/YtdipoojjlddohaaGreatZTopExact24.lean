/- What the law TopExact needs, joined of its texts by a program (slim2.py); part 24. -/
import Derived.Test.YtdipoojjlddohaaGreatZTopExact1
import Derived.Test.YtdipoojjlddohaaGreatZTopExact3
import Derived.Test.YtdipoojjlddohaaGreatZTopExact6
import Derived.Test.YtdipoojjlddohaaGreatZTopExact7
import Derived.Test.YtdipoojjlddohaaGreatZTopExact23
set_option linter.unusedVariables false
set_option linter.unusedSimpArgs false
set_option linter.unusedSectionVars false
set_option linter.unnecessarySimpa false
section
/- The configurations of the law TopExact, walked. -/
namespace Go.Proofs.YtdipoojjlddohaaGreat
open Go.RowKit
section
variable {P:Program} {ops:Array Oper} {md:Region.Mode} {S:World→Prop} {Q:Exit→Act→World→Prop} {n g u f:Nat} {tail:List Oper} {listed:Array Bool} {a:Act} {w:World}
theorem hu_after {i:Nat} {oi:Oper} (hi:ops[i]?=some oi) (hin:i<n) (hr:Region.ready md ops listed=[i]) (hl:(listed.setIfInBounds i true).getD u true=true)
    (h:∀ K:Act→World→Prop,(∀ a' w',HU P md ops S Q n g u tail f (listed.setIfInBounds i true) a' w'→K a' w')→if Region.wanted oi (yielded ops a.tmps)=true then Oper.wp P oi a w K Q else K (a.put oi.dst undef) w):HU P md ops S Q n g u tail (f+1) listed a w:=fun inv=>by
  refine ⟨by rw [hr];simp,fun j hj=>?_⟩
  have hj':=hj
  rw [hr] at hj
  obtain rfl:j=i:=by simpa using hj
  refine ⟨hin,?_⟩
  have:=h (fun a' w'=>((listed.setIfInBounds j true).getD u true=false→S w')∧HeadU P md ops S Q n g u tail f (listed.setIfInBounds j true) a' w') (fun a' w' hh=>⟨fun e=>(by rw [hl] at e;cases e),hh (inv.set hj' hin)⟩)
  unfold wpOp
  simp only [hi]
  split at this
  · rename_i hw
    simp only [hw,if_true]
    exact .inl this
  · rename_i hw
    simp only [hw]
    exact this
end
set_option maxRecDepth 100000 in
set_option maxHeartbeats 4000000 in
theorem pplainExtreme (x1 x2 x3 x4 x5 x6 x7:Int) (w:World):Calls Tryz.prog 60 #[.agg #[.int .i64 8, .int .i64 x1, .int .i64 x2, .int .i64 x3, .int .i64 x4, .int .i64 x5, .int .i64 x6, .int .i64 x7]] w fun e w'=>e = .returned (.agg #[.int .i64 8, .int .i64 0, .int .i64 x2, .int .i64 0, .int .i64 x4, .int .i64 0, .int .i64 0, .int .i64 x7])∧Below w.heap.size w w':=by
  go_enter Tryz.func60,Tryz.ntmps60
  go_upto_region 1 with (fail)
  have X:Row ((w.alloc (.cells #[.int .i64 8, .int .i64 x1, .int .i64 x2, .int .i64 x3, .int .i64 x4, .int .i64 x5, .int .i64 x6, .int .i64 x7] 27)).alloc (.cells #[.int .i64 0, .int .i64 0, .int .i64 0, .int .i64 0, .int .i64 0, .int .i64 0, .int .i64 0, .int .i64 0] 27)) (w.heap.size) 27 #[.int .i64 8, .int .i64 x1, .int .i64 x2, .int .i64 x3, .int .i64 x4, .int .i64 x5, .int .i64 x6, .int .i64 x7]:=row_alloc (row_new rfl) _
  have R:Row ((w.alloc (.cells #[.int .i64 8, .int .i64 x1, .int .i64 x2, .int .i64 x3, .int .i64 x4, .int .i64 x5, .int .i64 x6, .int .i64 x7] 27)).alloc (.cells #[.int .i64 0, .int .i64 0, .int .i64 0, .int .i64 0, .int .i64 0, .int .i64 0, .int .i64 0, .int .i64 0] 27)) (w.heap.size+1) 27 #[.int .i64 0, .int .i64 0, .int .i64 0, .int .i64 0, .int .i64 0, .int .i64 0, .int .i64 0, .int .i64 0]:=row_new (by simp)
  have o:Below w.heap.size w ((w.alloc (.cells #[.int .i64 8, .int .i64 x1, .int .i64 x2, .int .i64 x3, .int .i64 x4, .int .i64 x5, .int .i64 x6, .int .i64 x7] 27)).alloc (.cells #[.int .i64 0, .int .i64 0, .int .i64 0, .int .i64 0, .int .i64 0, .int .i64 0, .int .i64 0, .int .i64 0] 27)):=by (repeat (first | exact Below.refl _ _ | refine Below.setCell ?_ (by (try simp)<;>omega) _ | refine Below.alloc ?_ (by (try simp)<;>omega) _ | refine Below.drew ?_ | refine Below.trans ?_ (Below.mono (by assumption) (by (try simp)<;>omega))))
  have z:((w.alloc (.cells #[.int .i64 8, .int .i64 x1, .int .i64 x2, .int .i64 x3, .int .i64 x4, .int .i64 x5, .int .i64 x6, .int .i64 x7] 27)).alloc (.cells #[.int .i64 0, .int .i64 0, .int .i64 0, .int .i64 0, .int .i64 0, .int .i64 0, .int .i64 0, .int .i64 0] 27)).heap.size=w.heap.size+2:=by simp
  generalize ((w.alloc (.cells #[.int .i64 8, .int .i64 x1, .int .i64 x2, .int .i64 x3, .int .i64 x4, .int .i64 x5, .int .i64 x6, .int .i64 x7] 27)).alloc (.cells #[.int .i64 0, .int .i64 0, .int .i64 0, .int .i64 0, .int .i64 0, .int .i64 0, .int .i64 0, .int .i64 0] 27))=w1 at X R o z ⊢
  obtain ⟨X0,X1,X2,X3,X4,X5,X6,X7,Xf0,Xf1,Xf2,Xf3,Xf4,Xf5,Xf6,Xf7⟩:=row_eight X
  go_upto_region 2 with (fail)
  try rw [z]
  have O:Row (w1.alloc (.cells #[.int .i64 8, .int .i64 0, .int .i64 0, .int .i64 0, .int .i64 0, .int .i64 0, .int .i64 0, .int .i64 0] 27)) (w.heap.size+2) 27 #[.int .i64 8, .int .i64 0, .int .i64 0, .int .i64 0, .int .i64 0, .int .i64 0, .int .i64 0, .int .i64 0]:=row_new z.symm
  replace X:=row_alloc X (.cells #[.int .i64 8, .int .i64 0, .int .i64 0, .int .i64 0, .int .i64 0, .int .i64 0, .int .i64 0, .int .i64 0] 27)
  replace R:=row_alloc R (.cells #[.int .i64 8, .int .i64 0, .int .i64 0, .int .i64 0, .int .i64 0, .int .i64 0, .int .i64 0, .int .i64 0] 27)
  replace o:=o.alloc o.size (.cells #[.int .i64 8, .int .i64 0, .int .i64 0, .int .i64 0, .int .i64 0, .int .i64 0, .int .i64 0, .int .i64 0] 27)
  clear X0 Xf0 X1 Xf1 X2 Xf2 X3 Xf3 X4 Xf4 X5 Xf5 X6 Xf6 X7 Xf7 z
  generalize w1.alloc (.cells #[.int .i64 8, .int .i64 0, .int .i64 0, .int .i64 0, .int .i64 0, .int .i64 0, .int .i64 0, .int .i64 0] 27)=w2 at X R O o ⊢
  obtain ⟨X0,X1,X2,X3,X4,X5,X6,X7,Xf0,Xf1,Xf2,Xf3,Xf4,Xf5,Xf6,Xf7⟩:=row_eight X
  go_upto_region 18 with (fail)
  clear X0 Xf0 X1 Xf1 X2 Xf2 X3 Xf3 X4 Xf4 X5 Xf5 X6 Xf6 X7 Xf7
  refine wp_region_phase 11 (fun w'=>Row w' (w.heap.size) 27 #[.int .i64 8, .int .i64 x1, .int .i64 x2, .int .i64 x3, .int .i64 x4, .int .i64 x5, .int .i64 x6, .int .i64 x7]∧Below w.heap.size w w') (by kernel_rfl) (by kernel_rfl) (by kernel_rfl) (by kernel_rfl) (by kernel_rfl) (fun HOK=>?_)
  have HS:=(⟨row_drew X,o.drew⟩:Row w2.drew (w.heap.size) 27 #[.int .i64 8, .int .i64 x1, .int .i64 x2, .int .i64 x3, .int .i64 x4, .int .i64 x5, .int .i64 x6, .int .i64 x7]∧Below w.heap.size w w2.drew)
  (refine hw_take HOK (i:=0) ?_ rfl (by decide) (by kernel_rfl) (by kernel_rfl) (by exact fun _ _ _ h=>h) (Or.inl ⟨by rfl,fun w' hS=>?_⟩) HS ?_;rotate_left;(go_simp;try with_reducible rfl);simp only [put9])
  (refine hw_take HOK (i:=1) ?_ rfl (by decide) (by kernel_rfl) (by kernel_rfl) (by exact fun _ _ _ h=>h) (Or.inl ⟨by rfl,fun w' hS=>?_⟩) HS ?_;rotate_left;(obtain ⟨X0,X1,X2,X3,X4,X5,X6,X7,Xf0,Xf1,Xf2,Xf3,Xf4,Xf5,Xf6,Xf7⟩:=row_eight hS.1;go_simp;try with_reducible rfl);simp only [put9])
  (refine hw_take HOK (i:=2) ?_ rfl (by decide) (by kernel_rfl) (by kernel_rfl) (by exact fun _ _ _ h=>h) (Or.inl ⟨by rfl,fun w' hS=>?_⟩) HS ?_;rotate_left;(go_simp;try with_reducible rfl);simp only [put9])
  (refine hw_take HOK (i:=3) ?_ rfl (by decide) (by kernel_rfl) (by kernel_rfl) (by exact fun _ _ _ h=>h) (Or.inl ⟨by rfl,fun w' hS=>?_⟩) HS ?_;rotate_left;(obtain ⟨X0,X1,X2,X3,X4,X5,X6,X7,Xf0,Xf1,Xf2,Xf3,Xf4,Xf5,Xf6,Xf7⟩:=row_eight hS.1;go_simp;try with_reducible rfl);simp only [put9])
  (refine hw_take HOK (i:=4) ?_ rfl (by decide) (by kernel_rfl) (by kernel_rfl) (by exact fun _ _ _ h=>h) (Or.inl ⟨by rfl,fun w' hS=>?_⟩) HS ?_;rotate_left;(go_simp;try with_reducible rfl);simp only [put9])
  (refine hw_take HOK (i:=5) ?_ rfl (by decide) (by kernel_rfl) (by kernel_rfl) (by exact fun _ _ _ h=>h) (Or.inl ⟨by rfl,fun w' hS=>?_⟩) HS ?_;rotate_left;(obtain ⟨X0,X1,X2,X3,X4,X5,X6,X7,Xf0,Xf1,Xf2,Xf3,Xf4,Xf5,Xf6,Xf7⟩:=row_eight hS.1;go_simp;try with_reducible rfl);simp only [put9])
  (refine hw_take HOK (i:=6) ?_ rfl (by decide) (by kernel_rfl) (by kernel_rfl) (by exact fun _ _ _ h=>h) (Or.inl ⟨by rfl,fun w' hS=>?_⟩) HS ?_;rotate_left;(go_simp;try with_reducible rfl);simp only [put9])
  replace X:Row w2.drew (w.heap.size) 27 #[.int .i64 8, .int .i64 x1, .int .i64 x2, .int .i64 x3, .int .i64 x4, .int .i64 x5, .int .i64 x6, .int .i64 x7]:=X
  replace R:Row w2.drew (w.heap.size+1) 27 #[.int .i64 0, .int .i64 0, .int .i64 0, .int .i64 0, .int .i64 0, .int .i64 0, .int .i64 0, .int .i64 0]:=R
  replace O:Row w2.drew (w.heap.size+2) 27 #[.int .i64 8, .int .i64 0, .int .i64 0, .int .i64 0, .int .i64 0, .int .i64 0, .int .i64 0, .int .i64 0]:=O
  replace o:=o.drew
  clear HS
  generalize w2.drew=w3 at X R O o ⊢
  refine hw_one (i:=7) rfl (by decide) (by kernel_rfl) (fun K hK=>?_)
  obtain ⟨y0,y1,y2,y3,y4,y5,y6,y7,yf0,yf1,yf2,yf3,yf4,yf5,yf6,yf7⟩:=row_eight O
  go_simp
  clear y0 yf0 y1 yf1 y2 yf2 y3 yf3 y4 yf4 y5 yf5 y6 yf6 y7 yf7
  replace X:=row_other (p:=⟨w.heap.size+2,2,none⟩) X (by show w.heap.size≠w.heap.size+2;omega) (.int .i64 x2)
  replace R:=row_other (p:=⟨w.heap.size+2,2,none⟩) R (by show w.heap.size+1≠w.heap.size+2;omega) (.int .i64 x2)
  replace O:=row_set O 2 (.int .i64 x2)
  replace o:=o.setCell (p:=⟨w.heap.size+2,2,none⟩) (by show w.heap.size≤w.heap.size+2;omega) (.int .i64 x2)
  replace O:Row (w3.setCell ⟨w.heap.size+2,2,none⟩ (.int .i64 x2)) (w.heap.size+2) 27 #[.int .i64 8, .int .i64 0, .int .i64 x2, .int .i64 0, .int .i64 0, .int .i64 0, .int .i64 0, .int .i64 0]:=O
  generalize (w3.setCell ⟨w.heap.size+2,2,none⟩ (.int .i64 x2))=w3_1 at X R O o ⊢
  refine hK _ _ ⟨X,o⟩ ?_
  clear hK K
  try simp only [put9]
  refine hw_one (i:=8) rfl (by decide) (by kernel_rfl) (fun K hK=>?_)
  go_simp
  refine hK _ _ ⟨X,o⟩ ?_
  clear hK K
  try simp only [put9]
  refine hw_one (i:=9) rfl (by decide) (by kernel_rfl) (fun K hK=>?_)
  obtain ⟨y0,y1,y2,y3,y4,y5,y6,y7,yf0,yf1,yf2,yf3,yf4,yf5,yf6,yf7⟩:=row_eight O
  go_simp
  clear y0 yf0 y1 yf1 y2 yf2 y3 yf3 y4 yf4 y5 yf5 y6 yf6 y7 yf7
  replace X:=row_other (p:=⟨w.heap.size+2,4,none⟩) X (by show w.heap.size≠w.heap.size+2;omega) (.int .i64 x4)
  replace R:=row_other (p:=⟨w.heap.size+2,4,none⟩) R (by show w.heap.size+1≠w.heap.size+2;omega) (.int .i64 x4)
  replace O:=row_set O 4 (.int .i64 x4)
  replace o:=o.setCell (p:=⟨w.heap.size+2,4,none⟩) (by show w.heap.size≤w.heap.size+2;omega) (.int .i64 x4)
  replace O:Row (w3_1.setCell ⟨w.heap.size+2,4,none⟩ (.int .i64 x4)) (w.heap.size+2) 27 #[.int .i64 8, .int .i64 0, .int .i64 x2, .int .i64 0, .int .i64 x4, .int .i64 0, .int .i64 0, .int .i64 0]:=O
  generalize (w3_1.setCell ⟨w.heap.size+2,4,none⟩ (.int .i64 x4))=w3_2 at X R O o ⊢
  refine hK _ _ ⟨X,o⟩ ?_
  clear hK K
  try simp only [put9]
  refine hw_one (i:=10) rfl (by decide) (by kernel_rfl) (fun K hK=>?_)
  go_simp
  refine hK _ _ ⟨X,o⟩ ?_
  clear hK K
  try simp only [put9]
  refine hw_done (by kernel_rfl) ?_
  try simp only [List.drop_succ_cons,List.drop_zero]
  clear HOK
  obtain ⟨y0,y1,y2,y3,y4,y5,y6,y7,yf0,yf1,yf2,yf3,yf4,yf5,yf6,yf7⟩:=row_eight O
  go_upto_region 23 with (fail)
  clear y0 yf0 y1 yf1 y2 yf2 y3 yf3 y4 yf4 y5 yf5 y6 yf6 y7 yf7
  replace X:=row_other (p:=⟨w.heap.size+2,7,none⟩) X (by show w.heap.size≠w.heap.size+2;omega) (.int .i64 x7)
  replace R:=row_other (p:=⟨w.heap.size+2,7,none⟩) R (by show w.heap.size+1≠w.heap.size+2;omega) (.int .i64 x7)
  replace O:=row_set O 7 (.int .i64 x7)
  replace o:=o.setCell (p:=⟨w.heap.size+2,7,none⟩) (by show w.heap.size≤w.heap.size+2;omega) (.int .i64 x7)
  replace O:Row (w3_2.setCell ⟨w.heap.size+2,7,none⟩ (.int .i64 x7)) (w.heap.size+2) 27 #[.int .i64 8, .int .i64 0, .int .i64 x2, .int .i64 0, .int .i64 x4, .int .i64 0, .int .i64 0, .int .i64 x7]:=O
  generalize (w3_2.setCell ⟨w.heap.size+2,7,none⟩ (.int .i64 x7))=w3_3 at X R O o ⊢
  clear X
  replace O:Row w3_3 (w.heap.size+2) 27 #[.int .i64 8, .int .i64 0, .int .i64 x2, .int .i64 0, .int .i64 x4, .int .i64 0, .int .i64 0, .int .i64 x7]:=O
  generalize w3_3=w5 at R O o ⊢
  obtain ⟨Y0,Y1,Y2,Y3,Y4,Y5,Y6,Y7,Yf0,Yf1,Yf2,Yf3,Yf4,Yf5,Yf6,Yf7⟩:=row_eight O
  obtain ⟨R0,R1,R2,R3,R4,R5,R6,R7,Rf0,Rf1,Rf2,Rf3,Rf4,Rf5,Rf6,Rf7⟩:=row_eight R
  go_wp2
  have Sr0:=row_set R 0 (.int .i64 8)
  have Sr1:=row_set Sr0 1 (.int .i64 0)
  have Sr2:=row_set Sr1 2 (.int .i64 x2)
  have Sr3:=row_set Sr2 3 (.int .i64 0)
  have Sr4:=row_set Sr3 4 (.int .i64 x4)
  have Sr5:=row_set Sr4 5 (.int .i64 0)
  have Sr6:=row_set Sr5 6 (.int .i64 0)
  have Sr7:=row_set Sr6 7 (.int .i64 x7)
  have o90:=o.setCell (p:=⟨w.heap.size+1,0,none⟩) (by show w.heap.size≤w.heap.size+1;omega) (.int .i64 8)
  have o91:=o90.setCell (p:=⟨w.heap.size+1,1,none⟩) (by show w.heap.size≤w.heap.size+1;omega) (.int .i64 0)
  have o92:=o91.setCell (p:=⟨w.heap.size+1,2,none⟩) (by show w.heap.size≤w.heap.size+1;omega) (.int .i64 x2)
  have o93:=o92.setCell (p:=⟨w.heap.size+1,3,none⟩) (by show w.heap.size≤w.heap.size+1;omega) (.int .i64 0)
  have o94:=o93.setCell (p:=⟨w.heap.size+1,4,none⟩) (by show w.heap.size≤w.heap.size+1;omega) (.int .i64 x4)
  have o95:=o94.setCell (p:=⟨w.heap.size+1,5,none⟩) (by show w.heap.size≤w.heap.size+1;omega) (.int .i64 0)
  have o96:=o95.setCell (p:=⟨w.heap.size+1,6,none⟩) (by show w.heap.size≤w.heap.size+1;omega) (.int .i64 0)
  have o97:=o96.setCell (p:=⟨w.heap.size+1,7,none⟩) (by show w.heap.size≤w.heap.size+1;omega) (.int .i64 x7)
  obtain ⟨S0,S1,S2,S3,S4,S5,S6,S7,_,_,_,_,_,_,_,_⟩:=row_eight Sr7
  exact bodyPost_ret (v := .agg #[.int .i64 8, .int .i64 0, .int .i64 x2, .int .i64 0, .int .i64 x4, .int .i64 0, .int .i64 0, .int .i64 x7]) (by simp [results,Tryz.results60,go_sem,S0,S1,S2,S3,S4,S5,S6,S7]) rfl ⟨rfl,o97⟩
set_option maxRecDepth 100000 in
set_option maxHeartbeats 4000000 in
theorem pplainPoly (x1 x2 x3 x4 x5 x6 x7:Int) (w:World):Calls Tryz.prog 60 #[.agg #[.int .i64 6, .int .i64 x1, .int .i64 x2, .int .i64 x3, .int .i64 x4, .int .i64 x5, .int .i64 x6, .int .i64 x7]] w fun e w'=>e = .returned (.agg #[.int .i64 6, .int .i64 0, .int .i64 0, .int .i64 0, .int .i64 0, .int .i64 x5, .int .i64 0, .int .i64 0])∧Below w.heap.size w w':=by
  go_enter Tryz.func60,Tryz.ntmps60
  go_upto_region 1 with (fail)
  have X:Row ((w.alloc (.cells #[.int .i64 6, .int .i64 x1, .int .i64 x2, .int .i64 x3, .int .i64 x4, .int .i64 x5, .int .i64 x6, .int .i64 x7] 27)).alloc (.cells #[.int .i64 0, .int .i64 0, .int .i64 0, .int .i64 0, .int .i64 0, .int .i64 0, .int .i64 0, .int .i64 0] 27)) (w.heap.size) 27 #[.int .i64 6, .int .i64 x1, .int .i64 x2, .int .i64 x3, .int .i64 x4, .int .i64 x5, .int .i64 x6, .int .i64 x7]:=row_alloc (row_new rfl) _
  have R:Row ((w.alloc (.cells #[.int .i64 6, .int .i64 x1, .int .i64 x2, .int .i64 x3, .int .i64 x4, .int .i64 x5, .int .i64 x6, .int .i64 x7] 27)).alloc (.cells #[.int .i64 0, .int .i64 0, .int .i64 0, .int .i64 0, .int .i64 0, .int .i64 0, .int .i64 0, .int .i64 0] 27)) (w.heap.size+1) 27 #[.int .i64 0, .int .i64 0, .int .i64 0, .int .i64 0, .int .i64 0, .int .i64 0, .int .i64 0, .int .i64 0]:=row_new (by simp)
  have o:Below w.heap.size w ((w.alloc (.cells #[.int .i64 6, .int .i64 x1, .int .i64 x2, .int .i64 x3, .int .i64 x4, .int .i64 x5, .int .i64 x6, .int .i64 x7] 27)).alloc (.cells #[.int .i64 0, .int .i64 0, .int .i64 0, .int .i64 0, .int .i64 0, .int .i64 0, .int .i64 0, .int .i64 0] 27)):=by (repeat (first | exact Below.refl _ _ | refine Below.setCell ?_ (by (try simp)<;>omega) _ | refine Below.alloc ?_ (by (try simp)<;>omega) _ | refine Below.drew ?_ | refine Below.trans ?_ (Below.mono (by assumption) (by (try simp)<;>omega))))
  have z:((w.alloc (.cells #[.int .i64 6, .int .i64 x1, .int .i64 x2, .int .i64 x3, .int .i64 x4, .int .i64 x5, .int .i64 x6, .int .i64 x7] 27)).alloc (.cells #[.int .i64 0, .int .i64 0, .int .i64 0, .int .i64 0, .int .i64 0, .int .i64 0, .int .i64 0, .int .i64 0] 27)).heap.size=w.heap.size+2:=by simp
  generalize ((w.alloc (.cells #[.int .i64 6, .int .i64 x1, .int .i64 x2, .int .i64 x3, .int .i64 x4, .int .i64 x5, .int .i64 x6, .int .i64 x7] 27)).alloc (.cells #[.int .i64 0, .int .i64 0, .int .i64 0, .int .i64 0, .int .i64 0, .int .i64 0, .int .i64 0, .int .i64 0] 27))=w1 at X R o z ⊢
  obtain ⟨X0,X1,X2,X3,X4,X5,X6,X7,Xf0,Xf1,Xf2,Xf3,Xf4,Xf5,Xf6,Xf7⟩:=row_eight X
  go_upto_region 2 with (fail)
  try rw [z]
  have O:Row (w1.alloc (.cells #[.int .i64 6, .int .i64 0, .int .i64 0, .int .i64 0, .int .i64 0, .int .i64 0, .int .i64 0, .int .i64 0] 27)) (w.heap.size+2) 27 #[.int .i64 6, .int .i64 0, .int .i64 0, .int .i64 0, .int .i64 0, .int .i64 0, .int .i64 0, .int .i64 0]:=row_new z.symm
  replace X:=row_alloc X (.cells #[.int .i64 6, .int .i64 0, .int .i64 0, .int .i64 0, .int .i64 0, .int .i64 0, .int .i64 0, .int .i64 0] 27)
  replace R:=row_alloc R (.cells #[.int .i64 6, .int .i64 0, .int .i64 0, .int .i64 0, .int .i64 0, .int .i64 0, .int .i64 0, .int .i64 0] 27)
  replace o:=o.alloc o.size (.cells #[.int .i64 6, .int .i64 0, .int .i64 0, .int .i64 0, .int .i64 0, .int .i64 0, .int .i64 0, .int .i64 0] 27)
  clear X0 Xf0 X1 Xf1 X2 Xf2 X3 Xf3 X4 Xf4 X5 Xf5 X6 Xf6 X7 Xf7 z
  generalize w1.alloc (.cells #[.int .i64 6, .int .i64 0, .int .i64 0, .int .i64 0, .int .i64 0, .int .i64 0, .int .i64 0, .int .i64 0] 27)=w2 at X R O o ⊢
  obtain ⟨X0,X1,X2,X3,X4,X5,X6,X7,Xf0,Xf1,Xf2,Xf3,Xf4,Xf5,Xf6,Xf7⟩:=row_eight X
  obtain ⟨Y0,Y1,Y2,Y3,Y4,Y5,Y6,Y7,Yf0,Yf1,Yf2,Yf3,Yf4,Yf5,Yf6,Yf7⟩:=row_eight O
  go_upto_region 23 with (fail)
  clear X0 Xf0 X1 Xf1 X2 Xf2 X3 Xf3 X4 Xf4 X5 Xf5 X6 Xf6 X7 Xf7
  replace O:=row_set O 5 (.int .i64 x5)
  replace R:=row_other (p:=⟨w.heap.size+2,5,none⟩) R (by show w.heap.size+1≠w.heap.size+2;omega) (.int .i64 x5)
  replace o:=o.setCell (p:=⟨w.heap.size+2,5,none⟩) (by show w.heap.size≤w.heap.size+2;omega) (.int .i64 x5)
  clear X Y0 Yf0 Y1 Yf1 Y2 Yf2 Y3 Yf3 Y4 Yf4 Y5 Yf5 Y6 Yf6 Y7 Yf7
  replace O:Row (w2.setCell ⟨w.heap.size+2,5,none⟩ (.int .i64 x5)) (w.heap.size+2) 27 #[.int .i64 6, .int .i64 0, .int .i64 0, .int .i64 0, .int .i64 0, .int .i64 x5, .int .i64 0, .int .i64 0]:=O
  generalize (w2.setCell ⟨w.heap.size+2,5,none⟩ (.int .i64 x5))=w5 at R O o ⊢
  obtain ⟨Y0,Y1,Y2,Y3,Y4,Y5,Y6,Y7,Yf0,Yf1,Yf2,Yf3,Yf4,Yf5,Yf6,Yf7⟩:=row_eight O
  obtain ⟨R0,R1,R2,R3,R4,R5,R6,R7,Rf0,Rf1,Rf2,Rf3,Rf4,Rf5,Rf6,Rf7⟩:=row_eight R
  go_wp2
  have Sr0:=row_set R 0 (.int .i64 6)
  have Sr1:=row_set Sr0 1 (.int .i64 0)
  have Sr2:=row_set Sr1 2 (.int .i64 0)
  have Sr3:=row_set Sr2 3 (.int .i64 0)
  have Sr4:=row_set Sr3 4 (.int .i64 0)
  have Sr5:=row_set Sr4 5 (.int .i64 x5)
  have Sr6:=row_set Sr5 6 (.int .i64 0)
  have Sr7:=row_set Sr6 7 (.int .i64 0)
  have o90:=o.setCell (p:=⟨w.heap.size+1,0,none⟩) (by show w.heap.size≤w.heap.size+1;omega) (.int .i64 6)
  have o91:=o90.setCell (p:=⟨w.heap.size+1,1,none⟩) (by show w.heap.size≤w.heap.size+1;omega) (.int .i64 0)
  have o92:=o91.setCell (p:=⟨w.heap.size+1,2,none⟩) (by show w.heap.size≤w.heap.size+1;omega) (.int .i64 0)
  have o93:=o92.setCell (p:=⟨w.heap.size+1,3,none⟩) (by show w.heap.size≤w.heap.size+1;omega) (.int .i64 0)
  have o94:=o93.setCell (p:=⟨w.heap.size+1,4,none⟩) (by show w.heap.size≤w.heap.size+1;omega) (.int .i64 0)
  have o95:=o94.setCell (p:=⟨w.heap.size+1,5,none⟩) (by show w.heap.size≤w.heap.size+1;omega) (.int .i64 x5)
  have o96:=o95.setCell (p:=⟨w.heap.size+1,6,none⟩) (by show w.heap.size≤w.heap.size+1;omega) (.int .i64 0)
  have o97:=o96.setCell (p:=⟨w.heap.size+1,7,none⟩) (by show w.heap.size≤w.heap.size+1;omega) (.int .i64 0)
  obtain ⟨S0,S1,S2,S3,S4,S5,S6,S7,_,_,_,_,_,_,_,_⟩:=row_eight Sr7
  exact bodyPost_ret (v := .agg #[.int .i64 6, .int .i64 0, .int .i64 0, .int .i64 0, .int .i64 0, .int .i64 x5, .int .i64 0, .int .i64 0]) (by simp [results,Tryz.results60,go_sem,S0,S1,S2,S3,S4,S5,S6,S7]) rfl ⟨rfl,o97⟩
set_option maxRecDepth 100000 in
set_option maxHeartbeats 4000000 in
theorem pplainHalve (x1 x2 x3 x4 x5 x6 x7:Int) (w:World):Calls Tryz.prog 60 #[.agg #[.int .i64 7, .int .i64 x1, .int .i64 x2, .int .i64 x3, .int .i64 x4, .int .i64 x5, .int .i64 x6, .int .i64 x7]] w fun e w'=>e = .returned (.agg #[.int .i64 7, .int .i64 0, .int .i64 x2, .int .i64 0, .int .i64 0, .int .i64 0, .int .i64 0, .int .i64 0])∧Below w.heap.size w w':=by
  go_enter Tryz.func60,Tryz.ntmps60
  go_upto_region 1 with (fail)
  have X:Row ((w.alloc (.cells #[.int .i64 7, .int .i64 x1, .int .i64 x2, .int .i64 x3, .int .i64 x4, .int .i64 x5, .int .i64 x6, .int .i64 x7] 27)).alloc (.cells #[.int .i64 0, .int .i64 0, .int .i64 0, .int .i64 0, .int .i64 0, .int .i64 0, .int .i64 0, .int .i64 0] 27)) (w.heap.size) 27 #[.int .i64 7, .int .i64 x1, .int .i64 x2, .int .i64 x3, .int .i64 x4, .int .i64 x5, .int .i64 x6, .int .i64 x7]:=row_alloc (row_new rfl) _
  have R:Row ((w.alloc (.cells #[.int .i64 7, .int .i64 x1, .int .i64 x2, .int .i64 x3, .int .i64 x4, .int .i64 x5, .int .i64 x6, .int .i64 x7] 27)).alloc (.cells #[.int .i64 0, .int .i64 0, .int .i64 0, .int .i64 0, .int .i64 0, .int .i64 0, .int .i64 0, .int .i64 0] 27)) (w.heap.size+1) 27 #[.int .i64 0, .int .i64 0, .int .i64 0, .int .i64 0, .int .i64 0, .int .i64 0, .int .i64 0, .int .i64 0]:=row_new (by simp)
  have o:Below w.heap.size w ((w.alloc (.cells #[.int .i64 7, .int .i64 x1, .int .i64 x2, .int .i64 x3, .int .i64 x4, .int .i64 x5, .int .i64 x6, .int .i64 x7] 27)).alloc (.cells #[.int .i64 0, .int .i64 0, .int .i64 0, .int .i64 0, .int .i64 0, .int .i64 0, .int .i64 0, .int .i64 0] 27)):=by (repeat (first | exact Below.refl _ _ | refine Below.setCell ?_ (by (try simp)<;>omega) _ | refine Below.alloc ?_ (by (try simp)<;>omega) _ | refine Below.drew ?_ | refine Below.trans ?_ (Below.mono (by assumption) (by (try simp)<;>omega))))
  have z:((w.alloc (.cells #[.int .i64 7, .int .i64 x1, .int .i64 x2, .int .i64 x3, .int .i64 x4, .int .i64 x5, .int .i64 x6, .int .i64 x7] 27)).alloc (.cells #[.int .i64 0, .int .i64 0, .int .i64 0, .int .i64 0, .int .i64 0, .int .i64 0, .int .i64 0, .int .i64 0] 27)).heap.size=w.heap.size+2:=by simp
  generalize ((w.alloc (.cells #[.int .i64 7, .int .i64 x1, .int .i64 x2, .int .i64 x3, .int .i64 x4, .int .i64 x5, .int .i64 x6, .int .i64 x7] 27)).alloc (.cells #[.int .i64 0, .int .i64 0, .int .i64 0, .int .i64 0, .int .i64 0, .int .i64 0, .int .i64 0, .int .i64 0] 27))=w1 at X R o z ⊢
  obtain ⟨X0,X1,X2,X3,X4,X5,X6,X7,Xf0,Xf1,Xf2,Xf3,Xf4,Xf5,Xf6,Xf7⟩:=row_eight X
  go_upto_region 2 with (fail)
  try rw [z]
  have O:Row (w1.alloc (.cells #[.int .i64 7, .int .i64 0, .int .i64 0, .int .i64 0, .int .i64 0, .int .i64 0, .int .i64 0, .int .i64 0] 27)) (w.heap.size+2) 27 #[.int .i64 7, .int .i64 0, .int .i64 0, .int .i64 0, .int .i64 0, .int .i64 0, .int .i64 0, .int .i64 0]:=row_new z.symm
  replace X:=row_alloc X (.cells #[.int .i64 7, .int .i64 0, .int .i64 0, .int .i64 0, .int .i64 0, .int .i64 0, .int .i64 0, .int .i64 0] 27)
  replace R:=row_alloc R (.cells #[.int .i64 7, .int .i64 0, .int .i64 0, .int .i64 0, .int .i64 0, .int .i64 0, .int .i64 0, .int .i64 0] 27)
  replace o:=o.alloc o.size (.cells #[.int .i64 7, .int .i64 0, .int .i64 0, .int .i64 0, .int .i64 0, .int .i64 0, .int .i64 0, .int .i64 0] 27)
  clear X0 Xf0 X1 Xf1 X2 Xf2 X3 Xf3 X4 Xf4 X5 Xf5 X6 Xf6 X7 Xf7 z
  generalize w1.alloc (.cells #[.int .i64 7, .int .i64 0, .int .i64 0, .int .i64 0, .int .i64 0, .int .i64 0, .int .i64 0, .int .i64 0] 27)=w2 at X R O o ⊢
  obtain ⟨X0,X1,X2,X3,X4,X5,X6,X7,Xf0,Xf1,Xf2,Xf3,Xf4,Xf5,Xf6,Xf7⟩:=row_eight X
  obtain ⟨Y0,Y1,Y2,Y3,Y4,Y5,Y6,Y7,Yf0,Yf1,Yf2,Yf3,Yf4,Yf5,Yf6,Yf7⟩:=row_eight O
  go_upto_region 23 with (fail)
  clear X0 Xf0 X1 Xf1 X2 Xf2 X3 Xf3 X4 Xf4 X5 Xf5 X6 Xf6 X7 Xf7
  replace O:=row_set O 2 (.int .i64 x2)
  replace R:=row_other (p:=⟨w.heap.size+2,2,none⟩) R (by show w.heap.size+1≠w.heap.size+2;omega) (.int .i64 x2)
  replace o:=o.setCell (p:=⟨w.heap.size+2,2,none⟩) (by show w.heap.size≤w.heap.size+2;omega) (.int .i64 x2)
  clear X Y0 Yf0 Y1 Yf1 Y2 Yf2 Y3 Yf3 Y4 Yf4 Y5 Yf5 Y6 Yf6 Y7 Yf7
  replace O:Row (w2.setCell ⟨w.heap.size+2,2,none⟩ (.int .i64 x2)) (w.heap.size+2) 27 #[.int .i64 7, .int .i64 0, .int .i64 x2, .int .i64 0, .int .i64 0, .int .i64 0, .int .i64 0, .int .i64 0]:=O
  generalize (w2.setCell ⟨w.heap.size+2,2,none⟩ (.int .i64 x2))=w5 at R O o ⊢
  obtain ⟨Y0,Y1,Y2,Y3,Y4,Y5,Y6,Y7,Yf0,Yf1,Yf2,Yf3,Yf4,Yf5,Yf6,Yf7⟩:=row_eight O
  obtain ⟨R0,R1,R2,R3,R4,R5,R6,R7,Rf0,Rf1,Rf2,Rf3,Rf4,Rf5,Rf6,Rf7⟩:=row_eight R
  go_wp2
  have Sr0:=row_set R 0 (.int .i64 7)
  have Sr1:=row_set Sr0 1 (.int .i64 0)
  have Sr2:=row_set Sr1 2 (.int .i64 x2)
  have Sr3:=row_set Sr2 3 (.int .i64 0)
  have Sr4:=row_set Sr3 4 (.int .i64 0)
  have Sr5:=row_set Sr4 5 (.int .i64 0)
  have Sr6:=row_set Sr5 6 (.int .i64 0)
  have Sr7:=row_set Sr6 7 (.int .i64 0)
  have o90:=o.setCell (p:=⟨w.heap.size+1,0,none⟩) (by show w.heap.size≤w.heap.size+1;omega) (.int .i64 7)
  have o91:=o90.setCell (p:=⟨w.heap.size+1,1,none⟩) (by show w.heap.size≤w.heap.size+1;omega) (.int .i64 0)
  have o92:=o91.setCell (p:=⟨w.heap.size+1,2,none⟩) (by show w.heap.size≤w.heap.size+1;omega) (.int .i64 x2)
  have o93:=o92.setCell (p:=⟨w.heap.size+1,3,none⟩) (by show w.heap.size≤w.heap.size+1;omega) (.int .i64 0)
  have o94:=o93.setCell (p:=⟨w.heap.size+1,4,none⟩) (by show w.heap.size≤w.heap.size+1;omega) (.int .i64 0)
  have o95:=o94.setCell (p:=⟨w.heap.size+1,5,none⟩) (by show w.heap.size≤w.heap.size+1;omega) (.int .i64 0)
  have o96:=o95.setCell (p:=⟨w.heap.size+1,6,none⟩) (by show w.heap.size≤w.heap.size+1;omega) (.int .i64 0)
  have o97:=o96.setCell (p:=⟨w.heap.size+1,7,none⟩) (by show w.heap.size≤w.heap.size+1;omega) (.int .i64 0)
  obtain ⟨S0,S1,S2,S3,S4,S5,S6,S7,_,_,_,_,_,_,_,_⟩:=row_eight Sr7
  exact bodyPost_ret (v := .agg #[.int .i64 7, .int .i64 0, .int .i64 x2, .int .i64 0, .int .i64 0, .int .i64 0, .int .i64 0, .int .i64 0]) (by simp [results,Tryz.results60,go_sem,S0,S1,S2,S3,S4,S5,S6,S7]) rfl ⟨rfl,o97⟩
set_option maxRecDepth 100000 in
set_option maxHeartbeats 2000000 in
theorem pconfigG (k x0 x1 x2 x3 x4 x5 x6 x7 r0 r1 r2 r3 r4 r5 r6 r7: Int) (w:World) (hk8:(k == 8)=false) (PL:RowKit.Hid (∀ w,Calls Tryz.prog 60 #[.agg #[.int .i64 k, .int .i64 (1+x1 % 4), .int .i64 (1+x2 % 20), .int .i64 (1+x3 % 3), .int .i64 (2+x4 % 60), .int .i64 (x5 % 5), .int .i64 (1+x6 % 2), .int .i64 (1+x7 % 20)]] w fun e w'=>e = .returned (.agg #[.int .i64 r0, .int .i64 r1, .int .i64 r2, .int .i64 r3, .int .i64 r4, .int .i64 r5, .int .i64 r6, .int .i64 r7])∧Below w.heap.size w w')):Calls Tryz.prog 19 #[.agg #[.int .i64 x0, .int .i64 x1, .int .i64 x2, .int .i64 x3, .int .i64 x4, .int .i64 x5, .int .i64 x6, .int .i64 x7], .int .i64 k] w fun e w'=>e = .returned (.agg #[.int .i64 r0, .int .i64 r1, .int .i64 r2, .int .i64 r3, .int .i64 r4, .int .i64 r5, .int .i64 r6, .int .i64 r7])∧Below w.heap.size w w':=by
  have P1:=fun w=>pint x1 4 (by omega) (by omega) w
  have P2:=fun w=>pmod x2 20 (by omega) (by omega) w
  have P3:=fun w=>pint x3 3 (by omega) (by omega) w
  have P4:=fun w=>pint x4 60 (by omega) (by omega) w
  have P5:=fun w=>pint x5 5 (by omega) (by omega) w
  have P6:=fun w=>pint x6 2 (by omega) (by omega) w
  have P7:=fun w=>pmod x7 20 (by omega) (by omega) w
  have wx1:IntKind.i64.wrap (1+x1 % 4)=1+x1 % 4:=IntWalk.i64_in _ (by omega)
  have wx2:IntKind.i64.wrap (1+x2 % 20)=1+x2 % 20:=IntWalk.i64_in _ (by omega)
  have wx3:IntKind.i64.wrap (1+x3 % 3)=1+x3 % 3:=IntWalk.i64_in _ (by omega)
  have wx4:IntKind.i64.wrap (2+x4 % 60)=2+x4 % 60:=IntWalk.i64_in _ (by omega)
  have wx6:IntKind.i64.wrap (1+x6 % 2)=1+x6 % 2:=IntWalk.i64_in _ (by omega)
  have wx7:IntKind.i64.wrap (1+x7 % 20)=1+x7 % 20:=IntWalk.i64_in _ (by omega)
  replace P1:=Lib.hid P1
  replace P2:=Lib.hid P2
  replace P3:=Lib.hid P3
  replace P4:=Lib.hid P4
  replace P5:=Lib.hid P5
  replace P6:=Lib.hid P6
  replace P7:=Lib.hid P7
  go_enter Tryz.func19,Tryz.ntmps19
  go_upto_region 1 with (fail)
  have X:Row ((w.alloc (.cells #[.int .i64 x0, .int .i64 x1, .int .i64 x2, .int .i64 x3, .int .i64 x4, .int .i64 x5, .int .i64 x6, .int .i64 x7] 27)).alloc (.cells #[.int .i64 0, .int .i64 0, .int .i64 0, .int .i64 0, .int .i64 0, .int .i64 0, .int .i64 0, .int .i64 0] 27)) (w.heap.size) 27 #[.int .i64 x0, .int .i64 x1, .int .i64 x2, .int .i64 x3, .int .i64 x4, .int .i64 x5, .int .i64 x6, .int .i64 x7]:=row_alloc (row_new rfl) _
  have R:Row ((w.alloc (.cells #[.int .i64 x0, .int .i64 x1, .int .i64 x2, .int .i64 x3, .int .i64 x4, .int .i64 x5, .int .i64 x6, .int .i64 x7] 27)).alloc (.cells #[.int .i64 0, .int .i64 0, .int .i64 0, .int .i64 0, .int .i64 0, .int .i64 0, .int .i64 0, .int .i64 0] 27)) (w.heap.size+1) 27 #[.int .i64 0, .int .i64 0, .int .i64 0, .int .i64 0, .int .i64 0, .int .i64 0, .int .i64 0, .int .i64 0]:=row_new (by simp)
  have o:Below w.heap.size w ((w.alloc (.cells #[.int .i64 x0, .int .i64 x1, .int .i64 x2, .int .i64 x3, .int .i64 x4, .int .i64 x5, .int .i64 x6, .int .i64 x7] 27)).alloc (.cells #[.int .i64 0, .int .i64 0, .int .i64 0, .int .i64 0, .int .i64 0, .int .i64 0, .int .i64 0, .int .i64 0] 27)):=by (repeat (first | exact Below.refl _ _ | refine Below.setCell ?_ (by (try simp)<;>omega) _ | refine Below.alloc ?_ (by (try simp)<;>omega) _ | refine Below.drew ?_ | refine Below.trans ?_ (Below.mono (by assumption) (by (try simp)<;>omega))))
  generalize ((w.alloc (.cells #[.int .i64 x0, .int .i64 x1, .int .i64 x2, .int .i64 x3, .int .i64 x4, .int .i64 x5, .int .i64 x6, .int .i64 x7] 27)).alloc (.cells #[.int .i64 0, .int .i64 0, .int .i64 0, .int .i64 0, .int .i64 0, .int .i64 0, .int .i64 0, .int .i64 0] 27))=w1 at X R o ⊢
  obtain ⟨X0,X1,X2,X3,X4,X5,X6,X7,Xf0,Xf1,Xf2,Xf3,Xf4,Xf5,Xf6,Xf7⟩:=row_eight X
  go_upto_region 2 with (first | (go_at_call 9;with_reducible refine (P1.out _).mono ?_;rintro e w9 ⟨rfl,h9⟩;obtain rfl:=h9.symm) | (go_at_call 8;with_reducible refine (P2.out _).mono ?_;rintro e w9 ⟨rfl,h9⟩;obtain rfl:=h9.symm) | (go_at_call 9;with_reducible refine (P3.out _).mono ?_;rintro e w9 ⟨rfl,h9⟩;obtain rfl:=h9.symm) | (go_at_call 9;with_reducible refine (P4.out _).mono ?_;rintro e w9 ⟨rfl,h9⟩;obtain rfl:=h9.symm) | (go_at_call 9;with_reducible refine (P5.out _).mono ?_;rintro e w9 ⟨rfl,h9⟩;obtain rfl:=h9.symm) | (go_at_call 9;with_reducible refine (P6.out _).mono ?_;rintro e w9 ⟨rfl,h9⟩;obtain rfl:=h9.symm) | (go_at_call 8;with_reducible refine (P7.out _).mono ?_;rintro e w9 ⟨rfl,h9⟩;obtain rfl:=h9.symm))
  clear X0 Xf0 X1 Xf1 X2 Xf2 X3 Xf3 X4 Xf4 X5 Xf5 X6 Xf6 X7 Xf7
  replace X:=row_set X 0 (.int .i64 k)
  replace R:=row_other (p:=⟨w.heap.size,0,none⟩) R (by show w.heap.size+1≠w.heap.size;omega) (.int .i64 k)
  replace o:=o.setCell (p:=⟨w.heap.size,0,none⟩) (Nat.le_refl _) (.int .i64 k)
  replace X:Row (w1.setCell ⟨w.heap.size,0,none⟩ (.int .i64 k)) (w.heap.size) 27 #[.int .i64 k, .int .i64 x1, .int .i64 x2, .int .i64 x3, .int .i64 x4, .int .i64 x5, .int .i64 x6, .int .i64 x7]:=X
  generalize (w1.setCell ⟨w.heap.size,0,none⟩ (.int .i64 k))=w2 at X R o ⊢
  obtain ⟨X0,X1,X2,X3,X4,X5,X6,X7,Xf0,Xf1,Xf2,Xf3,Xf4,Xf5,Xf6,Xf7⟩:=row_eight X
  go_upto_region 3 with (first | (go_at_call 9;with_reducible refine (P1.out _).mono ?_;rintro e w9 ⟨rfl,h9⟩;obtain rfl:=h9.symm) | (go_at_call 8;with_reducible refine (P2.out _).mono ?_;rintro e w9 ⟨rfl,h9⟩;obtain rfl:=h9.symm) | (go_at_call 9;with_reducible refine (P3.out _).mono ?_;rintro e w9 ⟨rfl,h9⟩;obtain rfl:=h9.symm) | (go_at_call 9;with_reducible refine (P4.out _).mono ?_;rintro e w9 ⟨rfl,h9⟩;obtain rfl:=h9.symm) | (go_at_call 9;with_reducible refine (P5.out _).mono ?_;rintro e w9 ⟨rfl,h9⟩;obtain rfl:=h9.symm) | (go_at_call 9;with_reducible refine (P6.out _).mono ?_;rintro e w9 ⟨rfl,h9⟩;obtain rfl:=h9.symm) | (go_at_call 8;with_reducible refine (P7.out _).mono ?_;rintro e w9 ⟨rfl,h9⟩;obtain rfl:=h9.symm))
  clear X0 Xf0 X1 Xf1 X2 Xf2 X3 Xf3 X4 Xf4 X5 Xf5 X6 Xf6 X7 Xf7
  replace X:=row_set X 1 (.int .i64 (1+x1 % 4))
  replace R:=row_other (p:=⟨w.heap.size,1,none⟩) R (by show w.heap.size+1≠w.heap.size;omega) (.int .i64 (1+x1 % 4))
  replace o:=o.setCell (p:=⟨w.heap.size,1,none⟩) (Nat.le_refl _) (.int .i64 (1+x1 % 4))
  replace X:Row (w2.setCell ⟨w.heap.size,1,none⟩ (.int .i64 (1+x1 % 4))) (w.heap.size) 27 #[.int .i64 k, .int .i64 (1+x1 % 4), .int .i64 x2, .int .i64 x3, .int .i64 x4, .int .i64 x5, .int .i64 x6, .int .i64 x7]:=X
  generalize (w2.setCell ⟨w.heap.size,1,none⟩ (.int .i64 (1+x1 % 4)))=w3 at X R o ⊢
  go_upto_region 3 with (fail)
  refine wp_region_phase_u 17 13 (fun w'=>Row w' (w.heap.size) 27 #[.int .i64 k, .int .i64 (1+x1 % 4), .int .i64 x2, .int .i64 x3, .int .i64 x4, .int .i64 x5, .int .i64 x6, .int .i64 x7]∧Below w.heap.size w w') (by kernel_rfl) (by kernel_rfl) (by kernel_rfl) (by kernel_rfl) (by kernel_rfl) (fun HOK=>?_)
  have HS:=(⟨row_drew X,o.drew⟩:Row w3.drew (w.heap.size) 27 #[.int .i64 k, .int .i64 (1+x1 % 4), .int .i64 x2, .int .i64 x3, .int .i64 x4, .int .i64 x5, .int .i64 x6, .int .i64 x7]∧Below w.heap.size w w3.drew)
  (refine hu_take HOK (i:=0) ?_ rfl (by decide) (by decide) rfl (by kernel_rfl) (by kernel_rfl) (by kernel_rfl) (by kernel_rfl) (by exact fun _ _ _ h=>h) (Or.inl ⟨by rfl,fun w' hS=>?_⟩) HS ?_;rotate_left;(go_simp;try with_reducible rfl);simp only [put9])
  (refine hu_take HOK (i:=1) ?_ rfl (by decide) (by decide) rfl (by kernel_rfl) (by kernel_rfl) (by kernel_rfl) (by kernel_rfl) (by exact fun _ _ _ h=>h) (Or.inl ⟨by rfl,fun w' hS=>?_⟩) HS ?_;rotate_left;(obtain ⟨X0,X1,X2,X3,X4,X5,X6,X7,Xf0,Xf1,Xf2,Xf3,Xf4,Xf5,Xf6,Xf7⟩:=row_eight hS.1;go_simp;try with_reducible rfl);simp only [put9])
  (refine hu_take HOK (i:=4) ?_ rfl (by decide) (by decide) rfl (by kernel_rfl) (by kernel_rfl) (by kernel_rfl) (by kernel_rfl) (by exact fun _ _ _ h=>h) (Or.inl ⟨by rfl,fun w' hS=>?_⟩) HS ?_;rotate_left;(go_simp;try with_reducible rfl);simp only [put9])
  (refine hu_take HOK (i:=5) ?_ rfl (by decide) (by decide) rfl (by kernel_rfl) (by kernel_rfl) (by kernel_rfl) (by kernel_rfl) (by exact fun _ _ _ h=>h) (Or.inl ⟨by rfl,fun w' hS=>?_⟩) HS ?_;rotate_left;(obtain ⟨X0,X1,X2,X3,X4,X5,X6,X7,Xf0,Xf1,Xf2,Xf3,Xf4,Xf5,Xf6,Xf7⟩:=row_eight hS.1;go_simp;try with_reducible rfl);simp only [put9])
  (refine hu_take HOK (i:=8) ?_ rfl (by decide) (by decide) rfl (by kernel_rfl) (by kernel_rfl) (by kernel_rfl) (by kernel_rfl) (by exact fun _ _ _ h=>h) (Or.inl ⟨by rfl,fun w' hS=>?_⟩) HS ?_;rotate_left;(go_simp;try with_reducible rfl);simp only [put9])
  (refine hu_take HOK (i:=9) ?_ rfl (by decide) (by decide) rfl (by kernel_rfl) (by kernel_rfl) (by kernel_rfl) (by kernel_rfl) (by exact fun _ _ _ h=>h) (Or.inl ⟨by rfl,fun w' hS=>?_⟩) HS ?_;rotate_left;(obtain ⟨X0,X1,X2,X3,X4,X5,X6,X7,Xf0,Xf1,Xf2,Xf3,Xf4,Xf5,Xf6,Xf7⟩:=row_eight hS.1;go_simp;try with_reducible rfl);simp only [put9])
  replace X:Row w3.drew (w.heap.size) 27 #[.int .i64 k, .int .i64 (1+x1 % 4), .int .i64 x2, .int .i64 x3, .int .i64 x4, .int .i64 x5, .int .i64 x6, .int .i64 x7]:=X
  replace R:Row w3.drew (w.heap.size+1) 27 #[.int .i64 0, .int .i64 0, .int .i64 0, .int .i64 0, .int .i64 0, .int .i64 0, .int .i64 0, .int .i64 0]:=R
  replace o:=o.drew
  clear HS
  generalize w3.drew=w4 at X R o ⊢
  refine hu_one (i:=2) rfl (by decide) (by kernel_rfl) (fun K hK=>?_)
  go_simp
  refine (P2.out _).mono ?_
  rintro e wx ⟨rfl,hx⟩
  obtain rfl:=hx.symm
  refine hK _ _ ⟨X,o⟩ ?_
  clear hK K
  try simp only [put9]
  have HS:Row w4 (w.heap.size) 27 #[.int .i64 k, .int .i64 (1+x1 % 4), .int .i64 x2, .int .i64 x3, .int .i64 x4, .int .i64 x5, .int .i64 x6, .int .i64 x7]∧Below w.heap.size w w4:=⟨X,o⟩
  (refine hu_take HOK (i:=3) ?_ rfl (by decide) (by decide) rfl (by kernel_rfl) (by kernel_rfl) (by kernel_rfl) (by kernel_rfl) (by exact fun _ _ _ h=>h) (Or.inl ⟨by rfl,fun w' hS=>?_⟩) HS ?_;rotate_left;(go_simp;try with_reducible rfl);simp only [put9])
  clear HS
  have HS:Row w4 (w.heap.size) 27 #[.int .i64 k, .int .i64 (1+x1 % 4), .int .i64 x2, .int .i64 x3, .int .i64 x4, .int .i64 x5, .int .i64 x6, .int .i64 x7]∧Below w.heap.size w w4:=⟨X,o⟩
  (refine hu_take HOK (i:=12) ?_ rfl (by decide) (by decide) rfl (by kernel_rfl) (by kernel_rfl) (by kernel_rfl) (by kernel_rfl) (by exact fun _ _ _ h=>h) (Or.inl ⟨by rfl,fun w' hS=>?_⟩) HS ?_;rotate_left;(go_simp;try with_reducible rfl);simp only [put9])
  clear HS
  refine hu_one (i:=6) rfl (by decide) (by kernel_rfl) (fun K hK=>?_)
  go_simp
  refine (P3.out _).mono ?_
  rintro e wx ⟨rfl,hx⟩
  obtain rfl:=hx.symm
  refine hK _ _ ⟨X,o⟩ ?_
  clear hK K
  try simp only [put9]
  have HS:Row w4 (w.heap.size) 27 #[.int .i64 k, .int .i64 (1+x1 % 4), .int .i64 x2, .int .i64 x3, .int .i64 x4, .int .i64 x5, .int .i64 x6, .int .i64 x7]∧Below w.heap.size w w4:=⟨X,o⟩
  (refine hu_pure HOK (i:=7) ?_ rfl (by decide) (by decide) (by kernel_rfl) (by kernel_rfl) (by exact fun _ _ _ h=>h) (Or.inl ⟨by rfl,fun w' hS=>?_⟩) HS ?_;rotate_left;(go_simp;try with_reducible rfl);simp only [put9])
  clear HS
  refine hu_one (i:=10) rfl (by decide) (by kernel_rfl) (fun K hK=>?_)
  go_simp
  refine (P4.out _).mono ?_
  rintro e wx ⟨rfl,hx⟩
  obtain rfl:=hx.symm
  refine hK _ _ ⟨X,o⟩ ?_
  clear hK K
  try simp only [put9]
  have HS:Row w4 (w.heap.size) 27 #[.int .i64 k, .int .i64 (1+x1 % 4), .int .i64 x2, .int .i64 x3, .int .i64 x4, .int .i64 x5, .int .i64 x6, .int .i64 x7]∧Below w.heap.size w w4:=⟨X,o⟩
  (refine hu_pure HOK (i:=11) ?_ rfl (by decide) (by decide) (by kernel_rfl) (by kernel_rfl) (by exact fun _ _ _ h=>h) (Or.inl ⟨by rfl,fun w' hS=>?_⟩) HS ?_;rotate_left;(go_simp;try with_reducible rfl);simp only [put9])
  clear HS
  refine hu_last rfl (by decide) (by kernel_rfl) (by decide) (fun K hK=>?_)
  obtain ⟨y0,y1,y2,y3,y4,y5,y6,y7,yf0,yf1,yf2,yf3,yf4,yf5,yf6,yf7⟩:=row_eight X
  go_simp
  clear y0 yf0 y1 yf1 y2 yf2 y3 yf3 y4 yf4 y5 yf5 y6 yf6 y7 yf7
  replace X:=row_set X 2 (.int .i64 (1+x2 % 20))
  replace R:=row_other (p:=⟨w.heap.size,2,none⟩) R (by show w.heap.size+1≠w.heap.size;omega) (.int .i64 (1+x2 % 20))
  replace o:=o.setCell (p:=⟨w.heap.size,2,none⟩) (by show w.heap.size≤w.heap.size;omega) (.int .i64 (1+x2 % 20))
  replace X:Row (w4.setCell ⟨w.heap.size,2,none⟩ (.int .i64 (1+x2 % 20))) (w.heap.size) 27 #[.int .i64 k, .int .i64 (1+x1 % 4), .int .i64 (1+x2 % 20), .int .i64 x3, .int .i64 x4, .int .i64 x5, .int .i64 x6, .int .i64 x7]:=X
  generalize (w4.setCell ⟨w.heap.size,2,none⟩ (.int .i64 (1+x2 % 20)))=w4_1 at X R o ⊢
  refine hK _ _ ?_
  clear hK K
  try simp only [put9]
  refine hu_after (i:=14) rfl (by decide) (by kernel_rfl) (by kernel_rfl) (fun K hK=>?_)
  go_simp
  refine hK _ _ ?_
  clear hK K
  try simp only [put9]
  refine hu_after (i:=15) rfl (by decide) (by kernel_rfl) (by kernel_rfl) (fun K hK=>?_)
  obtain ⟨y0,y1,y2,y3,y4,y5,y6,y7,yf0,yf1,yf2,yf3,yf4,yf5,yf6,yf7⟩:=row_eight X
  go_simp
  clear y0 yf0 y1 yf1 y2 yf2 y3 yf3 y4 yf4 y5 yf5 y6 yf6 y7 yf7
  replace X:=row_set X 3 (.int .i64 (1+x3 % 3))
  replace R:=row_other (p:=⟨w.heap.size,3,none⟩) R (by show w.heap.size+1≠w.heap.size;omega) (.int .i64 (1+x3 % 3))
  replace o:=o.setCell (p:=⟨w.heap.size,3,none⟩) (by show w.heap.size≤w.heap.size;omega) (.int .i64 (1+x3 % 3))
  replace X:Row (w4_1.setCell ⟨w.heap.size,3,none⟩ (.int .i64 (1+x3 % 3))) (w.heap.size) 27 #[.int .i64 k, .int .i64 (1+x1 % 4), .int .i64 (1+x2 % 20), .int .i64 (1+x3 % 3), .int .i64 x4, .int .i64 x5, .int .i64 x6, .int .i64 x7]:=X
  generalize (w4_1.setCell ⟨w.heap.size,3,none⟩ (.int .i64 (1+x3 % 3)))=w4_2 at X R o ⊢
  refine hK _ _ ?_
  clear hK K
  try simp only [put9]
  refine hu_after (i:=16) rfl (by decide) (by kernel_rfl) (by kernel_rfl) (fun K hK=>?_)
  go_simp
  refine hK _ _ ?_
  clear hK K
  try simp only [put9]
  refine hu_done (by kernel_rfl) ?_
  try simp only [List.drop_succ_cons,List.drop_zero]
  clear HOK
  obtain ⟨y0,y1,y2,y3,y4,y5,y6,y7,yf0,yf1,yf2,yf3,yf4,yf5,yf6,yf7⟩:=row_eight X
  go_upto_region 4 with (fail)
  clear y0 yf0 y1 yf1 y2 yf2 y3 yf3 y4 yf4 y5 yf5 y6 yf6 y7 yf7
  replace X:=row_set X 4 (.int .i64 (2+x4 % 60))
  replace R:=row_other (p:=⟨w.heap.size,4,none⟩) R (by show w.heap.size+1≠w.heap.size;omega) (.int .i64 (2+x4 % 60))
  replace o:=o.setCell (p:=⟨w.heap.size,4,none⟩) (by show w.heap.size≤w.heap.size;omega) (.int .i64 (2+x4 % 60))
  replace X:Row (w4_2.setCell ⟨w.heap.size,4,none⟩ (.int .i64 (2+x4 % 60))) (w.heap.size) 27 #[.int .i64 k, .int .i64 (1+x1 % 4), .int .i64 (1+x2 % 20), .int .i64 (1+x3 % 3), .int .i64 (2+x4 % 60), .int .i64 x5, .int .i64 x6, .int .i64 x7]:=X
  generalize (w4_2.setCell ⟨w.heap.size,4,none⟩ (.int .i64 (2+x4 % 60)))=w4_3 at X R o ⊢
  go_upto_region 4 with (fail)
  refine wp_region_phase_u 10 8 (fun w'=>Row w' (w.heap.size) 27 #[.int .i64 k, .int .i64 (1+x1 % 4), .int .i64 (1+x2 % 20), .int .i64 (1+x3 % 3), .int .i64 (2+x4 % 60), .int .i64 x5, .int .i64 x6, .int .i64 x7]∧Below w.heap.size w w') (by kernel_rfl) (by kernel_rfl) (by kernel_rfl) (by kernel_rfl) (by kernel_rfl) (fun HOK=>?_)
  have HS:=(⟨row_drew X,o.drew⟩:Row w4_3.drew (w.heap.size) 27 #[.int .i64 k, .int .i64 (1+x1 % 4), .int .i64 (1+x2 % 20), .int .i64 (1+x3 % 3), .int .i64 (2+x4 % 60), .int .i64 x5, .int .i64 x6, .int .i64 x7]∧Below w.heap.size w w4_3.drew)
  (refine hu_take HOK (i:=0) ?_ rfl (by decide) (by decide) rfl (by kernel_rfl) (by kernel_rfl) (by kernel_rfl) (by kernel_rfl) (by exact fun _ _ _ h=>h) (Or.inl ⟨by rfl,fun w' hS=>?_⟩) HS ?_;rotate_left;(go_simp;try with_reducible rfl);simp only [put9])
  (refine hu_take HOK (i:=1) ?_ rfl (by decide) (by decide) rfl (by kernel_rfl) (by kernel_rfl) (by kernel_rfl) (by kernel_rfl) (by exact fun _ _ _ h=>h) (Or.inl ⟨by rfl,fun w' hS=>?_⟩) HS ?_;rotate_left;(obtain ⟨X0,X1,X2,X3,X4,X5,X6,X7,Xf0,Xf1,Xf2,Xf3,Xf4,Xf5,Xf6,Xf7⟩:=row_eight hS.1;go_simp;try with_reducible rfl);simp only [put9])
  (refine hu_take HOK (i:=3) ?_ rfl (by decide) (by decide) rfl (by kernel_rfl) (by kernel_rfl) (by kernel_rfl) (by kernel_rfl) (by exact fun _ _ _ h=>h) (Or.inl ⟨by rfl,fun w' hS=>?_⟩) HS ?_;rotate_left;(go_simp;try with_reducible rfl);simp only [put9])
  (refine hu_take HOK (i:=4) ?_ rfl (by decide) (by decide) rfl (by kernel_rfl) (by kernel_rfl) (by kernel_rfl) (by kernel_rfl) (by exact fun _ _ _ h=>h) (Or.inl ⟨by rfl,fun w' hS=>?_⟩) HS ?_;rotate_left;(obtain ⟨X0,X1,X2,X3,X4,X5,X6,X7,Xf0,Xf1,Xf2,Xf3,Xf4,Xf5,Xf6,Xf7⟩:=row_eight hS.1;go_simp;try with_reducible rfl);simp only [put9])
  replace X:Row w4_3.drew (w.heap.size) 27 #[.int .i64 k, .int .i64 (1+x1 % 4), .int .i64 (1+x2 % 20), .int .i64 (1+x3 % 3), .int .i64 (2+x4 % 60), .int .i64 x5, .int .i64 x6, .int .i64 x7]:=X
  replace R:Row w4_3.drew (w.heap.size+1) 27 #[.int .i64 0, .int .i64 0, .int .i64 0, .int .i64 0, .int .i64 0, .int .i64 0, .int .i64 0, .int .i64 0]:=R
  replace o:=o.drew
  clear HS
  generalize w4_3.drew=w5 at X R o ⊢
  refine hu_one (i:=2) rfl (by decide) (by kernel_rfl) (fun K hK=>?_)
  go_simp
  refine (P5.out _).mono ?_
  rintro e wx ⟨rfl,hx⟩
  obtain rfl:=hx.symm
  refine hK _ _ ⟨X,o⟩ ?_
  clear hK K
  try simp only [put9]
  have HS:Row w5 (w.heap.size) 27 #[.int .i64 k, .int .i64 (1+x1 % 4), .int .i64 (1+x2 % 20), .int .i64 (1+x3 % 3), .int .i64 (2+x4 % 60), .int .i64 x5, .int .i64 x6, .int .i64 x7]∧Below w.heap.size w w5:=⟨X,o⟩
  (refine hu_take HOK (i:=7) ?_ rfl (by decide) (by decide) rfl (by kernel_rfl) (by kernel_rfl) (by kernel_rfl) (by kernel_rfl) (by exact fun _ _ _ h=>h) (Or.inl ⟨by rfl,fun w' hS=>?_⟩) HS ?_;rotate_left;(go_simp;try with_reducible rfl);simp only [put9])
  clear HS
  refine hu_one (i:=5) rfl (by decide) (by kernel_rfl) (fun K hK=>?_)
  go_simp
  refine (P6.out _).mono ?_
  rintro e wx ⟨rfl,hx⟩
  obtain rfl:=hx.symm
  refine hK _ _ ⟨X,o⟩ ?_
  clear hK K
  try simp only [put9]
  have HS:Row w5 (w.heap.size) 27 #[.int .i64 k, .int .i64 (1+x1 % 4), .int .i64 (1+x2 % 20), .int .i64 (1+x3 % 3), .int .i64 (2+x4 % 60), .int .i64 x5, .int .i64 x6, .int .i64 x7]∧Below w.heap.size w w5:=⟨X,o⟩
  (refine hu_pure HOK (i:=6) ?_ rfl (by decide) (by decide) (by kernel_rfl) (by kernel_rfl) (by exact fun _ _ _ h=>h) (Or.inl ⟨by rfl,fun w' hS=>?_⟩) HS ?_;rotate_left;(go_simp;try with_reducible rfl);simp only [put9])
  clear HS
  refine hu_last rfl (by decide) (by kernel_rfl) (by decide) (fun K hK=>?_)
  obtain ⟨y0,y1,y2,y3,y4,y5,y6,y7,yf0,yf1,yf2,yf3,yf4,yf5,yf6,yf7⟩:=row_eight X
  go_simp
  clear y0 yf0 y1 yf1 y2 yf2 y3 yf3 y4 yf4 y5 yf5 y6 yf6 y7 yf7
  replace X:=row_set X 5 (.int .i64 (x5 % 5))
  replace R:=row_other (p:=⟨w.heap.size,5,none⟩) R (by show w.heap.size+1≠w.heap.size;omega) (.int .i64 (x5 % 5))
  replace o:=o.setCell (p:=⟨w.heap.size,5,none⟩) (by show w.heap.size≤w.heap.size;omega) (.int .i64 (x5 % 5))
  replace X:Row (w5.setCell ⟨w.heap.size,5,none⟩ (.int .i64 (x5 % 5))) (w.heap.size) 27 #[.int .i64 k, .int .i64 (1+x1 % 4), .int .i64 (1+x2 % 20), .int .i64 (1+x3 % 3), .int .i64 (2+x4 % 60), .int .i64 (x5 % 5), .int .i64 x6, .int .i64 x7]:=X
  generalize (w5.setCell ⟨w.heap.size,5,none⟩ (.int .i64 (x5 % 5)))=w5_1 at X R o ⊢
  refine hK _ _ ?_
  clear hK K
  try simp only [put9]
  refine hu_after (i:=9) rfl (by decide) (by kernel_rfl) (by kernel_rfl) (fun K hK=>?_)
  go_simp
  refine hK _ _ ?_
  clear hK K
  try simp only [put9]
  refine hu_done (by kernel_rfl) ?_
  try simp only [List.drop_succ_cons,List.drop_zero]
  clear HOK
  obtain ⟨y0,y1,y2,y3,y4,y5,y6,y7,yf0,yf1,yf2,yf3,yf4,yf5,yf6,yf7⟩:=row_eight X
  go_upto_region 5 with (fail)
  clear y0 yf0 y1 yf1 y2 yf2 y3 yf3 y4 yf4 y5 yf5 y6 yf6 y7 yf7
  replace X:=row_set X 6 (.int .i64 (1+x6 % 2))
  replace R:=row_other (p:=⟨w.heap.size,6,none⟩) R (by show w.heap.size+1≠w.heap.size;omega) (.int .i64 (1+x6 % 2))
  replace o:=o.setCell (p:=⟨w.heap.size,6,none⟩) (by show w.heap.size≤w.heap.size;omega) (.int .i64 (1+x6 % 2))
  replace X:Row (w5_1.setCell ⟨w.heap.size,6,none⟩ (.int .i64 (1+x6 % 2))) (w.heap.size) 27 #[.int .i64 k, .int .i64 (1+x1 % 4), .int .i64 (1+x2 % 20), .int .i64 (1+x3 % 3), .int .i64 (2+x4 % 60), .int .i64 (x5 % 5), .int .i64 (1+x6 % 2), .int .i64 x7]:=X
  generalize (w5_1.setCell ⟨w.heap.size,6,none⟩ (.int .i64 (1+x6 % 2)))=w5_2 at X R o ⊢
  obtain ⟨X0,X1,X2,X3,X4,X5,X6,X7,Xf0,Xf1,Xf2,Xf3,Xf4,Xf5,Xf6,Xf7⟩:=row_eight X
  go_upto_region 6 with (first | (go_at_call 9;with_reducible refine (P1.out _).mono ?_;rintro e w9 ⟨rfl,h9⟩;obtain rfl:=h9.symm) | (go_at_call 8;with_reducible refine (P2.out _).mono ?_;rintro e w9 ⟨rfl,h9⟩;obtain rfl:=h9.symm) | (go_at_call 9;with_reducible refine (P3.out _).mono ?_;rintro e w9 ⟨rfl,h9⟩;obtain rfl:=h9.symm) | (go_at_call 9;with_reducible refine (P4.out _).mono ?_;rintro e w9 ⟨rfl,h9⟩;obtain rfl:=h9.symm) | (go_at_call 9;with_reducible refine (P5.out _).mono ?_;rintro e w9 ⟨rfl,h9⟩;obtain rfl:=h9.symm) | (go_at_call 9;with_reducible refine (P6.out _).mono ?_;rintro e w9 ⟨rfl,h9⟩;obtain rfl:=h9.symm) | (go_at_call 8;with_reducible refine (P7.out _).mono ?_;rintro e w9 ⟨rfl,h9⟩;obtain rfl:=h9.symm))
  clear X0 Xf0 X1 Xf1 X2 Xf2 X3 Xf3 X4 Xf4 X5 Xf5 X6 Xf6 X7 Xf7
  replace X:=row_set X 7 (.int .i64 (1+x7 % 20))
  replace R:=row_other (p:=⟨w.heap.size,7,none⟩) R (by show w.heap.size+1≠w.heap.size;omega) (.int .i64 (1+x7 % 20))
  replace o:=o.setCell (p:=⟨w.heap.size,7,none⟩) (Nat.le_refl _) (.int .i64 (1+x7 % 20))
  replace X:Row (w5_2.setCell ⟨w.heap.size,7,none⟩ (.int .i64 (1+x7 % 20))) (w.heap.size) 27 #[.int .i64 k, .int .i64 (1+x1 % 4), .int .i64 (1+x2 % 20), .int .i64 (1+x3 % 3), .int .i64 (2+x4 % 60), .int .i64 (x5 % 5), .int .i64 (1+x6 % 2), .int .i64 (1+x7 % 20)]:=X
  generalize (w5_2.setCell ⟨w.heap.size,7,none⟩ (.int .i64 (1+x7 % 20)))=w6 at X R o ⊢
  obtain ⟨X0,X1,X2,X3,X4,X5,X6,X7,Xf0,Xf1,Xf2,Xf3,Xf4,Xf5,Xf6,Xf7⟩:=row_eight X
  go_wp2_with fail
  refine (PL.out _).mono ?_
  rintro e w8 ⟨rfl,hb⟩
  replace R:=row_call R hb
  replace o:=o.trans (hb.mono o.size)
  clear hb X X0 Xf0 X1 Xf1 X2 Xf2 X3 Xf3 X4 Xf4 X5 Xf5 X6 Xf6 X7 Xf7
  obtain ⟨R0,R1,R2,R3,R4,R5,R6,R7,Rf0,Rf1,Rf2,Rf3,Rf4,Rf5,Rf6,Rf7⟩:=row_eight R
  go_wp2
  have Sr0:=row_set R 0 (.int .i64 r0)
  have Sr1:=row_set Sr0 1 (.int .i64 r1)
  have Sr2:=row_set Sr1 2 (.int .i64 r2)
  have Sr3:=row_set Sr2 3 (.int .i64 r3)
  have Sr4:=row_set Sr3 4 (.int .i64 r4)
  have Sr5:=row_set Sr4 5 (.int .i64 r5)
  have Sr6:=row_set Sr5 6 (.int .i64 r6)
  have Sr7:=row_set Sr6 7 (.int .i64 r7)
  have o90:=o.setCell (p:=⟨w.heap.size+1,0,none⟩) (by show w.heap.size≤w.heap.size+1;omega) (.int .i64 r0)
  have o91:=o90.setCell (p:=⟨w.heap.size+1,1,none⟩) (by show w.heap.size≤w.heap.size+1;omega) (.int .i64 r1)
  have o92:=o91.setCell (p:=⟨w.heap.size+1,2,none⟩) (by show w.heap.size≤w.heap.size+1;omega) (.int .i64 r2)
  have o93:=o92.setCell (p:=⟨w.heap.size+1,3,none⟩) (by show w.heap.size≤w.heap.size+1;omega) (.int .i64 r3)
  have o94:=o93.setCell (p:=⟨w.heap.size+1,4,none⟩) (by show w.heap.size≤w.heap.size+1;omega) (.int .i64 r4)
  have o95:=o94.setCell (p:=⟨w.heap.size+1,5,none⟩) (by show w.heap.size≤w.heap.size+1;omega) (.int .i64 r5)
  have o96:=o95.setCell (p:=⟨w.heap.size+1,6,none⟩) (by show w.heap.size≤w.heap.size+1;omega) (.int .i64 r6)
  have o97:=o96.setCell (p:=⟨w.heap.size+1,7,none⟩) (by show w.heap.size≤w.heap.size+1;omega) (.int .i64 r7)
  obtain ⟨S0,S1,S2,S3,S4,S5,S6,S7,_,_,_,_,_,_,_,_⟩:=row_eight Sr7
  exact bodyPost_ret (v := .agg #[.int .i64 r0, .int .i64 r1, .int .i64 r2, .int .i64 r3, .int .i64 r4, .int .i64 r5, .int .i64 r6, .int .i64 r7]) (by simp [results,Tryz.results19,go_sem,S0,S1,S2,S3,S4,S5,S6,S7]) rfl ⟨rfl,o97⟩
set_option maxRecDepth 100000 in
set_option maxHeartbeats 2000000 in
theorem pconfigExtreme (x0 x1 x2 x3 x4 x5 x6 x7:Int) (w:World):Calls Tryz.prog 19 #[.agg #[.int .i64 x0, .int .i64 x1, .int .i64 x2, .int .i64 x3, .int .i64 x4, .int .i64 x5, .int .i64 x6, .int .i64 x7], .int .i64 8] w fun e w'=>e = .returned (.agg #[.int .i64 8, .int .i64 0, .int .i64 (1+x2 % 20), .int .i64 0, .int .i64 (2+x4 % 60), .int .i64 0, .int .i64 0, .int .i64 ((1+x7 % 20) % 2)])∧Below w.heap.size w w':=by
  have P1:=fun w=>pint x1 4 (by omega) (by omega) w
  have P2:=fun w=>pmod x2 20 (by omega) (by omega) w
  have P3:=fun w=>pint x3 3 (by omega) (by omega) w
  have P4:=fun w=>pint x4 60 (by omega) (by omega) w
  have P5:=fun w=>pint x5 5 (by omega) (by omega) w
  have P6:=fun w=>pint x6 2 (by omega) (by omega) w
  have P7:=fun w=>pmod x7 20 (by omega) (by omega) w
  have wx1:IntKind.i64.wrap (1+x1 % 4)=1+x1 % 4:=IntWalk.i64_in _ (by omega)
  have wx2:IntKind.i64.wrap (1+x2 % 20)=1+x2 % 20:=IntWalk.i64_in _ (by omega)
  have wx3:IntKind.i64.wrap (1+x3 % 3)=1+x3 % 3:=IntWalk.i64_in _ (by omega)
  have wx4:IntKind.i64.wrap (2+x4 % 60)=2+x4 % 60:=IntWalk.i64_in _ (by omega)
  have wx6:IntKind.i64.wrap (1+x6 % 2)=1+x6 % 2:=IntWalk.i64_in _ (by omega)
  have wx7:IntKind.i64.wrap (1+x7 % 20)=1+x7 % 20:=IntWalk.i64_in _ (by omega)
  have wm:Int.tmod (1+x7 % 20) 2=(1+x7 % 20) % 2:=Int.tmod_eq_emod_of_nonneg (by omega)
  have wm2:IntKind.i64.wrap ((1+x7 % 20) % 2)=(1+x7 % 20) % 2:=IntWalk.i64_in _ (by omega)
  have PL:=fun w=>pplainExtreme (1+x1 % 4) (1+x2 % 20) (1+x3 % 3) (2+x4 % 60) (x5 % 5) (1+x6 % 2) ((1+x7 % 20) % 2) w
  replace P1:=Lib.hid P1
  replace P2:=Lib.hid P2
  replace P3:=Lib.hid P3
  replace P4:=Lib.hid P4
  replace P5:=Lib.hid P5
  replace P6:=Lib.hid P6
  replace P7:=Lib.hid P7
  replace PL:=Lib.hid PL
  go_enter Tryz.func19,Tryz.ntmps19
  go_upto_region 1 with (fail)
  have X:Row ((w.alloc (.cells #[.int .i64 x0, .int .i64 x1, .int .i64 x2, .int .i64 x3, .int .i64 x4, .int .i64 x5, .int .i64 x6, .int .i64 x7] 27)).alloc (.cells #[.int .i64 0, .int .i64 0, .int .i64 0, .int .i64 0, .int .i64 0, .int .i64 0, .int .i64 0, .int .i64 0] 27)) (w.heap.size) 27 #[.int .i64 x0, .int .i64 x1, .int .i64 x2, .int .i64 x3, .int .i64 x4, .int .i64 x5, .int .i64 x6, .int .i64 x7]:=row_alloc (row_new rfl) _
  have R:Row ((w.alloc (.cells #[.int .i64 x0, .int .i64 x1, .int .i64 x2, .int .i64 x3, .int .i64 x4, .int .i64 x5, .int .i64 x6, .int .i64 x7] 27)).alloc (.cells #[.int .i64 0, .int .i64 0, .int .i64 0, .int .i64 0, .int .i64 0, .int .i64 0, .int .i64 0, .int .i64 0] 27)) (w.heap.size+1) 27 #[.int .i64 0, .int .i64 0, .int .i64 0, .int .i64 0, .int .i64 0, .int .i64 0, .int .i64 0, .int .i64 0]:=row_new (by simp)
  have o:Below w.heap.size w ((w.alloc (.cells #[.int .i64 x0, .int .i64 x1, .int .i64 x2, .int .i64 x3, .int .i64 x4, .int .i64 x5, .int .i64 x6, .int .i64 x7] 27)).alloc (.cells #[.int .i64 0, .int .i64 0, .int .i64 0, .int .i64 0, .int .i64 0, .int .i64 0, .int .i64 0, .int .i64 0] 27)):=by (repeat (first | exact Below.refl _ _ | refine Below.setCell ?_ (by (try simp)<;>omega) _ | refine Below.alloc ?_ (by (try simp)<;>omega) _ | refine Below.drew ?_ | refine Below.trans ?_ (Below.mono (by assumption) (by (try simp)<;>omega))))
  generalize ((w.alloc (.cells #[.int .i64 x0, .int .i64 x1, .int .i64 x2, .int .i64 x3, .int .i64 x4, .int .i64 x5, .int .i64 x6, .int .i64 x7] 27)).alloc (.cells #[.int .i64 0, .int .i64 0, .int .i64 0, .int .i64 0, .int .i64 0, .int .i64 0, .int .i64 0, .int .i64 0] 27))=w1 at X R o ⊢
  obtain ⟨X0,X1,X2,X3,X4,X5,X6,X7,Xf0,Xf1,Xf2,Xf3,Xf4,Xf5,Xf6,Xf7⟩:=row_eight X
  go_upto_region 2 with (first | (go_at_call 9;with_reducible refine (P1.out _).mono ?_;rintro e w9 ⟨rfl,h9⟩;obtain rfl:=h9.symm) | (go_at_call 8;with_reducible refine (P2.out _).mono ?_;rintro e w9 ⟨rfl,h9⟩;obtain rfl:=h9.symm) | (go_at_call 9;with_reducible refine (P3.out _).mono ?_;rintro e w9 ⟨rfl,h9⟩;obtain rfl:=h9.symm) | (go_at_call 9;with_reducible refine (P4.out _).mono ?_;rintro e w9 ⟨rfl,h9⟩;obtain rfl:=h9.symm) | (go_at_call 9;with_reducible refine (P5.out _).mono ?_;rintro e w9 ⟨rfl,h9⟩;obtain rfl:=h9.symm) | (go_at_call 9;with_reducible refine (P6.out _).mono ?_;rintro e w9 ⟨rfl,h9⟩;obtain rfl:=h9.symm) | (go_at_call 8;with_reducible refine (P7.out _).mono ?_;rintro e w9 ⟨rfl,h9⟩;obtain rfl:=h9.symm))
  clear X0 Xf0 X1 Xf1 X2 Xf2 X3 Xf3 X4 Xf4 X5 Xf5 X6 Xf6 X7 Xf7
  replace X:=row_set X 0 (.int .i64 8)
  replace R:=row_other (p:=⟨w.heap.size,0,none⟩) R (by show w.heap.size+1≠w.heap.size;omega) (.int .i64 8)
  replace o:=o.setCell (p:=⟨w.heap.size,0,none⟩) (Nat.le_refl _) (.int .i64 8)
  replace X:Row (w1.setCell ⟨w.heap.size,0,none⟩ (.int .i64 8)) (w.heap.size) 27 #[.int .i64 8, .int .i64 x1, .int .i64 x2, .int .i64 x3, .int .i64 x4, .int .i64 x5, .int .i64 x6, .int .i64 x7]:=X
  generalize (w1.setCell ⟨w.heap.size,0,none⟩ (.int .i64 8))=w2 at X R o ⊢
  obtain ⟨X0,X1,X2,X3,X4,X5,X6,X7,Xf0,Xf1,Xf2,Xf3,Xf4,Xf5,Xf6,Xf7⟩:=row_eight X
  go_upto_region 3 with (first | (go_at_call 9;with_reducible refine (P1.out _).mono ?_;rintro e w9 ⟨rfl,h9⟩;obtain rfl:=h9.symm) | (go_at_call 8;with_reducible refine (P2.out _).mono ?_;rintro e w9 ⟨rfl,h9⟩;obtain rfl:=h9.symm) | (go_at_call 9;with_reducible refine (P3.out _).mono ?_;rintro e w9 ⟨rfl,h9⟩;obtain rfl:=h9.symm) | (go_at_call 9;with_reducible refine (P4.out _).mono ?_;rintro e w9 ⟨rfl,h9⟩;obtain rfl:=h9.symm) | (go_at_call 9;with_reducible refine (P5.out _).mono ?_;rintro e w9 ⟨rfl,h9⟩;obtain rfl:=h9.symm) | (go_at_call 9;with_reducible refine (P6.out _).mono ?_;rintro e w9 ⟨rfl,h9⟩;obtain rfl:=h9.symm) | (go_at_call 8;with_reducible refine (P7.out _).mono ?_;rintro e w9 ⟨rfl,h9⟩;obtain rfl:=h9.symm))
  clear X0 Xf0 X1 Xf1 X2 Xf2 X3 Xf3 X4 Xf4 X5 Xf5 X6 Xf6 X7 Xf7
  replace X:=row_set X 1 (.int .i64 (1+x1 % 4))
  replace R:=row_other (p:=⟨w.heap.size,1,none⟩) R (by show w.heap.size+1≠w.heap.size;omega) (.int .i64 (1+x1 % 4))
  replace o:=o.setCell (p:=⟨w.heap.size,1,none⟩) (Nat.le_refl _) (.int .i64 (1+x1 % 4))
  replace X:Row (w2.setCell ⟨w.heap.size,1,none⟩ (.int .i64 (1+x1 % 4))) (w.heap.size) 27 #[.int .i64 8, .int .i64 (1+x1 % 4), .int .i64 x2, .int .i64 x3, .int .i64 x4, .int .i64 x5, .int .i64 x6, .int .i64 x7]:=X
  generalize (w2.setCell ⟨w.heap.size,1,none⟩ (.int .i64 (1+x1 % 4)))=w3 at X R o ⊢
  go_upto_region 3 with (fail)
  refine wp_region_phase_u 17 13 (fun w'=>Row w' (w.heap.size) 27 #[.int .i64 8, .int .i64 (1+x1 % 4), .int .i64 x2, .int .i64 x3, .int .i64 x4, .int .i64 x5, .int .i64 x6, .int .i64 x7]∧Below w.heap.size w w') (by kernel_rfl) (by kernel_rfl) (by kernel_rfl) (by kernel_rfl) (by kernel_rfl) (fun HOK=>?_)
  have HS:=(⟨row_drew X,o.drew⟩:Row w3.drew (w.heap.size) 27 #[.int .i64 8, .int .i64 (1+x1 % 4), .int .i64 x2, .int .i64 x3, .int .i64 x4, .int .i64 x5, .int .i64 x6, .int .i64 x7]∧Below w.heap.size w w3.drew)
  (refine hu_take HOK (i:=0) ?_ rfl (by decide) (by decide) rfl (by kernel_rfl) (by kernel_rfl) (by kernel_rfl) (by kernel_rfl) (by exact fun _ _ _ h=>h) (Or.inl ⟨by rfl,fun w' hS=>?_⟩) HS ?_;rotate_left;(go_simp;try with_reducible rfl);simp only [put9])
  (refine hu_take HOK (i:=1) ?_ rfl (by decide) (by decide) rfl (by kernel_rfl) (by kernel_rfl) (by kernel_rfl) (by kernel_rfl) (by exact fun _ _ _ h=>h) (Or.inl ⟨by rfl,fun w' hS=>?_⟩) HS ?_;rotate_left;(obtain ⟨X0,X1,X2,X3,X4,X5,X6,X7,Xf0,Xf1,Xf2,Xf3,Xf4,Xf5,Xf6,Xf7⟩:=row_eight hS.1;go_simp;try with_reducible rfl);simp only [put9])
  (refine hu_take HOK (i:=4) ?_ rfl (by decide) (by decide) rfl (by kernel_rfl) (by kernel_rfl) (by kernel_rfl) (by kernel_rfl) (by exact fun _ _ _ h=>h) (Or.inl ⟨by rfl,fun w' hS=>?_⟩) HS ?_;rotate_left;(go_simp;try with_reducible rfl);simp only [put9])
  (refine hu_take HOK (i:=5) ?_ rfl (by decide) (by decide) rfl (by kernel_rfl) (by kernel_rfl) (by kernel_rfl) (by kernel_rfl) (by exact fun _ _ _ h=>h) (Or.inl ⟨by rfl,fun w' hS=>?_⟩) HS ?_;rotate_left;(obtain ⟨X0,X1,X2,X3,X4,X5,X6,X7,Xf0,Xf1,Xf2,Xf3,Xf4,Xf5,Xf6,Xf7⟩:=row_eight hS.1;go_simp;try with_reducible rfl);simp only [put9])
  (refine hu_take HOK (i:=8) ?_ rfl (by decide) (by decide) rfl (by kernel_rfl) (by kernel_rfl) (by kernel_rfl) (by kernel_rfl) (by exact fun _ _ _ h=>h) (Or.inl ⟨by rfl,fun w' hS=>?_⟩) HS ?_;rotate_left;(go_simp;try with_reducible rfl);simp only [put9])
  (refine hu_take HOK (i:=9) ?_ rfl (by decide) (by decide) rfl (by kernel_rfl) (by kernel_rfl) (by kernel_rfl) (by kernel_rfl) (by exact fun _ _ _ h=>h) (Or.inl ⟨by rfl,fun w' hS=>?_⟩) HS ?_;rotate_left;(obtain ⟨X0,X1,X2,X3,X4,X5,X6,X7,Xf0,Xf1,Xf2,Xf3,Xf4,Xf5,Xf6,Xf7⟩:=row_eight hS.1;go_simp;try with_reducible rfl);simp only [put9])
  replace X:Row w3.drew (w.heap.size) 27 #[.int .i64 8, .int .i64 (1+x1 % 4), .int .i64 x2, .int .i64 x3, .int .i64 x4, .int .i64 x5, .int .i64 x6, .int .i64 x7]:=X
  replace R:Row w3.drew (w.heap.size+1) 27 #[.int .i64 0, .int .i64 0, .int .i64 0, .int .i64 0, .int .i64 0, .int .i64 0, .int .i64 0, .int .i64 0]:=R
  replace o:=o.drew
  clear HS
  generalize w3.drew=w4 at X R o ⊢
  refine hu_one (i:=2) rfl (by decide) (by kernel_rfl) (fun K hK=>?_)
  go_simp
  refine (P2.out _).mono ?_
  rintro e wx ⟨rfl,hx⟩
  obtain rfl:=hx.symm
  refine hK _ _ ⟨X,o⟩ ?_
  clear hK K
  try simp only [put9]
  have HS:Row w4 (w.heap.size) 27 #[.int .i64 8, .int .i64 (1+x1 % 4), .int .i64 x2, .int .i64 x3, .int .i64 x4, .int .i64 x5, .int .i64 x6, .int .i64 x7]∧Below w.heap.size w w4:=⟨X,o⟩
  (refine hu_take HOK (i:=3) ?_ rfl (by decide) (by decide) rfl (by kernel_rfl) (by kernel_rfl) (by kernel_rfl) (by kernel_rfl) (by exact fun _ _ _ h=>h) (Or.inl ⟨by rfl,fun w' hS=>?_⟩) HS ?_;rotate_left;(go_simp;try with_reducible rfl);simp only [put9])
  clear HS
  have HS:Row w4 (w.heap.size) 27 #[.int .i64 8, .int .i64 (1+x1 % 4), .int .i64 x2, .int .i64 x3, .int .i64 x4, .int .i64 x5, .int .i64 x6, .int .i64 x7]∧Below w.heap.size w w4:=⟨X,o⟩
  (refine hu_take HOK (i:=12) ?_ rfl (by decide) (by decide) rfl (by kernel_rfl) (by kernel_rfl) (by kernel_rfl) (by kernel_rfl) (by exact fun _ _ _ h=>h) (Or.inl ⟨by rfl,fun w' hS=>?_⟩) HS ?_;rotate_left;(go_simp;try with_reducible rfl);simp only [put9])
  clear HS
  refine hu_one (i:=6) rfl (by decide) (by kernel_rfl) (fun K hK=>?_)
  go_simp
  refine (P3.out _).mono ?_
  rintro e wx ⟨rfl,hx⟩
  obtain rfl:=hx.symm
  refine hK _ _ ⟨X,o⟩ ?_
  clear hK K
  try simp only [put9]
  have HS:Row w4 (w.heap.size) 27 #[.int .i64 8, .int .i64 (1+x1 % 4), .int .i64 x2, .int .i64 x3, .int .i64 x4, .int .i64 x5, .int .i64 x6, .int .i64 x7]∧Below w.heap.size w w4:=⟨X,o⟩
  (refine hu_pure HOK (i:=7) ?_ rfl (by decide) (by decide) (by kernel_rfl) (by kernel_rfl) (by exact fun _ _ _ h=>h) (Or.inl ⟨by rfl,fun w' hS=>?_⟩) HS ?_;rotate_left;(go_simp;try with_reducible rfl);simp only [put9])
  clear HS
  refine hu_one (i:=10) rfl (by decide) (by kernel_rfl) (fun K hK=>?_)
  go_simp
  refine (P4.out _).mono ?_
  rintro e wx ⟨rfl,hx⟩
  obtain rfl:=hx.symm
  refine hK _ _ ⟨X,o⟩ ?_
  clear hK K
  try simp only [put9]
  have HS:Row w4 (w.heap.size) 27 #[.int .i64 8, .int .i64 (1+x1 % 4), .int .i64 x2, .int .i64 x3, .int .i64 x4, .int .i64 x5, .int .i64 x6, .int .i64 x7]∧Below w.heap.size w w4:=⟨X,o⟩
  (refine hu_pure HOK (i:=11) ?_ rfl (by decide) (by decide) (by kernel_rfl) (by kernel_rfl) (by exact fun _ _ _ h=>h) (Or.inl ⟨by rfl,fun w' hS=>?_⟩) HS ?_;rotate_left;(go_simp;try with_reducible rfl);simp only [put9])
  clear HS
  refine hu_last rfl (by decide) (by kernel_rfl) (by decide) (fun K hK=>?_)
  obtain ⟨y0,y1,y2,y3,y4,y5,y6,y7,yf0,yf1,yf2,yf3,yf4,yf5,yf6,yf7⟩:=row_eight X
  go_simp
  clear y0 yf0 y1 yf1 y2 yf2 y3 yf3 y4 yf4 y5 yf5 y6 yf6 y7 yf7
  replace X:=row_set X 2 (.int .i64 (1+x2 % 20))
  replace R:=row_other (p:=⟨w.heap.size,2,none⟩) R (by show w.heap.size+1≠w.heap.size;omega) (.int .i64 (1+x2 % 20))
  replace o:=o.setCell (p:=⟨w.heap.size,2,none⟩) (by show w.heap.size≤w.heap.size;omega) (.int .i64 (1+x2 % 20))
  replace X:Row (w4.setCell ⟨w.heap.size,2,none⟩ (.int .i64 (1+x2 % 20))) (w.heap.size) 27 #[.int .i64 8, .int .i64 (1+x1 % 4), .int .i64 (1+x2 % 20), .int .i64 x3, .int .i64 x4, .int .i64 x5, .int .i64 x6, .int .i64 x7]:=X
  generalize (w4.setCell ⟨w.heap.size,2,none⟩ (.int .i64 (1+x2 % 20)))=w4_1 at X R o ⊢
  refine hK _ _ ?_
  clear hK K
  try simp only [put9]
  refine hu_after (i:=14) rfl (by decide) (by kernel_rfl) (by kernel_rfl) (fun K hK=>?_)
  go_simp
  refine hK _ _ ?_
  clear hK K
  try simp only [put9]
  refine hu_after (i:=15) rfl (by decide) (by kernel_rfl) (by kernel_rfl) (fun K hK=>?_)
  obtain ⟨y0,y1,y2,y3,y4,y5,y6,y7,yf0,yf1,yf2,yf3,yf4,yf5,yf6,yf7⟩:=row_eight X
  go_simp
  clear y0 yf0 y1 yf1 y2 yf2 y3 yf3 y4 yf4 y5 yf5 y6 yf6 y7 yf7
  replace X:=row_set X 3 (.int .i64 (1+x3 % 3))
  replace R:=row_other (p:=⟨w.heap.size,3,none⟩) R (by show w.heap.size+1≠w.heap.size;omega) (.int .i64 (1+x3 % 3))
  replace o:=o.setCell (p:=⟨w.heap.size,3,none⟩) (by show w.heap.size≤w.heap.size;omega) (.int .i64 (1+x3 % 3))
  replace X:Row (w4_1.setCell ⟨w.heap.size,3,none⟩ (.int .i64 (1+x3 % 3))) (w.heap.size) 27 #[.int .i64 8, .int .i64 (1+x1 % 4), .int .i64 (1+x2 % 20), .int .i64 (1+x3 % 3), .int .i64 x4, .int .i64 x5, .int .i64 x6, .int .i64 x7]:=X
  generalize (w4_1.setCell ⟨w.heap.size,3,none⟩ (.int .i64 (1+x3 % 3)))=w4_2 at X R o ⊢
  refine hK _ _ ?_
  clear hK K
  try simp only [put9]
  refine hu_after (i:=16) rfl (by decide) (by kernel_rfl) (by kernel_rfl) (fun K hK=>?_)
  go_simp
  refine hK _ _ ?_
  clear hK K
  try simp only [put9]
  refine hu_done (by kernel_rfl) ?_
  try simp only [List.drop_succ_cons,List.drop_zero]
  clear HOK
  obtain ⟨y0,y1,y2,y3,y4,y5,y6,y7,yf0,yf1,yf2,yf3,yf4,yf5,yf6,yf7⟩:=row_eight X
  go_upto_region 4 with (fail)
  clear y0 yf0 y1 yf1 y2 yf2 y3 yf3 y4 yf4 y5 yf5 y6 yf6 y7 yf7
  replace X:=row_set X 4 (.int .i64 (2+x4 % 60))
  replace R:=row_other (p:=⟨w.heap.size,4,none⟩) R (by show w.heap.size+1≠w.heap.size;omega) (.int .i64 (2+x4 % 60))
  replace o:=o.setCell (p:=⟨w.heap.size,4,none⟩) (by show w.heap.size≤w.heap.size;omega) (.int .i64 (2+x4 % 60))
  replace X:Row (w4_2.setCell ⟨w.heap.size,4,none⟩ (.int .i64 (2+x4 % 60))) (w.heap.size) 27 #[.int .i64 8, .int .i64 (1+x1 % 4), .int .i64 (1+x2 % 20), .int .i64 (1+x3 % 3), .int .i64 (2+x4 % 60), .int .i64 x5, .int .i64 x6, .int .i64 x7]:=X
  generalize (w4_2.setCell ⟨w.heap.size,4,none⟩ (.int .i64 (2+x4 % 60)))=w4_3 at X R o ⊢
  go_upto_region 4 with (fail)
  refine wp_region_phase_u 10 8 (fun w'=>Row w' (w.heap.size) 27 #[.int .i64 8, .int .i64 (1+x1 % 4), .int .i64 (1+x2 % 20), .int .i64 (1+x3 % 3), .int .i64 (2+x4 % 60), .int .i64 x5, .int .i64 x6, .int .i64 x7]∧Below w.heap.size w w') (by kernel_rfl) (by kernel_rfl) (by kernel_rfl) (by kernel_rfl) (by kernel_rfl) (fun HOK=>?_)
  have HS:=(⟨row_drew X,o.drew⟩:Row w4_3.drew (w.heap.size) 27 #[.int .i64 8, .int .i64 (1+x1 % 4), .int .i64 (1+x2 % 20), .int .i64 (1+x3 % 3), .int .i64 (2+x4 % 60), .int .i64 x5, .int .i64 x6, .int .i64 x7]∧Below w.heap.size w w4_3.drew)
  (refine hu_take HOK (i:=0) ?_ rfl (by decide) (by decide) rfl (by kernel_rfl) (by kernel_rfl) (by kernel_rfl) (by kernel_rfl) (by exact fun _ _ _ h=>h) (Or.inl ⟨by rfl,fun w' hS=>?_⟩) HS ?_;rotate_left;(go_simp;try with_reducible rfl);simp only [put9])
  (refine hu_take HOK (i:=1) ?_ rfl (by decide) (by decide) rfl (by kernel_rfl) (by kernel_rfl) (by kernel_rfl) (by kernel_rfl) (by exact fun _ _ _ h=>h) (Or.inl ⟨by rfl,fun w' hS=>?_⟩) HS ?_;rotate_left;(obtain ⟨X0,X1,X2,X3,X4,X5,X6,X7,Xf0,Xf1,Xf2,Xf3,Xf4,Xf5,Xf6,Xf7⟩:=row_eight hS.1;go_simp;try with_reducible rfl);simp only [put9])
  (refine hu_take HOK (i:=3) ?_ rfl (by decide) (by decide) rfl (by kernel_rfl) (by kernel_rfl) (by kernel_rfl) (by kernel_rfl) (by exact fun _ _ _ h=>h) (Or.inl ⟨by rfl,fun w' hS=>?_⟩) HS ?_;rotate_left;(go_simp;try with_reducible rfl);simp only [put9])
  (refine hu_take HOK (i:=4) ?_ rfl (by decide) (by decide) rfl (by kernel_rfl) (by kernel_rfl) (by kernel_rfl) (by kernel_rfl) (by exact fun _ _ _ h=>h) (Or.inl ⟨by rfl,fun w' hS=>?_⟩) HS ?_;rotate_left;(obtain ⟨X0,X1,X2,X3,X4,X5,X6,X7,Xf0,Xf1,Xf2,Xf3,Xf4,Xf5,Xf6,Xf7⟩:=row_eight hS.1;go_simp;try with_reducible rfl);simp only [put9])
  replace X:Row w4_3.drew (w.heap.size) 27 #[.int .i64 8, .int .i64 (1+x1 % 4), .int .i64 (1+x2 % 20), .int .i64 (1+x3 % 3), .int .i64 (2+x4 % 60), .int .i64 x5, .int .i64 x6, .int .i64 x7]:=X
  replace R:Row w4_3.drew (w.heap.size+1) 27 #[.int .i64 0, .int .i64 0, .int .i64 0, .int .i64 0, .int .i64 0, .int .i64 0, .int .i64 0, .int .i64 0]:=R
  replace o:=o.drew
  clear HS
  generalize w4_3.drew=w5 at X R o ⊢
  refine hu_one (i:=2) rfl (by decide) (by kernel_rfl) (fun K hK=>?_)
  go_simp
  refine (P5.out _).mono ?_
  rintro e wx ⟨rfl,hx⟩
  obtain rfl:=hx.symm
  refine hK _ _ ⟨X,o⟩ ?_
  clear hK K
  try simp only [put9]
  have HS:Row w5 (w.heap.size) 27 #[.int .i64 8, .int .i64 (1+x1 % 4), .int .i64 (1+x2 % 20), .int .i64 (1+x3 % 3), .int .i64 (2+x4 % 60), .int .i64 x5, .int .i64 x6, .int .i64 x7]∧Below w.heap.size w w5:=⟨X,o⟩
  (refine hu_take HOK (i:=7) ?_ rfl (by decide) (by decide) rfl (by kernel_rfl) (by kernel_rfl) (by kernel_rfl) (by kernel_rfl) (by exact fun _ _ _ h=>h) (Or.inl ⟨by rfl,fun w' hS=>?_⟩) HS ?_;rotate_left;(go_simp;try with_reducible rfl);simp only [put9])
  clear HS
  refine hu_one (i:=5) rfl (by decide) (by kernel_rfl) (fun K hK=>?_)
  go_simp
  refine (P6.out _).mono ?_
  rintro e wx ⟨rfl,hx⟩
  obtain rfl:=hx.symm
  refine hK _ _ ⟨X,o⟩ ?_
  clear hK K
  try simp only [put9]
  have HS:Row w5 (w.heap.size) 27 #[.int .i64 8, .int .i64 (1+x1 % 4), .int .i64 (1+x2 % 20), .int .i64 (1+x3 % 3), .int .i64 (2+x4 % 60), .int .i64 x5, .int .i64 x6, .int .i64 x7]∧Below w.heap.size w w5:=⟨X,o⟩
  (refine hu_pure HOK (i:=6) ?_ rfl (by decide) (by decide) (by kernel_rfl) (by kernel_rfl) (by exact fun _ _ _ h=>h) (Or.inl ⟨by rfl,fun w' hS=>?_⟩) HS ?_;rotate_left;(go_simp;try with_reducible rfl);simp only [put9])
  clear HS
  refine hu_last rfl (by decide) (by kernel_rfl) (by decide) (fun K hK=>?_)
  obtain ⟨y0,y1,y2,y3,y4,y5,y6,y7,yf0,yf1,yf2,yf3,yf4,yf5,yf6,yf7⟩:=row_eight X
  go_simp
  clear y0 yf0 y1 yf1 y2 yf2 y3 yf3 y4 yf4 y5 yf5 y6 yf6 y7 yf7
  replace X:=row_set X 5 (.int .i64 (x5 % 5))
  replace R:=row_other (p:=⟨w.heap.size,5,none⟩) R (by show w.heap.size+1≠w.heap.size;omega) (.int .i64 (x5 % 5))
  replace o:=o.setCell (p:=⟨w.heap.size,5,none⟩) (by show w.heap.size≤w.heap.size;omega) (.int .i64 (x5 % 5))
  replace X:Row (w5.setCell ⟨w.heap.size,5,none⟩ (.int .i64 (x5 % 5))) (w.heap.size) 27 #[.int .i64 8, .int .i64 (1+x1 % 4), .int .i64 (1+x2 % 20), .int .i64 (1+x3 % 3), .int .i64 (2+x4 % 60), .int .i64 (x5 % 5), .int .i64 x6, .int .i64 x7]:=X
  generalize (w5.setCell ⟨w.heap.size,5,none⟩ (.int .i64 (x5 % 5)))=w5_1 at X R o ⊢
  refine hK _ _ ?_
  clear hK K
  try simp only [put9]
  refine hu_after (i:=9) rfl (by decide) (by kernel_rfl) (by kernel_rfl) (fun K hK=>?_)
  go_simp
  refine hK _ _ ?_
  clear hK K
  try simp only [put9]
  refine hu_done (by kernel_rfl) ?_
  try simp only [List.drop_succ_cons,List.drop_zero]
  clear HOK
  obtain ⟨y0,y1,y2,y3,y4,y5,y6,y7,yf0,yf1,yf2,yf3,yf4,yf5,yf6,yf7⟩:=row_eight X
  go_upto_region 5 with (fail)
  clear y0 yf0 y1 yf1 y2 yf2 y3 yf3 y4 yf4 y5 yf5 y6 yf6 y7 yf7
  replace X:=row_set X 6 (.int .i64 (1+x6 % 2))
  replace R:=row_other (p:=⟨w.heap.size,6,none⟩) R (by show w.heap.size+1≠w.heap.size;omega) (.int .i64 (1+x6 % 2))
  replace o:=o.setCell (p:=⟨w.heap.size,6,none⟩) (by show w.heap.size≤w.heap.size;omega) (.int .i64 (1+x6 % 2))
  replace X:Row (w5_1.setCell ⟨w.heap.size,6,none⟩ (.int .i64 (1+x6 % 2))) (w.heap.size) 27 #[.int .i64 8, .int .i64 (1+x1 % 4), .int .i64 (1+x2 % 20), .int .i64 (1+x3 % 3), .int .i64 (2+x4 % 60), .int .i64 (x5 % 5), .int .i64 (1+x6 % 2), .int .i64 x7]:=X
  generalize (w5_1.setCell ⟨w.heap.size,6,none⟩ (.int .i64 (1+x6 % 2)))=w5_2 at X R o ⊢
  obtain ⟨X0,X1,X2,X3,X4,X5,X6,X7,Xf0,Xf1,Xf2,Xf3,Xf4,Xf5,Xf6,Xf7⟩:=row_eight X
  go_upto_region 6 with (first | (go_at_call 9;with_reducible refine (P1.out _).mono ?_;rintro e w9 ⟨rfl,h9⟩;obtain rfl:=h9.symm) | (go_at_call 8;with_reducible refine (P2.out _).mono ?_;rintro e w9 ⟨rfl,h9⟩;obtain rfl:=h9.symm) | (go_at_call 9;with_reducible refine (P3.out _).mono ?_;rintro e w9 ⟨rfl,h9⟩;obtain rfl:=h9.symm) | (go_at_call 9;with_reducible refine (P4.out _).mono ?_;rintro e w9 ⟨rfl,h9⟩;obtain rfl:=h9.symm) | (go_at_call 9;with_reducible refine (P5.out _).mono ?_;rintro e w9 ⟨rfl,h9⟩;obtain rfl:=h9.symm) | (go_at_call 9;with_reducible refine (P6.out _).mono ?_;rintro e w9 ⟨rfl,h9⟩;obtain rfl:=h9.symm) | (go_at_call 8;with_reducible refine (P7.out _).mono ?_;rintro e w9 ⟨rfl,h9⟩;obtain rfl:=h9.symm))
  clear X0 Xf0 X1 Xf1 X2 Xf2 X3 Xf3 X4 Xf4 X5 Xf5 X6 Xf6 X7 Xf7
  replace X:=row_set X 7 (.int .i64 (1+x7 % 20))
  replace R:=row_other (p:=⟨w.heap.size,7,none⟩) R (by show w.heap.size+1≠w.heap.size;omega) (.int .i64 (1+x7 % 20))
  replace o:=o.setCell (p:=⟨w.heap.size,7,none⟩) (Nat.le_refl _) (.int .i64 (1+x7 % 20))
  replace X:Row (w5_2.setCell ⟨w.heap.size,7,none⟩ (.int .i64 (1+x7 % 20))) (w.heap.size) 27 #[.int .i64 8, .int .i64 (1+x1 % 4), .int .i64 (1+x2 % 20), .int .i64 (1+x3 % 3), .int .i64 (2+x4 % 60), .int .i64 (x5 % 5), .int .i64 (1+x6 % 2), .int .i64 (1+x7 % 20)]:=X
  generalize (w5_2.setCell ⟨w.heap.size,7,none⟩ (.int .i64 (1+x7 % 20)))=w6 at X R o ⊢
  obtain ⟨X0,X1,X2,X3,X4,X5,X6,X7,Xf0,Xf1,Xf2,Xf3,Xf4,Xf5,Xf6,Xf7⟩:=row_eight X
  go_upto_region 8 with (first | (go_at_call 9;with_reducible refine (P1.out _).mono ?_;rintro e w9 ⟨rfl,h9⟩;obtain rfl:=h9.symm) | (go_at_call 8;with_reducible refine (P2.out _).mono ?_;rintro e w9 ⟨rfl,h9⟩;obtain rfl:=h9.symm) | (go_at_call 9;with_reducible refine (P3.out _).mono ?_;rintro e w9 ⟨rfl,h9⟩;obtain rfl:=h9.symm) | (go_at_call 9;with_reducible refine (P4.out _).mono ?_;rintro e w9 ⟨rfl,h9⟩;obtain rfl:=h9.symm) | (go_at_call 9;with_reducible refine (P5.out _).mono ?_;rintro e w9 ⟨rfl,h9⟩;obtain rfl:=h9.symm) | (go_at_call 9;with_reducible refine (P6.out _).mono ?_;rintro e w9 ⟨rfl,h9⟩;obtain rfl:=h9.symm) | (go_at_call 8;with_reducible refine (P7.out _).mono ?_;rintro e w9 ⟨rfl,h9⟩;obtain rfl:=h9.symm))
  clear X0 Xf0 X1 Xf1 X2 Xf2 X3 Xf3 X4 Xf4 X5 Xf5 X6 Xf6 X7 Xf7
  replace X:=row_set X 7 (.int .i64 ((1+x7 % 20) % 2))
  replace R:=row_other (p:=⟨w.heap.size,7,none⟩) R (by show w.heap.size+1≠w.heap.size;omega) (.int .i64 ((1+x7 % 20) % 2))
  replace o:=o.setCell (p:=⟨w.heap.size,7,none⟩) (Nat.le_refl _) (.int .i64 ((1+x7 % 20) % 2))
  replace X:Row (w6.setCell ⟨w.heap.size,7,none⟩ (.int .i64 ((1+x7 % 20) % 2))) (w.heap.size) 27 #[.int .i64 8, .int .i64 (1+x1 % 4), .int .i64 (1+x2 % 20), .int .i64 (1+x3 % 3), .int .i64 (2+x4 % 60), .int .i64 (x5 % 5), .int .i64 (1+x6 % 2), .int .i64 ((1+x7 % 20) % 2)]:=X
  generalize (w6.setCell ⟨w.heap.size,7,none⟩ (.int .i64 ((1+x7 % 20) % 2)))=w7 at X R o ⊢
  obtain ⟨X0,X1,X2,X3,X4,X5,X6,X7,Xf0,Xf1,Xf2,Xf3,Xf4,Xf5,Xf6,Xf7⟩:=row_eight X
  go_wp2_with fail
  refine (PL.out _).mono ?_
  rintro e w8 ⟨rfl,hb⟩
  replace R:=row_call R hb
  replace o:=o.trans (hb.mono o.size)
  clear hb X X0 Xf0 X1 Xf1 X2 Xf2 X3 Xf3 X4 Xf4 X5 Xf5 X6 Xf6 X7 Xf7
  obtain ⟨R0,R1,R2,R3,R4,R5,R6,R7,Rf0,Rf1,Rf2,Rf3,Rf4,Rf5,Rf6,Rf7⟩:=row_eight R
  go_wp2
  have Sr0:=row_set R 0 (.int .i64 8)
  have Sr1:=row_set Sr0 1 (.int .i64 0)
  have Sr2:=row_set Sr1 2 (.int .i64 (1+x2 % 20))
  have Sr3:=row_set Sr2 3 (.int .i64 0)
  have Sr4:=row_set Sr3 4 (.int .i64 (2+x4 % 60))
  have Sr5:=row_set Sr4 5 (.int .i64 0)
  have Sr6:=row_set Sr5 6 (.int .i64 0)
  have Sr7:=row_set Sr6 7 (.int .i64 ((1+x7 % 20) % 2))
  have o90:=o.setCell (p:=⟨w.heap.size+1,0,none⟩) (by show w.heap.size≤w.heap.size+1;omega) (.int .i64 8)
  have o91:=o90.setCell (p:=⟨w.heap.size+1,1,none⟩) (by show w.heap.size≤w.heap.size+1;omega) (.int .i64 0)
  have o92:=o91.setCell (p:=⟨w.heap.size+1,2,none⟩) (by show w.heap.size≤w.heap.size+1;omega) (.int .i64 (1+x2 % 20))
  have o93:=o92.setCell (p:=⟨w.heap.size+1,3,none⟩) (by show w.heap.size≤w.heap.size+1;omega) (.int .i64 0)
  have o94:=o93.setCell (p:=⟨w.heap.size+1,4,none⟩) (by show w.heap.size≤w.heap.size+1;omega) (.int .i64 (2+x4 % 60))
  have o95:=o94.setCell (p:=⟨w.heap.size+1,5,none⟩) (by show w.heap.size≤w.heap.size+1;omega) (.int .i64 0)
  have o96:=o95.setCell (p:=⟨w.heap.size+1,6,none⟩) (by show w.heap.size≤w.heap.size+1;omega) (.int .i64 0)
  have o97:=o96.setCell (p:=⟨w.heap.size+1,7,none⟩) (by show w.heap.size≤w.heap.size+1;omega) (.int .i64 ((1+x7 % 20) % 2))
  obtain ⟨S0,S1,S2,S3,S4,S5,S6,S7,_,_,_,_,_,_,_,_⟩:=row_eight Sr7
  exact bodyPost_ret (v := .agg #[.int .i64 8, .int .i64 0, .int .i64 (1+x2 % 20), .int .i64 0, .int .i64 (2+x4 % 60), .int .i64 0, .int .i64 0, .int .i64 ((1+x7 % 20) % 2)]) (by simp [results,Tryz.results19,go_sem,S0,S1,S2,S3,S4,S5,S6,S7]) rfl ⟨rfl,o97⟩
theorem pconfigPoly (x0 x1 x2 x3 x4 x5 x6 x7:Int) (w:World):Calls Tryz.prog 19 #[.agg #[.int .i64 x0, .int .i64 x1, .int .i64 x2, .int .i64 x3, .int .i64 x4, .int .i64 x5, .int .i64 x6, .int .i64 x7], .int .i64 6] w fun e w'=>e = .returned (.agg #[.int .i64 6, .int .i64 0, .int .i64 0, .int .i64 0, .int .i64 0, .int .i64 (x5 % 5), .int .i64 0, .int .i64 0])∧Below w.heap.size w w' :=
  pconfigG 6 x0 x1 x2 x3 x4 x5 x6 x7 6 0 0 0 0 (x5 % 5) 0 0 w (by decide) (Lib.hid (fun w=>pplainPoly (1+x1 % 4) (1+x2 % 20) (1+x3 % 3) (2+x4 % 60) (x5 % 5) (1+x6 % 2) (1+x7 % 20) w))
theorem pconfigHalve (x0 x1 x2 x3 x4 x5 x6 x7:Int) (w:World):Calls Tryz.prog 19 #[.agg #[.int .i64 x0, .int .i64 x1, .int .i64 x2, .int .i64 x3, .int .i64 x4, .int .i64 x5, .int .i64 x6, .int .i64 x7], .int .i64 7] w fun e w'=>e = .returned (.agg #[.int .i64 7, .int .i64 0, .int .i64 (1+x2 % 20), .int .i64 0, .int .i64 0, .int .i64 0, .int .i64 0, .int .i64 0])∧Below w.heap.size w w' :=
  pconfigG 7 x0 x1 x2 x3 x4 x5 x6 x7 7 0 (1+x2 % 20) 0 0 0 0 0 w (by decide) (Lib.hid (fun w=>pplainHalve (1+x1 % 4) (1+x2 % 20) (1+x3 % 3) (2+x4 % 60) (x5 % 5) (1+x6 % 2) (1+x7 % 20) w))
end Go.Proofs.YtdipoojjlddohaaGreat
end
