/- What the law TopSummaries needs, joined of its texts by a program (slim2.py); part 13. -/
import Derived.Test.YtdipoojjlddohaaGreatZTopSummaries1
import Derived.Test.YtdipoojjlddohaaGreatZTopSummaries4
import Derived.Test.YtdipoojjlddohaaGreatZTopSummaries5
import Derived.Test.YtdipoojjlddohaaGreatZTopSummaries12
set_option linter.unusedVariables false
set_option linter.unusedSimpArgs false
set_option linter.unusedSectionVars false
set_option linter.unnecessarySimpa false
section
/- Synopses of kind Summary: the fields of all other kinds are zero, walked. -/
namespace Go.Proofs.YtdipoojjlddohaaGreat
open Go.RowKit
set_option maxRecDepth 100000 in
set_option maxHeartbeats 8000000 in
theorem poSummary (A:Option Addr) (m c:Nat) (k cap n:Nat) (w:World):Calls Tryz.prog 132 #[.agg #[.int .i64 10, .int .i64 0, .int .i64 0, .int .i64 (k:Nat), .int .i64 (cap:Nat), .int .i64 0, .int .i64 0, .int .i64 0, .int .i64 0, .int .i64 0, .int .i64 0, .slice none 0 0, .int .i64 0, .int .i64 0, .int .i64 0, .int .i64 0, .slice none 0 0, .int .i64 0, .int .i64 0, .int .i64 0, .int .i64 0, .int .i64 0, .slice none 0 0, .int .i64 0, .int .i64 0, .int .i64 0, .int .i64 0, .int .i64 0, .int .i64 0, .slice none 0 0, .int .i64 0, .int .i64 0, .int .i64 0, .int .i64 0, .int .i64 0, .slice none 0 0, .int .i64 0, .int .i64 0, .int .i64 0, .slice none 0 0, .int .i64 0, .slice none 0 0, .bool false, .int .i64 0, .int .i64 0, .int .i64 0, .slice none 0 0, .slice none 0 0, .int .i64 (k:Nat), .int .i64 (cap:Nat), .int .i64 (n:Nat), .slice A m c, .int .i64 0, .int .i64 0, .int .i64 0, .int .i64 0, .slice none 0 0]] w fun e w'=>e = .returned (.bool true)∧Below w.heap.size w w':=by
  go_enter Tryz.func132,Tryz.ntmps132
  go_upto_region 1 with (fail)
  refine start1 (fun w1 X o=>?_)
  have k0:w1.cell? ⟨w.heap.size,0,none⟩=some (.int .i64 10):=row_cell X 0
  go_upto_region 2 with (fail)
  clear k0
  refine wp_region_phase 19 (fun w'=>Row w' w.heap.size 58 #[.int .i64 10, .int .i64 0, .int .i64 0, .int .i64 (k:Nat), .int .i64 (cap:Nat), .int .i64 0, .int .i64 0, .int .i64 0, .int .i64 0, .int .i64 0, .int .i64 0, .slice none 0 0, .int .i64 0, .int .i64 0, .int .i64 0, .int .i64 0, .slice none 0 0, .int .i64 0, .int .i64 0, .int .i64 0, .int .i64 0, .int .i64 0, .slice none 0 0, .int .i64 0, .int .i64 0, .int .i64 0, .int .i64 0, .int .i64 0, .int .i64 0, .slice none 0 0, .int .i64 0, .int .i64 0, .int .i64 0, .int .i64 0, .int .i64 0, .slice none 0 0, .int .i64 0, .int .i64 0, .int .i64 0, .slice none 0 0, .int .i64 0, .slice none 0 0, .bool false, .int .i64 0, .int .i64 0, .int .i64 0, .slice none 0 0, .slice none 0 0, .int .i64 (k:Nat), .int .i64 (cap:Nat), .int .i64 (n:Nat), .slice A m c, .int .i64 0, .int .i64 0, .int .i64 0, .int .i64 0, .slice none 0 0]∧Below w.heap.size w w') (by kernel_rfl) (by kernel_rfl) (by kernel_rfl) (by kernel_rfl) (by kernel_rfl) (fun HOK=>?_)
  have HS:=(⟨row_drew X,o.drew⟩:Row w1.drew w.heap.size 58 #[.int .i64 10, .int .i64 0, .int .i64 0, .int .i64 (k:Nat), .int .i64 (cap:Nat), .int .i64 0, .int .i64 0, .int .i64 0, .int .i64 0, .int .i64 0, .int .i64 0, .slice none 0 0, .int .i64 0, .int .i64 0, .int .i64 0, .int .i64 0, .slice none 0 0, .int .i64 0, .int .i64 0, .int .i64 0, .int .i64 0, .int .i64 0, .slice none 0 0, .int .i64 0, .int .i64 0, .int .i64 0, .int .i64 0, .int .i64 0, .int .i64 0, .slice none 0 0, .int .i64 0, .int .i64 0, .int .i64 0, .int .i64 0, .int .i64 0, .slice none 0 0, .int .i64 0, .int .i64 0, .int .i64 0, .slice none 0 0, .int .i64 0, .slice none 0 0, .bool false, .int .i64 0, .int .i64 0, .int .i64 0, .slice none 0 0, .slice none 0 0, .int .i64 (k:Nat), .int .i64 (cap:Nat), .int .i64 (n:Nat), .slice A m c, .int .i64 0, .int .i64 0, .int .i64 0, .int .i64 0, .slice none 0 0]∧Below w.heap.size w w1.drew)
  (refine hw_take HOK (i:=0) ?_ rfl (by decide) (by kernel_rfl) (by kernel_rfl) (by exact fun _ _ _ h=>h) (Or.inl ⟨by rfl,fun w' hS=>?_⟩) HS ?_;rotate_left;(go_simp;try with_reducible rfl);simp only [put9])
  (refine hw_take HOK (i:=1) ?_ rfl (by decide) (by kernel_rfl) (by kernel_rfl) (by exact fun _ _ _ h=>h) (Or.inl ⟨by rfl,fun w' hS=>?_⟩) HS ?_;rotate_left;(have q0:w'.cell? ⟨w.heap.size,8,none⟩=some (.int .i64 0):=row_cell hS.1 8;have q1:w'.cell? ⟨w.heap.size,9,none⟩=some (.int .i64 0):=row_cell hS.1 9;have q2:w'.cell? ⟨w.heap.size,10,none⟩=some (.int .i64 0):=row_cell hS.1 10;have q3:w'.cell? ⟨w.heap.size,11,none⟩=some (.slice none 0 0):=row_cell hS.1 11;go_simp;try with_reducible rfl);simp only [put9])
  (refine hw_take HOK (i:=2) ?_ rfl (by decide) (by kernel_rfl) (by kernel_rfl) (by exact fun _ _ _ h=>h) (Or.inl ⟨by rfl,fun w' hS=>?_⟩) HS ?_;rotate_left;(go_simp;try with_reducible rfl);simp only [put9])
  (refine hw_take HOK (i:=3) ?_ rfl (by decide) (by kernel_rfl) (by kernel_rfl) (by exact fun _ _ _ h=>h) (Or.inl ⟨by rfl,fun w' hS=>?_⟩) HS ?_;rotate_left;(have q0:w'.cell? ⟨w.heap.size,12,none⟩=some (.int .i64 0):=row_cell hS.1 12;have q1:w'.cell? ⟨w.heap.size,13,none⟩=some (.int .i64 0):=row_cell hS.1 13;have q2:w'.cell? ⟨w.heap.size,14,none⟩=some (.int .i64 0):=row_cell hS.1 14;have q3:w'.cell? ⟨w.heap.size,15,none⟩=some (.int .i64 0):=row_cell hS.1 15;have q4:w'.cell? ⟨w.heap.size,16,none⟩=some (.slice none 0 0):=row_cell hS.1 16;go_simp;try with_reducible rfl);simp only [put9])
  (refine hw_take HOK (i:=4) ?_ rfl (by decide) (by kernel_rfl) (by kernel_rfl) (by exact fun _ _ _ h=>h) (Or.inl ⟨by rfl,fun w' hS=>?_⟩) HS ?_;rotate_left;(go_simp;try with_reducible rfl);simp only [put9])
  (refine hw_take HOK (i:=5) ?_ rfl (by decide) (by kernel_rfl) (by kernel_rfl) (by exact fun _ _ _ h=>h) (Or.inl ⟨by rfl,fun w' hS=>?_⟩) HS ?_;rotate_left;(have q0:w'.cell? ⟨w.heap.size,17,none⟩=some (.int .i64 0):=row_cell hS.1 17;have q1:w'.cell? ⟨w.heap.size,18,none⟩=some (.int .i64 0):=row_cell hS.1 18;have q2:w'.cell? ⟨w.heap.size,19,none⟩=some (.int .i64 0):=row_cell hS.1 19;have q3:w'.cell? ⟨w.heap.size,20,none⟩=some (.int .i64 0):=row_cell hS.1 20;have q4:w'.cell? ⟨w.heap.size,21,none⟩=some (.int .i64 0):=row_cell hS.1 21;have q5:w'.cell? ⟨w.heap.size,22,none⟩=some (.slice none 0 0):=row_cell hS.1 22;go_simp;try with_reducible rfl);simp only [put9])
  (refine hw_take HOK (i:=6) ?_ rfl (by decide) (by kernel_rfl) (by kernel_rfl) (by exact fun _ _ _ h=>h) (Or.inl ⟨by rfl,fun w' hS=>?_⟩) HS ?_;rotate_left;(go_simp;try with_reducible rfl);simp only [put9])
  (refine hw_take HOK (i:=7) ?_ rfl (by decide) (by kernel_rfl) (by kernel_rfl) (by exact fun _ _ _ h=>h) (Or.inl ⟨by rfl,fun w' hS=>?_⟩) HS ?_;rotate_left;(have q0:w'.cell? ⟨w.heap.size,23,none⟩=some (.int .i64 0):=row_cell hS.1 23;have q1:w'.cell? ⟨w.heap.size,24,none⟩=some (.int .i64 0):=row_cell hS.1 24;have q2:w'.cell? ⟨w.heap.size,25,none⟩=some (.int .i64 0):=row_cell hS.1 25;have q3:w'.cell? ⟨w.heap.size,26,none⟩=some (.int .i64 0):=row_cell hS.1 26;have q4:w'.cell? ⟨w.heap.size,27,none⟩=some (.int .i64 0):=row_cell hS.1 27;have q5:w'.cell? ⟨w.heap.size,28,none⟩=some (.int .i64 0):=row_cell hS.1 28;have q6:w'.cell? ⟨w.heap.size,29,none⟩=some (.slice none 0 0):=row_cell hS.1 29;go_simp;try with_reducible rfl);simp only [put9])
  (refine hw_take HOK (i:=8) ?_ rfl (by decide) (by kernel_rfl) (by kernel_rfl) (by exact fun _ _ _ h=>h) (Or.inl ⟨by rfl,fun w' hS=>?_⟩) HS ?_;rotate_left;(go_simp;try with_reducible rfl);simp only [put9])
  (refine hw_take HOK (i:=9) ?_ rfl (by decide) (by kernel_rfl) (by kernel_rfl) (by exact fun _ _ _ h=>h) (Or.inl ⟨by rfl,fun w' hS=>?_⟩) HS ?_;rotate_left;(have q0:w'.cell? ⟨w.heap.size,30,none⟩=some (.int .i64 0):=row_cell hS.1 30;have q1:w'.cell? ⟨w.heap.size,31,none⟩=some (.int .i64 0):=row_cell hS.1 31;have q2:w'.cell? ⟨w.heap.size,32,none⟩=some (.int .i64 0):=row_cell hS.1 32;have q3:w'.cell? ⟨w.heap.size,33,none⟩=some (.int .i64 0):=row_cell hS.1 33;have q4:w'.cell? ⟨w.heap.size,34,none⟩=some (.int .i64 0):=row_cell hS.1 34;have q5:w'.cell? ⟨w.heap.size,35,none⟩=some (.slice none 0 0):=row_cell hS.1 35;go_simp;try with_reducible rfl);simp only [put9])
  refine hw_news (f:=4) (fun x o hx=>⟨row_alloc hx.1 o,hx.2.alloc hx.2.size o⟩) [⟨10,4,29,#[.int .i64 0, .int .i64 0, .int .i64 0, .slice none 0 0]⟩,⟨11,5,32,#[.int .i64 0, .int .i64 0, .int .i64 0, .int .i64 0, .slice none 0 0]⟩,⟨12,6,34,#[.int .i64 0, .int .i64 0, .int .i64 0, .int .i64 0, .int .i64 0, .slice none 0 0]⟩,⟨13,7,37,#[.int .i64 0, .int .i64 0, .int .i64 0, .int .i64 0, .int .i64 0, .int .i64 0, .slice none 0 0]⟩,⟨14,8,39,#[.int .i64 0, .int .i64 0, .int .i64 0, .int .i64 0, .int .i64 0, .slice none 0 0]⟩] _ _ _ (by kernel_rfl) (List.forall_mem_cons.2 ⟨⟨⟨_,_,rfl,rfl,rfl,fun ρ w'=>by go_simp⟩,rfl,by decide⟩,List.forall_mem_cons.2 ⟨⟨⟨_,_,rfl,rfl,rfl,fun ρ w'=>by go_simp⟩,rfl,by decide⟩,List.forall_mem_cons.2 ⟨⟨⟨_,_,rfl,rfl,rfl,fun ρ w'=>by go_simp⟩,rfl,by decide⟩,List.forall_mem_cons.2 ⟨⟨⟨_,_,rfl,rfl,rfl,fun ρ w'=>by go_simp⟩,rfl,by decide⟩,List.forall_mem_cons.2 ⟨⟨⟨_,_,rfl,rfl,rfl,fun ρ w'=>by go_simp⟩,rfl,by decide⟩,fun _ h=>by cases h⟩⟩⟩⟩⟩) (by decide) HS ?_
  intro bs w2 hS hN
  clear HS
  obtain ⟨b0,b1,b2,b3,b4,rfl⟩:∃ b0 b1 b2 b3 b4,bs=[b0,b1,b2,b3,b4]:=by
    match bs,hN.len with
    | [b0,b1,b2,b3,b4],_=>exact ⟨_,_,_,_,_,rfl⟩
  have zx:=row_lt X
  have nd:=hN.nodup
  simp only [List.nodup_cons,List.mem_cons,List.not_mem_nil,or_false,not_or] at nd
  obtain ⟨⟨n01,n02,n03,n04⟩,⟨n12,n13,n14⟩,⟨n23,n24⟩,n34,_⟩:=nd
  have R0:Row w2 b0 29 #[.int .i64 0, .int .i64 0, .int .i64 0, .slice none 0 0]:=hN.rows 0 _ _ rfl rfl
  have ge0:w.heap.size+1≤b0:=Nat.le_trans zx (hN.ge b0 (by simp))
  have R1:Row w2 b1 32 #[.int .i64 0, .int .i64 0, .int .i64 0, .int .i64 0, .slice none 0 0]:=hN.rows 1 _ _ rfl rfl
  have ge1:w.heap.size+1≤b1:=Nat.le_trans zx (hN.ge b1 (by simp))
  have R2:Row w2 b2 34 #[.int .i64 0, .int .i64 0, .int .i64 0, .int .i64 0, .int .i64 0, .slice none 0 0]:=hN.rows 2 _ _ rfl rfl
  have ge2:w.heap.size+1≤b2:=Nat.le_trans zx (hN.ge b2 (by simp))
  have R3:Row w2 b3 37 #[.int .i64 0, .int .i64 0, .int .i64 0, .int .i64 0, .int .i64 0, .int .i64 0, .slice none 0 0]:=hN.rows 3 _ _ rfl rfl
  have ge3:w.heap.size+1≤b3:=Nat.le_trans zx (hN.ge b3 (by simp))
  have R4:Row w2 b4 39 #[.int .i64 0, .int .i64 0, .int .i64 0, .int .i64 0, .int .i64 0, .slice none 0 0]:=hN.rows 4 _ _ rfl rfl
  have ge4:w.heap.size+1≤b4:=Nat.le_trans zx (hN.ge b4 (by simp))
  replace X:=hS.1
  replace o:=hS.2
  clear hN hS zx
  simp only [putAll,setAll,List.foldl]
  try simp only [put9]
  refine hw_one (i:=15) rfl (by decide) (by kernel_rfl) (fun K hK=>?_)
  obtain ⟨y0,y1,y2,y3,yf0,yf1,yf2,yf3⟩:=row_four R0
  go_simp
  clear y0 yf0 y1 yf1 y2 yf2 y3 yf3
  show K _ (setL w2 b0 0 [.int .i64 0, .int .i64 0, .int .i64 0, .slice none 0 0])
  refine layK [.int .i64 0, .int .i64 0, .int .i64 0, .slice none 0 0] X o R0 R1 R2 R3 R4 (by omega) (by omega) (by omega) (by omega) (by omega) (by omega) ?_
  clear X o R0 R1 R2 R3 R4
  intro w2_0 X o R0 R1 R2 R3 R4
  replace R0:Row w2_0 b0 29 #[.int .i64 0, .int .i64 0, .int .i64 0, .slice none 0 0]:=R0
  refine hK _ _ ⟨X,o⟩ ?_
  clear hK K
  try simp only [put9]
  refine hw_one (i:=16) rfl (by decide) (by kernel_rfl) (fun K hK=>?_)
  obtain ⟨y0,y1,y2,y3,y4,yf0,yf1,yf2,yf3,yf4⟩:=row_five R1
  go_simp
  clear y0 yf0 y1 yf1 y2 yf2 y3 yf3 y4 yf4
  show K _ (setL w2_0 b1 0 [.int .i64 0, .int .i64 0, .int .i64 0, .int .i64 0, .slice none 0 0])
  refine layK [.int .i64 0, .int .i64 0, .int .i64 0, .int .i64 0, .slice none 0 0] X o R1 R0 R2 R3 R4 (by omega) (by omega) (by omega) (by omega) (by omega) (by omega) ?_
  clear X o R0 R1 R2 R3 R4
  intro w2_1 X o R1 R0 R2 R3 R4
  replace R1:Row w2_1 b1 32 #[.int .i64 0, .int .i64 0, .int .i64 0, .int .i64 0, .slice none 0 0]:=R1
  refine hK _ _ ⟨X,o⟩ ?_
  clear hK K
  try simp only [put9]
  refine hw_one (i:=17) rfl (by decide) (by kernel_rfl) (fun K hK=>?_)
  obtain ⟨y0,y1,y2,y3,y4,y5,yf0,yf1,yf2,yf3,yf4,yf5⟩:=row_six R2
  go_simp
  clear y0 yf0 y1 yf1 y2 yf2 y3 yf3 y4 yf4 y5 yf5
  show K _ (setL w2_1 b2 0 [.int .i64 0, .int .i64 0, .int .i64 0, .int .i64 0, .int .i64 0, .slice none 0 0])
  refine layK [.int .i64 0, .int .i64 0, .int .i64 0, .int .i64 0, .int .i64 0, .slice none 0 0] X o R2 R0 R1 R3 R4 (by omega) (by omega) (by omega) (by omega) (by omega) (by omega) ?_
  clear X o R0 R1 R2 R3 R4
  intro w2_2 X o R2 R0 R1 R3 R4
  replace R2:Row w2_2 b2 34 #[.int .i64 0, .int .i64 0, .int .i64 0, .int .i64 0, .int .i64 0, .slice none 0 0]:=R2
  refine hK _ _ ⟨X,o⟩ ?_
  clear hK K
  try simp only [put9]
  refine hw_one (i:=18) rfl (by decide) (by kernel_rfl) (fun K hK=>?_)
  obtain ⟨y0,y1,y2,y3,y4,y5,y6,yf0,yf1,yf2,yf3,yf4,yf5,yf6⟩:=row_seven R3
  go_simp
  clear y0 yf0 y1 yf1 y2 yf2 y3 yf3 y4 yf4 y5 yf5 y6 yf6
  show K _ (setL w2_2 b3 0 [.int .i64 0, .int .i64 0, .int .i64 0, .int .i64 0, .int .i64 0, .int .i64 0, .slice none 0 0])
  refine layK [.int .i64 0, .int .i64 0, .int .i64 0, .int .i64 0, .int .i64 0, .int .i64 0, .slice none 0 0] X o R3 R0 R1 R2 R4 (by omega) (by omega) (by omega) (by omega) (by omega) (by omega) ?_
  clear X o R0 R1 R2 R3 R4
  intro w2_3 X o R3 R0 R1 R2 R4
  replace R3:Row w2_3 b3 37 #[.int .i64 0, .int .i64 0, .int .i64 0, .int .i64 0, .int .i64 0, .int .i64 0, .slice none 0 0]:=R3
  refine hK _ _ ⟨X,o⟩ ?_
  clear hK K
  try simp only [put9]
  refine hw_done (by kernel_rfl) ?_
  try simp only [List.drop_succ_cons,List.drop_zero]
  obtain ⟨y0,y1,y2,y3,y4,y5,yf0,yf1,yf2,yf3,yf4,yf5⟩:=row_six R4
  go_upto_region 3 with (fail)
  clear y0 yf0 y1 yf1 y2 yf2 y3 yf3 y4 yf4 y5 yf5
  show Code.wp _ _ _ _ (setL w2_3 b4 0 [.int .i64 0, .int .i64 0, .int .i64 0, .int .i64 0, .int .i64 0, .slice none 0 0])
  refine layC [.int .i64 0, .int .i64 0, .int .i64 0, .int .i64 0, .int .i64 0, .slice none 0 0] X o R4 R0 R1 R2 R3 (by omega) (by omega) (by omega) (by omega) (by omega) (by omega) ?_
  clear X o R0 R1 R2 R3 R4
  intro w2_4 X o R4 R0 R1 R2 R3
  replace R4:Row w2_4 b4 39 #[.int .i64 0, .int .i64 0, .int .i64 0, .int .i64 0, .int .i64 0, .slice none 0 0]:=R4
  clear HOK
  obtain ⟨y0,y1,y2,y3,yf0,yf1,yf2,yf3⟩:=row_four R0
  go_upto_region 5 with (fail)
  clear y0 yf0 y1 yf1 y2 yf2 y3 yf3 R0
  obtain ⟨y0,y1,y2,y3,y4,yf0,yf1,yf2,yf3,yf4⟩:=row_five R1
  go_upto_region 7 with (fail)
  clear y0 yf0 y1 yf1 y2 yf2 y3 yf3 y4 yf4 R1
  obtain ⟨y0,y1,y2,y3,y4,y5,yf0,yf1,yf2,yf3,yf4,yf5⟩:=row_six R2
  go_upto_region 9 with (fail)
  clear y0 yf0 y1 yf1 y2 yf2 y3 yf3 y4 yf4 y5 yf5 R2
  obtain ⟨y0,y1,y2,y3,y4,y5,y6,yf0,yf1,yf2,yf3,yf4,yf5,yf6⟩:=row_seven R3
  go_upto_region 11 with (fail)
  clear y0 yf0 y1 yf1 y2 yf2 y3 yf3 y4 yf4 y5 yf5 y6 yf6 R3
  obtain ⟨y0,y1,y2,y3,y4,y5,yf0,yf1,yf2,yf3,yf4,yf5⟩:=row_six R4
  go_upto_region 13 with (fail)
  clear y0 yf0 y1 yf1 y2 yf2 y3 yf3 y4 yf4 y5 yf5 R4
  refine wp_region_phase 19 (fun w'=>Row w' w.heap.size 58 #[.int .i64 10, .int .i64 0, .int .i64 0, .int .i64 (k:Nat), .int .i64 (cap:Nat), .int .i64 0, .int .i64 0, .int .i64 0, .int .i64 0, .int .i64 0, .int .i64 0, .slice none 0 0, .int .i64 0, .int .i64 0, .int .i64 0, .int .i64 0, .slice none 0 0, .int .i64 0, .int .i64 0, .int .i64 0, .int .i64 0, .int .i64 0, .slice none 0 0, .int .i64 0, .int .i64 0, .int .i64 0, .int .i64 0, .int .i64 0, .int .i64 0, .slice none 0 0, .int .i64 0, .int .i64 0, .int .i64 0, .int .i64 0, .int .i64 0, .slice none 0 0, .int .i64 0, .int .i64 0, .int .i64 0, .slice none 0 0, .int .i64 0, .slice none 0 0, .bool false, .int .i64 0, .int .i64 0, .int .i64 0, .slice none 0 0, .slice none 0 0, .int .i64 (k:Nat), .int .i64 (cap:Nat), .int .i64 (n:Nat), .slice A m c, .int .i64 0, .int .i64 0, .int .i64 0, .int .i64 0, .slice none 0 0]∧Below w.heap.size w w') (by kernel_rfl) (by kernel_rfl) (by kernel_rfl) (by kernel_rfl) (by kernel_rfl) (fun HOK=>?_)
  have HS:=(⟨row_drew X,o.drew⟩:Row w2_4.drew w.heap.size 58 #[.int .i64 10, .int .i64 0, .int .i64 0, .int .i64 (k:Nat), .int .i64 (cap:Nat), .int .i64 0, .int .i64 0, .int .i64 0, .int .i64 0, .int .i64 0, .int .i64 0, .slice none 0 0, .int .i64 0, .int .i64 0, .int .i64 0, .int .i64 0, .slice none 0 0, .int .i64 0, .int .i64 0, .int .i64 0, .int .i64 0, .int .i64 0, .slice none 0 0, .int .i64 0, .int .i64 0, .int .i64 0, .int .i64 0, .int .i64 0, .int .i64 0, .slice none 0 0, .int .i64 0, .int .i64 0, .int .i64 0, .int .i64 0, .int .i64 0, .slice none 0 0, .int .i64 0, .int .i64 0, .int .i64 0, .slice none 0 0, .int .i64 0, .slice none 0 0, .bool false, .int .i64 0, .int .i64 0, .int .i64 0, .slice none 0 0, .slice none 0 0, .int .i64 (k:Nat), .int .i64 (cap:Nat), .int .i64 (n:Nat), .slice A m c, .int .i64 0, .int .i64 0, .int .i64 0, .int .i64 0, .slice none 0 0]∧Below w.heap.size w w2_4.drew)
  (refine hw_take HOK (i:=0) ?_ rfl (by decide) (by kernel_rfl) (by kernel_rfl) (by exact fun _ _ _ h=>h) (Or.inl ⟨by rfl,fun w' hS=>?_⟩) HS ?_;rotate_left;(go_simp;try with_reducible rfl);simp only [put9])
  (refine hw_take HOK (i:=1) ?_ rfl (by decide) (by kernel_rfl) (by kernel_rfl) (by exact fun _ _ _ h=>h) (Or.inl ⟨by rfl,fun w' hS=>?_⟩) HS ?_;rotate_left;(have q0:w'.cell? ⟨w.heap.size,36,none⟩=some (.int .i64 0):=row_cell hS.1 36;have q1:w'.cell? ⟨w.heap.size,37,none⟩=some (.int .i64 0):=row_cell hS.1 37;have q2:w'.cell? ⟨w.heap.size,38,none⟩=some (.int .i64 0):=row_cell hS.1 38;have q3:w'.cell? ⟨w.heap.size,39,none⟩=some (.slice none 0 0):=row_cell hS.1 39;go_simp;try with_reducible rfl);simp only [put9])
  (refine hw_take HOK (i:=2) ?_ rfl (by decide) (by kernel_rfl) (by kernel_rfl) (by exact fun _ _ _ h=>h) (Or.inl ⟨by rfl,fun w' hS=>?_⟩) HS ?_;rotate_left;(go_simp;try with_reducible rfl);simp only [put9])
  (refine hw_take HOK (i:=3) ?_ rfl (by decide) (by kernel_rfl) (by kernel_rfl) (by exact fun _ _ _ h=>h) (Or.inl ⟨by rfl,fun w' hS=>?_⟩) HS ?_;rotate_left;(have q0:w'.cell? ⟨w.heap.size,40,none⟩=some (.int .i64 0):=row_cell hS.1 40;have q1:w'.cell? ⟨w.heap.size,41,none⟩=some (.slice none 0 0):=row_cell hS.1 41;go_simp;try with_reducible rfl);simp only [put9])
  (refine hw_take HOK (i:=4) ?_ rfl (by decide) (by kernel_rfl) (by kernel_rfl) (by exact fun _ _ _ h=>h) (Or.inl ⟨by rfl,fun w' hS=>?_⟩) HS ?_;rotate_left;(go_simp;try with_reducible rfl);simp only [put9])
  (refine hw_take HOK (i:=5) ?_ rfl (by decide) (by kernel_rfl) (by kernel_rfl) (by exact fun _ _ _ h=>h) (Or.inl ⟨by rfl,fun w' hS=>?_⟩) HS ?_;rotate_left;(have q0:w'.cell? ⟨w.heap.size,42,none⟩=some (.bool false):=row_cell hS.1 42;have q1:w'.cell? ⟨w.heap.size,43,none⟩=some (.int .i64 0):=row_cell hS.1 43;have q2:w'.cell? ⟨w.heap.size,44,none⟩=some (.int .i64 0):=row_cell hS.1 44;have q3:w'.cell? ⟨w.heap.size,45,none⟩=some (.int .i64 0):=row_cell hS.1 45;have q4:w'.cell? ⟨w.heap.size,46,none⟩=some (.slice none 0 0):=row_cell hS.1 46;go_simp;try with_reducible rfl);simp only [put9])
  (refine hw_take HOK (i:=6) ?_ rfl (by decide) (by kernel_rfl) (by kernel_rfl) (by exact fun _ _ _ h=>h) (Or.inl ⟨by rfl,fun w' hS=>?_⟩) HS ?_;rotate_left;(go_simp;try with_reducible rfl);simp only [put9])
  (refine hw_take HOK (i:=7) ?_ rfl (by decide) (by kernel_rfl) (by kernel_rfl) (by exact fun _ _ _ h=>h) (Or.inl ⟨by rfl,fun w' hS=>?_⟩) HS ?_;rotate_left;(have q0:w'.cell? ⟨w.heap.size,48,none⟩=some (.int .i64 (k:Nat)):=row_cell hS.1 48;have q1:w'.cell? ⟨w.heap.size,49,none⟩=some (.int .i64 (cap:Nat)):=row_cell hS.1 49;have q2:w'.cell? ⟨w.heap.size,50,none⟩=some (.int .i64 (n:Nat)):=row_cell hS.1 50;have q3:w'.cell? ⟨w.heap.size,51,none⟩=some (.slice A m c):=row_cell hS.1 51;go_simp;try with_reducible rfl);simp only [put9])
  (refine hw_take HOK (i:=8) ?_ rfl (by decide) (by kernel_rfl) (by kernel_rfl) (by exact fun _ _ _ h=>h) (Or.inl ⟨by rfl,fun w' hS=>?_⟩) HS ?_;rotate_left;(go_simp;try with_reducible rfl);simp only [put9])
  (refine hw_take HOK (i:=9) ?_ rfl (by decide) (by kernel_rfl) (by kernel_rfl) (by exact fun _ _ _ h=>h) (Or.inl ⟨by rfl,fun w' hS=>?_⟩) HS ?_;rotate_left;(have q0:w'.cell? ⟨w.heap.size,52,none⟩=some (.int .i64 0):=row_cell hS.1 52;have q1:w'.cell? ⟨w.heap.size,53,none⟩=some (.int .i64 0):=row_cell hS.1 53;have q2:w'.cell? ⟨w.heap.size,54,none⟩=some (.int .i64 0):=row_cell hS.1 54;have q3:w'.cell? ⟨w.heap.size,55,none⟩=some (.int .i64 0):=row_cell hS.1 55;have q4:w'.cell? ⟨w.heap.size,56,none⟩=some (.slice none 0 0):=row_cell hS.1 56;go_simp;try with_reducible rfl);simp only [put9])
  refine hw_news (f:=4) (fun x o hx=>⟨row_alloc hx.1 o,hx.2.alloc hx.2.size o⟩) [⟨10,9,42,#[.int .i64 0, .int .i64 0, .int .i64 0, .slice none 0 0]⟩,⟨11,10,45,#[.int .i64 0, .slice none 0 0]⟩,⟨12,11,47,#[.bool false, .int .i64 0, .int .i64 0, .int .i64 0, .slice none 0 0]⟩,⟨13,12,53,#[.int .i64 0, .int .i64 0, .int .i64 0, .slice none 0 0]⟩,⟨14,13,56,#[.int .i64 0, .int .i64 0, .int .i64 0, .int .i64 0, .slice none 0 0]⟩] _ _ _ (by kernel_rfl) (List.forall_mem_cons.2 ⟨⟨⟨_,_,rfl,rfl,rfl,fun ρ w'=>by go_simp⟩,rfl,by decide⟩,List.forall_mem_cons.2 ⟨⟨⟨_,_,rfl,rfl,rfl,fun ρ w'=>by go_simp⟩,rfl,by decide⟩,List.forall_mem_cons.2 ⟨⟨⟨_,_,rfl,rfl,rfl,fun ρ w'=>by go_simp⟩,rfl,by decide⟩,List.forall_mem_cons.2 ⟨⟨⟨_,_,rfl,rfl,rfl,fun ρ w'=>by go_simp⟩,rfl,by decide⟩,List.forall_mem_cons.2 ⟨⟨⟨_,_,rfl,rfl,rfl,fun ρ w'=>by go_simp⟩,rfl,by decide⟩,fun _ h=>by cases h⟩⟩⟩⟩⟩) (by decide) HS ?_
  intro bs v2 hS hN
  clear HS
  obtain ⟨b0,b1,b2,b3,b4,rfl⟩:∃ b0 b1 b2 b3 b4,bs=[b0,b1,b2,b3,b4]:=by
    match bs,hN.len with
    | [b0,b1,b2,b3,b4],_=>exact ⟨_,_,_,_,_,rfl⟩
  have zx:=row_lt X
  have nd:=hN.nodup
  simp only [List.nodup_cons,List.mem_cons,List.not_mem_nil,or_false,not_or] at nd
  obtain ⟨⟨n01,n02,n03,n04⟩,⟨n12,n13,n14⟩,⟨n23,n24⟩,n34,_⟩:=nd
  have P0:Row v2 b0 42 #[.int .i64 0, .int .i64 0, .int .i64 0, .slice none 0 0]:=hN.rows 0 _ _ rfl rfl
  have ge0:w.heap.size+1≤b0:=Nat.le_trans zx (hN.ge b0 (by simp))
  have P1:Row v2 b1 45 #[.int .i64 0, .slice none 0 0]:=hN.rows 1 _ _ rfl rfl
  have ge1:w.heap.size+1≤b1:=Nat.le_trans zx (hN.ge b1 (by simp))
  have P2:Row v2 b2 47 #[.bool false, .int .i64 0, .int .i64 0, .int .i64 0, .slice none 0 0]:=hN.rows 2 _ _ rfl rfl
  have ge2:w.heap.size+1≤b2:=Nat.le_trans zx (hN.ge b2 (by simp))
  have P3:Row v2 b3 53 #[.int .i64 0, .int .i64 0, .int .i64 0, .slice none 0 0]:=hN.rows 3 _ _ rfl rfl
  have ge3:w.heap.size+1≤b3:=Nat.le_trans zx (hN.ge b3 (by simp))
  have P4:Row v2 b4 56 #[.int .i64 0, .int .i64 0, .int .i64 0, .int .i64 0, .slice none 0 0]:=hN.rows 4 _ _ rfl rfl
  have ge4:w.heap.size+1≤b4:=Nat.le_trans zx (hN.ge b4 (by simp))
  replace X:=hS.1
  replace o:=hS.2
  clear hN hS zx
  simp only [putAll,setAll,List.foldl]
  try simp only [put9]
  refine hw_one (i:=15) rfl (by decide) (by kernel_rfl) (fun K hK=>?_)
  obtain ⟨y0,y1,y2,y3,yf0,yf1,yf2,yf3⟩:=row_four P0
  go_simp
  clear y0 yf0 y1 yf1 y2 yf2 y3 yf3
  show K _ (setL v2 b0 0 [.int .i64 0, .int .i64 0, .int .i64 0, .slice none 0 0])
  refine layK [.int .i64 0, .int .i64 0, .int .i64 0, .slice none 0 0] X o P0 P1 P2 P3 P4 (by omega) (by omega) (by omega) (by omega) (by omega) (by omega) ?_
  clear X o P0 P1 P2 P3 P4
  intro v2_0 X o P0 P1 P2 P3 P4
  replace P0:Row v2_0 b0 42 #[.int .i64 0, .int .i64 0, .int .i64 0, .slice none 0 0]:=P0
  refine hK _ _ ⟨X,o⟩ ?_
  clear hK K
  try simp only [put9]
  refine hw_one (i:=16) rfl (by decide) (by kernel_rfl) (fun K hK=>?_)
  obtain ⟨y0,y1,yf0,yf1⟩:=row_two P1
  go_simp
  clear y0 yf0 y1 yf1
  show K _ (setL v2_0 b1 0 [.int .i64 0, .slice none 0 0])
  refine layK [.int .i64 0, .slice none 0 0] X o P1 P0 P2 P3 P4 (by omega) (by omega) (by omega) (by omega) (by omega) (by omega) ?_
  clear X o P0 P1 P2 P3 P4
  intro v2_1 X o P1 P0 P2 P3 P4
  replace P1:Row v2_1 b1 45 #[.int .i64 0, .slice none 0 0]:=P1
  refine hK _ _ ⟨X,o⟩ ?_
  clear hK K
  try simp only [put9]
  refine hw_one (i:=17) rfl (by decide) (by kernel_rfl) (fun K hK=>?_)
  obtain ⟨y0,y1,y2,y3,y4,yf0,yf1,yf2,yf3,yf4⟩:=row_five P2
  go_simp
  clear y0 yf0 y1 yf1 y2 yf2 y3 yf3 y4 yf4
  show K _ (setL v2_1 b2 0 [.bool false, .int .i64 0, .int .i64 0, .int .i64 0, .slice none 0 0])
  refine layK [.bool false, .int .i64 0, .int .i64 0, .int .i64 0, .slice none 0 0] X o P2 P0 P1 P3 P4 (by omega) (by omega) (by omega) (by omega) (by omega) (by omega) ?_
  clear X o P0 P1 P2 P3 P4
  intro v2_2 X o P2 P0 P1 P3 P4
  replace P2:Row v2_2 b2 47 #[.bool false, .int .i64 0, .int .i64 0, .int .i64 0, .slice none 0 0]:=P2
  refine hK _ _ ⟨X,o⟩ ?_
  clear hK K
  try simp only [put9]
  refine hw_one (i:=18) rfl (by decide) (by kernel_rfl) (fun K hK=>?_)
  obtain ⟨y0,y1,y2,y3,yf0,yf1,yf2,yf3⟩:=row_four P3
  go_simp
  clear y0 yf0 y1 yf1 y2 yf2 y3 yf3
  show K _ (setL v2_2 b3 0 [.int .i64 (k:Nat), .int .i64 (cap:Nat), .int .i64 (n:Nat), .slice A m c])
  refine layK [.int .i64 (k:Nat), .int .i64 (cap:Nat), .int .i64 (n:Nat), .slice A m c] X o P3 P0 P1 P2 P4 (by omega) (by omega) (by omega) (by omega) (by omega) (by omega) ?_
  clear X o P0 P1 P2 P3 P4
  intro v2_3 X o P3 P0 P1 P2 P4
  replace P3:Row v2_3 b3 53 #[.int .i64 (k:Nat), .int .i64 (cap:Nat), .int .i64 (n:Nat), .slice A m c]:=P3
  refine hK _ _ ⟨X,o⟩ ?_
  clear hK K
  try simp only [put9]
  refine hw_done (by kernel_rfl) ?_
  try simp only [List.drop_succ_cons,List.drop_zero]
  obtain ⟨y0,y1,y2,y3,y4,yf0,yf1,yf2,yf3,yf4⟩:=row_five P4
  go_upto_region 14 with (fail)
  clear y0 yf0 y1 yf1 y2 yf2 y3 yf3 y4 yf4
  show Code.wp _ _ _ _ (setL v2_3 b4 0 [.int .i64 0, .int .i64 0, .int .i64 0, .int .i64 0, .slice none 0 0])
  refine layC [.int .i64 0, .int .i64 0, .int .i64 0, .int .i64 0, .slice none 0 0] X o P4 P0 P1 P2 P3 (by omega) (by omega) (by omega) (by omega) (by omega) (by omega) ?_
  clear X o P0 P1 P2 P3 P4
  intro v2_4 X o P4 P0 P1 P2 P3
  replace P4:Row v2_4 b4 56 #[.int .i64 0, .int .i64 0, .int .i64 0, .int .i64 0, .slice none 0 0]:=P4
  clear HOK
  obtain ⟨y0,y1,y2,y3,yf0,yf1,yf2,yf3⟩:=row_four P0
  go_upto_region 16 with (fail)
  clear y0 yf0 y1 yf1 y2 yf2 y3 yf3 P0
  obtain ⟨y0,y1,yf0,yf1⟩:=row_two P1
  go_upto_region 18 with (fail)
  clear y0 yf0 y1 yf1 P1
  obtain ⟨y0,y1,y2,y3,y4,yf0,yf1,yf2,yf3,yf4⟩:=row_five P2
  go_upto_region 20 with (fail)
  clear y0 yf0 y1 yf1 y2 yf2 y3 yf3 y4 yf4 P2
  have q47:v2_4.cell? ⟨w.heap.size,47,none⟩=some (.slice none 0 0):=row_cell X 47
  go_upto_region 22 with (fail)
  clear q47
  obtain ⟨y0,y1,y2,y3,yf0,yf1,yf2,yf3⟩:=row_four P3
  go_upto_region 24 with (fail)
  clear y0 yf0 y1 yf1 y2 yf2 y3 yf3 P3
  obtain ⟨y0,y1,y2,y3,y4,yf0,yf1,yf2,yf3,yf4⟩:=row_five P4
  go_wp2
  go_ret
  exact ⟨by first | rfl | exact ret_bool (by simp) | simp,o⟩
end Go.Proofs.YtdipoojjlddohaaGreat
end
