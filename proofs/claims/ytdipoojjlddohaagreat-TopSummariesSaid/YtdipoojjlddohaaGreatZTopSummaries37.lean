/- What the law TopSummaries needs, joined of its texts by a program (slim2.py); part 37. -/
import Derived.Test.YtdipoojjlddohaaGreatZTopSummaries1
import Derived.Test.YtdipoojjlddohaaGreatZTopSummaries36
set_option linter.unusedVariables false
set_option linter.unusedSimpArgs false
set_option linter.unusedSectionVars false
set_option linter.unnecessarySimpa false
section
/- Windowed quantiles: an item more, the rank of a value, walked. -/
namespace Go.Proofs.YtdipoojjlddohaaGreat
open Go.RowKit
set_option maxRecDepth 100000 in
set_option maxHeartbeats 4000000 in
theorem pqtadd (A:Option Addr) (m c:Nat) (l:List Bq) (wd:Int) (k cap:Nat) (now:Int) (v:Int) (w:World) (hin:QIn A m c l w) (hs:QtS wd k cap now l) (v0 : -4096≤v) (v1:v≤4096) (hf:btot (bqs l)<cap) (hX:∀ x,2*k*(2 ^ x-1)+2 ^ x≤btot (bqs l)+1→2 ^ x≤qsz k cap+1):Calls Tryz.prog 130 #[.agg #[.int .i64 wd, .int .i64 (k:Nat), .int .i64 (cap:Nat), .int .i64 now, .slice A m c], .int .i64 v] w (QtRet (InsQ (qsz k cap) (2*k) l now v) (fun A m c=>#[.int .i64 wd, .int .i64 (k:Nat), .int .i64 (cap:Nat), .int .i64 now, .slice A m c]) 0 A m l w):=by
  have P:=Lib.hid (fun w' (hb:Below w.heap.size w w')=>pqtval A m c l wd k cap now w' (hin.below hb) hs)
  have htl:=tot_len (bqs l)
  rw [bqs_len] at htl
  have hln:=hin.len
  have hm:m≤65536:=by have:=hs.cap;have:=hs.good;omega
  obtain ⟨g0,g1,g2,g3,g4,g5,g6,g7⟩:=hs.good
  have hq:=qsz_le ⟨g2,g3⟩ g5
  have PT:=Lib.hid (fun w' (hb:Below w.heap.size w w')=>pqtotal A m c l w' (hin.below hb) (by omega) (fun b hb=>hs.val.lev b.bk (List.mem_map_of_mem hb)) (by omega))
  have PS:=fun w=>pqtsize k cap w ⟨g2,g3⟩ ⟨g4,g5⟩
  have PI:=fun w' (hb:Below w.heap.size w w')=>pqinsert A m c l (2*k) (qsz k cap) now v w' (hin.below hb) hs.val hs.ok (by omega) (by omega) hq.1 hq.2 (by omega) g6 g7 v0 v1 (fun b hb=>(hs.live b hb).2) (by omega) hX
  have HLT:=Lib.hid (fun g (hg:QB A m l g)=>hin.lt hg)
  have t1:((btot (bqs l):Int) == (cap:Int))=false:=by simp;omega
  have q3:¬ v < -4096:=by omega
  have q4:¬ 4096<v:=by omega
  have w2k:IntKind.i64.wrap (2*(k:Int))=((2*k:Nat):Int):=by rw [IntWalk.i64_in _ (by omega)];omega
  generalize btot (bqs l)=N at PT t1
  generalize qsz k cap=sz at PS PI ⊢
  obtain ⟨k2,hk2⟩:∃ x:Nat,x=2*k:=⟨_,rfl⟩
  rw [← hk2] at PI w2k ⊢
  replace PS:=Lib.hid PS
  replace PI:=Lib.hid PI
  clear hin hs hX hf hk2 htl v0 v1 hq
  go_enter Tryz.func130,Tryz.ntmps130
  go_upto_region 1 with (fail)
  have X:Row ((w.alloc (.cells #[.int .i64 wd, .int .i64 (k:Nat), .int .i64 (cap:Nat), .int .i64 now, .slice A m c] 56)).alloc (.cells #[.int .i64 0, .int .i64 0, .int .i64 0, .int .i64 0, .slice none 0 0] 56)) w.heap.size 56 #[.int .i64 wd, .int .i64 (k:Nat), .int .i64 (cap:Nat), .int .i64 now, .slice A m c]:=row_alloc (row_new rfl) _
  have R:Row ((w.alloc (.cells #[.int .i64 wd, .int .i64 (k:Nat), .int .i64 (cap:Nat), .int .i64 now, .slice A m c] 56)).alloc (.cells #[.int .i64 0, .int .i64 0, .int .i64 0, .int .i64 0, .slice none 0 0] 56)) (w.heap.size+1) 56 #[.int .i64 0, .int .i64 0, .int .i64 0, .int .i64 0, .slice none 0 0]:=row_new (by simp)
  have o:Below w.heap.size w ((w.alloc (.cells #[.int .i64 wd, .int .i64 (k:Nat), .int .i64 (cap:Nat), .int .i64 now, .slice A m c] 56)).alloc (.cells #[.int .i64 0, .int .i64 0, .int .i64 0, .int .i64 0, .slice none 0 0] 56)):=by (repeat (first | exact Below.refl _ _ | refine Below.setCell ?_ (by (try simp)<;>omega) _ | refine Below.alloc ?_ (by (try simp)<;>omega) _ | refine Below.drew ?_ | refine Below.trans ?_ (Below.mono (by assumption) (by (try simp)<;>omega))))
  generalize ((w.alloc (.cells #[.int .i64 wd, .int .i64 (k:Nat), .int .i64 (cap:Nat), .int .i64 now, .slice A m c] 56)).alloc (.cells #[.int .i64 0, .int .i64 0, .int .i64 0, .int .i64 0, .slice none 0 0] 56))=w1 at X R o ⊢
  obtain ⟨X0,X1,X2,X3,X4,Xf0,Xf1,Xf2,Xf3,Xf4⟩:=row_five X
  go_wp2_with fail
  refine (P.out _ o).mono ?_
  rintro e w2 ⟨rfl,hb⟩
  replace X:=row_call X hb
  replace R:=row_call R hb
  replace o:=o.trans (hb.mono o.size)
  clear hb P X0 Xf0 X1 Xf1 X2 Xf2 X3 Xf3 X4 Xf4
  obtain ⟨X0,X1,X2,X3,X4,Xf0,Xf1,Xf2,Xf3,Xf4⟩:=row_five X
  go_upto_region 6 with (fail)
  clear X0 Xf0 X1 Xf1 X2 Xf2 X3 Xf3 X4 Xf4
  refine wp_region_free0 [0,1,3,2,4] [] [0,1,2,3,4] 5 (fun w'=>Below w2.heap.size w2 w') (by kernel_rfl) (by kernel_rfl) (fun _ _ d _ _ h=>by cases d<;>exact h) ?_ ?_
  · exact (Below.refl _ _).drew
  (refine plan_pure ?_ rfl rfl (fun w'=>?_) ?_;rotate_left;(go_simp;try with_reducible rfl);simp only [put9])
  (refine plan_val ?_ rfl rfl rfl (fun w' hS=>?_) ?_;rotate_left;(obtain ⟨X0,X1,X2,X3,X4,Xf0,Xf1,Xf2,Xf3,Xf4⟩:=row_five (row_call X hS);go_simp;try with_reducible rfl);simp only [put9])
  (refine plan_pure ?_ rfl rfl (fun w'=>?_) ?_;rotate_left;(go_simp;try with_reducible rfl);simp only [put9])
  refine plan_call (.int .i64 (N:Nat)) 224 #[.slice A m c] rfl rfl rfl (fun _ _ h hb=>h.trans (hb.mono h.size)) (fun w' hS=>by obtain ⟨X0,X1,X2,X3,X4,Xf0,Xf1,Xf2,Xf3,Xf4⟩:=row_five (row_call X hS);go_simp) (fun w' hS=>PT.out _ (o.trans (hS.mono o.size))) ?_
  simp only [put9]
  (refine plan_val ?_ rfl rfl rfl (fun w' hS=>?_) ?_;rotate_left;(obtain ⟨X0,X1,X2,X3,X4,Xf0,Xf1,Xf2,Xf3,Xf4⟩:=row_five (row_call X hS);go_simp;try with_reducible rfl);simp only [put9])
  refine plan_nil ?_
  intro w5 L3
  simp only [List.drop_succ_cons,List.drop_zero]
  try simp only [put9]
  replace X:=row_call X L3
  replace R:=row_call R L3
  replace o:=o.trans (L3.mono o.size)
  clear L3 PT
  go_upto_region 8 with (fail)
  refine wp_region_phase 14 (fun w'=>Row w' (w.heap.size) 56 #[.int .i64 wd, .int .i64 (k:Nat), .int .i64 (cap:Nat), .int .i64 now, .slice A m c]∧Row w' (w.heap.size+1) 56 #[.int .i64 0, .int .i64 0, .int .i64 0, .int .i64 0, .slice none 0 0]∧Below w.heap.size w w') (by kernel_rfl) (by kernel_rfl) (by kernel_rfl) (by kernel_rfl) (by kernel_rfl) (fun HOK=>?_)
  have HS:=(⟨row_drew X,row_drew R,o.drew⟩:Row w5.drew (w.heap.size) 56 #[.int .i64 wd, .int .i64 (k:Nat), .int .i64 (cap:Nat), .int .i64 now, .slice A m c]∧Row w5.drew (w.heap.size+1) 56 #[.int .i64 0, .int .i64 0, .int .i64 0, .int .i64 0, .slice none 0 0]∧Below w.heap.size w w5.drew)
  (refine hw_take HOK (i:=0) ?_ rfl (by decide) (by kernel_rfl) (by kernel_rfl) (by exact fun _ _ _ h=>h) (Or.inl ⟨by rfl,fun w' hS=>?_⟩) HS ?_;rotate_left;(go_simp;try with_reducible rfl);simp only [put9])
  (refine hw_take HOK (i:=1) ?_ rfl (by decide) (by kernel_rfl) (by kernel_rfl) (by exact fun _ _ _ h=>h) (Or.inl ⟨by rfl,fun w' hS=>?_⟩) HS ?_;rotate_left;(obtain ⟨X0,X1,X2,X3,X4,Xf0,Xf1,Xf2,Xf3,Xf4⟩:=row_five hS.1;go_simp;try with_reducible rfl);simp only [put9])
  (refine hw_take HOK (i:=2) ?_ rfl (by decide) (by kernel_rfl) (by kernel_rfl) (by exact fun _ _ _ h=>h) (Or.inl ⟨by rfl,fun w' hS=>?_⟩) HS ?_;rotate_left;(go_simp;try with_reducible rfl);simp only [put9])
  (refine hw_take HOK (i:=3) ?_ rfl (by decide) (by kernel_rfl) (by kernel_rfl) (by exact fun _ _ _ h=>h) (Or.inl ⟨by rfl,fun w' hS=>?_⟩) HS ?_;rotate_left;(obtain ⟨X0,X1,X2,X3,X4,Xf0,Xf1,Xf2,Xf3,Xf4⟩:=row_five hS.1;go_simp;try with_reducible rfl);simp only [put9])
  (refine hw_take HOK (i:=4) ?_ rfl (by decide) (by kernel_rfl) (by kernel_rfl) (by exact fun _ _ _ h=>h) (Or.inl ⟨by rfl,fun w' hS=>?_⟩) HS ?_;rotate_left;(go_simp;try with_reducible rfl);simp only [put9])
  (refine hw_take HOK (i:=5) ?_ rfl (by decide) (by kernel_rfl) (by kernel_rfl) (by exact fun _ _ _ h=>h) (Or.inl ⟨by rfl,fun w' hS=>?_⟩) HS ?_;rotate_left;(go_simp;try with_reducible rfl);simp only [put9])
  (refine hw_take HOK (i:=6) ?_ rfl (by decide) (by kernel_rfl) (by kernel_rfl) (by exact fun _ _ _ h=>h) (Or.inl ⟨by rfl,fun w' hS=>?_⟩) HS ?_;rotate_left;(obtain ⟨X0,X1,X2,X3,X4,Xf0,Xf1,Xf2,Xf3,Xf4⟩:=row_five hS.1;go_simp;try with_reducible rfl);simp only [put9])
  (refine hw_take HOK (i:=7) ?_ rfl (by decide) (by kernel_rfl) (by kernel_rfl) (by exact fun _ _ _ h=>h) (Or.inl ⟨by rfl,fun w' hS=>?_⟩) HS ?_;rotate_left;(go_simp;try with_reducible rfl);simp only [put9])
  (refine hw_take HOK (i:=8) ?_ rfl (by decide) (by kernel_rfl) (by kernel_rfl) (by exact fun _ _ _ h=>h) (Or.inl ⟨by rfl,fun w' hS=>?_⟩) HS ?_;rotate_left;(obtain ⟨X0,X1,X2,X3,X4,Xf0,Xf1,Xf2,Xf3,Xf4⟩:=row_five hS.1;go_simp;try with_reducible rfl);simp only [put9])
  (refine hw_take HOK (i:=10) ?_ rfl (by decide) (by kernel_rfl) (by kernel_rfl) (by exact fun _ _ _ h=>h) (Or.inl ⟨by rfl,fun w' hS=>?_⟩) HS ?_;rotate_left;(go_simp;try with_reducible rfl);simp only [put9])
  (refine hw_take HOK (i:=11) ?_ rfl (by decide) (by kernel_rfl) (by kernel_rfl) (by exact fun _ _ _ h=>h) (Or.inl ⟨by rfl,fun w' hS=>?_⟩) HS ?_;rotate_left;(obtain ⟨X0,X1,X2,X3,X4,Xf0,Xf1,Xf2,Xf3,Xf4⟩:=row_five hS.1;go_simp;try with_reducible rfl);simp only [put9])
  (refine hw_take HOK (i:=12) ?_ rfl (by decide) (by kernel_rfl) (by kernel_rfl) (by exact fun _ _ _ h=>h) (Or.inl ⟨by rfl,fun w' hS=>?_⟩) HS ?_;rotate_left;(go_simp;try with_reducible rfl);simp only [put9])
  replace X:Row w5.drew (w.heap.size) 56 #[.int .i64 wd, .int .i64 (k:Nat), .int .i64 (cap:Nat), .int .i64 now, .slice A m c]:=X
  replace R:Row w5.drew (w.heap.size+1) 56 #[.int .i64 0, .int .i64 0, .int .i64 0, .int .i64 0, .slice none 0 0]:=R
  replace o:=o.drew
  clear HS
  generalize w5.drew=w6 at X R o ⊢
  refine hw_one (i:=9) rfl (by decide) (by kernel_rfl) (fun K hK=>?_)
  go_simp
  refine (PS.out _).mono ?_
  rintro e wx ⟨rfl,hx⟩
  obtain rfl:=hx.symm
  refine hK _ _ ⟨X,R,o⟩ ?_
  clear hK K
  try simp only [put9]
  refine hw_one (i:=13) rfl (by decide) (by kernel_rfl) (fun K hK=>?_)
  go_simp
  refine (PI.out _ o).mono ?_
  rintro e w7 ⟨g5,m5,c5,l5,rfl,in5,hP5,fr5,hb5⟩
  have z6:=row_lt R
  have z6':=o.size
  have fr7:=Lib.hid (show ∀ g,QB (some ⟨g5,0,none⟩) m5 l5 g→w.heap.size≤g∨QB A m l g from fun g hg=>by
    rcases fr5 g hg with h | h
    · exact .inl (by omega)
    · exact .inr h)
  have fr6:∀ g,QB (some ⟨g5,0,none⟩) m5 l5 g→g<w.heap.size∨w.heap.size+2≤g:=fun g hg=>by
    rcases fr5 g hg with h | h
    · exact .inr (by omega)
    · exact .inl (HLT.out _ h)
  replace hP5:=Lib.hid hP5
  obtain ⟨A5,hA5⟩:∃ x,x=some (⟨g5,0,none⟩:Addr):=⟨_,rfl⟩
  rw [← hA5] at in5 fr6 fr7 ⊢
  replace X:=row_call X hb5
  replace R:=row_call R hb5
  replace o:=o.trans (hb5.mono o.size)
  refine hK _ _ ⟨X,R,o⟩ ?_
  clear hK K
  try simp only [put9]
  refine hw_done (by kernel_rfl) ?_
  try simp only [List.drop_succ_cons,List.drop_zero]
  clear HOK hA5
  obtain ⟨X0,X1,X2,X3,X4,Xf0,Xf1,Xf2,Xf3,Xf4⟩:=row_five X
  go_upto_region 9 with (fail)
  replace X:=row_set X 4 (.slice A5 m5 c5)
  replace X:Row (w7.setCell ⟨w.heap.size,4,none⟩ (.slice A5 m5 c5)) (w.heap.size) 56 #[.int .i64 wd, .int .i64 (k:Nat), .int .i64 (cap:Nat), .int .i64 now, .slice A5 m5 c5]:=X
  replace R:=row_other (p:=⟨w.heap.size,4,none⟩) R (by show w.heap.size+1≠w.heap.size;omega) (.slice A5 m5 c5)
  replace o:=o.setCell (p:=⟨w.heap.size,4,none⟩) (Nat.le_refl _) (.slice A5 m5 c5)
  replace in5:=in5.setc (p:=⟨w.heap.size,4,none⟩) (fun g hg=>by have:=fr6 g hg;show w.heap.size≠g;omega) (.slice A5 m5 c5)
  generalize w7.setCell ⟨w.heap.size,4,none⟩ (.slice A5 m5 c5)=w8 at X R o in5 ⊢
  clear X0 Xf0 X1 Xf1 X2 Xf2 X3 Xf3 X4 Xf4 hb5
  obtain ⟨X0,X1,X2,X3,X4,Xf0,Xf1,Xf2,Xf3,Xf4⟩:=row_five X
  obtain ⟨R0,R1,R2,R3,R4,Rf0,Rf1,Rf2,Rf3,Rf4⟩:=row_five R
  go_wp2
  have Sr0:=row_set R 0 (.int .i64 wd)
  have Sr1:=row_set Sr0 1 (.int .i64 (k:Nat))
  have Sr2:=row_set Sr1 2 (.int .i64 (cap:Nat))
  have Sr3:=row_set Sr2 3 (.int .i64 now)
  have Sr4:=row_set Sr3 4 (.slice A5 m5 c5)
  have o90:=o.setCell (p:=⟨w.heap.size+1,0,none⟩) (by show w.heap.size≤w.heap.size+1;omega) (.int .i64 wd)
  have o91:=o90.setCell (p:=⟨w.heap.size+1,1,none⟩) (by show w.heap.size≤w.heap.size+1;omega) (.int .i64 (k:Nat))
  have o92:=o91.setCell (p:=⟨w.heap.size+1,2,none⟩) (by show w.heap.size≤w.heap.size+1;omega) (.int .i64 (cap:Nat))
  have o93:=o92.setCell (p:=⟨w.heap.size+1,3,none⟩) (by show w.heap.size≤w.heap.size+1;omega) (.int .i64 now)
  have o94:=o93.setCell (p:=⟨w.heap.size+1,4,none⟩) (by show w.heap.size≤w.heap.size+1;omega) (.slice A5 m5 c5)
  have b90:=in5.setc (p:=⟨w.heap.size+1,0,none⟩) (fun g hg=>by have:=fr6 g hg;show w.heap.size+1≠g;omega) (.int .i64 wd)
  have b91:=b90.setc (p:=⟨w.heap.size+1,1,none⟩) (fun g hg=>by have:=fr6 g hg;show w.heap.size+1≠g;omega) (.int .i64 (k:Nat))
  have b92:=b91.setc (p:=⟨w.heap.size+1,2,none⟩) (fun g hg=>by have:=fr6 g hg;show w.heap.size+1≠g;omega) (.int .i64 (cap:Nat))
  have b93:=b92.setc (p:=⟨w.heap.size+1,3,none⟩) (fun g hg=>by have:=fr6 g hg;show w.heap.size+1≠g;omega) (.int .i64 now)
  have b94:=b93.setc (p:=⟨w.heap.size+1,4,none⟩) (fun g hg=>by have:=fr6 g hg;show w.heap.size+1≠g;omega) (.slice A5 m5 c5)
  obtain ⟨S0,S1,S2,S3,S4,_,_,_,_,_⟩:=row_five Sr4
  exact bodyPost_ret (v := .tuple #[.agg #[.int .i64 wd, .int .i64 (k:Nat), .int .i64 (cap:Nat), .int .i64 now, .slice A5 m5 c5], .int .i64 0]) (by simp [results,Tryz.results130,go_sem,S0,S1,S2,S3,S4]) rfl ⟨A5,m5,c5,l5,rfl,b94,hP5.out,o94,fr7.out⟩
set_option maxRecDepth 100000 in
set_option maxHeartbeats 2000000 in
theorem pqtrank (A:Option Addr) (m c:Nat) (l:List Bq) (wd:Int) (k cap:Nat) (now:Int) (v b0 b1 b2 b3 b4 b5:Int) (w:World) (hin:QIn A m c l w) (hs:QtS wd k cap now l) (HQ:RowKit.Hid (∀ w',Below w.heap.size w w'→Calls Tryz.prog 151 #[.slice A m c, .int .i64 v] w' fun e w''=>e = .returned (.tuple #[.agg #[.int .i64 b0, .int .i64 b1, .int .i64 b2, .int .i64 b3, .int .i64 b4, .int .i64 b5], .int .i64 0])∧Below w'.heap.size w' w'')):Calls Tryz.prog 51 #[.agg #[.int .i64 wd, .int .i64 (k:Nat), .int .i64 (cap:Nat), .int .i64 now, .slice A m c], .int .i64 v] w fun e w'=>e = .returned (.tuple #[.agg #[.int .i64 b0, .int .i64 b1, .int .i64 b2, .int .i64 b3, .int .i64 b4, .int .i64 b5], .int .i64 0])∧Below w.heap.size w w':=by
  have P:=Lib.hid (fun w' (hb:Below w.heap.size w w')=>pqtval A m c l wd k cap now w' (hin.below hb) hs)
  clear hin hs
  go_enter Tryz.func51,Tryz.ntmps51
  go_upto_region 1 with (fail)
  have X:Row ((w.alloc (.cells #[.int .i64 wd, .int .i64 (k:Nat), .int .i64 (cap:Nat), .int .i64 now, .slice A m c] 56)).alloc (.cells #[.int .i64 0, .int .i64 0, .int .i64 0, .int .i64 0, .int .i64 0, .int .i64 0] 64)) w.heap.size 56 #[.int .i64 wd, .int .i64 (k:Nat), .int .i64 (cap:Nat), .int .i64 now, .slice A m c]:=row_alloc (row_new rfl) _
  have R:Row ((w.alloc (.cells #[.int .i64 wd, .int .i64 (k:Nat), .int .i64 (cap:Nat), .int .i64 now, .slice A m c] 56)).alloc (.cells #[.int .i64 0, .int .i64 0, .int .i64 0, .int .i64 0, .int .i64 0, .int .i64 0] 64)) (w.heap.size+1) 64 #[.int .i64 0, .int .i64 0, .int .i64 0, .int .i64 0, .int .i64 0, .int .i64 0]:=row_new (by simp)
  have o:Below w.heap.size w ((w.alloc (.cells #[.int .i64 wd, .int .i64 (k:Nat), .int .i64 (cap:Nat), .int .i64 now, .slice A m c] 56)).alloc (.cells #[.int .i64 0, .int .i64 0, .int .i64 0, .int .i64 0, .int .i64 0, .int .i64 0] 64)):=by (repeat (first | exact Below.refl _ _ | refine Below.setCell ?_ (by (try simp)<;>omega) _ | refine Below.alloc ?_ (by (try simp)<;>omega) _ | refine Below.drew ?_ | refine Below.trans ?_ (Below.mono (by assumption) (by (try simp)<;>omega))))
  generalize ((w.alloc (.cells #[.int .i64 wd, .int .i64 (k:Nat), .int .i64 (cap:Nat), .int .i64 now, .slice A m c] 56)).alloc (.cells #[.int .i64 0, .int .i64 0, .int .i64 0, .int .i64 0, .int .i64 0, .int .i64 0] 64))=w1 at X R o ⊢
  obtain ⟨X0,X1,X2,X3,X4,Xf0,Xf1,Xf2,Xf3,Xf4⟩:=row_five X
  go_wp2_with fail
  refine (P.out _ o).mono ?_
  rintro e w2 ⟨rfl,hb⟩
  replace X:=row_call X hb
  replace R:=row_call R hb
  replace o:=o.trans (hb.mono o.size)
  clear hb P X0 Xf0 X1 Xf1 X2 Xf2 X3 Xf3 X4 Xf4
  obtain ⟨X0,X1,X2,X3,X4,Xf0,Xf1,Xf2,Xf3,Xf4⟩:=row_five X
  go_wp2_with fail
  refine (HQ.out _ o).mono ?_
  rintro e w3 ⟨rfl,hb⟩
  replace R:=row_call R hb
  replace o:=o.trans (hb.mono o.size)
  clear hb X HQ X0 Xf0 X1 Xf1 X2 Xf2 X3 Xf3 X4 Xf4
  obtain ⟨R0,R1,R2,R3,R4,R5,Rf0,Rf1,Rf2,Rf3,Rf4,Rf5⟩:=row_six R
  go_wp2
  have Sr0:=row_set R 0 (.int .i64 b0)
  have Sr1:=row_set Sr0 1 (.int .i64 b1)
  have Sr2:=row_set Sr1 2 (.int .i64 b2)
  have Sr3:=row_set Sr2 3 (.int .i64 b3)
  have Sr4:=row_set Sr3 4 (.int .i64 b4)
  have Sr5:=row_set Sr4 5 (.int .i64 b5)
  have o90:=o.setCell (p:=⟨w.heap.size+1,0,none⟩) (by show w.heap.size≤w.heap.size+1;omega) (.int .i64 b0)
  have o91:=o90.setCell (p:=⟨w.heap.size+1,1,none⟩) (by show w.heap.size≤w.heap.size+1;omega) (.int .i64 b1)
  have o92:=o91.setCell (p:=⟨w.heap.size+1,2,none⟩) (by show w.heap.size≤w.heap.size+1;omega) (.int .i64 b2)
  have o93:=o92.setCell (p:=⟨w.heap.size+1,3,none⟩) (by show w.heap.size≤w.heap.size+1;omega) (.int .i64 b3)
  have o94:=o93.setCell (p:=⟨w.heap.size+1,4,none⟩) (by show w.heap.size≤w.heap.size+1;omega) (.int .i64 b4)
  have o95:=o94.setCell (p:=⟨w.heap.size+1,5,none⟩) (by show w.heap.size≤w.heap.size+1;omega) (.int .i64 b5)
  obtain ⟨S0,S1,S2,S3,S4,S5,_,_,_,_,_,_⟩:=row_six Sr5
  exact bodyPost_ret (v := .tuple #[.agg #[.int .i64 b0, .int .i64 b1, .int .i64 b2, .int .i64 b3, .int .i64 b4, .int .i64 b5], .int .i64 0]) (by simp [results,Tryz.results51,go_sem,S0,S1,S2,S3,S4,S5]) rfl ⟨rfl,o95⟩
end Go.Proofs.YtdipoojjlddohaaGreat
end
