/- What the law TopSummaries needs, joined of its texts by a program (slim2.py); part 35. -/
import Derived.Test.YtdipoojjlddohaaGreatZTopSummaries1
import Derived.Test.YtdipoojjlddohaaGreatZTopSummaries34
set_option linter.unusedVariables false
set_option linter.unusedSimpArgs false
set_option linter.unusedSectionVars false
set_option linter.unnecessarySimpa false
section
/- Blocks of exact summaries: bounds of a rank, walked. -/
namespace Go.Proofs.YtdipoojjlddohaaGreat
open Go.RowKit
set_option maxHeartbeats 2000000 in
theorem pqsure_nil (A:Option Addr) (c:Nat) (w:World):Calls Tryz.prog 238 #[.slice A 0 c] w fun e w'=>e = .returned (.tuple #[.agg #[.int .i64 0, .slice none 0 0], .int .i64 0])∧Below w.heap.size w w':=by
  go_enter Tryz.func238,Tryz.ntmps238
  go_upto_region 1 with (fail)
  have R:Row (w.alloc (.cells #[.int .i64 0, .slice none 0 0] 188)) (w.heap.size) 188 #[.int .i64 0, .slice none 0 0]:=row_new rfl
  have o:Below w.heap.size w (w.alloc (.cells #[.int .i64 0, .slice none 0 0] 188)):=by (repeat (first | exact Below.refl _ _ | refine Below.setCell ?_ (by (try simp)<;>omega) _ | refine Below.alloc ?_ (by (try simp)<;>omega) _ | refine Below.drew ?_ | refine Below.trans ?_ (Below.mono (by assumption) (by (try simp)<;>omega))))
  generalize w.alloc (.cells #[.int .i64 0, .slice none 0 0] 188)=w1 at R o ⊢
  go_wp2
  go_loopw [13] (fun i wr=>i = .int .i64 0∧Row wr (w.heap.size) 188 #[.int .i64 0, .slice none 0 0]∧Below w.heap.size w wr) (fun _ _=>0)
  case atStart=>exact ⟨rfl,R,o⟩
  case round =>
    clear R o
    obtain ⟨rfl,R,o⟩:=hrel
    obtain ⟨R0,R1,Rf0,Rf1⟩:=row_two R
    go_wp2
    have Q:=row_set (row_set R 0 (.int .i64 0)) 1 (.slice none 0 0)
    have o9:=(o.setCell (p:=⟨w.heap.size,0,none⟩) (Nat.le_refl _) (.int .i64 0)).setCell (p:=⟨w.heap.size,1,none⟩) (Nat.le_refl _) (.slice none 0 0)
    obtain ⟨S0,S1,_,_⟩:=row_two Q
    exact bodyPost_ret (v := .tuple #[.agg #[.int .i64 0, .slice none 0 0], .int .i64 0]) (by simp [results,Tryz.results238,go_sem,S0,S1]) rfl ⟨rfl,o9⟩
set_option maxHeartbeats 2000000 in
theorem pqrank_nil (A:Option Addr) (c:Nat) (v:Int) (w:World):Calls Tryz.prog 151 #[.slice A 0 c, .int .i64 v] w fun e w'=>e = .returned (.tuple #[.agg #[.int .i64 0, .int .i64 1, .int .i64 0, .int .i64 1, .int .i64 0, .int .i64 1], .int .i64 0])∧Below w.heap.size w w':=by
  have PS:=Lib.hid (fun w=>pqsure_nil A c w)
  have P1:=Lib.hid (fun w=>pratio 0 w)
  have P2:=Lib.hid (fun w=>pexactR 0 1 w (by decide) (by decide) (by decide) (by decide))
  go_enter Tryz.func151,Tryz.ntmps151
  go_upto_region 1 with (fail)
  have R:Row (w.alloc (.cells #[.int .i64 0, .int .i64 0, .int .i64 0, .int .i64 0, .int .i64 0, .int .i64 0] 64)) (w.heap.size) 64 #[.int .i64 0, .int .i64 0, .int .i64 0, .int .i64 0, .int .i64 0, .int .i64 0]:=row_new rfl
  have o:Below w.heap.size w (w.alloc (.cells #[.int .i64 0, .int .i64 0, .int .i64 0, .int .i64 0, .int .i64 0, .int .i64 0] 64)):=by (repeat (first | exact Below.refl _ _ | refine Below.setCell ?_ (by (try simp)<;>omega) _ | refine Below.alloc ?_ (by (try simp)<;>omega) _ | refine Below.drew ?_ | refine Below.trans ?_ (Below.mono (by assumption) (by (try simp)<;>omega))))
  generalize (w.alloc (.cells #[.int .i64 0, .int .i64 0, .int .i64 0, .int .i64 0, .int .i64 0, .int .i64 0] 64))=w1 at R o ⊢
  go_wp2_with fail
  refine (PS.out _).mono ?_
  rintro e w2 ⟨rfl,hb⟩
  replace R:=row_call R hb
  replace o:=o.trans (hb.mono o.size)
  clear hb
  go_upto_region 2 with (fail)
  replace R:=row_alloc R (.cells #[.int .i64 0, .slice none 0 0] 188)
  replace o:=o.alloc o.size (.cells #[.int .i64 0, .slice none 0 0] 188)
  generalize w2.alloc (.cells #[.int .i64 0, .slice none 0 0] 188)=w3 at R o ⊢
  go_wp2_with fail
  refine (P1.out _).mono ?_
  rintro e w4 ⟨rfl,hb⟩
  replace R:=row_call R hb
  replace o:=o.trans (hb.mono o.size)
  clear hb
  go_wp2_with fail
  refine (P2.out _).mono ?_
  rintro e w5 ⟨rfl,hb⟩
  replace R:=row_call R hb
  replace o:=o.trans (hb.mono o.size)
  clear hb
  obtain ⟨R0,R1,R2,R3,R4,R5,Rf0,Rf1,Rf2,Rf3,Rf4,Rf5⟩:=row_six R
  go_wp2
  have Sr0:=row_set R 0 (.int .i64 0)
  have Sr1:=row_set Sr0 1 (.int .i64 1)
  have Sr2:=row_set Sr1 2 (.int .i64 0)
  have Sr3:=row_set Sr2 3 (.int .i64 1)
  have Sr4:=row_set Sr3 4 (.int .i64 0)
  have Sr5:=row_set Sr4 5 (.int .i64 1)
  have o90:=o.setCell (p:=⟨w.heap.size,0,none⟩) (by show w.heap.size≤w.heap.size;omega) (.int .i64 0)
  have o91:=o90.setCell (p:=⟨w.heap.size,1,none⟩) (by show w.heap.size≤w.heap.size;omega) (.int .i64 1)
  have o92:=o91.setCell (p:=⟨w.heap.size,2,none⟩) (by show w.heap.size≤w.heap.size;omega) (.int .i64 0)
  have o93:=o92.setCell (p:=⟨w.heap.size,3,none⟩) (by show w.heap.size≤w.heap.size;omega) (.int .i64 1)
  have o94:=o93.setCell (p:=⟨w.heap.size,4,none⟩) (by show w.heap.size≤w.heap.size;omega) (.int .i64 0)
  have o95:=o94.setCell (p:=⟨w.heap.size,5,none⟩) (by show w.heap.size≤w.heap.size;omega) (.int .i64 1)
  obtain ⟨S0,S1,S2,S3,S4,S5,_,_,_,_,_,_⟩:=row_six Sr5
  exact bodyPost_ret (v := .tuple #[.agg #[.int .i64 0, .int .i64 1, .int .i64 0, .int .i64 1, .int .i64 0, .int .i64 1], .int .i64 0]) (by simp [results,Tryz.results151,go_sem,S0,S1,S2,S3,S4,S5]) rfl ⟨rfl,o95⟩
set_option maxRecDepth 100000 in
set_option maxHeartbeats 4000000 in
theorem pqrank (A:Option Addr) (m c:Nat) (l:List Bq) (sz:Nat) (v:Int) (w:World) (hin:QIn A m c l w) (ho:∀ b∈l,BqOK sz b) (hl30:∀ b∈l,b.lv≤30) (hm:1≤m) (hT:(qvs l).length≤90000) (lo hi:Nat) (hlo:lo=cle (joinQ [(bqAt l 0).last] (l.drop 1)) v) (hhi:hi=lo+(2 ^ (bqAt l 0).lv-1)):Calls Tryz.prog 151 #[.slice A m c, .int .i64 v] w fun e w'=>e = .returned (.tuple #[.agg #[.int .i64 (lo:Nat), .int .i64 1, .int .i64 ((lo+hi) / 2:Nat), .int .i64 1, .int .i64 (hi:Nat), .int .i64 1], .int .i64 0])∧Below w.heap.size w w':=by
  have PS:=fun w' (hb:Below w.heap.size w w')=>pqsure A m c l sz w' (hin.below hb) ho hl30 hm hT
  obtain ⟨ad,rfl,hadb,hi0⟩:=hin.reads.bq (i:=0) (by omega)
  have hi0:BqCells w ad (bqAt l 0):=hi0
  have hl0:0<l.length:=by rw [hin.len];omega
  have h30:=hl30 _ (bq_mem hl0)
  have HC:=Lib.hid (fun w' (hb:Below w.heap.size w w')=>(BqCells.below (w':=w') hi0 hb hadb).2.2.1)
  have hcl:=cle_len (joinQ [(bqAt l 0).last] (l.drop 1)) v
  have hjl:=(joinQ_perm (l.drop 1) [(bqAt l 0).last]).length_eq
  have hql:=qvs_part l 1 l.length
  rw [List.take_of_length_le (by rw [List.length_drop];omega)] at hql
  rw [List.length_append,List.length_singleton] at hjl
  rw [← hlo] at hcl
  have hp30:2 ^ (bqAt l 0).lv≤1073741824:=Nat.pow_le_pow_right (n:=2) (by decide) h30
  have hp1:=Nat.one_le_two_pow (n:=(bqAt l 0).lv)
  obtain ⟨su,hsu⟩:∃ x,x=joinQ [(bqAt l 0).last] (l.drop 1):=⟨_,rfl⟩
  rw [← hsu] at PS hlo
  have PK:=Lib.hid (fun Ao no co w' (h:RkIn Ao no co su w')=>prkrank Ao no co su v w' h)
  rw [← hlo] at PK
  have sh:IntKind.i64.wrap (2 ^ min (IntKind.u64.wrap ((bqAt l 0).lv:Int)).toNat 64)=((2 ^ (bqAt l 0).lv:Nat):Int):=by
    have e:((2:Int) ^ (bqAt l 0).lv)=((2 ^ (bqAt l 0).lv:Nat):Int):=by simp
    rw [IntWalk.u64_in _ (by omega),show min ((bqAt l 0).lv:Int).toNat 64=(bqAt l 0).lv by omega,e]
    exact IntWalk.i64_in _ (by omega)
  generalize (bqAt l 0).lv=lv at HC h30 hp30 hp1 sh hhi
  generalize 2 ^ lv=P at hp30 hp1 sh hhi
  have wa:IntKind.i64.wrap ((lo:Int)+(P:Int))=(lo:Int)+(P:Int):=IntWalk.i64_in _ (by omega)
  have ws:IntKind.i64.wrap ((lo:Int)+(P:Int)-1)=(hi:Int):=by rw [IntWalk.i64_in _ (by omega)];omega
  have PW:=fun w=>pwhole lo hi (by omega) (by omega) w
  generalize (lo+hi) / 2=md at PW ⊢
  replace PS:=Lib.hid PS
  replace PW:=Lib.hid PW
  have d1:((m:Int) == 0)=false:=by simp;omega
  have d2:(0:Int)<(m:Int):=by omega
  have d3:0<m:=by omega
  clear hin ho hl30 hT hl0 hcl hjl hql hsu hlo hhi hp30 hp1
  go_enter Tryz.func151,Tryz.ntmps151
  go_upto_region 1 with (fail)
  have R:Row (w.alloc (.cells #[.int .i64 0, .int .i64 0, .int .i64 0, .int .i64 0, .int .i64 0, .int .i64 0] 64)) (w.heap.size) 64 #[.int .i64 0, .int .i64 0, .int .i64 0, .int .i64 0, .int .i64 0, .int .i64 0]:=row_new rfl
  have o:Below w.heap.size w (w.alloc (.cells #[.int .i64 0, .int .i64 0, .int .i64 0, .int .i64 0, .int .i64 0, .int .i64 0] 64)):=by (repeat (first | exact Below.refl _ _ | refine Below.setCell ?_ (by (try simp)<;>omega) _ | refine Below.alloc ?_ (by (try simp)<;>omega) _ | refine Below.drew ?_ | refine Below.trans ?_ (Below.mono (by assumption) (by (try simp)<;>omega))))
  generalize (w.alloc (.cells #[.int .i64 0, .int .i64 0, .int .i64 0, .int .i64 0, .int .i64 0, .int .i64 0] 64))=w1 at R o ⊢
  go_wp2_with fail
  refine (PS.out _ o).mono ?_
  rintro e w2 ⟨Ao,no,co,rfl,inO,hb⟩
  replace R:=row_call R hb
  replace o:=o.trans (hb.mono o.size)
  clear hb PS
  go_upto_region 2 with (fail)
  have O:Row (w2.alloc (.cells #[.int .i64 (no:Nat), .slice Ao no co] 188)) w2.heap.size 188 #[.int .i64 (no:Nat), .slice Ao no co]:=row_new rfl
  replace R:=row_alloc R (.cells #[.int .i64 (no:Nat), .slice Ao no co] 188)
  replace inO:=inO.below ((Below.refl _ _).alloc (Nat.le_refl _) (.cells #[.int .i64 (no:Nat), .slice Ao no co] 188))
  replace o:=o.alloc o.size (.cells #[.int .i64 (no:Nat), .slice Ao no co] 188)
  generalize w2.alloc (.cells #[.int .i64 (no:Nat), .slice Ao no co] 188)=w3 at R O inO o ⊢
  generalize w2.heap.size=ob at O ⊢
  obtain ⟨O0,O1,_,_⟩:=row_two O
  go_wp2_with fail
  refine (PK.out _ _ _ _ inO).mono ?_
  rintro e w4 ⟨rfl,hb⟩
  replace R:=row_call R hb
  replace o:=o.trans (hb.mono o.size)
  clear hb PK inO O O0 O1
  go_upto_region 7 with (fail)
  have Y:Row (w4.alloc (.cells #[.int .i64 (lo:Nat), .int .i64 1, .int .i64 (lo:Nat), .int .i64 1, .int .i64 (lo:Nat), .int .i64 1] 64)) w4.heap.size 64 #[.int .i64 (lo:Nat), .int .i64 1, .int .i64 (lo:Nat), .int .i64 1, .int .i64 (lo:Nat), .int .i64 1]:=row_new rfl
  replace R:=row_alloc R (.cells #[.int .i64 (lo:Nat), .int .i64 1, .int .i64 (lo:Nat), .int .i64 1, .int .i64 (lo:Nat), .int .i64 1] 64)
  replace o:=o.alloc o.size (.cells #[.int .i64 (lo:Nat), .int .i64 1, .int .i64 (lo:Nat), .int .i64 1, .int .i64 (lo:Nat), .int .i64 1] 64)
  generalize w4.alloc (.cells #[.int .i64 (lo:Nat), .int .i64 1, .int .i64 (lo:Nat), .int .i64 1, .int .i64 (lo:Nat), .int .i64 1] 64)=w6 at R Y o ⊢
  generalize w4.heap.size=yb at Y ⊢
  have HC6:=Lib.hid (fun w' (hb:Below w6.heap.size w6 w')=>HC.out w' (o.trans (hb.mono o.size)))
  have zr:=row_lt R
  go_upto_region 9 with (fail)
  refine wp_region_free1 [0,1,2,3,4,5,6,7,8,9,10,11,12,13,14,15,17,16] [17] [0,1,2,3,4,5,6,7,8,9,10,11,12,13,14,15,16,18] (18,64,#[.int .i64 0, .int .i64 0, .int .i64 0, .int .i64 0, .int .i64 0, .int .i64 0]) 9 19 (fun w'=>Below w6.heap.size w6 w') (by kernel_rfl) (by kernel_rfl) ⟨_,_,rfl,rfl,rfl,fun ρ w'=>by go_simp⟩ rfl (by simp) (fun _ h=>h.alloc h.size _) (fun _ _ d _ _ h=>by cases d<;>exact h) ?_ ?_
  · exact (Below.refl _ _).drew
  (refine plan_pure ?_ rfl rfl (fun w'=>?_) ?_;rotate_left;(go_simp;try with_reducible rfl);simp only [put9])
  (refine plan_pure ?_ rfl rfl (fun w'=>?_) ?_;rotate_left;(go_simp;try with_reducible rfl);simp only [put9])
  (refine plan_val ?_ rfl rfl rfl (fun w' hS=>?_) ?_;rotate_left;(obtain ⟨Y0,Y1,Y2,Y3,Y4,Y5,Yf0,Yf1,Yf2,Yf3,Yf4,Yf5⟩:=row_six (row_call Y hS);have c2:=HC6.out _ hS;go_simp;try with_reducible rfl);simp only [put9])
  (refine plan_pure ?_ rfl rfl (fun w'=>?_) ?_;rotate_left;(go_simp;try with_reducible rfl);simp only [put9])
  (refine plan_pure ?_ rfl rfl (fun w'=>?_) ?_;rotate_left;(go_simp;try with_reducible rfl);simp only [put9])
  (refine plan_val ?_ rfl rfl rfl (fun w' hS=>?_) ?_;rotate_left;(obtain ⟨Y0,Y1,Y2,Y3,Y4,Y5,Yf0,Yf1,Yf2,Yf3,Yf4,Yf5⟩:=row_six (row_call Y hS);have c2:=HC6.out _ hS;go_simp;try with_reducible rfl);simp only [put9])
  (refine plan_pure ?_ rfl rfl (fun w'=>?_) ?_;rotate_left;(go_simp;try with_reducible rfl);simp only [put9])
  (refine plan_pure ?_ rfl rfl (fun w'=>?_) ?_;rotate_left;(go_simp;try with_reducible rfl);simp only [put9])
  (refine plan_pure ?_ rfl rfl (fun w'=>?_) ?_;rotate_left;(go_simp;try with_reducible rfl);simp only [put9])
  (refine plan_val ?_ rfl rfl rfl (fun w' hS=>?_) ?_;rotate_left;(obtain ⟨Y0,Y1,Y2,Y3,Y4,Y5,Yf0,Yf1,Yf2,Yf3,Yf4,Yf5⟩:=row_six (row_call Y hS);have c2:=HC6.out _ hS;go_simp;try with_reducible rfl);simp only [put9])
  (refine plan_pure ?_ rfl rfl (fun w'=>?_) ?_;rotate_left;(go_simp;try with_reducible rfl);simp only [put9])
  (refine plan_pure ?_ rfl rfl (fun w'=>?_) ?_;rotate_left;(go_simp;try with_reducible rfl);simp only [put9])
  (refine plan_pure ?_ rfl rfl (fun w'=>?_) ?_;rotate_left;(go_simp;try with_reducible rfl);simp only [put9])
  (refine plan_pure ?_ rfl rfl (fun w'=>?_) ?_;rotate_left;(go_simp;try with_reducible rfl);simp only [put9])
  refine plan_call (.tuple #[.agg #[.int .i64 (lo:Nat), .int .i64 1, .int .i64 (md:Nat), .int .i64 1, .int .i64 (hi:Nat), .int .i64 1], .bool true]) 139 #[.int .i64 (lo:Nat), .int .i64 (hi:Nat)] rfl rfl rfl (fun _ _ h hb=>h.trans (hb.mono h.size)) (fun w' hS=>by obtain ⟨Y0,Y1,Y2,Y3,Y4,Y5,Yf0,Yf1,Yf2,Yf3,Yf4,Yf5⟩:=row_six (row_call Y hS);have c2:=HC6.out _ hS;go_simp) (fun w' hS=>PW.out w') ?_
  simp only [put9]
  (refine plan_pure ?_ rfl rfl (fun w'=>?_) ?_;rotate_left;(go_simp;try with_reducible rfl);simp only [put9])
  (refine plan_pure ?_ rfl rfl (fun w'=>?_) ?_;rotate_left;(go_simp;try with_reducible rfl);simp only [put9])
  (refine plan_pure ?_ rfl rfl (fun w'=>?_) ?_;rotate_left;(go_simp;try with_reducible rfl);simp only [put9])
  refine plan_nil ?_
  intro g8 w7 L7 hr8 hg8
  simp only [List.drop_succ_cons,List.drop_zero]
  try simp only [put9]
  have zo6:=o.size
  replace R:=row_call R L7
  replace o:=o.trans (L7.mono o.size)
  clear L7 HC6 Y PW
  obtain ⟨Y0,Y1,Y2,Y3,Y4,Y5,Yf0,Yf1,Yf2,Yf3,Yf4,Yf5⟩:=row_six hr8
  go_upto_region 10 with (fail)
  clear Y0 Yf0 Y1 Yf1 Y2 Yf2 Y3 Yf3 Y4 Yf4 Y5 Yf5
  replace hr8:=row_set hr8 0 (.int .i64 (lo:Nat))
  replace R:=row_other (p:=⟨g8,0,none⟩) R (by show w.heap.size≠g8;omega) (.int .i64 (lo:Nat))
  replace o:=o.setCell (p:=⟨g8,0,none⟩) (by show w.heap.size≤g8;omega) (.int .i64 (lo:Nat))
  replace hr8:=row_set hr8 1 (.int .i64 1)
  replace R:=row_other (p:=⟨g8,1,none⟩) R (by show w.heap.size≠g8;omega) (.int .i64 1)
  replace o:=o.setCell (p:=⟨g8,1,none⟩) (by show w.heap.size≤g8;omega) (.int .i64 1)
  replace hr8:=row_set hr8 2 (.int .i64 (md:Nat))
  replace R:=row_other (p:=⟨g8,2,none⟩) R (by show w.heap.size≠g8;omega) (.int .i64 (md:Nat))
  replace o:=o.setCell (p:=⟨g8,2,none⟩) (by show w.heap.size≤g8;omega) (.int .i64 (md:Nat))
  replace hr8:=row_set hr8 3 (.int .i64 1)
  replace R:=row_other (p:=⟨g8,3,none⟩) R (by show w.heap.size≠g8;omega) (.int .i64 1)
  replace o:=o.setCell (p:=⟨g8,3,none⟩) (by show w.heap.size≤g8;omega) (.int .i64 1)
  replace hr8:=row_set hr8 4 (.int .i64 (hi:Nat))
  replace R:=row_other (p:=⟨g8,4,none⟩) R (by show w.heap.size≠g8;omega) (.int .i64 (hi:Nat))
  replace o:=o.setCell (p:=⟨g8,4,none⟩) (by show w.heap.size≤g8;omega) (.int .i64 (hi:Nat))
  replace hr8:=row_set hr8 5 (.int .i64 1)
  replace R:=row_other (p:=⟨g8,5,none⟩) R (by show w.heap.size≠g8;omega) (.int .i64 1)
  replace o:=o.setCell (p:=⟨g8,5,none⟩) (by show w.heap.size≤g8;omega) (.int .i64 1)
  replace hr8:Row ((((((w7.setCell ⟨g8,0,none⟩ (.int .i64 (lo:Nat))).setCell ⟨g8,1,none⟩ (.int .i64 1)).setCell ⟨g8,2,none⟩ (.int .i64 (md:Nat))).setCell ⟨g8,3,none⟩ (.int .i64 1)).setCell ⟨g8,4,none⟩ (.int .i64 (hi:Nat))).setCell ⟨g8,5,none⟩ (.int .i64 1)) g8 64 #[.int .i64 (lo:Nat), .int .i64 1, .int .i64 (md:Nat), .int .i64 1, .int .i64 (hi:Nat), .int .i64 1]:=hr8
  generalize ((((((w7.setCell ⟨g8,0,none⟩ (.int .i64 (lo:Nat))).setCell ⟨g8,1,none⟩ (.int .i64 1)).setCell ⟨g8,2,none⟩ (.int .i64 (md:Nat))).setCell ⟨g8,3,none⟩ (.int .i64 1)).setCell ⟨g8,4,none⟩ (.int .i64 (hi:Nat))).setCell ⟨g8,5,none⟩ (.int .i64 1))=w9 at R hr8 o ⊢
  obtain ⟨Y0,Y1,Y2,Y3,Y4,Y5,Yf0,Yf1,Yf2,Yf3,Yf4,Yf5⟩:=row_six hr8
  obtain ⟨R0,R1,R2,R3,R4,R5,Rf0,Rf1,Rf2,Rf3,Rf4,Rf5⟩:=row_six R
  go_wp2
  have Sr0:=row_set R 0 (.int .i64 (lo:Nat))
  have Sr1:=row_set Sr0 1 (.int .i64 1)
  have Sr2:=row_set Sr1 2 (.int .i64 (md:Nat))
  have Sr3:=row_set Sr2 3 (.int .i64 1)
  have Sr4:=row_set Sr3 4 (.int .i64 (hi:Nat))
  have Sr5:=row_set Sr4 5 (.int .i64 1)
  have o90:=o.setCell (p:=⟨w.heap.size,0,none⟩) (by show w.heap.size≤w.heap.size;omega) (.int .i64 (lo:Nat))
  have o91:=o90.setCell (p:=⟨w.heap.size,1,none⟩) (by show w.heap.size≤w.heap.size;omega) (.int .i64 1)
  have o92:=o91.setCell (p:=⟨w.heap.size,2,none⟩) (by show w.heap.size≤w.heap.size;omega) (.int .i64 (md:Nat))
  have o93:=o92.setCell (p:=⟨w.heap.size,3,none⟩) (by show w.heap.size≤w.heap.size;omega) (.int .i64 1)
  have o94:=o93.setCell (p:=⟨w.heap.size,4,none⟩) (by show w.heap.size≤w.heap.size;omega) (.int .i64 (hi:Nat))
  have o95:=o94.setCell (p:=⟨w.heap.size,5,none⟩) (by show w.heap.size≤w.heap.size;omega) (.int .i64 1)
  obtain ⟨S0,S1,S2,S3,S4,S5,_,_,_,_,_,_⟩:=row_six Sr5
  exact bodyPost_ret (v := .tuple #[.agg #[.int .i64 (lo:Nat), .int .i64 1, .int .i64 (md:Nat), .int .i64 1, .int .i64 (hi:Nat), .int .i64 1], .int .i64 0]) (by simp [results,Tryz.results151,go_sem,S0,S1,S2,S3,S4,S5]) rfl ⟨rfl,o95⟩
end Go.Proofs.YtdipoojjlddohaaGreat
end
