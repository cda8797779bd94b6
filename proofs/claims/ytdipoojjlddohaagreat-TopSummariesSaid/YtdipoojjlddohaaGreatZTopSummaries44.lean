/- What the law TopSummaries needs, joined of its texts by a program (slim2.py); part 44. -/
import Derived.Test.YtdipoojjlddohaaGreatZTopSummaries1
import Derived.Test.YtdipoojjlddohaaGreatZTopSummaries41
import Derived.Test.YtdipoojjlddohaaGreatZTopSummaries42
import Derived.Test.YtdipoojjlddohaaGreatZTopSummaries43
set_option linter.unusedVariables false
set_option linter.unusedSimpArgs false
set_option linter.unusedSectionVars false
set_option linter.unnecessarySimpa false
section
/- The law TopSummaries, walked. -/
namespace Go.Proofs.YtdipoojjlddohaaGreat
open Go.RowKit
set_option maxRecDepth 100000 in
set_option maxHeartbeats 8000000 in
theorem topSummaries (A:Option Addr) (m c:Nat) (l:List Itm) (k0 j0 v:Int) (w:World) (hin:RIn A m c l w):Calls Tryz.prog 4 #[.slice A m c, .int .i64 k0, .int .i64 j0, .int .i64 v] w fun e w'=>e = .returned (.bool true)∧Below w.heap.size w w':=by
  have PK:=fun w=>pint k0 6 (by omega) (by omega) w
  have PJ:=fun w=>pint j0 4 (by omega) (by omega) w
  obtain ⟨k,hk⟩:∃ k:Nat,1+k0 % 6=(k:Int):=⟨(1+k0 % 6).toNat,by omega⟩
  obtain ⟨j,hj⟩:∃ j:Nat,1+j0 % 4=(j:Int):=⟨(1+j0 % 4).toNat,by omega⟩
  have wk:IntKind.i64.wrap (1+k0 % 6)=k:=by rw [← hk];exact IntWalk.i64_in _ (by omega)
  have wj:IntKind.i64.wrap (1+j0 % 4)=j:=by rw [← hj];exact IntWalk.i64_in _ (by omega)
  have G1:suArg k 200 200:=⟨by omega,by omega,by omega,by omega,by omega⟩
  have G2:qtArg 1048576 j 1000 80:=qt_few (by omega) (by omega)
  clear hk hj
  generalize k0 % 6=rk0 at PK wk
  generalize j0 % 4=rj0 at PJ wj
  have PT:=Lib.hid (fun w' (hb:Below w.heap.size w w')=>pitems A m c l 20 80 w' (hin.below hb) (by omega) (by omega) (by omega))
  have PC:RowKit.Hid (∀ (A1:Option Addr) (c1:Nat) (its:List Itm) (w1:World),Reads w1 w1.heap.size 2 A1 its.length (icells its)→its.length≤80→(∀ i,i<its.length→nowK its i≤(itmAt its i).t∧(itmAt its i).t≤16777216∧(-4096≤(itmAt its i).v∧(itmAt its i).v≤4096))→Calls Tryz.prog 11 #[.agg #[.int .i64 10, .int .i64 0, .int .i64 0, .int .i64 (k:Nat), .int .i64 200, .int .i64 0, .int .i64 0, .int .i64 0], .slice A1 its.length c1] w1 (RunU k 200 its w1)):=Lib.hid (fun A1 c1 its w1 h1 h2 h3=>prunU G1 A1 _ c1 its w1 h1 (by omega) (by omega) h3)
  have PS:RowKit.Hid (∀ (A1:Option Addr) (c1:Nat) (its:List Itm) (w1:World),Reads w1 w1.heap.size 2 A1 its.length (icells its)→its.length≤80→(∀ i,i<its.length→nowK its i≤(itmAt its i).t∧(itmAt its i).t≤16777216∧(-4096≤(itmAt its i).v∧(itmAt its i).v≤4096))→Calls Tryz.prog 11 #[.agg #[.int .i64 11, .int .i64 0, .int .i64 1048576, .int .i64 (j:Nat), .int .i64 1000, .int .i64 0, .int .i64 0, .int .i64 0], .slice A1 its.length c1] w1 (RunQ 1048576 j 1000 its w1)):=Lib.hid (fun A1 c1 its w1 h1 h2 h3=>prunQ G2 A1 _ c1 its w1 h1 (by omega) (by omega) h3)
  replace PK:=Lib.hid PK
  replace PJ:=Lib.hid PJ
  have PW:=Lib.hid awakeT
  have HG:=Lib.hid (And.intro G1 G2)
  clear G1 G2 hin
  go_enter Tryz.func4,Tryz.ntmps4
  go_upto_region 2 with (first | (go_at_call 9;with_reducible refine (PK.out _).mono ?_;rintro e w9 ⟨rfl,h9⟩;obtain rfl:=h9.symm) | (go_at_call 9;with_reducible refine (PJ.out _).mono ?_;rintro e w9 ⟨rfl,h9⟩;obtain rfl:=h9.symm))
  clear PK PJ wk wj
  go_wp2_with fail
  refine (PT.out _ (Below.refl _ _)).mono ?_
  rintro e w1 ⟨v1,its,last,rfl,own,hlen,hmade,hbI⟩
  obtain ⟨A1,c1,rfl,R1,_,_,_⟩:=orow_forms own
  have h41:(2*((20:Nat):Int)+1)*its.length≤3280:=by have:(2*((20:Nat):Int)+1)=41:=rfl;rw [this];omega
  have HT:=Lib.hid (made_run hmade (by omega))
  have hnw:=made_now hmade (by omega)
  replace hnw:nowK its its.length-1048576<0:=by omega
  clear own hmade PT h41
  have HL:=Lib.hid hlen
  have PR:=Lib.hid (fun w' (hb:Below w1.heap.size w1 w')=>PS.out A1 c1 its w' ((R1.below hb).more hb.size) HL.out HT.out)
  obtain ⟨n,hn⟩:∃ n,n=cle (its.map (·.v)) v:=⟨_,rfl⟩
  have PX:=fun w' (hb:Below w1.heap.size w1 w')=>pexrank A1 its.length c1 its v w' ((R1.below hb).more hb.size) (by omega)
  rw [← hn] at PX
  have hnl:n≤80:=by rw [hn];exact Nat.le_trans (cle_len _ _) (by rw [List.length_map];exact hlen)
  have PW8:=Lib.hid (fun w=>rwholeN n (by omega) w)
  replace PX:=Lib.hid PX
  replace hn:=Lib.hid hn
  go_wp2_with fail
  refine (PC.out A1 c1 its w1 R1 HL.out HT.out).mono ?_
  rintro e w2 ⟨A2,m2,c2,v2,he,in1,o⟩
  generalize htn:nowK its its.length=tn at in1 hnw
  replace htn:=Lib.hid htn
  subst he
  have IO1:=syI_ok k 200 its tn
  clear R1 PC PS hlen HT
  have h1:(#[.int .i64 10, .int .i64 0, .int .i64 0, .int .i64 (k:Nat), .int .i64 200, .int .i64 0, .int .i64 0, .int .i64 0, .int .i64 0, .int .i64 0, .int .i64 0, .slice none 0 0, .int .i64 0, .int .i64 0, .int .i64 0, .int .i64 0, .slice none 0 0, .int .i64 0, .int .i64 0, .int .i64 0, .int .i64 0, .int .i64 0, .slice none 0 0, .int .i64 0, .int .i64 0, .int .i64 0, .int .i64 0, .int .i64 0, .int .i64 0, .slice none 0 0, .int .i64 0, .int .i64 0, .int .i64 0, .int .i64 0, .int .i64 0, .slice none 0 0, .int .i64 0, .int .i64 0, .int .i64 0, .slice none 0 0, .int .i64 0, .slice none 0 0, .bool false, .int .i64 0, .int .i64 0, .int .i64 0, .slice none 0 0, .slice none 0 0, .int .i64 (k:Nat), .int .i64 200, .int .i64 (its.length:Nat), .slice A2 m2 c2, .int .i64 0, .int .i64 0, .int .i64 0, .int .i64 0, .slice none 0 0]:Array Value).all (·.oneCell')=true:=all_one rfl
  have SZ:Row (w2.alloc (.cells #[.int .i64 0, .int .i64 0, .int .i64 0, .int .i64 0, .int .i64 0, .int .i64 0, .int .i64 0, .int .i64 0, .int .i64 0, .int .i64 0, .int .i64 0, .slice none 0 0, .int .i64 0, .int .i64 0, .int .i64 0, .int .i64 0, .slice none 0 0, .int .i64 0, .int .i64 0, .int .i64 0, .int .i64 0, .int .i64 0, .slice none 0 0, .int .i64 0, .int .i64 0, .int .i64 0, .int .i64 0, .int .i64 0, .int .i64 0, .slice none 0 0, .int .i64 0, .int .i64 0, .int .i64 0, .int .i64 0, .int .i64 0, .slice none 0 0, .int .i64 0, .int .i64 0, .int .i64 0, .slice none 0 0, .int .i64 0, .slice none 0 0, .bool false, .int .i64 0, .int .i64 0, .int .i64 0, .slice none 0 0, .slice none 0 0, .int .i64 0, .int .i64 0, .int .i64 0, .slice none 0 0, .int .i64 0, .int .i64 0, .int .i64 0, .int .i64 0, .slice none 0 0] 58)) w2.heap.size 58 #[.int .i64 0, .int .i64 0, .int .i64 0, .int .i64 0, .int .i64 0, .int .i64 0, .int .i64 0, .int .i64 0, .int .i64 0, .int .i64 0, .int .i64 0, .slice none 0 0, .int .i64 0, .int .i64 0, .int .i64 0, .int .i64 0, .slice none 0 0, .int .i64 0, .int .i64 0, .int .i64 0, .int .i64 0, .int .i64 0, .slice none 0 0, .int .i64 0, .int .i64 0, .int .i64 0, .int .i64 0, .int .i64 0, .int .i64 0, .slice none 0 0, .int .i64 0, .int .i64 0, .int .i64 0, .int .i64 0, .int .i64 0, .slice none 0 0, .int .i64 0, .int .i64 0, .int .i64 0, .slice none 0 0, .int .i64 0, .slice none 0 0, .bool false, .int .i64 0, .int .i64 0, .int .i64 0, .slice none 0 0, .slice none 0 0, .int .i64 0, .int .i64 0, .int .i64 0, .slice none 0 0, .int .i64 0, .int .i64 0, .int .i64 0, .int .i64 0, .slice none 0 0]:=row_new rfl
  go_upto_region 4 with (with_reducible refine wpList_ssyn SZ rfl rfl h1 rfl _ _ rfl rfl rfl ?_)
  have sbR:=row_setRow (cs:=#[.int .i64 10, .int .i64 0, .int .i64 0, .int .i64 (k:Nat), .int .i64 200, .int .i64 0, .int .i64 0, .int .i64 0, .int .i64 0, .int .i64 0, .int .i64 0, .slice none 0 0, .int .i64 0, .int .i64 0, .int .i64 0, .int .i64 0, .slice none 0 0, .int .i64 0, .int .i64 0, .int .i64 0, .int .i64 0, .int .i64 0, .slice none 0 0, .int .i64 0, .int .i64 0, .int .i64 0, .int .i64 0, .int .i64 0, .int .i64 0, .slice none 0 0, .int .i64 0, .int .i64 0, .int .i64 0, .int .i64 0, .int .i64 0, .slice none 0 0, .int .i64 0, .int .i64 0, .int .i64 0, .slice none 0 0, .int .i64 0, .slice none 0 0, .bool false, .int .i64 0, .int .i64 0, .int .i64 0, .slice none 0 0, .slice none 0 0, .int .i64 (k:Nat), .int .i64 200, .int .i64 (its.length:Nat), .slice A2 m2 c2, .int .i64 0, .int .i64 0, .int .i64 0, .int .i64 0, .slice none 0 0]) SZ
  have zw3:=o.size
  have bin1:=IO1.blk in1
  replace in1:=IO1.setr (b:=w2.heap.size) #[.int .i64 10, .int .i64 0, .int .i64 0, .int .i64 (k:Nat), .int .i64 200, .int .i64 0, .int .i64 0, .int .i64 0, .int .i64 0, .int .i64 0, .int .i64 0, .slice none 0 0, .int .i64 0, .int .i64 0, .int .i64 0, .int .i64 0, .slice none 0 0, .int .i64 0, .int .i64 0, .int .i64 0, .int .i64 0, .int .i64 0, .slice none 0 0, .int .i64 0, .int .i64 0, .int .i64 0, .int .i64 0, .int .i64 0, .int .i64 0, .slice none 0 0, .int .i64 0, .int .i64 0, .int .i64 0, .int .i64 0, .int .i64 0, .slice none 0 0, .int .i64 0, .int .i64 0, .int .i64 0, .slice none 0 0, .int .i64 0, .slice none 0 0, .bool false, .int .i64 0, .int .i64 0, .int .i64 0, .slice none 0 0, .slice none 0 0, .int .i64 (k:Nat), .int .i64 200, .int .i64 (its.length:Nat), .slice A2 m2 c2, .int .i64 0, .int .i64 0, .int .i64 0, .int .i64 0, .slice none 0 0] (IO1.below in1 ((Below.refl _ _).alloc (Nat.le_refl _) (.cells #[.int .i64 0, .int .i64 0, .int .i64 0, .int .i64 0, .int .i64 0, .int .i64 0, .int .i64 0, .int .i64 0, .int .i64 0, .int .i64 0, .int .i64 0, .slice none 0 0, .int .i64 0, .int .i64 0, .int .i64 0, .int .i64 0, .slice none 0 0, .int .i64 0, .int .i64 0, .int .i64 0, .int .i64 0, .int .i64 0, .slice none 0 0, .int .i64 0, .int .i64 0, .int .i64 0, .int .i64 0, .int .i64 0, .int .i64 0, .slice none 0 0, .int .i64 0, .int .i64 0, .int .i64 0, .int .i64 0, .int .i64 0, .slice none 0 0, .int .i64 0, .int .i64 0, .int .i64 0, .slice none 0 0, .int .i64 0, .slice none 0 0, .bool false, .int .i64 0, .int .i64 0, .int .i64 0, .slice none 0 0, .slice none 0 0, .int .i64 0, .int .i64 0, .int .i64 0, .slice none 0 0, .int .i64 0, .int .i64 0, .int .i64 0, .int .i64 0, .slice none 0 0] 58))) (fun g hg=>by have:=bin1 g hg;omega)
  replace o:=below_setRow (g:=w2.heap.size) (o.alloc o.size (.cells #[.int .i64 0, .int .i64 0, .int .i64 0, .int .i64 0, .int .i64 0, .int .i64 0, .int .i64 0, .int .i64 0, .int .i64 0, .int .i64 0, .int .i64 0, .slice none 0 0, .int .i64 0, .int .i64 0, .int .i64 0, .int .i64 0, .slice none 0 0, .int .i64 0, .int .i64 0, .int .i64 0, .int .i64 0, .int .i64 0, .slice none 0 0, .int .i64 0, .int .i64 0, .int .i64 0, .int .i64 0, .int .i64 0, .int .i64 0, .slice none 0 0, .int .i64 0, .int .i64 0, .int .i64 0, .int .i64 0, .int .i64 0, .slice none 0 0, .int .i64 0, .int .i64 0, .int .i64 0, .slice none 0 0, .int .i64 0, .slice none 0 0, .bool false, .int .i64 0, .int .i64 0, .int .i64 0, .slice none 0 0, .slice none 0 0, .int .i64 0, .int .i64 0, .int .i64 0, .slice none 0 0, .int .i64 0, .int .i64 0, .int .i64 0, .int .i64 0, .slice none 0 0] 58)) o.size #[.int .i64 10, .int .i64 0, .int .i64 0, .int .i64 (k:Nat), .int .i64 200, .int .i64 0, .int .i64 0, .int .i64 0, .int .i64 0, .int .i64 0, .int .i64 0, .slice none 0 0, .int .i64 0, .int .i64 0, .int .i64 0, .int .i64 0, .slice none 0 0, .int .i64 0, .int .i64 0, .int .i64 0, .int .i64 0, .int .i64 0, .slice none 0 0, .int .i64 0, .int .i64 0, .int .i64 0, .int .i64 0, .int .i64 0, .int .i64 0, .slice none 0 0, .int .i64 0, .int .i64 0, .int .i64 0, .int .i64 0, .int .i64 0, .slice none 0 0, .int .i64 0, .int .i64 0, .int .i64 0, .slice none 0 0, .int .i64 0, .slice none 0 0, .bool false, .int .i64 0, .int .i64 0, .int .i64 0, .slice none 0 0, .slice none 0 0, .int .i64 (k:Nat), .int .i64 200, .int .i64 (its.length:Nat), .slice A2 m2 c2, .int .i64 0, .int .i64 0, .int .i64 0, .int .i64 0, .slice none 0 0]
  obtain ⟨w3,hw3⟩:∃ x,x=(w2.alloc (.cells #[.int .i64 0, .int .i64 0, .int .i64 0, .int .i64 0, .int .i64 0, .int .i64 0, .int .i64 0, .int .i64 0, .int .i64 0, .int .i64 0, .int .i64 0, .slice none 0 0, .int .i64 0, .int .i64 0, .int .i64 0, .int .i64 0, .slice none 0 0, .int .i64 0, .int .i64 0, .int .i64 0, .int .i64 0, .int .i64 0, .slice none 0 0, .int .i64 0, .int .i64 0, .int .i64 0, .int .i64 0, .int .i64 0, .int .i64 0, .slice none 0 0, .int .i64 0, .int .i64 0, .int .i64 0, .int .i64 0, .int .i64 0, .slice none 0 0, .int .i64 0, .int .i64 0, .int .i64 0, .slice none 0 0, .int .i64 0, .slice none 0 0, .bool false, .int .i64 0, .int .i64 0, .int .i64 0, .slice none 0 0, .slice none 0 0, .int .i64 0, .int .i64 0, .int .i64 0, .slice none 0 0, .int .i64 0, .int .i64 0, .int .i64 0, .int .i64 0, .slice none 0 0] 58)).setRow w2.heap.size #[.int .i64 10, .int .i64 0, .int .i64 0, .int .i64 (k:Nat), .int .i64 200, .int .i64 0, .int .i64 0, .int .i64 0, .int .i64 0, .int .i64 0, .int .i64 0, .slice none 0 0, .int .i64 0, .int .i64 0, .int .i64 0, .int .i64 0, .slice none 0 0, .int .i64 0, .int .i64 0, .int .i64 0, .int .i64 0, .int .i64 0, .slice none 0 0, .int .i64 0, .int .i64 0, .int .i64 0, .int .i64 0, .int .i64 0, .int .i64 0, .slice none 0 0, .int .i64 0, .int .i64 0, .int .i64 0, .int .i64 0, .int .i64 0, .slice none 0 0, .int .i64 0, .int .i64 0, .int .i64 0, .slice none 0 0, .int .i64 0, .slice none 0 0, .bool false, .int .i64 0, .int .i64 0, .int .i64 0, .slice none 0 0, .slice none 0 0, .int .i64 (k:Nat), .int .i64 200, .int .i64 (its.length:Nat), .slice A2 m2 c2, .int .i64 0, .int .i64 0, .int .i64 0, .int .i64 0, .slice none 0 0]:=⟨_,rfl⟩
  rw [← hw3] at sbR in1  o ⊢
  clear hw3 SZ h1 bin1
  generalize w2.heap.size=sb at sbR zw3 ⊢
  go_wp2_with fail
  refine (PR.out _ o).mono ?_
  rintro e w4 ⟨A4,m4,c4,x4,v4,he,in2,hb⟩
  rw [htn.out] at he in2
  subst he
  clear htn PR
  have IO2:=qtI_ok 1048576 j 1000 its tn
  replace in1:=IO1.below in1 hb
  replace sbR:=row_call sbR hb
  replace o:=o.trans (hb.mono o.size)
  clear hb
  have h1:(#[.int .i64 11, .int .i64 0, .int .i64 1048576, .int .i64 (j:Nat), .int .i64 1000, .int .i64 0, .int .i64 0, .int .i64 0, .int .i64 0, .int .i64 0, .int .i64 0, .slice none 0 0, .int .i64 0, .int .i64 0, .int .i64 0, .int .i64 0, .slice none 0 0, .int .i64 0, .int .i64 0, .int .i64 0, .int .i64 0, .int .i64 0, .slice none 0 0, .int .i64 0, .int .i64 0, .int .i64 0, .int .i64 0, .int .i64 0, .int .i64 0, .slice none 0 0, .int .i64 0, .int .i64 0, .int .i64 0, .int .i64 0, .int .i64 0, .slice none 0 0, .int .i64 0, .int .i64 0, .int .i64 0, .slice none 0 0, .int .i64 0, .slice none 0 0, .bool false, .int .i64 0, .int .i64 0, .int .i64 0, .slice none 0 0, .slice none 0 0, .int .i64 0, .int .i64 0, .int .i64 0, .slice none 0 0, .int .i64 1048576, .int .i64 (j:Nat), .int .i64 1000, .int .i64 tn, .slice A4 m4 c4]:Array Value).all (·.oneCell')=true:=all_one rfl
  have SZ:Row (w4.alloc (.cells #[.int .i64 0, .int .i64 0, .int .i64 0, .int .i64 0, .int .i64 0, .int .i64 0, .int .i64 0, .int .i64 0, .int .i64 0, .int .i64 0, .int .i64 0, .slice none 0 0, .int .i64 0, .int .i64 0, .int .i64 0, .int .i64 0, .slice none 0 0, .int .i64 0, .int .i64 0, .int .i64 0, .int .i64 0, .int .i64 0, .slice none 0 0, .int .i64 0, .int .i64 0, .int .i64 0, .int .i64 0, .int .i64 0, .int .i64 0, .slice none 0 0, .int .i64 0, .int .i64 0, .int .i64 0, .int .i64 0, .int .i64 0, .slice none 0 0, .int .i64 0, .int .i64 0, .int .i64 0, .slice none 0 0, .int .i64 0, .slice none 0 0, .bool false, .int .i64 0, .int .i64 0, .int .i64 0, .slice none 0 0, .slice none 0 0, .int .i64 0, .int .i64 0, .int .i64 0, .slice none 0 0, .int .i64 0, .int .i64 0, .int .i64 0, .int .i64 0, .slice none 0 0] 58)) w4.heap.size 58 #[.int .i64 0, .int .i64 0, .int .i64 0, .int .i64 0, .int .i64 0, .int .i64 0, .int .i64 0, .int .i64 0, .int .i64 0, .int .i64 0, .int .i64 0, .slice none 0 0, .int .i64 0, .int .i64 0, .int .i64 0, .int .i64 0, .slice none 0 0, .int .i64 0, .int .i64 0, .int .i64 0, .int .i64 0, .int .i64 0, .slice none 0 0, .int .i64 0, .int .i64 0, .int .i64 0, .int .i64 0, .int .i64 0, .int .i64 0, .slice none 0 0, .int .i64 0, .int .i64 0, .int .i64 0, .int .i64 0, .int .i64 0, .slice none 0 0, .int .i64 0, .int .i64 0, .int .i64 0, .slice none 0 0, .int .i64 0, .slice none 0 0, .bool false, .int .i64 0, .int .i64 0, .int .i64 0, .slice none 0 0, .slice none 0 0, .int .i64 0, .int .i64 0, .int .i64 0, .slice none 0 0, .int .i64 0, .int .i64 0, .int .i64 0, .int .i64 0, .slice none 0 0]:=row_new rfl
  go_upto_region 5 with (with_reducible refine wpList_ssyn SZ rfl rfl h1 rfl _ _ rfl rfl rfl ?_)
  have tbR:=row_setRow (cs:=#[.int .i64 11, .int .i64 0, .int .i64 1048576, .int .i64 (j:Nat), .int .i64 1000, .int .i64 0, .int .i64 0, .int .i64 0, .int .i64 0, .int .i64 0, .int .i64 0, .slice none 0 0, .int .i64 0, .int .i64 0, .int .i64 0, .int .i64 0, .slice none 0 0, .int .i64 0, .int .i64 0, .int .i64 0, .int .i64 0, .int .i64 0, .slice none 0 0, .int .i64 0, .int .i64 0, .int .i64 0, .int .i64 0, .int .i64 0, .int .i64 0, .slice none 0 0, .int .i64 0, .int .i64 0, .int .i64 0, .int .i64 0, .int .i64 0, .slice none 0 0, .int .i64 0, .int .i64 0, .int .i64 0, .slice none 0 0, .int .i64 0, .slice none 0 0, .bool false, .int .i64 0, .int .i64 0, .int .i64 0, .slice none 0 0, .slice none 0 0, .int .i64 0, .int .i64 0, .int .i64 0, .slice none 0 0, .int .i64 1048576, .int .i64 (j:Nat), .int .i64 1000, .int .i64 tn, .slice A4 m4 c4]) SZ
  have zw5:=o.size
  have bin1:=IO1.blk in1
  replace in1:=IO1.setr (b:=w4.heap.size) #[.int .i64 11, .int .i64 0, .int .i64 1048576, .int .i64 (j:Nat), .int .i64 1000, .int .i64 0, .int .i64 0, .int .i64 0, .int .i64 0, .int .i64 0, .int .i64 0, .slice none 0 0, .int .i64 0, .int .i64 0, .int .i64 0, .int .i64 0, .slice none 0 0, .int .i64 0, .int .i64 0, .int .i64 0, .int .i64 0, .int .i64 0, .slice none 0 0, .int .i64 0, .int .i64 0, .int .i64 0, .int .i64 0, .int .i64 0, .int .i64 0, .slice none 0 0, .int .i64 0, .int .i64 0, .int .i64 0, .int .i64 0, .int .i64 0, .slice none 0 0, .int .i64 0, .int .i64 0, .int .i64 0, .slice none 0 0, .int .i64 0, .slice none 0 0, .bool false, .int .i64 0, .int .i64 0, .int .i64 0, .slice none 0 0, .slice none 0 0, .int .i64 0, .int .i64 0, .int .i64 0, .slice none 0 0, .int .i64 1048576, .int .i64 (j:Nat), .int .i64 1000, .int .i64 tn, .slice A4 m4 c4] (IO1.below in1 ((Below.refl _ _).alloc (Nat.le_refl _) (.cells #[.int .i64 0, .int .i64 0, .int .i64 0, .int .i64 0, .int .i64 0, .int .i64 0, .int .i64 0, .int .i64 0, .int .i64 0, .int .i64 0, .int .i64 0, .slice none 0 0, .int .i64 0, .int .i64 0, .int .i64 0, .int .i64 0, .slice none 0 0, .int .i64 0, .int .i64 0, .int .i64 0, .int .i64 0, .int .i64 0, .slice none 0 0, .int .i64 0, .int .i64 0, .int .i64 0, .int .i64 0, .int .i64 0, .int .i64 0, .slice none 0 0, .int .i64 0, .int .i64 0, .int .i64 0, .int .i64 0, .int .i64 0, .slice none 0 0, .int .i64 0, .int .i64 0, .int .i64 0, .slice none 0 0, .int .i64 0, .slice none 0 0, .bool false, .int .i64 0, .int .i64 0, .int .i64 0, .slice none 0 0, .slice none 0 0, .int .i64 0, .int .i64 0, .int .i64 0, .slice none 0 0, .int .i64 0, .int .i64 0, .int .i64 0, .int .i64 0, .slice none 0 0] 58))) (fun g hg=>by have:=bin1 g hg;omega)
  have bin2:=IO2.blk in2
  replace in2:=IO2.setr (b:=w4.heap.size) #[.int .i64 11, .int .i64 0, .int .i64 1048576, .int .i64 (j:Nat), .int .i64 1000, .int .i64 0, .int .i64 0, .int .i64 0, .int .i64 0, .int .i64 0, .int .i64 0, .slice none 0 0, .int .i64 0, .int .i64 0, .int .i64 0, .int .i64 0, .slice none 0 0, .int .i64 0, .int .i64 0, .int .i64 0, .int .i64 0, .int .i64 0, .slice none 0 0, .int .i64 0, .int .i64 0, .int .i64 0, .int .i64 0, .int .i64 0, .int .i64 0, .slice none 0 0, .int .i64 0, .int .i64 0, .int .i64 0, .int .i64 0, .int .i64 0, .slice none 0 0, .int .i64 0, .int .i64 0, .int .i64 0, .slice none 0 0, .int .i64 0, .slice none 0 0, .bool false, .int .i64 0, .int .i64 0, .int .i64 0, .slice none 0 0, .slice none 0 0, .int .i64 0, .int .i64 0, .int .i64 0, .slice none 0 0, .int .i64 1048576, .int .i64 (j:Nat), .int .i64 1000, .int .i64 tn, .slice A4 m4 c4] (IO2.below in2 ((Below.refl _ _).alloc (Nat.le_refl _) (.cells #[.int .i64 0, .int .i64 0, .int .i64 0, .int .i64 0, .int .i64 0, .int .i64 0, .int .i64 0, .int .i64 0, .int .i64 0, .int .i64 0, .int .i64 0, .slice none 0 0, .int .i64 0, .int .i64 0, .int .i64 0, .int .i64 0, .slice none 0 0, .int .i64 0, .int .i64 0, .int .i64 0, .int .i64 0, .int .i64 0, .slice none 0 0, .int .i64 0, .int .i64 0, .int .i64 0, .int .i64 0, .int .i64 0, .int .i64 0, .slice none 0 0, .int .i64 0, .int .i64 0, .int .i64 0, .int .i64 0, .int .i64 0, .slice none 0 0, .int .i64 0, .int .i64 0, .int .i64 0, .slice none 0 0, .int .i64 0, .slice none 0 0, .bool false, .int .i64 0, .int .i64 0, .int .i64 0, .slice none 0 0, .slice none 0 0, .int .i64 0, .int .i64 0, .int .i64 0, .slice none 0 0, .int .i64 0, .int .i64 0, .int .i64 0, .int .i64 0, .slice none 0 0] 58))) (fun g hg=>by have:=bin2 g hg;omega)
  replace sbR:=row_setRow_other (g:=w4.heap.size) (cs':=#[.int .i64 11, .int .i64 0, .int .i64 1048576, .int .i64 (j:Nat), .int .i64 1000, .int .i64 0, .int .i64 0, .int .i64 0, .int .i64 0, .int .i64 0, .int .i64 0, .slice none 0 0, .int .i64 0, .int .i64 0, .int .i64 0, .int .i64 0, .slice none 0 0, .int .i64 0, .int .i64 0, .int .i64 0, .int .i64 0, .int .i64 0, .slice none 0 0, .int .i64 0, .int .i64 0, .int .i64 0, .int .i64 0, .int .i64 0, .int .i64 0, .slice none 0 0, .int .i64 0, .int .i64 0, .int .i64 0, .int .i64 0, .int .i64 0, .slice none 0 0, .int .i64 0, .int .i64 0, .int .i64 0, .slice none 0 0, .int .i64 0, .slice none 0 0, .bool false, .int .i64 0, .int .i64 0, .int .i64 0, .slice none 0 0, .slice none 0 0, .int .i64 0, .int .i64 0, .int .i64 0, .slice none 0 0, .int .i64 1048576, .int .i64 (j:Nat), .int .i64 1000, .int .i64 tn, .slice A4 m4 c4]) (row_alloc sbR (.cells #[.int .i64 0, .int .i64 0, .int .i64 0, .int .i64 0, .int .i64 0, .int .i64 0, .int .i64 0, .int .i64 0, .int .i64 0, .int .i64 0, .int .i64 0, .slice none 0 0, .int .i64 0, .int .i64 0, .int .i64 0, .int .i64 0, .slice none 0 0, .int .i64 0, .int .i64 0, .int .i64 0, .int .i64 0, .int .i64 0, .slice none 0 0, .int .i64 0, .int .i64 0, .int .i64 0, .int .i64 0, .int .i64 0, .int .i64 0, .slice none 0 0, .int .i64 0, .int .i64 0, .int .i64 0, .int .i64 0, .int .i64 0, .slice none 0 0, .int .i64 0, .int .i64 0, .int .i64 0, .slice none 0 0, .int .i64 0, .slice none 0 0, .bool false, .int .i64 0, .int .i64 0, .int .i64 0, .slice none 0 0, .slice none 0 0, .int .i64 0, .int .i64 0, .int .i64 0, .slice none 0 0, .int .i64 0, .int .i64 0, .int .i64 0, .int .i64 0, .slice none 0 0] 58)) (by have:=row_lt sbR;omega)
  replace o:=below_setRow (g:=w4.heap.size) (o.alloc o.size (.cells #[.int .i64 0, .int .i64 0, .int .i64 0, .int .i64 0, .int .i64 0, .int .i64 0, .int .i64 0, .int .i64 0, .int .i64 0, .int .i64 0, .int .i64 0, .slice none 0 0, .int .i64 0, .int .i64 0, .int .i64 0, .int .i64 0, .slice none 0 0, .int .i64 0, .int .i64 0, .int .i64 0, .int .i64 0, .int .i64 0, .slice none 0 0, .int .i64 0, .int .i64 0, .int .i64 0, .int .i64 0, .int .i64 0, .int .i64 0, .slice none 0 0, .int .i64 0, .int .i64 0, .int .i64 0, .int .i64 0, .int .i64 0, .slice none 0 0, .int .i64 0, .int .i64 0, .int .i64 0, .slice none 0 0, .int .i64 0, .slice none 0 0, .bool false, .int .i64 0, .int .i64 0, .int .i64 0, .slice none 0 0, .slice none 0 0, .int .i64 0, .int .i64 0, .int .i64 0, .slice none 0 0, .int .i64 0, .int .i64 0, .int .i64 0, .int .i64 0, .slice none 0 0] 58)) o.size #[.int .i64 11, .int .i64 0, .int .i64 1048576, .int .i64 (j:Nat), .int .i64 1000, .int .i64 0, .int .i64 0, .int .i64 0, .int .i64 0, .int .i64 0, .int .i64 0, .slice none 0 0, .int .i64 0, .int .i64 0, .int .i64 0, .int .i64 0, .slice none 0 0, .int .i64 0, .int .i64 0, .int .i64 0, .int .i64 0, .int .i64 0, .slice none 0 0, .int .i64 0, .int .i64 0, .int .i64 0, .int .i64 0, .int .i64 0, .int .i64 0, .slice none 0 0, .int .i64 0, .int .i64 0, .int .i64 0, .int .i64 0, .int .i64 0, .slice none 0 0, .int .i64 0, .int .i64 0, .int .i64 0, .slice none 0 0, .int .i64 0, .slice none 0 0, .bool false, .int .i64 0, .int .i64 0, .int .i64 0, .slice none 0 0, .slice none 0 0, .int .i64 0, .int .i64 0, .int .i64 0, .slice none 0 0, .int .i64 1048576, .int .i64 (j:Nat), .int .i64 1000, .int .i64 tn, .slice A4 m4 c4]
  obtain ⟨w5,hw5⟩:∃ x,x=(w4.alloc (.cells #[.int .i64 0, .int .i64 0, .int .i64 0, .int .i64 0, .int .i64 0, .int .i64 0, .int .i64 0, .int .i64 0, .int .i64 0, .int .i64 0, .int .i64 0, .slice none 0 0, .int .i64 0, .int .i64 0, .int .i64 0, .int .i64 0, .slice none 0 0, .int .i64 0, .int .i64 0, .int .i64 0, .int .i64 0, .int .i64 0, .slice none 0 0, .int .i64 0, .int .i64 0, .int .i64 0, .int .i64 0, .int .i64 0, .int .i64 0, .slice none 0 0, .int .i64 0, .int .i64 0, .int .i64 0, .int .i64 0, .int .i64 0, .slice none 0 0, .int .i64 0, .int .i64 0, .int .i64 0, .slice none 0 0, .int .i64 0, .slice none 0 0, .bool false, .int .i64 0, .int .i64 0, .int .i64 0, .slice none 0 0, .slice none 0 0, .int .i64 0, .int .i64 0, .int .i64 0, .slice none 0 0, .int .i64 0, .int .i64 0, .int .i64 0, .int .i64 0, .slice none 0 0] 58)).setRow w4.heap.size #[.int .i64 11, .int .i64 0, .int .i64 1048576, .int .i64 (j:Nat), .int .i64 1000, .int .i64 0, .int .i64 0, .int .i64 0, .int .i64 0, .int .i64 0, .int .i64 0, .slice none 0 0, .int .i64 0, .int .i64 0, .int .i64 0, .int .i64 0, .slice none 0 0, .int .i64 0, .int .i64 0, .int .i64 0, .int .i64 0, .int .i64 0, .slice none 0 0, .int .i64 0, .int .i64 0, .int .i64 0, .int .i64 0, .int .i64 0, .int .i64 0, .slice none 0 0, .int .i64 0, .int .i64 0, .int .i64 0, .int .i64 0, .int .i64 0, .slice none 0 0, .int .i64 0, .int .i64 0, .int .i64 0, .slice none 0 0, .int .i64 0, .slice none 0 0, .bool false, .int .i64 0, .int .i64 0, .int .i64 0, .slice none 0 0, .slice none 0 0, .int .i64 0, .int .i64 0, .int .i64 0, .slice none 0 0, .int .i64 1048576, .int .i64 (j:Nat), .int .i64 1000, .int .i64 tn, .slice A4 m4 c4]:=⟨_,rfl⟩
  rw [← hw5] at tbR in1 in2 sbR o ⊢
  clear hw5 SZ h1 bin1 bin2
  generalize w4.heap.size=tb at tbR zw5 ⊢
  go_wp2_with (with_reducible refine wpList_lsyn sbR rfl rfl _ rfl rfl ?_)
  refine (tuAsk HG.out.1 in1 v 0).mono ?_
  rintro e w6 ⟨lo1,hi1,he,hQ1,hb⟩
  rw [← hn.out] at hQ1
  replace hQ1:=Lib.hid hQ1
  generalize hm1:(lo1+hi1) / 2=md1 at he
  replace hm1:=Lib.hid hm1
  subst he
  replace in2:=IO2.below in2 hb
  replace tbR:=row_call tbR hb
  replace o:=o.trans (hb.mono o.size)
  clear hb in1 IO1 sbR
  have h1:(#[.int .i64 (lo1:Nat), .int .i64 1, .int .i64 (md1:Nat), .int .i64 1, .int .i64 (hi1:Nat), .int .i64 1, .slice none 0 0, .int .u64 0, .int .u64 0, .int .u64 0, .int .u64 0]:Array Value).all (·.oneCell')=true:=all_one rfl
  have SZ:Row (w6.alloc (.cells #[.int .i64 0, .int .i64 0, .int .i64 0, .int .i64 0, .int .i64 0, .int .i64 0, .slice none 0 0, .int .u64 0, .int .u64 0, .int .u64 0, .int .u64 0] 71)) w6.heap.size 71 #[.int .i64 0, .int .i64 0, .int .i64 0, .int .i64 0, .int .i64 0, .int .i64 0, .slice none 0 0, .int .u64 0, .int .u64 0, .int .u64 0, .int .u64 0]:=row_new rfl
  go_upto_region 6 with (with_reducible refine wpList_sans SZ rfl rfl h1 rfl _ _ rfl rfl rfl ?_)
  have abR:=row_setRow (cs:=#[.int .i64 (lo1:Nat), .int .i64 1, .int .i64 (md1:Nat), .int .i64 1, .int .i64 (hi1:Nat), .int .i64 1, .slice none 0 0, .int .u64 0, .int .u64 0, .int .u64 0, .int .u64 0]) SZ
  have zw7:=o.size
  have bin2:=IO2.blk in2
  replace in2:=IO2.setr (b:=w6.heap.size) #[.int .i64 (lo1:Nat), .int .i64 1, .int .i64 (md1:Nat), .int .i64 1, .int .i64 (hi1:Nat), .int .i64 1, .slice none 0 0, .int .u64 0, .int .u64 0, .int .u64 0, .int .u64 0] (IO2.below in2 ((Below.refl _ _).alloc (Nat.le_refl _) (.cells #[.int .i64 0, .int .i64 0, .int .i64 0, .int .i64 0, .int .i64 0, .int .i64 0, .slice none 0 0, .int .u64 0, .int .u64 0, .int .u64 0, .int .u64 0] 71))) (fun g hg=>by have:=bin2 g hg;omega)
  replace tbR:=row_setRow_other (g:=w6.heap.size) (cs':=#[.int .i64 (lo1:Nat), .int .i64 1, .int .i64 (md1:Nat), .int .i64 1, .int .i64 (hi1:Nat), .int .i64 1, .slice none 0 0, .int .u64 0, .int .u64 0, .int .u64 0, .int .u64 0]) (row_alloc tbR (.cells #[.int .i64 0, .int .i64 0, .int .i64 0, .int .i64 0, .int .i64 0, .int .i64 0, .slice none 0 0, .int .u64 0, .int .u64 0, .int .u64 0, .int .u64 0] 71)) (by have:=row_lt tbR;omega)
  replace o:=below_setRow (g:=w6.heap.size) (o.alloc o.size (.cells #[.int .i64 0, .int .i64 0, .int .i64 0, .int .i64 0, .int .i64 0, .int .i64 0, .slice none 0 0, .int .u64 0, .int .u64 0, .int .u64 0, .int .u64 0] 71)) o.size #[.int .i64 (lo1:Nat), .int .i64 1, .int .i64 (md1:Nat), .int .i64 1, .int .i64 (hi1:Nat), .int .i64 1, .slice none 0 0, .int .u64 0, .int .u64 0, .int .u64 0, .int .u64 0]
  obtain ⟨w7,hw7⟩:∃ x,x=(w6.alloc (.cells #[.int .i64 0, .int .i64 0, .int .i64 0, .int .i64 0, .int .i64 0, .int .i64 0, .slice none 0 0, .int .u64 0, .int .u64 0, .int .u64 0, .int .u64 0] 71)).setRow w6.heap.size #[.int .i64 (lo1:Nat), .int .i64 1, .int .i64 (md1:Nat), .int .i64 1, .int .i64 (hi1:Nat), .int .i64 1, .slice none 0 0, .int .u64 0, .int .u64 0, .int .u64 0, .int .u64 0]:=⟨_,rfl⟩
  rw [← hw7] at abR in2 tbR o ⊢
  clear hw7 SZ h1 bin2
  generalize w6.heap.size=ab at abR zw7 ⊢
  go_wp2_with (with_reducible refine wpList_lsyn tbR rfl rfl _ rfl rfl ?_)
  refine (tqAsk HG.out.2 in2 hnw v 0).mono ?_
  rintro e w8 ⟨lo2,hi2,he,hQ2,hb⟩
  rw [← hn.out] at hQ2
  have hQ1':=hQ1.out
  have hm1':=hm1.out
  generalize hm2:(lo2+hi2) / 2=md2 at he
  have BB1:=bndW (l:=lo1) (h:=hi1) (by omega) (by omega)
  have BB2:=bndW (l:=lo2) (h:=hi2) (by omega) (by omega)
  obtain ⟨hle,BMM⟩:=meetB hQ1'.1 hQ1'.2.1 hQ2.1 hQ2.2.1 (by omega) (by omega)
  rw [hm1'] at BB1 BMM
  rw [hm2] at BB2
  have PME:=fun w=>pmeet BB1 BB2 hle w
  have hb1:max lo1 lo2≤n:=by omega
  have hb2:n≤min hi1 hi2:=by omega
  generalize min (max md1 (max lo1 lo2)) (min hi1 hi2)=mm at PME BMM
  generalize max lo1 lo2=ml at PME BMM hb1
  generalize min hi1 hi2=mh at PME BMM hb2
  have PME:RowKit.Hid (∀ w,Calls Tryz.prog 13 #[.agg #[.int .i64 (lo1:Nat), .int .i64 1, .int .i64 (md1:Nat), .int .i64 1, .int .i64 (hi1:Nat), .int .i64 1], .agg #[.int .i64 (lo2:Nat), .int .i64 1, .int .i64 (md2:Nat), .int .i64 1, .int .i64 (hi2:Nat), .int .i64 1]] w fun e w'=>e = .returned (.tuple #[.agg #[.int .i64 (ml:Nat), .int .i64 1, .int .i64 (mm:Nat), .int .i64 1, .int .i64 (mh:Nat), .int .i64 1], .bool true])∧Below w.heap.size w w'):=Lib.hid PME
  have PBV:RowKit.Hid (∀ w,Calls Tryz.prog 16 #[.agg #[.int .i64 (ml:Nat), .int .i64 1, .int .i64 (mm:Nat), .int .i64 1, .int .i64 (mh:Nat), .int .i64 1], .agg #[.int .i64 (n:Nat), .int .i64 1]] w fun e w'=>e = .returned (.bool true)∧Below w.heap.size w w'):=Lib.hid (fun w=>pholds BMM (ratOK_one (by omega)) (by omega) (by omega) w)
  clear hm2 hm1' BB1 BB2 hle BMM hQ2 hQ1 hm1 hb1 hb2 hnl hQ1'
  subst he
  replace abR:=row_call abR hb
  replace o:=o.trans (hb.mono o.size)
  clear hb in2 IO2 tbR
  have h1:(#[.int .i64 (lo2:Nat), .int .i64 1, .int .i64 (md2:Nat), .int .i64 1, .int .i64 (hi2:Nat), .int .i64 1, .slice none 0 0, .int .u64 0, .int .u64 0, .int .u64 0, .int .u64 0]:Array Value).all (·.oneCell')=true:=all_one rfl
  have SZ:Row (w8.alloc (.cells #[.int .i64 0, .int .i64 0, .int .i64 0, .int .i64 0, .int .i64 0, .int .i64 0, .slice none 0 0, .int .u64 0, .int .u64 0, .int .u64 0, .int .u64 0] 71)) w8.heap.size 71 #[.int .i64 0, .int .i64 0, .int .i64 0, .int .i64 0, .int .i64 0, .int .i64 0, .slice none 0 0, .int .u64 0, .int .u64 0, .int .u64 0, .int .u64 0]:=row_new rfl
  go_upto_region 7 with (with_reducible refine wpList_sans SZ rfl rfl h1 rfl _ _ rfl rfl rfl ?_)
  have bbR:=row_setRow (cs:=#[.int .i64 (lo2:Nat), .int .i64 1, .int .i64 (md2:Nat), .int .i64 1, .int .i64 (hi2:Nat), .int .i64 1, .slice none 0 0, .int .u64 0, .int .u64 0, .int .u64 0, .int .u64 0]) SZ
  have zw9:=o.size
  replace abR:=row_setRow_other (g:=w8.heap.size) (cs':=#[.int .i64 (lo2:Nat), .int .i64 1, .int .i64 (md2:Nat), .int .i64 1, .int .i64 (hi2:Nat), .int .i64 1, .slice none 0 0, .int .u64 0, .int .u64 0, .int .u64 0, .int .u64 0]) (row_alloc abR (.cells #[.int .i64 0, .int .i64 0, .int .i64 0, .int .i64 0, .int .i64 0, .int .i64 0, .slice none 0 0, .int .u64 0, .int .u64 0, .int .u64 0, .int .u64 0] 71)) (by have:=row_lt abR;omega)
  replace o:=below_setRow (g:=w8.heap.size) (o.alloc o.size (.cells #[.int .i64 0, .int .i64 0, .int .i64 0, .int .i64 0, .int .i64 0, .int .i64 0, .slice none 0 0, .int .u64 0, .int .u64 0, .int .u64 0, .int .u64 0] 71)) o.size #[.int .i64 (lo2:Nat), .int .i64 1, .int .i64 (md2:Nat), .int .i64 1, .int .i64 (hi2:Nat), .int .i64 1, .slice none 0 0, .int .u64 0, .int .u64 0, .int .u64 0, .int .u64 0]
  obtain ⟨w9,hw9⟩:∃ x,x=(w8.alloc (.cells #[.int .i64 0, .int .i64 0, .int .i64 0, .int .i64 0, .int .i64 0, .int .i64 0, .slice none 0 0, .int .u64 0, .int .u64 0, .int .u64 0, .int .u64 0] 71)).setRow w8.heap.size #[.int .i64 (lo2:Nat), .int .i64 1, .int .i64 (md2:Nat), .int .i64 1, .int .i64 (hi2:Nat), .int .i64 1, .slice none 0 0, .int .u64 0, .int .u64 0, .int .u64 0, .int .u64 0]:=⟨_,rfl⟩
  rw [← hw9] at bbR  abR o ⊢
  clear hw9 SZ h1
  generalize w8.heap.size=bb at bbR zw9 ⊢
  have p0:=row_cell abR 0
  have q0:=row_cell bbR 0
  have p1:=row_cell abR 1
  have q1:=row_cell bbR 1
  have p2:=row_cell abR 2
  have q2:=row_cell bbR 2
  have p3:=row_cell abR 3
  have q3:=row_cell bbR 3
  have p4:=row_cell abR 4
  have q4:=row_cell bbR 4
  have p5:=row_cell abR 5
  have q5:=row_cell bbR 5
  clear abR bbR
  go_wp2_with fail
  refine (PME.out _).mono ?_
  rintro e w10 ⟨rfl,hb⟩
  replace o:=o.trans (hb.mono o.size)
  clear hb p0 q0 p1 q1 p2 q2 p3 q3 p4 q4 p5 q5
  go_upto_region 8 with (fail)
  have V:Row (w10.alloc (.cells #[.int .i64 (ml:Nat), .int .i64 1, .int .i64 (mm:Nat), .int .i64 1, .int .i64 (mh:Nat), .int .i64 1] 64)) w10.heap.size 64 #[.int .i64 (ml:Nat), .int .i64 1, .int .i64 (mm:Nat), .int .i64 1, .int .i64 (mh:Nat), .int .i64 1]:=row_new rfl
  replace o:=o.alloc o.size (.cells #[.int .i64 (ml:Nat), .int .i64 1, .int .i64 (mm:Nat), .int .i64 1, .int .i64 (mh:Nat), .int .i64 1] 64)
  generalize w10.alloc (.cells #[.int .i64 (ml:Nat), .int .i64 1, .int .i64 (mm:Nat), .int .i64 1, .int .i64 (mh:Nat), .int .i64 1] 64)=w11 at V o ⊢
  generalize w10.heap.size=cb at V ⊢
  refine wp_region_free0 [0,1,2,3,4,5,6,7,8,9,10,11,12,13,14,15,16,17,18,19,20,21,22,23,24,25,26] [] [0,1,2,3,4,5,6,7,8,9,10,11,12,13,14,15,16,17,18,19,20,21,22,23,24,25,26] 27 (fun w'=>Below w11.heap.size w11 w') (by kernel_rfl) (by kernel_rfl) (fun _ _ d _ _ h=>by cases d<;>exact h) ?_ ?_
  · exact (Below.refl _ _).drew
  (refine plan_pure ?_ rfl rfl (fun w'=>?_) ?_;rotate_left;(go_simp;try with_reducible rfl);simp only [put9])
  (refine plan_pure ?_ rfl rfl (fun w'=>?_) ?_;rotate_left;(go_simp;try with_reducible rfl);simp only [put9])
  (refine plan_pure ?_ rfl rfl (fun w'=>?_) ?_;rotate_left;(go_simp;try with_reducible rfl);simp only [put9])
  (refine plan_pure ?_ rfl rfl (fun w'=>?_) ?_;rotate_left;(go_simp;try with_reducible rfl);simp only [put9])
  (refine plan_pure ?_ rfl rfl (fun w'=>?_) ?_;rotate_left;(go_simp;try with_reducible rfl);simp only [put9])
  (refine plan_pure ?_ rfl rfl (fun w'=>?_) ?_;rotate_left;(go_simp;try with_reducible rfl);simp only [put9])
  (refine plan_pure ?_ rfl rfl (fun w'=>?_) ?_;rotate_left;(go_simp;try with_reducible rfl);simp only [put9])
  (refine plan_pure ?_ rfl rfl (fun w'=>?_) ?_;rotate_left;(go_simp;try with_reducible rfl);simp only [put9])
  (refine plan_pure ?_ rfl rfl (fun w'=>?_) ?_;rotate_left;(go_simp;try with_reducible rfl);simp only [put9])
  (refine plan_pure ?_ rfl rfl (fun w'=>?_) ?_;rotate_left;(go_simp;try with_reducible rfl);simp only [put9])
  (refine plan_pure ?_ rfl rfl (fun w'=>?_) ?_;rotate_left;(go_simp;try with_reducible rfl);simp only [put9])
  (refine plan_pure ?_ rfl rfl (fun w'=>?_) ?_;rotate_left;(go_simp;try with_reducible rfl);simp only [put9])
  (refine plan_pure ?_ rfl rfl (fun w'=>?_) ?_;rotate_left;(go_simp;try with_reducible rfl);simp only [put9])
  (refine plan_pure ?_ rfl rfl (fun w'=>?_) ?_;rotate_left;(go_simp;try with_reducible rfl);simp only [put9])
  (refine plan_pure ?_ rfl rfl (fun w'=>?_) ?_;rotate_left;(go_simp;try with_reducible rfl);simp only [put9])
  (refine plan_pure ?_ rfl rfl (fun w'=>?_) ?_;rotate_left;(go_simp;try with_reducible rfl);simp only [put9])
  (refine plan_val ?_ rfl rfl rfl (fun w' hS=>?_) ?_;rotate_left;(obtain ⟨V0,V1,V2,V3,V4,V5,Vf0,Vf1,Vf2,Vf3,Vf4,Vf5⟩:=row_six (row_call V hS);go_simp;try with_reducible rfl);simp only [put9])
  (refine plan_pure ?_ rfl rfl (fun w'=>?_) ?_;rotate_left;(go_simp;try with_reducible rfl);simp only [put9])
  (refine plan_pure ?_ rfl rfl (fun w'=>?_) ?_;rotate_left;(go_simp;try with_reducible rfl);simp only [put9])
  refine plan_call (.int .i64 (n:Nat)) 18 #[.slice A1 its.length c1, .int .i64 v] rfl rfl rfl (fun _ _ h hb=>h.trans (hb.mono h.size)) (fun w' hS=>by obtain ⟨V0,V1,V2,V3,V4,V5,Vf0,Vf1,Vf2,Vf3,Vf4,Vf5⟩:=row_six (row_call V hS);go_simp) (fun w' hS=>PX.out _ (o.trans (hS.mono o.size))) ?_
  simp only [put9]
  refine plan_call (.agg #[.int .i64 (n:Nat), .int .i64 1, .int .i64 (n:Nat), .int .i64 1, .int .i64 (n:Nat), .int .i64 1]) 17 #[.int .i64 (n:Nat)] rfl rfl rfl (fun _ _ h hb=>h.trans (hb.mono h.size)) (fun w' hS=>by obtain ⟨V0,V1,V2,V3,V4,V5,Vf0,Vf1,Vf2,Vf3,Vf4,Vf5⟩:=row_six (row_call V hS);go_simp) (fun w' hS=>PW8.out w') ?_
  simp only [put9]
  refine plan_pure (.agg #[.int .i64 (n:Nat), .int .i64 1]) rfl rfl (fun w'=>rfl) ?_;simp only [put9]
  refine plan_call (.bool true) 16 #[.agg #[.int .i64 (ml:Nat), .int .i64 1, .int .i64 (mm:Nat), .int .i64 1, .int .i64 (mh:Nat), .int .i64 1], .agg #[.int .i64 (n:Nat), .int .i64 1]] rfl rfl rfl (fun _ _ h hb=>h.trans (hb.mono h.size)) (fun w' hS=>by obtain ⟨V0,V1,V2,V3,V4,V5,Vf0,Vf1,Vf2,Vf3,Vf4,Vf5⟩:=row_six (row_call V hS);go_simp) (fun w' hS=>PBV.out w') ?_
  simp only [put9]
  (refine plan_pure ?_ rfl rfl (fun w'=>?_) ?_;rotate_left;(go_simp;try with_reducible rfl);simp only [put9])
  (refine plan_pure ?_ rfl rfl (fun w'=>?_) ?_;rotate_left;(go_simp;try with_reducible rfl);simp only [put9])
  refine plan_call (.bool true) 15 #[] rfl rfl rfl (fun _ _ h hb=>h.trans (hb.mono h.size)) (fun w' hS=>by obtain ⟨V0,V1,V2,V3,V4,V5,Vf0,Vf1,Vf2,Vf3,Vf4,Vf5⟩:=row_six (row_call V hS);go_simp) (fun w' hS=>PW.out w') ?_
  simp only [put9]
  (refine plan_pure ?_ rfl rfl (fun w'=>?_) ?_;rotate_left;(go_simp;try with_reducible rfl);simp only [put9])
  refine plan_nil ?_
  intro w14 L14
  simp only [List.drop_succ_cons,List.drop_zero]
  try simp only [put9]
  replace o:=o.trans (L14.mono o.size)
  go_wp2
  go_ret
  exact ⟨by first | rfl | exact ret_bool (by simp) | simp,hbI.trans (o.mono hbI.size)⟩
end Go.Proofs.YtdipoojjlddohaaGreat
end
