/- What the law TopRelative needs, joined of its texts by a program (slim2.py); part 9. -/
import Derived.Test.YtdipoojjlddohaaGreatZTopRelative1
import Derived.Test.YtdipoojjlddohaaGreatZTopRelative2
import Derived.Test.YtdipoojjlddohaaGreatZTopRelative8
set_option linter.unusedVariables false
set_option linter.unusedSimpArgs false
set_option linter.unusedSectionVars false
set_option linter.unnecessarySimpa false
set_option maxRecDepth 100000
namespace Go.Proofs.YtdipoojjlddohaaGreat
open MC
open MT
open Go.RowKit Go.Shelf
theorem ptop (sq tk n s q lw hg:Int) (w:World) (h:rightP n s q):Calls Tryz.prog 234 #[.agg (J1 sq tk n s q lw hg)] w (Rr (.int .i64 (topN n s q)) w):=by
  have b:=right_top h;have wss:IntKind.i64.wrap (s*s)=s*s:=IntWalk.i64_in _ (by omega);have wnq:IntKind.i64.wrap (n*q)=n*q:=IntWalk.i64_in _ (by omega);have wd:IntKind.i64.wrap (n*q-s*s)=(topN n s q:Int):=by rw [IntWalk.i64_in _ (by omega)];unfold topN;omega
  clear b h;go_enter Tryz.func234,Tryz.ntmps234;go_wp2;go_ret;exact ⟨rfl,bel9⟩
theorem psize (a:Nat) (h:a<9223372036854775808) (w:World):Calls Tryz.prog 155 #[a] w (Rd (.int .u64 a) w):=by
  have h0:¬ (a:Int)<0:=by omega
  have wa:IntKind.u64.wrap (a:Int)=(a:Int):=IntWalk.u64_in _ (by omega);go_enter Tryz.func155,Tryz.ntmps155;go_wp2;go_ret;exact ⟨rfl,rfl⟩
set_option maxHeartbeats 4000000 in
theorem preduced (a b:Nat) (ha:a<9223372036854775808) (hb:b<9223372036854775808) (h:b≠0) (w:World) :
    Calls Tryz.prog 269 #[.bool false,W a,W b] w (Rr (.tuple #[.agg #[.int .i64 ((a / Nat.gcd a b:Nat):Int), .int .i64 ((b / Nat.gcd a b:Nat):Int)], .bool true]) w):=by
  have PG:=Lib.hid (fun w=>pgcd a b (by unfold big;omega) (by unfold big;omega) w)
  have g0:Nat.gcd a b≠0:=by
    intro e;exact h (Nat.gcd_eq_zero_iff.1 e).2
  have gb:Nat.gcd a b<=b:=Nat.gcd_le_right _ (by omega);have PA:=Lib.hid (fun w=>pdiv_yes a (Nat.gcd a b) (by unfold big;omega) (by unfold big;omega) g0 w);have PB:=Lib.hid (fun w=>pdiv_yes b (Nat.gcd a b) (by unfold big;omega) (by unfold big;omega) g0 w);have qa:a / Nat.gcd a b<=a:=Nat.div_le_self _ _;have qb:b / Nat.gcd a b<=b:=Nat.div_le_self _ _;generalize Nat.gcd a b=g at PG PA PB qa qb |-
  generalize a % g=ra at PA;generalize b % g=rb at PB;generalize a / g=x at PA qa |-
  generalize b / g=y at PB qb |-
  have e1:=hi_small (n:=x) (by omega);have e2:=lo_small (n:=x) (by omega);have e3:=hi_small (n:=y) (by omega);have e4:=lo_small (n:=y) (by omega);have c1:¬ (9223372036854775808:Int)<=(y:Int):=by omega
  have c2:¬ (9223372036854775808:Int)<(x:Int):=by omega
  have c3:((x:Int) == 9223372036854775808)=false:=by simp;omega
  have w1:IntKind.i64.wrap (x:Int)=(x:Int):=IntWalk.i64_in _ (by omega);have w2:IntKind.i64.wrap (y:Int)=(y:Int):=IntWalk.i64_in _ (by omega);have ALL:=Lib.hid (And.intro e1 (And.intro e2 (And.intro e3 (And.intro e4 (And.intro c1 (And.intro c2 (And.intro c3 (And.intro w1 w2))))))));clear g0 gb e1 e2 e3 e4 c1 c2 c3 w1 w2;go_enter Tryz.func269,Tryz.ntmps269;go_upto_region 1 with (fail)
  have X:Row (((w.alloc (.cells #[.int .u64 (hi a), .int .u64 (lo a)] 67)).alloc (.cells #[.int .u64 (hi b), .int .u64 (lo b)] 67)).alloc (.cells #[(),()] 62)) w.heap.size 67 #[.int .u64 (hi a), .int .u64 (lo a)]:=row_alloc (row_alloc (row_new rfl) _) _;have Y:Row (((w.alloc (.cells #[.int .u64 (hi a), .int .u64 (lo a)] 67)).alloc (.cells #[.int .u64 (hi b), .int .u64 (lo b)] 67)).alloc (.cells #[(),()] 62)) (w.heap.size+1) 67 #[.int .u64 (hi b), .int .u64 (lo b)]:=row_alloc (row_new (by simp)) _;have R:Row (((w.alloc (.cells #[.int .u64 (hi a), .int .u64 (lo a)] 67)).alloc (.cells #[.int .u64 (hi b), .int .u64 (lo b)] 67)).alloc (.cells #[(),()] 62)) (w.heap.size+1+1) 62 #[(),()]:=row_new (by simp);have o:Below w w (((w.alloc (.cells #[.int .u64 (hi a), .int .u64 (lo a)] 67)).alloc (.cells #[.int .u64 (hi b), .int .u64 (lo b)] 67)).alloc (.cells #[(),()] 62)):=bel9;have z3:w.heap.size+1+1<(((w.alloc (.cells #[.int .u64 (hi a), .int .u64 (lo a)] 67)).alloc (.cells #[.int .u64 (hi b), .int .u64 (lo b)] 67)).alloc (.cells #[(),()] 62)).heap.size:=row_lt R;generalize (((w.alloc (.cells #[.int .u64 (hi a), .int .u64 (lo a)] 67)).alloc (.cells #[.int .u64 (hi b), .int .u64 (lo b)] 67)).alloc (.cells #[(),()] 62))=w3 at X Y R o z3 |-
  obtain ⟨X0,X1,X2,X3⟩:=row_two X;obtain ⟨Y0,Y1,Y2,Y3⟩:=row_two Y;go_wp2_with fail;refine (PG.out _).mono ?_;rintro e w4 ⟨rfl,hb4⟩;clear X0 X1 X2 X3 Y0 Y1 Y2 Y3;have X:=row_call X hb4;have Y:=row_call Y hb4;have R:=row_call R hb4;have o:=o.trans (hb4.mono o.size);have z4:=hb4.size;go_upto_region 2 with (fail)
  have X:=row_alloc X (.cells #[.int .u64 (hi g), .int .u64 (lo g)] 67);have Y:=row_alloc Y (.cells #[.int .u64 (hi g), .int .u64 (lo g)] 67);have R:=row_alloc R (.cells #[.int .u64 (hi g), .int .u64 (lo g)] 67);have G:Row (w4.alloc (.cells #[.int .u64 (hi g), .int .u64 (lo g)] 67)) w4.heap.size 67 #[.int .u64 (hi g), .int .u64 (lo g)]:=row_new rfl;have o:=o.alloc o.size (.cells #[.int .u64 (hi g), .int .u64 (lo g)] 67);generalize w4.alloc (.cells #[.int .u64 (hi g), .int .u64 (lo g)] 67)=w5 at X Y R G o |-
  generalize w4.heap.size=gb at G z4 |-
  obtain ⟨X0,X1,X2,X3⟩:=row_two X;obtain ⟨G0,G1,G2,G3⟩:=row_two G;go_wp2_with fail;refine (PA.out _).mono ?_;rintro e w6 ⟨rfl,hb6⟩;clear X0 X1 X2 X3 G0 G1 G2 G3;have X:=row_call X hb6;have Y:=row_call Y hb6;have R:=row_call R hb6;have G:=row_call G hb6;have o:=o.trans (hb6.mono o.size);obtain ⟨X0,X1,X2,X3⟩:=row_two X;go_upto_region 3 with (fail)
  clear X0 X1 X2 X3;have X:=row_two_set (u := .int .u64 (hi x)) (v := .int .u64 (lo x)) X;have Y:=row_two_other (c:=w.heap.size) (u := .int .u64 (hi x)) (v := .int .u64 (lo x)) Y (by omega);have R:=row_two_other (c:=w.heap.size) (u := .int .u64 (hi x)) (v := .int .u64 (lo x)) R (by omega);have G:=row_two_other (c:=w.heap.size) (u := .int .u64 (hi x)) (v := .int .u64 (lo x)) G (by omega);have o:=(o.setCell (p:=⟨w,0,none⟩) (Nat.le_refl _) (.int .u64 (hi x))).setCell (p:=⟨w,1,none⟩) (Nat.le_refl _) (.int .u64 (lo x));generalize ((w6.setCell ⟨w,0,none⟩ (.int .u64 (hi x))).setCell ⟨w,1,none⟩ (.int .u64 (lo x)))=w7 at X Y R G o |-
  obtain ⟨Y0,Y1,Y2,Y3⟩:=row_two Y;obtain ⟨G0,G1,G2,G3⟩:=row_two G;go_wp2_with fail;refine (PB.out _).mono ?_;rintro e w8 ⟨rfl,hb8⟩;clear Y0 Y1 Y2 Y3 G0 G1 G2 G3 G;have X:=row_call X hb8;have Y:=row_call Y hb8;have R:=row_call R hb8;have o:=o.trans (hb8.mono o.size);obtain ⟨Y0,Y1,Y2,Y3⟩:=row_two Y;go_upto_region 4 with (fail)
  clear Y0 Y1 Y2 Y3;have Y:=row_two_set (u := .int .u64 (hi y)) (v := .int .u64 (lo y)) Y;have X:=row_two_other (c:=w.heap.size+1) (u := .int .u64 (hi y)) (v := .int .u64 (lo y)) X (by omega);have R:=row_two_other (c:=w.heap.size+1) (u := .int .u64 (hi y)) (v := .int .u64 (lo y)) R (by omega);have o:=(o.setCell (p:=⟨w.heap.size+1,0,none⟩) (by simp) (.int .u64 (hi y))).setCell (p:=⟨w.heap.size+1,1,none⟩) (by simp) (.int .u64 (lo y));generalize ((w8.setCell ⟨w.heap.size+1,0,none⟩ (.int .u64 (hi y))).setCell ⟨w.heap.size+1,1,none⟩ (.int .u64 (lo y)))=w9 at X Y R o |-
  obtain ⟨e1,e2,e3,e4,c1,c2,c3,w1,w2⟩:=ALL.out;rw [e1,e2] at X;rw [e3,e4] at Y;clear e1 e2 e3 e4;have u1:(0:Int)<=(x:Int)/\(x:Int)<9223372036854775808:=by omega
  have u2:(0:Int)<=(y:Int)/\(y:Int)<9223372036854775808:=by omega
  clear c1 c2 c3 w1 w2 qa qb ha hb;generalize hxi:(x:Int)=xi at X u1;generalize hyi:(y:Int)=yi at Y u2;have HXI:=Lib.hid hxi;have HYI:=Lib.hid hyi;clear hxi hyi;have c1:¬ (9223372036854775808:Int)<=yi:=by omega
  have c2:¬ (9223372036854775808:Int)<xi:=by omega
  have c3:(xi == 9223372036854775808)=false:=by simp;omega
  have w1:IntKind.i64.wrap xi=xi:=IntWalk.i64_in _ (by omega);have w2:IntKind.i64.wrap yi=yi:=IntWalk.i64_in _ (by omega);obtain ⟨X0,X1,X2,X3⟩:=row_two X;obtain ⟨Y0,Y1,Y2,Y3⟩:=row_two Y;obtain ⟨R0,R1,R2,R3⟩:=row_two R;go_wp2;exact bodyPost_ret (v := .tuple #[.agg #[xi,yi], .bool true]) (by simp [results,Tryz.results269,go_sem,R0,R1]) rfl ⟨by rw [HXI.out,HYI.out],bel9⟩
theorem pmake (a b:Nat) (ha:a<9223372036854775808) (hb:b<9223372036854775808) (h:b≠0) (w:World) :
    Calls Tryz.prog 233 #[a,b] w (Rr (.tuple #[.agg #[.int .i64 ((a / Nat.gcd a b:Nat):Int), .int .i64 ((b / Nat.gcd a b:Nat):Int)], .bool true]) w):=by
  have PR:=fun w=>preduced a b ha hb h w;have PA:=fun w=>psize a ha w;have PB:=fun w=>psize b hb w;have OA:=fun w=>pof a (by omega) w;have OB:=fun w=>pof b (by omega) w;generalize ((a / Nat.gcd a b:Nat):Int)=x at PR |-
  generalize ((b / Nat.gcd a b:Nat):Int)=y at PR |-
  have u0:(b:Int)≠0:=by omega
  have u1:0<=(a:Int):=by omega
  have u2:0<=(b:Int):=by omega
  generalize W a=wa at OA PR;generalize W b=wb at OB PR;generalize (a:Int)=ai at PA OA u1 |-
  generalize (b:Int)=bi at PB OB u0 u2 |-
  have t0:(bi == 0)=false:=by simpa using u0
  have t1:¬ ai<0:=by omega
  have t2:¬ bi<0:=by omega
  have PR:=Lib.hid PR;have PA:=Lib.hid PA;have PB:=Lib.hid PB;have OA:=Lib.hid OA;have OB:=Lib.hid OB;clear h ha hb u0 u1 u2;go_enter Tryz.func233,Tryz.ntmps233;go_wp2_with (first | (go_at_call 155;with_reducible refine (PA.out _).mono ?_;rintro e w9 ⟨rfl,h9⟩;obtain rfl:=h9.symm) | (go_at_call 155;with_reducible refine (PB.out _).mono ?_;rintro e w9 ⟨rfl,h9⟩;obtain rfl:=h9.symm) | (go_at_call 76;with_reducible refine (OA.out _).mono ?_;rintro e w1 ⟨rfl,hb1⟩;have hz1:=hb1.size;(try simp at hz1);have o1:Below w w w1:=bel9;have q1_0:w.heap.size<w1.heap.size:=(by omega);have r1_0:Row w1 (w.heap.size) 62 #[(),()]:=row_call row9 hb1;cases r2 r1_0) | (go_at_call 76;with_reducible refine (OB.out _).mono ?_;rintro e w2 ⟨rfl,hb2⟩;have hz2:=hb2.size;(try simp at hz2);have o2:Below w w w2:=bel9;have q2_0:w.heap.size<w2.heap.size:=(by omega);have r2_0:Row w2 (w.heap.size) 62 #[(),()]:=row_call row9 hb2;cases r2 r2_0) | (go_at_call 269;with_reducible refine (PR.out _).mono ?_;rintro e w3 ⟨rfl,hb3⟩;have hz3:=hb3.size;(try simp at hz3);have o3:Below w w w3:=bel9;have q3_0:w.heap.size<w3.heap.size:=(by omega);have r3_0:Row w3 (w.heap.size) 62 #[(),()]:=row_call row9 hb3;obtain ⟨c3_0a,c3_0b,f3_0a,f3_0b⟩:=row_two r3_0));exact bodyPost_ret (v := .tuple #[.agg #[x,y], .bool true]) (by simp [results,Tryz.results233,go_sem,c3_0a,c3_0b]) rfl ⟨rfl,bel9⟩
def ratA (n s q:Int):Int:=((topN n s q / Nat.gcd (topN n s q) n.toNat:Nat):Int)
def ratB (n s q:Int):Int:=((n.toNat / Nat.gcd (topN n s q) n.toNat:Nat):Int)
set_option maxHeartbeats 2000000 in
theorem pof_yes (sq tk n s q lw hg:Int) (w:World) (h:rightP n s q):Calls Tryz.prog 141 #[.agg (J1 sq tk n s q lw hg)] w (Rr (.tuple #[.agg #[.int .i64 (ratA n s q), .int .i64 (ratB n s q)], .bool true]) w):=by
  unfold ratA ratB;obtain ⟨nn,rfl⟩:∃ nn:Nat,n=(nn:Int):=⟨n.toNat,by have:=h.1;omega⟩
  rw [Int.toNat_natCast];have PR:=fun w=>pright sq tk (nn:Int) s q lw hg w;rw [decide_eq_true h] at PR;have PR:=Lib.hid PR;have PT:=fun w=>ptop sq tk (nn:Int) s q lw hg w h
  have tb:topN (nn:Int) s q<9223372036854775808:=by
    have:=right_top h;unfold topN;omega
  have PMK:=fun w=>pmake (topN (nn:Int) s q) nn tb (by have:=h.2.1;omega) (by have:=h.1;omega) w;generalize topN (nn:Int) s q=tp at PT PMK |-
  generalize tp / Nat.gcd tp nn=x at PMK |-
  generalize nn / Nat.gcd tp nn=y at PMK |-
  have PT:=Lib.hid PT;have PMK:=Lib.hid PMK;clear h tb;go_enter Tryz.func141,Tryz.ntmps141;go_upto_region 3 with (go_at_call 232;with_reducible refine (PR.out _).mono ?_;rintro e w1 ⟨rfl,hb1⟩;have hz1:=hb1.size;(try simp at hz1);have o1:Below w w w1:=bel9;have q1_0:w.heap.size<w1.heap.size:=(by omega);have r1_0:Row w1 (w.heap.size) 228 (J1 sq tk (nn:Nat) s q lw hg):=row_call row9 hb1;cases r7 r1_0;have q1_1:w.heap.size+1<w1.heap.size:=(by omega);have r1_1:Row w1 (w.heap.size+1) 62 #[(),()]:=row_call row9 hb1;cases r2 r1_1)
  have L:Row w1 (w.heap.size) 228 (J1 sq tk (nn:Nat) s q lw hg)/\Row w1 (w.heap.size+1) 62 #[(),()]/\Below w w w1:=⟨r1_0,r1_1,o1⟩
  refine wp_region_free0 [0,1,2,3,4,5,6] [] [0,1,2,3,4,5,6] 7 (fun w'=>Row w' (w.heap.size) 228 (J1 sq tk (nn:Nat) s q lw hg)/\Row w' (w.heap.size+1) 62 #[(),()]/\Below w w w') (by kernel_rfl) (by kernel_rfl) (fun _ _ d _ _ h=>by cases d<;>exact h) ?_ ?_
  · exact ⟨L.1,L.2.1,L.2.2.drew⟩
  (refine plv rfl rfl rfl (fun w' hS=>by obtain ⟨X0,X1,X2,X3,X4,X5,X6,_⟩:=row_seven hS.1;exact gs9) ?_;simp only [put9]);refine plan_call (.int .i64 (tp:Nat)) 234 #[.agg (J1 sq tk (nn:Nat) s q lw hg)] rfl rfl rfl (fun _ _ h hb=>⟨row_call h.1 hb,row_call h.2.1 hb,h.2.2.trans (hb.mono h.2.2.size)⟩) (fun w' hS=>by obtain ⟨X0,X1,X2,X3,X4,X5,X6,_⟩:=row_seven hS.1;go_simp) (fun w' hS=>PT.out w') ?_;simp only [put9];(refine plp rfl rfl ?_;simp only [put9]);(refine plv rfl rfl rfl (fun w' hS=>by obtain ⟨X0,X1,X2,X3,X4,X5,X6,_⟩:=row_seven hS.1;exact gs9) ?_;simp only [put9]);refine plan_call (.tuple #[.agg #[.int .i64 (x:Nat), .int .i64 (y:Nat)], .bool true]) 233 #[.int .i64 (tp:Nat), .int .i64 (nn:Nat)] rfl rfl rfl (fun _ _ h hb=>⟨row_call h.1 hb,row_call h.2.1 hb,h.2.2.trans (hb.mono h.2.2.size)⟩) (fun w' hS=>by obtain ⟨X0,X1,X2,X3,X4,X5,X6,_⟩:=row_seven hS.1;go_simp) (fun w' hS=>PMK.out w') ?_;simp only [put9];iterate 2 (refine plp rfl rfl ?_;simp only [put9])
  refine plan_nil ?_;intro w3 L3;simp only [List.drop_succ_cons,List.drop_zero];try simp only [put9]
  obtain ⟨r3_0,r3_1,o3⟩:=L3;obtain ⟨Y0,Y1,Y2,Y3⟩:=row_two r3_1;clear L r1_0 r1_1 o1;go_wp2;exact bodyPost_ret (v := .tuple #[.agg #[.int .i64 (x:Int), .int .i64 (y:Int)], .bool true]) (by simp [results,Tryz.results141,go_sem,Y0,Y1]) rfl ⟨rfl,bel9⟩
theorem pgood_0 (wd k cap now:Int) (w:World)  (h:wd<1):Calls Tryz.prog 205 (J25 wd k cap now) w (Rd (.bool false) w):=by
  go_enter Tryz.func205,Tryz.ntmps205;go_wp2_with fail;go_ret;exact ⟨by first | rfl | exact ret_bool (by simp;omega),rfl⟩
theorem pgood_1 (wd k cap now:Int) (w:World) (h0:1<=wd) (h:1048576<wd):Calls Tryz.prog 205 (J25 wd k cap now) w (Rd (.bool false) w):=by
  go_enter Tryz.func205,Tryz.ntmps205;go_wp2_with fail;go_ret;exact ⟨by first | rfl | exact ret_bool (by simp;omega),rfl⟩
theorem pgood_2 (wd k cap now:Int) (w:World) (h0:1<=wd) (h1:wd<=1048576) (h:k<1):Calls Tryz.prog 205 (J25 wd k cap now) w (Rd (.bool false) w):=by
  go_enter Tryz.func205,Tryz.ntmps205;go_wp2_with fail;go_ret;exact ⟨by first | rfl | exact ret_bool (by simp;omega),rfl⟩
theorem pgood_3 (wd k cap now:Int) (w:World) (h0:1<=wd) (h1:wd<=1048576) (h2:1<=k) (h:64<k):Calls Tryz.prog 205 (J25 wd k cap now) w (Rd (.bool false) w):=by
  go_enter Tryz.func205,Tryz.ntmps205;go_wp2_with fail;go_ret;exact ⟨by first | rfl | exact ret_bool (by simp;omega),rfl⟩
theorem pgood_4 (wd k cap now:Int) (w:World) (h0:1<=wd) (h1:wd<=1048576) (h2:1<=k) (h3:k<=64) (h:cap<1):Calls Tryz.prog 205 (J25 wd k cap now) w (Rd (.bool false) w):=by
  go_enter Tryz.func205,Tryz.ntmps205;go_wp2_with fail;go_ret;exact ⟨by first | rfl | exact ret_bool (by simp;omega),rfl⟩
theorem pgood_5 (wd k cap now:Int) (w:World) (h0:1<=wd) (h1:wd<=1048576) (h2:1<=k) (h3:k<=64) (h4:1<=cap) (h:65536<cap):Calls Tryz.prog 205 (J25 wd k cap now) w (Rd (.bool false) w):=by
  go_enter Tryz.func205,Tryz.ntmps205;go_wp2_with fail;go_ret;exact ⟨by first | rfl | exact ret_bool (by simp;omega),rfl⟩
theorem pgood_6 (wd k cap now:Int) (w:World) (h0:1<=wd) (h1:wd<=1048576) (h2:1<=k) (h3:k<=64) (h4:1<=cap) (h5:cap<=65536) (h:now<0):Calls Tryz.prog 205 (J25 wd k cap now) w (Rd (.bool false) w):=by
  go_enter Tryz.func205,Tryz.ntmps205;go_wp2_with fail;go_ret;exact ⟨by first | rfl | exact ret_bool (by simp;omega),rfl⟩
theorem pgood_7 (wd k cap now:Int) (w:World) (h0:1<=wd) (h1:wd<=1048576) (h2:1<=k) (h3:k<=64) (h4:1<=cap) (h5:cap<=65536) (h6:0<=now) (h:16777216<now):Calls Tryz.prog 205 (J25 wd k cap now) w (Rd (.bool false) w):=by
  go_enter Tryz.func205,Tryz.ntmps205;go_wp2_with fail;go_ret;exact ⟨by first | rfl | exact ret_bool (by simp;omega),rfl⟩
theorem pgood_8 (wd k cap now:Int) (w:World) (h0:1<=wd) (h1:wd<=1048576) (h2:1<=k) (h3:k<=64) (h4:1<=cap) (h5:cap<=65536) (h6:0<=now) (h7:now<=16777216):Calls Tryz.prog 205 (J25 wd k cap now) w (Rd (.bool true) w):=by
  go_enter Tryz.func205,Tryz.ntmps205;go_wp2_with fail;go_ret;exact ⟨by first | rfl | exact ret_bool (by simp;omega),rfl⟩
theorem pgood (wd k cap now:Int) (w:World):Calls Tryz.prog 205 (J25 wd k cap now) w (Rd (.bool (decide (1<=wd/\wd<=1048576/\1<=k/\k<=64/\1<=cap/\cap<=65536/\0<=now/\now<=16777216))) w):=by
  by_cases h0:1<=wd
  · skip
    by_cases h1:wd<=1048576
    · skip
      by_cases h2:1<=k
      · skip
        by_cases h3:k<=64
        · skip
          by_cases h4:1<=cap
          · skip
            by_cases h5:cap<=65536
            · skip
              by_cases h6:0<=now
              · skip
                by_cases h7:now<=16777216
                · skip
                  rw [show decide (1<=wd/\wd<=1048576/\1<=k/\k<=64/\1<=cap/\cap<=65536/\0<=now/\now<=16777216)=true from decide_eq_true ⟨h0,h1,h2,h3,h4,h5,h6,h7⟩];exact pgood_8 wd k cap now w h0 h1 h2 h3 h4 h5 h6 h7
                · rw [show decide (1<=wd/\wd<=1048576/\1<=k/\k<=64/\1<=cap/\cap<=65536/\0<=now/\now<=16777216)=false from decide_eq_false (fun a=>h7 a.2.2.2.2.2.2.2)];exact pgood_7 wd k cap now w h0 h1 h2 h3 h4 h5 h6 (by omega)
              · rw [show decide (1<=wd/\wd<=1048576/\1<=k/\k<=64/\1<=cap/\cap<=65536/\0<=now/\now<=16777216)=false from decide_eq_false (fun a=>h6 a.2.2.2.2.2.2.1)];exact pgood_6 wd k cap now w h0 h1 h2 h3 h4 h5 (by omega)
            · rw [show decide (1<=wd/\wd<=1048576/\1<=k/\k<=64/\1<=cap/\cap<=65536/\0<=now/\now<=16777216)=false from decide_eq_false (fun a=>h5 a.2.2.2.2.2.1)];exact pgood_5 wd k cap now w h0 h1 h2 h3 h4 (by omega)
          · rw [show decide (1<=wd/\wd<=1048576/\1<=k/\k<=64/\1<=cap/\cap<=65536/\0<=now/\now<=16777216)=false from decide_eq_false (fun a=>h4 a.2.2.2.2.1)];exact pgood_4 wd k cap now w h0 h1 h2 h3 (by omega)
        · rw [show decide (1<=wd/\wd<=1048576/\1<=k/\k<=64/\1<=cap/\cap<=65536/\0<=now/\now<=16777216)=false from decide_eq_false (fun a=>h3 a.2.2.2.1)];exact pgood_3 wd k cap now w h0 h1 h2 (by omega)
      · rw [show decide (1<=wd/\wd<=1048576/\1<=k/\k<=64/\1<=cap/\cap<=65536/\0<=now/\now<=16777216)=false from decide_eq_false (fun a=>h2 a.2.2.1)];exact pgood_2 wd k cap now w h0 h1 (by omega)
    · rw [show decide (1<=wd/\wd<=1048576/\1<=k/\k<=64/\1<=cap/\cap<=65536/\0<=now/\now<=16777216)=false from decide_eq_false (fun a=>h1 a.2.1)];exact pgood_1 wd k cap now w h0 (by omega)
  · rw [show decide (1<=wd/\wd<=1048576/\1<=k/\k<=64/\1<=cap/\cap<=65536/\0<=now/\now<=16777216)=false from decide_eq_false (fun a=>h0 a.1)];exact pgood_0 wd k cap now w  (by omega)
theorem rwindow_0 (wd:Int) (w:World)  (h:wd<1):Calls Tryz.prog 287 #[wd] w (Rd (.bool false) w):=by
  go_enter Tryz.func287,Tryz.ntmps287;go_wp2_with fail;go_ret;exact ⟨by first | rfl | exact ret_bool (by simp;omega),rfl⟩
theorem rwindow_1 (wd:Int) (w:World) (h0:1<=wd) (h:1048576<wd):Calls Tryz.prog 287 #[wd] w (Rd (.bool false) w):=by
  go_enter Tryz.func287,Tryz.ntmps287;go_wp2_with fail;go_ret;exact ⟨by first | rfl | exact ret_bool (by simp;omega),rfl⟩
theorem rwindow_2 (wd:Int) (w:World) (h0:1<=wd) (h1:wd<=1048576):Calls Tryz.prog 287 #[wd] w (Rd (.bool true) w):=by
  go_enter Tryz.func287,Tryz.ntmps287;go_wp2_with fail;go_ret;exact ⟨by first | rfl | exact ret_bool (by simp;omega),rfl⟩
theorem rtick_0 (now:Int) (w:World)  (h:now<0):Calls Tryz.prog 288 #[now] w (Rd (.bool false) w):=by
  go_enter Tryz.func288,Tryz.ntmps288;go_wp2_with fail;go_ret;exact ⟨by first | rfl | exact ret_bool (by simp;omega),rfl⟩
theorem rtick_1 (now:Int) (w:World) (h0:0<=now) (h:16777216<now):Calls Tryz.prog 288 #[now] w (Rd (.bool false) w):=by
  go_enter Tryz.func288,Tryz.ntmps288;go_wp2_with fail;go_ret;exact ⟨by first | rfl | exact ret_bool (by simp;omega),rfl⟩
theorem rtick_2 (now:Int) (w:World) (h0:0<=now) (h1:now<=16777216):Calls Tryz.prog 288 #[now] w (Rd (.bool true) w):=by
  go_enter Tryz.func288,Tryz.ntmps288;go_wp2_with fail;go_ret;exact ⟨by first | rfl | exact ret_bool (by simp;omega),rfl⟩
theorem rmayk_0 (k:Int) (w:World)  (h:k<1):Calls Tryz.prog 186 #[k] w (Rd (.bool false) w):=by
  go_enter Tryz.func186,Tryz.ntmps186;go_wp2_with fail;go_ret;exact ⟨by first | rfl | exact ret_bool (by simp;omega),rfl⟩
theorem rmayk_1 (k:Int) (w:World) (h0:1<=k) (h:64<k):Calls Tryz.prog 186 #[k] w (Rd (.bool false) w):=by
  go_enter Tryz.func186,Tryz.ntmps186;go_wp2_with fail;go_ret;exact ⟨by first | rfl | exact ret_bool (by simp;omega),rfl⟩
theorem rmayk_2 (k:Int) (w:World) (h0:1<=k) (h1:k<=64):Calls Tryz.prog 186 #[k] w (Rd (.bool true) w):=by
  go_enter Tryz.func186,Tryz.ntmps186;go_wp2_with fail;go_ret;exact ⟨by first | rfl | exact ret_bool (by simp;omega),rfl⟩
theorem rmayk (k:Int) (w:World):Calls Tryz.prog 186 #[k] w (Rd (.bool (decide (1<=k/\k<=64))) w):=by
  by_cases h0:1<=k
  · skip
    by_cases h1:k<=64
    · skip
      rw [show decide (1<=k/\k<=64)=true from decide_eq_true ⟨h0,h1⟩];exact rmayk_2 k w h0 h1
    · rw [show decide (1<=k/\k<=64)=false from decide_eq_false (fun a=>h1 a.2)];exact rmayk_1 k w h0 (by omega)
  · rw [show decide (1<=k/\k<=64)=false from decide_eq_false (fun a=>h0 a.1)];exact rmayk_0 k w  (by omega)
theorem rmay_0 (wd cap now:Int) (w:World)  (h:wd<1):Calls Tryz.prog 252 #[wd,cap,now] w (Rd (.bool false) w):=by
  go_enter Tryz.func252,Tryz.ntmps252;go_wp2_with (go_at_call 287;with_reducible refine ((rwindow_0 _ _ h)).mono ?_;rintro e w9 ⟨rfl,h9⟩;obtain rfl:=h9.symm);go_ret;exact ⟨by first | rfl | exact ret_bool (by simp;omega),rfl⟩
theorem rmay_1 (wd cap now:Int) (w:World) (h0:1<=wd) (h:1048576<wd):Calls Tryz.prog 252 #[wd,cap,now] w (Rd (.bool false) w):=by
  go_enter Tryz.func252,Tryz.ntmps252;go_wp2_with (go_at_call 287;with_reducible refine ((rwindow_1 _ _ h0 h)).mono ?_;rintro e w9 ⟨rfl,h9⟩;obtain rfl:=h9.symm);go_ret;exact ⟨by first | rfl | exact ret_bool (by simp;omega),rfl⟩
theorem rmay_2 (wd cap now:Int) (w:World) (h0:1<=wd) (h1:wd<=1048576) (h:cap<1):Calls Tryz.prog 252 #[wd,cap,now] w (Rd (.bool false) w):=by
  go_enter Tryz.func252,Tryz.ntmps252;go_wp2_with (go_at_call 287;with_reducible refine ((rwindow_2 _ _ h0 h1)).mono ?_;rintro e w9 ⟨rfl,h9⟩;obtain rfl:=h9.symm);go_ret;exact ⟨by first | rfl | exact ret_bool (by simp;omega),rfl⟩
theorem rmay_3 (wd cap now:Int) (w:World) (h0:1<=wd) (h1:wd<=1048576) (h2:1<=cap) (h:65536<cap):Calls Tryz.prog 252 #[wd,cap,now] w (Rd (.bool false) w):=by
  go_enter Tryz.func252,Tryz.ntmps252;go_wp2_with (go_at_call 287;with_reducible refine ((rwindow_2 _ _ h0 h1)).mono ?_;rintro e w9 ⟨rfl,h9⟩;obtain rfl:=h9.symm);go_ret;exact ⟨by first | rfl | exact ret_bool (by simp;omega),rfl⟩
theorem rmay_4 (wd cap now:Int) (w:World) (h0:1<=wd) (h1:wd<=1048576) (h2:1<=cap) (h3:cap<=65536) (h:now<0):Calls Tryz.prog 252 #[wd,cap,now] w (Rd (.bool false) w):=by
  go_enter Tryz.func252,Tryz.ntmps252;go_wp2_with (first | (go_at_call 287;with_reducible refine ((rwindow_2 _ _ h0 h1)).mono ?_;rintro e w9 ⟨rfl,h9⟩;obtain rfl:=h9.symm) | (go_at_call 288;with_reducible refine ((rtick_0 _ _ h)).mono ?_;rintro e w9 ⟨rfl,h9⟩;obtain rfl:=h9.symm));go_ret;exact ⟨by first | rfl | exact ret_bool (by simp;omega),rfl⟩
theorem rmay_5 (wd cap now:Int) (w:World) (h0:1<=wd) (h1:wd<=1048576) (h2:1<=cap) (h3:cap<=65536) (h4:0<=now) (h:16777216<now):Calls Tryz.prog 252 #[wd,cap,now] w (Rd (.bool false) w):=by
  go_enter Tryz.func252,Tryz.ntmps252;go_wp2_with (first | (go_at_call 287;with_reducible refine ((rwindow_2 _ _ h0 h1)).mono ?_;rintro e w9 ⟨rfl,h9⟩;obtain rfl:=h9.symm) | (go_at_call 288;with_reducible refine ((rtick_1 _ _ h4 h)).mono ?_;rintro e w9 ⟨rfl,h9⟩;obtain rfl:=h9.symm));go_ret;exact ⟨by first | rfl | exact ret_bool (by simp;omega),rfl⟩
theorem rmay_6 (wd cap now:Int) (w:World) (h0:1<=wd) (h1:wd<=1048576) (h2:1<=cap) (h3:cap<=65536) (h4:0<=now) (h5:now<=16777216):Calls Tryz.prog 252 #[wd,cap,now] w (Rd (.bool true) w):=by
  go_enter Tryz.func252,Tryz.ntmps252;go_wp2_with (first | (go_at_call 287;with_reducible refine ((rwindow_2 _ _ h0 h1)).mono ?_;rintro e w9 ⟨rfl,h9⟩;obtain rfl:=h9.symm) | (go_at_call 288;with_reducible refine ((rtick_2 _ _ h4 h5)).mono ?_;rintro e w9 ⟨rfl,h9⟩;obtain rfl:=h9.symm));go_ret;exact ⟨by first | rfl | exact ret_bool (by simp;omega),rfl⟩
theorem rmay (wd cap now:Int) (w:World):Calls Tryz.prog 252 #[wd,cap,now] w (Rd (.bool (decide (1<=wd/\wd<=1048576/\1<=cap/\cap<=65536/\0<=now/\now<=16777216))) w):=by
  by_cases h0:1<=wd
  · skip
    by_cases h1:wd<=1048576
    · skip
      by_cases h2:1<=cap
      · skip
        by_cases h3:cap<=65536
        · skip
          by_cases h4:0<=now
          · skip
            by_cases h5:now<=16777216
            · skip
              rw [show decide (1<=wd/\wd<=1048576/\1<=cap/\cap<=65536/\0<=now/\now<=16777216)=true from decide_eq_true ⟨h0,h1,h2,h3,h4,h5⟩];exact rmay_6 wd cap now w h0 h1 h2 h3 h4 h5
            · rw [show decide (1<=wd/\wd<=1048576/\1<=cap/\cap<=65536/\0<=now/\now<=16777216)=false from decide_eq_false (fun a=>h5 a.2.2.2.2.2)];exact rmay_5 wd cap now w h0 h1 h2 h3 h4 (by omega)
          · rw [show decide (1<=wd/\wd<=1048576/\1<=cap/\cap<=65536/\0<=now/\now<=16777216)=false from decide_eq_false (fun a=>h4 a.2.2.2.2.1)];exact rmay_4 wd cap now w h0 h1 h2 h3 (by omega)
        · rw [show decide (1<=wd/\wd<=1048576/\1<=cap/\cap<=65536/\0<=now/\now<=16777216)=false from decide_eq_false (fun a=>h3 a.2.2.2.1)];exact rmay_3 wd cap now w h0 h1 h2 (by omega)
      · rw [show decide (1<=wd/\wd<=1048576/\1<=cap/\cap<=65536/\0<=now/\now<=16777216)=false from decide_eq_false (fun a=>h2 a.2.2.1)];exact rmay_2 wd cap now w h0 h1 (by omega)
    · rw [show decide (1<=wd/\wd<=1048576/\1<=cap/\cap<=65536/\0<=now/\now<=16777216)=false from decide_eq_false (fun a=>h1 a.2.1)];exact rmay_1 wd cap now w h0 (by omega)
  · rw [show decide (1<=wd/\wd<=1048576/\1<=cap/\cap<=65536/\0<=now/\now<=16777216)=false from decide_eq_false (fun a=>h0 a.1)];exact rmay_0 wd cap now w  (by omega)
theorem pnew_yes (wd k cap now : Int) (w : World) (h : 1 <= wd /\ wd <= 1048576 /\ 1 <= k /\ k <= 64 /\ 1 <= cap /\ cap <= 65536 /\ 0 <= now /\ now <= 16777216) : Calls Tryz.prog 113 (J25 wd k cap now) w (Rr (.tuple #[.agg #[wd, k, cap, now,(),""], .int .i64 0]) w) := by
  have PG:=fun w=>pgood wd k cap now w;rw [decide_eq_true h] at PG;have PG:=Lib.hid PG;clear h;go_enter Tryz.func113,Tryz.ntmps113;go_wp2_with (go_at_call 205;with_reducible refine (PG.out _).mono ?_;rintro e w9 ⟨rfl,h9⟩;obtain rfl:=h9.symm);exact bodyPost_ret (v := .tuple #[.agg #[wd, k, cap, now,(),""], .int .i64 0]) (by simp [results, Tryz.results113, go_sem, List.getElem?_toArray]) rfl ⟨rfl, by (repeat (first | exact Below.refl _ _ | refine Below.setCell ?_ (by (try simp) <;> omega) _ | refine Below.alloc ?_ (by (try simp) <;> omega) _ | refine Below.drew ?_ | refine Below.trans ?_ (Below.mono (by assumption) (by (try simp) <;> omega))))⟩
theorem rbits (x:Nat) (h:x<9223372036854775808) (w:World):Calls Tryz.prog 184 #[x] w (Rd (.int .i64 (Lib.bitLen x:Nat)) w):=by
  have hl:Lib.bitLen x<=64:=bits_le 64 x;generalize hb:Lib.bitLen x=b at hl |-
  have HB:=Lib.hid hb;clear hb;go_enter Tryz.func184,Tryz.ntmps184;go_wp2;go_loopw [0,3] (fun n k wr=>∃ (y j:Nat),n = .int .i64 (y:Nat)/\k = .int .i64 (j:Nat)/\y<9223372036854775808/\j<=64/\RowKit.Hid (j+Lib.bitLen y=b)/\wr=w) (fun n _ _=>(intOf n).toNat)
  case atStart=>exact ⟨x,0,rfl,rfl,h,by omega,Lib.hid (by rw [HB.out];omega),rfl⟩
  case round =>
    obtain ⟨y,j,rfl,rfl,hy,hj,HS,rfl⟩:=hrel;by_cases hz:y=0
    · subst hz;have hs:=HS.out;rw [bits_zero] at hs;have hs:j=b:=by omega
      subst hs;go_wp2;go_ret;exact ⟨rfl,rfl⟩
    · have hs:=bits_step hz (by omega);have hs2:=HS.out;have t0:(0:Int)<(y:Int):=by omega
      have td:IntKind.i64.wrap ((y:Int).tdiv 2)=((y / 2:Nat):Int):=by
        rw [Int.tdiv_eq_ediv_of_nonneg (by omega),IntWalk.i64_in _ (by omega)];omega
      have HS2:RowKit.Hid ((j+1)+Lib.bitLen (y / 2)=b):=Lib.hid (by omega);have hjb:j+1<=64:=by omega
      clear hs hs2;go_wp2;go_roundw
      case rel=>exact ⟨y / 2,j+1,rfl,by go_num,by omega,hjb,HS2,by trivial⟩
      case measure=>simp [intOf];omega
def mostV (k cap:Int):Int:=(if 1<=k/\k<=64/\1<=cap/\cap<=65536 then 12*k*(3*(Lib.bitLen cap.toNat:Nat)+24)+4 else 0)
theorem most_small {k b:Int} (h0:1<=k) (h1:k<=64) (h2:0<=b) (h3:b<=64):0<=12*k*(3*b+24)/\12*k*(3*b+24)<=165888:=by
  constructor
  · exact Int.mul_nonneg (by omega) (by omega)
  · have:12*k*(3*b+24)<=768*216:=Int.mul_le_mul (by omega) (by omega) (by omega) (by decide);exact this
theorem rmost_yes (k cap:Int) (w:World) (h:1<=k/\k<=64/\1<=cap/\cap<=65536):Calls Tryz.prog 93 #[k,cap] w (Rd (.int .i64 (mostV k cap)) w):=by
  unfold mostV;rw [if_pos h];obtain ⟨cn,rfl⟩:∃ cn:Nat,cap=(cn:Int):=⟨cap.toNat,by omega⟩
  rw [Int.toNat_natCast];have PB:=fun w=>rbits cn (by omega) w;have bb:Lib.bitLen cn<=64:=bits_le 64 cn;generalize Lib.bitLen cn=b at PB bb |-
  have PB:=Lib.hid PB;have ms:=most_small (k:=k) (b:=(b:Int)) h.1 h.2.1 (by omega) (by omega);have PG:=fun w=>rmayk k w;rw [decide_eq_true (by omega)] at PG;have PG:=Lib.hid PG;have t0:¬ (cn:Int)<1:=by omega
  have t1:¬ (65536:Int)<(cn:Int):=by omega
  have w1:IntKind.i64.wrap (12*k)=12*k:=IntWalk.i64_in _ (by omega);have w2:IntKind.i64.wrap (3*(b:Int))=3*(b:Int):=IntWalk.i64_in _ (by omega);have w3:IntKind.i64.wrap (3*(b:Int)+24)=3*(b:Int)+24:=IntWalk.i64_in _ (by omega);have w4:IntKind.i64.wrap (12*k*(3*(b:Int)+24))=12*k*(3*(b:Int)+24):=IntWalk.i64_in _ (by omega);have w5:IntKind.i64.wrap (12*k*(3*(b:Int)+24)+4)=12*k*(3*(b:Int)+24)+4:=IntWalk.i64_in _ (by omega);clear h ms;go_enter Tryz.func93,Tryz.ntmps93;go_wp2_with (first | (go_at_call 186;with_reducible refine (PG.out _).mono ?_;rintro e w9 ⟨rfl,h9⟩;obtain rfl:=h9.symm) | (go_at_call 184;with_reducible refine (PB.out _).mono ?_;rintro e w9 ⟨rfl,h9⟩;obtain rfl:=h9.symm));go_ret;exact ⟨rfl,rfl⟩
theorem rmost_no_k (k cap:Int) (w:World) (hk:¬ (1<=k/\k<=64)):Calls Tryz.prog 93 #[k,cap] w (Rd (.int .i64 0) w):=by
  have PG:=fun w=>rmayk k w;rw [decide_eq_false hk] at PG;have PG:=Lib.hid PG;clear hk;go_enter Tryz.func93,Tryz.ntmps93;go_wp2_with (go_at_call 186;with_reducible refine (PG.out _).mono ?_;rintro e w9 ⟨rfl,h9⟩;obtain rfl:=h9.symm);go_ret;exact ⟨rfl,rfl⟩
theorem rmost_no_a (k cap:Int) (w:World) (hk:1<=k/\k<=64) (hc:cap<1):Calls Tryz.prog 93 #[k,cap] w (Rd (.int .i64 0) w):=by
  have PG:=fun w=>rmayk k w;rw [decide_eq_true hk] at PG;have PG:=Lib.hid PG;clear hk;go_enter Tryz.func93,Tryz.ntmps93;go_wp2_with (go_at_call 186;with_reducible refine (PG.out _).mono ?_;rintro e w9 ⟨rfl,h9⟩;obtain rfl:=h9.symm);go_ret;exact ⟨rfl,rfl⟩
theorem rmost_no_b (k cap:Int) (w:World) (hk:1<=k/\k<=64) (hc0:1<=cap) (hc:65536<cap):Calls Tryz.prog 93 #[k,cap] w (Rd (.int .i64 0) w):=by
  have PG:=fun w=>rmayk k w;rw [decide_eq_true hk] at PG;have PG:=Lib.hid PG;clear hk;go_enter Tryz.func93,Tryz.ntmps93;go_wp2_with (go_at_call 186;with_reducible refine (PG.out _).mono ?_;rintro e w9 ⟨rfl,h9⟩;obtain rfl:=h9.symm);go_ret;exact ⟨rfl,rfl⟩
theorem rmost_no (k cap:Int) (w:World) (h:¬ (1<=k/\k<=64/\1<=cap/\cap<=65536)):Calls Tryz.prog 93 #[k,cap] w (Rd (.int .i64 (mostV k cap)) w):=by
  unfold mostV;rw [if_neg h];by_cases hk:1<=k/\k<=64
  · by_cases hc:cap<1
    · exact rmost_no_a k cap w hk hc
    · exact rmost_no_b k cap w hk (by omega) (by omega)
  · exact rmost_no_k k cap w hk
theorem rmost (k cap:Int) (w:World):Calls Tryz.prog 93 #[k,cap] w (Rd (.int .i64 (mostV k cap)) w):=by
  by_cases h:1<=k/\k<=64/\1<=cap/\cap<=65536
  · exact rmost_yes k cap w h
  · exact rmost_no k cap w h
end Go.Proofs.YtdipoojjlddohaaGreat
namespace Go.Proofs.YtdipoojjlddohaaGreat
open MC
open MT
open Go.RowKit
def mulV (a b:Nat):Nat:=if a*b<big then a*b else 0
def mulB (a b:Nat):Bool:=decide (a*b<big)
def mlow (x y:Nat):Nat:=(x % 18446744073709551616)*(y % 18446744073709551616)
def mhigh (x y:Nat):Nat:=(x % 18446744073709551616)*(y / 18446744073709551616)
theorem mlow_lt (x y:Nat):mlow x y<big:=mul_big (Nat.mod_lt _ (by decide)) (Nat.mod_lt _ (by decide))
theorem mul_comm' (a b:Nat):mulV a b=mulV b a/\mulB a b=mulB b a:=by unfold mulV mulB;rw [Nat.mul_comm];exact ⟨rfl,rfl⟩
theorem mul_split {x y:Nat} (hx:hi x=0):x*y=mlow x y+mhigh x y*18446744073709551616:=by
  have e:x % 18446744073709551616=x:=by unfold hi at hx;omega
  have d:=Nat.div_add_mod y 18446744073709551616;unfold mlow mhigh;rw [e]
  conv=>lhs;rw [<- d]
  rw [Nat.mul_add,Nat.add_comm,Nat.mul_comm 18446744073709551616,Nat.mul_assoc]
theorem mul_both {a b:Nat} (ha:hi a≠0) (hb:hi b≠0):¬ a*b<big:=by
  have h1:18446744073709551616<=a:=by unfold hi at ha;omega
  have h2:18446744073709551616<=b:=by unfold hi at hb;omega
  have:=Nat.mul_le_mul h1 h2;unfold big;omega
theorem mul_high {x y:Nat} (hx:hi x=0) (h:hi (mhigh x y)≠0):¬ x*y<big:=by
  rw [mul_split hx];unfold hi big at *;omega
theorem high_shift {m:Nat} (h:hi m=0):hi (m*18446744073709551616)=lo m/\lo (m*18446744073709551616)=0:=by unfold hi lo at *;omega
theorem high_lt {m:Nat} (h:hi m=0):m*18446744073709551616<big:=by unfold hi big at *;omega
theorem mulV_no {a b:Nat} (h:¬ a*b<big):mulV a b=0/\mulB a b=false:=by unfold mulV mulB;simp [h]
theorem mulV_yes {a b:Nat} (h:a*b<big):mulV a b=a*b/\mulB a b=true:=by unfold mulV mulB;simp [h]
end Go.Proofs.YtdipoojjlddohaaGreat
