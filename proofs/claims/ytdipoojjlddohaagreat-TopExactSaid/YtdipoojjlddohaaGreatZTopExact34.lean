/- What the law TopExact needs, joined of its texts by a program (slim2.py); part 34. -/
import Derived.Test.YtdipoojjlddohaaGreatZTopExact1
import Derived.Test.YtdipoojjlddohaaGreatZTopExact7
import Derived.Test.YtdipoojjlddohaaGreatZTopExact8
import Derived.Test.YtdipoojjlddohaaGreatZTopExact22
import Derived.Test.YtdipoojjlddohaaGreatZTopExact29
import Derived.Test.YtdipoojjlddohaaGreatZTopExact30
import Derived.Test.YtdipoojjlddohaaGreatZTopExact33
set_option linter.unusedVariables false
set_option linter.unusedSimpArgs false
set_option linter.unusedSectionVars false
set_option linter.unnecessarySimpa false
section
/- Counters with polynomial decay: adding a value, walked. -/
set_option maxRecDepth 100000
namespace Go.Proofs.YtdipoojjlddohaaGreat
open Go.RowKit Go.Shelf
def fillN (f:Nat→Nat) (n j:Nat):List Nat:=upto f j ++ List.replicate (n-j) 0
theorem fill_zero (f:Nat→Nat) (n:Nat):fillN f n 0=List.replicate n 0:=rfl
theorem fill_all (f:Nat→Nat) (n:Nat):fillN f n n=upto f n:=by unfold fillN;simp
theorem fill_step (f:Nat→Nat) {n j:Nat} (h:j<n):(fillN f n j).set j (f j)=fillN f n (j+1):=by
  unfold fillN
  rw [show n-j=(n-(j+1))+1 by omega,List.replicate_succ,List.set_append,if_neg (by rw [upto_len];omega),upto_len,Nat.sub_self,List.set_cons_zero,upto_succ,List.append_assoc]
  rfl
theorem Own.mom {w:World} {g n c i:Nat} {ms:List Nat} (h:Own w 67 2 g n c (wcells ms)) (hin:i<n):w.cell? ⟨g,i*2,none⟩=some (.int .u64 (hi (momAt ms i)))∧w.cell? ⟨g,i*2+1,none⟩=some (.int .u64 (lo (momAt ms i))):=by
  have hl:=h.len
  rw [wcells_len] at hl
  have ht:=wcells_at ms i (by omega)
  exact ⟨(h.cell (by omega)).trans ht.1,(h.cell (by omega)).trans ht.2⟩
theorem Own.setW {w:World} {g n c:Nat} {ms:List Nat} (h:Own w 67 2 g n c (wcells ms)) (i m:Nat):Own ((w.setCell ⟨g,i*2,none⟩ (.int .u64 (hi m))).setCell ⟨g,i*2+1,none⟩ (.int .u64 (lo m))) 67 2 g n c (wcells (ms.set i m)):=by
  rw [← wcells_set]
  exact (h.set (i*2) _).set (i*2+1) _
set_option maxHeartbeats 4000000 in
set_option maxRecDepth 100000 in
theorem ppadd_main (p land now:Int) (A:Option Addr) (n c:Nat) (ms:List Nat) (v:Int) (w:World) (hin:PIn p land now A n c ms w) (hv:pvalE p land now ms=0) (h0:0≤v) (h1:v≤4096):Calls Tryz.prog 125 #[.agg #[.int .i64 p, .int .i64 land, .int .i64 now, .slice A n c], .int .i64 v] w fun e w'=>PRet (qadd p land now ms v) w e w':=by
  have P:=fun w1 (hb:Below w.heap.size w w1)=>ppval p land now A n c ms w1 (hin.below hb)
  rw [hv] at P
  have P:=Lib.hid P
  obtain ⟨v1,v2,v3,v4,v5,v6,v7,_⟩:=of_pvalE hv
  have HV:=Lib.hid hv
  have HR:=Lib.hid hin
  have hl:=hin.len
  have HL:=Lib.hid hl
  have hn5:n≤5:=by omega
  obtain ⟨vn,rfl⟩:∃ vn:Nat,v=(vn:Int):=⟨v.toNat,by omega⟩
  have hvn:vn≤4096:=by omega
  obtain ⟨a1,a2⟩:=ageN_bound v5 v6 v4
  have ai:=ageN_int v6
  generalize hav:ageN land now=av at a1 a2 ai
  have HAV:=Lib.hid hav
  have ab':av<big:=by unfold big;omega
  have wa:IntKind.i64.wrap (now-land)=now-land:=IntWalk.i64_in _ (by omega)
  have wb:IntKind.i64.wrap (now-land+1)=now-land+1:=IntWalk.i64_in _ (by omega)
  have wc:IntKind.u64.wrap (now-land+1)=(av:Int):=by rw [IntWalk.u64_in _ (by omega)];omega
  have wv:IntKind.u64.wrap (vn:Int)=(vn:Int):=IntWalk.u64_in _ (by omega)
  have PO:=Lib.hid (fun w=>pof vn (by omega) w)
  have nv:¬ (vn:Int)<0:=by omega
  have nv2:¬ 4096<(vn:Int):=by omega
  clear hv hin hl ai hav
  go_enter Tryz.func125,Tryz.ntmps125
  go_upto_region 6 with (first | (go_at_call 142;with_reducible refine (P.out _ (by (repeat (first | exact Below.refl _ _ | refine Below.setCell ?_ (by (try simp)<;>omega) _ | refine Below.alloc ?_ (by (try simp)<;>omega) _ | refine Below.drew ?_ | refine Below.trans ?_ (Below.mono (by assumption) (by (try simp)<;>omega)))))).mono ?_;rintro e w1 ⟨rfl,hb1⟩;have hz1:=hb1.size;(try simp at hz1);have o1:Below w.heap.size w w1:=(by (repeat (first | exact Below.refl _ _ | refine Below.setCell ?_ (by (try simp)<;>omega) _ | refine Below.alloc ?_ (by (try simp)<;>omega) _ | refine Below.drew ?_ | refine Below.trans ?_ (Below.mono (by assumption) (by (try simp)<;>omega)))));have q1_0:w.heap.size<w1.heap.size:=(by omega);have r1_0:Row w1 (w.heap.size) 42 #[.int .i64 p, .int .i64 land, .int .i64 now, .slice A n c]:=row_call (by (repeat (first | assumption | (refine row_new ?_;(first | (simp;done) | omega)) | refine row_alloc ?_ _ | refine row_drew ?_ | refine row_call ?_ (by assumption)))) hb1;obtain ⟨c1_0a,c1_0b,c1_0c,c1_0d,f1_0a,f1_0b,f1_0c,f1_0d⟩:=row_four r1_0;have q1_1:w.heap.size+1<w1.heap.size:=(by omega);have r1_1:Row w1 (w.heap.size+1) 42 #[.int .i64 0, .int .i64 0, .int .i64 0, .slice none 0 0]:=row_call (by (repeat (first | assumption | (refine row_new ?_;(first | (simp;done) | omega)) | refine row_alloc ?_ _ | refine row_drew ?_ | refine row_call ?_ (by assumption)))) hb1;obtain ⟨c1_1a,c1_1b,c1_1c,c1_1d,f1_1a,f1_1b,f1_1c,f1_1d⟩:=row_four r1_1))
  obtain ⟨w2,hmk,own,hb2⟩:=make_wide w1 .i64 .i64 n (by omega)
  have x:=row_call r1_0 hb2
  have y:=row_call r1_1 hb2
  have o:=o1.trans (hb2.mono o1.size)
  have gx:w.heap.size<w1.heap.size:=q1_0
  have gr:w.heap.size+1<w1.heap.size:=q1_1
  rw [← fill_zero (padT av vn ms) n] at own
  go_upto_region 7 with (fail)
  clear hmk hb2 r1_0 r1_1 o1 hb1 c1_0a c1_0b c1_0c c1_0d f1_0a f1_0b f1_0c f1_0d c1_1a c1_1b c1_1c c1_1d f1_1a f1_1b f1_1c f1_1d P
  generalize hgg:w1.heap.size=g at own gx gr hz1 ⊢
  clear hgg q1_0 q1_1 hz1
  go_wp2
  go_loopw [34] (fun i wr=>∃ j:Nat,j≤n∧i = .int .i64 (j:Nat)∧RowKit.Hid (∀ e,e<j→padT av vn ms e<big)∧Own wr 67 2 g n n (wcells (fillN (padT av vn ms) n j))∧Row wr (w.heap.size) 42 #[.int .i64 p, .int .i64 land, .int .i64 now, .slice A n c]∧Row wr (w.heap.size+1) 42 #[.int .i64 0, .int .i64 0, .int .i64 0, .slice none 0 0]∧Below w.heap.size w wr) (fun i _=>n-(intOf i).toNat)
  case atStart=>exact ⟨0,by omega,rfl,Lib.hid (fun e he=>absurd he (by omega)),own,x,y,o⟩
  case round =>
    clear own x y o
    obtain ⟨j,hj,rfl,HA,own,x,y,o⟩:=hrel
    obtain ⟨X0,X1,X2,X3,Xf0,Xf1,Xf2,Xf3⟩:=row_four x
    by_cases hlt:j<n
    · have i1:(j:Int)<(n:Int):=by omega
      have i2:(0:Int)≤(j:Int):=by omega
      have PW:=fun w=>ppow_any av (by omega) (j:Int) (by omega) w
      rw [powIV_nat,powIB_nat,(pow_yes (powN_fits a2 (show j≤4 by omega))).1,(pow_yes (powN_fits a2 (show j≤4 by omega))).2] at PW
      have PM:=fun w=>pmul (powN av j) vn (powN_fits a2 (by omega)) (by unfold big;omega) w
      rw [(mulV_yes (powT_fits a2 (show j≤4 by omega) hvn)).1,(mulV_yes (powT_fits a2 (show j≤4 by omega) hvn)).2] at PM
      have ub:=powT_fits a2 (show j≤4 by omega) hvn
      have hT:padT av vn ms j=momAt ms j+powN av j*vn:=rfl
      generalize powN av j*vn=u at PM ub hT
      generalize powN av j=pj at PW PM
      have PW:=Lib.hid PW
      have PM:=Lib.hid PM
      obtain ⟨ad,rfl,hadb,mx⟩:=HR.out.reads.mom (i:=j) hlt
      have mb:=HR.out.mB j
      have hx:(j:Int)<(n:Int):=i1
      generalize momAt ms j=m at mx mb hT
      have MX:=Lib.hid mx
      have HT:=Lib.hid hT
      have HAB:RowKit.Hid ((ad.add (j*2)).block<w.heap.size):=Lib.hid (by rw [block_of_add];exact hadb)
      clear mx hT
      go_upto_region 11 with (first | (go_at_call 78;with_reducible refine (PW.out _).mono ?_;rintro e w1 ⟨rfl,hb1⟩;have hz1:=hb1.size;(try simp at hz1)))
      clear X0 X1 X2 X3 Xf0 Xf1 Xf2 Xf3
      replace own:=own.call hb1
      replace x:=row_call x hb1
      replace y:=row_call y hb1
      replace o:=o.trans (hb1.mono o.size)
      replace own:=own.alloc (.cells #[.int .u64 (hi pj), .int .u64 (lo pj)] 67)
      replace x:=row_alloc x (.cells #[.int .u64 (hi pj), .int .u64 (lo pj)] 67)
      replace y:=row_alloc y (.cells #[.int .u64 (hi pj), .int .u64 (lo pj)] 67)
      replace o:=o.alloc o.size (.cells #[.int .u64 (hi pj), .int .u64 (lo pj)] 67)
      have k1:Row (w1.alloc (.cells #[.int .u64 (hi pj), .int .u64 (lo pj)] 67)) w1.heap.size 67 #[.int .u64 (hi pj), .int .u64 (lo pj)]:=row_new rfl
      generalize w1.alloc (.cells #[.int .u64 (hi pj), .int .u64 (lo pj)] 67)=w2 at own x y o k1 ⊢
      generalize w1.heap.size=b1 at k1 hz1 ⊢
      clear hb1
      refine wp_region_free1 [0,1,2,3,4,5,7,6] [7] [0,1,2,3,4,5,6,8] (8,67,#[.int .u64 0, .int .u64 0]) 11 9 (fun w'=>Below w2.heap.size w2 w') (by kernel_rfl) (by kernel_rfl) ⟨_,_,rfl,rfl,rfl,fun ρ w'=>by go_simp⟩ rfl (by simp) (fun _ h=>h.alloc h.size _) (fun _ _ d _ _ h=>by cases d<;>exact h) ?_ ?_
      · exact (Below.refl _ _).drew
      (refine plan_val ?_ rfl rfl rfl (fun w' hS=>?_) ?_;rotate_left;(obtain ⟨Q0,Q1,Qf0,Qf1⟩:=row_two (row_call k1 hS);go_simp;try with_reducible rfl);simp only [put9])
      (refine plan_pure ?_ rfl rfl (fun w'=>?_) ?_;rotate_left;(go_simp;try with_reducible rfl);simp only [put9])
      (refine plan_pure ?_ rfl rfl (fun w'=>?_) ?_;rotate_left;(go_simp;try with_reducible rfl);simp only [put9])
      refine plan_call (W vn) 76 #[.int .u64 (vn:Nat)] rfl rfl rfl (fun _ _ h hb=>h.trans (hb.mono h.size)) (fun w' hS=>by obtain ⟨Q0,Q1,Qf0,Qf1⟩:=row_two (row_call k1 hS);go_simp) (fun w' hS=>PO.out w') ?_
      simp only [put9]
      refine plan_call (.tuple #[W u, .bool true]) 79 #[W pj,W vn] rfl rfl rfl (fun _ _ h hb=>h.trans (hb.mono h.size)) (fun w' hS=>by obtain ⟨Q0,Q1,Qf0,Qf1⟩:=row_two (row_call k1 hS);go_simp) (fun w' hS=>PM.out w') ?_
      simp only [put9]
      (refine plan_pure ?_ rfl rfl (fun w'=>?_) ?_;rotate_left;(go_simp;try with_reducible rfl);simp only [put9])
      (refine plan_pure ?_ rfl rfl (fun w'=>?_) ?_;rotate_left;(go_simp;try with_reducible rfl);simp only [put9])
      (refine plan_pure ?_ rfl rfl (fun w'=>?_) ?_;rotate_left;(go_simp;try with_reducible rfl);simp only [put9])
      refine plan_nil ?_
      intro g8 w3 L3 hr8 hg8
      simp only [List.drop_succ_cons,List.drop_zero]
      try simp only [put9]
      have zk1:=row_lt k1
      have zown:=own.lt
      have zx:=row_lt x
      have zy:=row_lt y
      have zo:=o.size
      replace own:=own.call L3
      replace x:=row_call x L3
      replace y:=row_call y L3
      replace o:=o.trans (L3.mono o.size)
      clear k1 L3
      obtain ⟨Q0,Q1,Qf0,Qf1⟩:=row_two hr8
      go_upto_region 12 with (fail)
      clear Q0 Q1 Qf0 Qf1
      replace own:=own.other (p:=⟨g8,0,none⟩) (by show g≠g8;omega) (.int .u64 (hi u))
      replace x:=row_other (p:=⟨g8,0,none⟩) x (by show w.heap.size≠g8;omega) (.int .u64 (hi u))
      replace y:=row_other (p:=⟨g8,0,none⟩) y (by show w.heap.size+1≠g8;omega) (.int .u64 (hi u))
      replace o:=o.setCell (p:=⟨g8,0,none⟩) (by show w.heap.size≤g8;omega) (.int .u64 (hi u))
      replace own:=own.other (p:=⟨g8,1,none⟩) (by show g≠g8;omega) (.int .u64 (lo u))
      replace x:=row_other (p:=⟨g8,1,none⟩) x (by show w.heap.size≠g8;omega) (.int .u64 (lo u))
      replace y:=row_other (p:=⟨g8,1,none⟩) y (by show w.heap.size+1≠g8;omega) (.int .u64 (lo u))
      replace o:=o.setCell (p:=⟨g8,1,none⟩) (by show w.heap.size≤g8;omega) (.int .u64 (lo u))
      have k2:=row_two_set (u := .int .u64 (hi u)) (v := .int .u64 (lo u)) hr8
      generalize ((w3.setCell ⟨g8,0,none⟩ (.int .u64 (hi u))).setCell ⟨g8,1,none⟩ (.int .u64 (lo u)))=w6 at own x y o k2 ⊢
      clear hr8 zk1 zown zx zy zo
      obtain ⟨Q0,Q1,Qf0,Qf1⟩:=row_two k2
      by_cases hs:m+u<big
      · have PA:=fun w=>padd_fits m u mb ub hs w
        generalize hsu:m+u=s at PA hs
        have PA:=Lib.hid PA
        have HS:RowKit.Hid (padT av vn ms j=s):=Lib.hid (by rw [HT.out];exact hsu)
        have HB:=Lib.hid (fun e (he:e<j+1)=>by
          rcases Nat.lt_or_ge e j with q | q
          · exact HA.out e q
          · rw [show e=j by omega,HS.out];exact hs)
        clear hsu
        go_upto_region 12 with (fail)
        clear Q0 Q1 Qf0 Qf1
        refine wp_region_free1 [0,1,2,3,4,5,6,7,9,8] [9] [0,1,2,3,4,5,6,7,8,10] (10,67,#[.int .u64 0, .int .u64 0]) 13 11 (fun w'=>Below w6.heap.size w6 w') (by kernel_rfl) (by kernel_rfl) ⟨_,_,rfl,rfl,rfl,fun ρ w'=>by go_simp⟩ rfl (by simp) (fun _ h=>h.alloc h.size _) (fun _ _ d _ _ h=>by cases d<;>exact h) ?_ ?_
        · exact (Below.refl _ _).drew
        (refine plan_pure ?_ rfl rfl (fun w'=>?_) ?_;rotate_left;(go_simp;try with_reducible rfl);simp only [put9])
        (refine plan_val ?_ rfl rfl rfl (fun w' hS=>?_) ?_;rotate_left;(obtain ⟨X0,X1,X2,X3,Xf0,Xf1,Xf2,Xf3⟩:=row_four (row_call x hS);obtain ⟨Q0,Q1,Qf0,Qf1⟩:=row_two (row_call k2 hS);obtain ⟨p0,p1⟩:=MX.out.below (o.trans (hS.mono o.size)) HAB.out;go_simp;try with_reducible rfl);simp only [put9])
        (refine plan_pure ?_ rfl rfl (fun w'=>?_) ?_;rotate_left;(go_simp;try with_reducible rfl);simp only [put9])
        (refine plan_pure ?_ rfl rfl (fun w'=>?_) ?_;rotate_left;(go_simp;try with_reducible rfl);simp only [put9])
        (refine plan_val ?_ rfl rfl rfl (fun w' hS=>?_) ?_;rotate_left;(obtain ⟨X0,X1,X2,X3,Xf0,Xf1,Xf2,Xf3⟩:=row_four (row_call x hS);obtain ⟨Q0,Q1,Qf0,Qf1⟩:=row_two (row_call k2 hS);obtain ⟨p0,p1⟩:=MX.out.below (o.trans (hS.mono o.size)) HAB.out;go_simp;try with_reducible rfl);simp only [put9])
        (refine plan_val ?_ rfl rfl rfl (fun w' hS=>?_) ?_;rotate_left;(obtain ⟨X0,X1,X2,X3,Xf0,Xf1,Xf2,Xf3⟩:=row_four (row_call x hS);obtain ⟨Q0,Q1,Qf0,Qf1⟩:=row_two (row_call k2 hS);obtain ⟨p0,p1⟩:=MX.out.below (o.trans (hS.mono o.size)) HAB.out;go_simp;try with_reducible rfl);simp only [put9])
        refine plan_call (.tuple #[W s, .bool true]) 77 #[W m,W u] rfl rfl rfl (fun _ _ h hb=>h.trans (hb.mono h.size)) (fun w' hS=>by obtain ⟨X0,X1,X2,X3,Xf0,Xf1,Xf2,Xf3⟩:=row_four (row_call x hS);obtain ⟨Q0,Q1,Qf0,Qf1⟩:=row_two (row_call k2 hS);obtain ⟨p0,p1⟩:=MX.out.below (o.trans (hS.mono o.size)) HAB.out;go_simp) (fun w' hS=>PA.out w') ?_
        simp only [put9]
        (refine plan_pure ?_ rfl rfl (fun w'=>?_) ?_;rotate_left;(go_simp;try with_reducible rfl);simp only [put9])
        (refine plan_pure ?_ rfl rfl (fun w'=>?_) ?_;rotate_left;(go_simp;try with_reducible rfl);simp only [put9])
        (refine plan_pure ?_ rfl rfl (fun w'=>?_) ?_;rotate_left;(go_simp;try with_reducible rfl);simp only [put9])
        refine plan_nil ?_
        intro g9 w7 L7 hr9 hg9
        simp only [List.drop_succ_cons,List.drop_zero]
        try simp only [put9]
        have zk2:=row_lt k2
        have zown:=own.lt
        have zx:=row_lt x
        have zy:=row_lt y
        have zo:=o.size
        replace own:=own.call L7
        replace x:=row_call x L7
        replace y:=row_call y L7
        replace o:=o.trans (L7.mono o.size)
        clear k2 L7
        obtain ⟨R0,R1,Rf0,Rf1⟩:=row_two hr9
        go_upto_region 13 with (fail)
        clear R0 R1 Rf0 Rf1
        replace own:=own.other (p:=⟨g9,0,none⟩) (by show g≠g9;omega) (.int .u64 (hi s))
        replace x:=row_other (p:=⟨g9,0,none⟩) x (by show w.heap.size≠g9;omega) (.int .u64 (hi s))
        replace y:=row_other (p:=⟨g9,0,none⟩) y (by show w.heap.size+1≠g9;omega) (.int .u64 (hi s))
        replace o:=o.setCell (p:=⟨g9,0,none⟩) (by show w.heap.size≤g9;omega) (.int .u64 (hi s))
        replace own:=own.other (p:=⟨g9,1,none⟩) (by show g≠g9;omega) (.int .u64 (lo s))
        replace x:=row_other (p:=⟨g9,1,none⟩) x (by show w.heap.size≠g9;omega) (.int .u64 (lo s))
        replace y:=row_other (p:=⟨g9,1,none⟩) y (by show w.heap.size+1≠g9;omega) (.int .u64 (lo s))
        replace o:=o.setCell (p:=⟨g9,1,none⟩) (by show w.heap.size≤g9;omega) (.int .u64 (lo s))
        have k3:=row_two_set (u := .int .u64 (hi s)) (v := .int .u64 (lo s)) hr9
        generalize ((w7.setCell ⟨g9,0,none⟩ (.int .u64 (hi s))).setCell ⟨g9,1,none⟩ (.int .u64 (lo s)))=w8 at own x y o k3 ⊢
        clear hr9
        obtain ⟨R0,R1,Rf0,Rf1⟩:=row_two k3
        obtain ⟨Y0,Y1,Y2,Y3,Yf0,Yf1,Yf2,Yf3⟩:=row_four y
        obtain ⟨t0,t1⟩:=own.mom hlt
        have t2:=own.free (j*2)
        have t3:=own.free (j*2+1)
        have zg:=own.lt
        go_upto_region 16 with (fail)
        replace own:=own.setW j s
        rw [show (fillN (padT av vn ms) n j).set j s=fillN (padT av vn ms) n (j+1) from by rw [← HS.out];exact fill_step _ hlt] at own
        replace x:=row_other (p:=⟨g,j*2,none⟩) x (by show w.heap.size≠g;omega) (.int .u64 (hi s))
        replace y:=row_other (p:=⟨g,j*2,none⟩) y (by show w.heap.size+1≠g;omega) (.int .u64 (hi s))
        replace o:=o.setCell (p:=⟨g,j*2,none⟩) (by show w.heap.size≤g;omega) (.int .u64 (hi s))
        replace x:=row_other (p:=⟨g,j*2+1,none⟩) x (by show w.heap.size≠g;omega) (.int .u64 (lo s))
        replace y:=row_other (p:=⟨g,j*2+1,none⟩) y (by show w.heap.size+1≠g;omega) (.int .u64 (lo s))
        replace o:=o.setCell (p:=⟨g,j*2+1,none⟩) (by show w.heap.size≤g;omega) (.int .u64 (lo s))
        generalize ((w8.setCell ⟨g,j*2,none⟩ (.int .u64 (hi s))).setCell ⟨g,j*2+1,none⟩ (.int .u64 (lo s)))=w10 at own x y o ⊢
        clear t0 t1 t2 t3 R0 R1 Rf0 Rf1 Y0 Y1 Y2 Y3 Yf0 Yf1 Yf2 Yf3 k3
        go_wp2
        go_roundw
        case rel=>exact ⟨j+1,by omega,by go_num,HB,own,x,y,o⟩
        case measure=>simp [intOf];omega
      · have PA:=Lib.hid (fun w=>padd_over m u mb ub hs w)
        have E:=Lib.hid (qadd_over HV.out h0 h1 (by rw [Int.toNat_natCast,HAV.out,HL.out];exact fitB_no hlt (by rw [HT.out];exact hs)))
        clear hs
        go_upto_region 12 with (fail)
        clear Q0 Q1 Qf0 Qf1
        refine wp_region_free1 [0,1,2,3,4,5,6,7,9,8] [9] [0,1,2,3,4,5,6,7,8,10] (10,67,#[.int .u64 0, .int .u64 0]) 13 11 (fun w'=>Below w6.heap.size w6 w') (by kernel_rfl) (by kernel_rfl) ⟨_,_,rfl,rfl,rfl,fun ρ w'=>by go_simp⟩ rfl (by simp) (fun _ h=>h.alloc h.size _) (fun _ _ d _ _ h=>by cases d<;>exact h) ?_ ?_
        · exact (Below.refl _ _).drew
        (refine plan_pure ?_ rfl rfl (fun w'=>?_) ?_;rotate_left;(go_simp;try with_reducible rfl);simp only [put9])
        (refine plan_val ?_ rfl rfl rfl (fun w' hS=>?_) ?_;rotate_left;(obtain ⟨X0,X1,X2,X3,Xf0,Xf1,Xf2,Xf3⟩:=row_four (row_call x hS);obtain ⟨Q0,Q1,Qf0,Qf1⟩:=row_two (row_call k2 hS);obtain ⟨p0,p1⟩:=MX.out.below (o.trans (hS.mono o.size)) HAB.out;go_simp;try with_reducible rfl);simp only [put9])
        (refine plan_pure ?_ rfl rfl (fun w'=>?_) ?_;rotate_left;(go_simp;try with_reducible rfl);simp only [put9])
        (refine plan_pure ?_ rfl rfl (fun w'=>?_) ?_;rotate_left;(go_simp;try with_reducible rfl);simp only [put9])
        (refine plan_val ?_ rfl rfl rfl (fun w' hS=>?_) ?_;rotate_left;(obtain ⟨X0,X1,X2,X3,Xf0,Xf1,Xf2,Xf3⟩:=row_four (row_call x hS);obtain ⟨Q0,Q1,Qf0,Qf1⟩:=row_two (row_call k2 hS);obtain ⟨p0,p1⟩:=MX.out.below (o.trans (hS.mono o.size)) HAB.out;go_simp;try with_reducible rfl);simp only [put9])
        (refine plan_val ?_ rfl rfl rfl (fun w' hS=>?_) ?_;rotate_left;(obtain ⟨X0,X1,X2,X3,Xf0,Xf1,Xf2,Xf3⟩:=row_four (row_call x hS);obtain ⟨Q0,Q1,Qf0,Qf1⟩:=row_two (row_call k2 hS);obtain ⟨p0,p1⟩:=MX.out.below (o.trans (hS.mono o.size)) HAB.out;go_simp;try with_reducible rfl);simp only [put9])
        refine plan_call (.tuple #[W 0, .bool false]) 77 #[W m,W u] rfl rfl rfl (fun _ _ h hb=>h.trans (hb.mono h.size)) (fun w' hS=>by obtain ⟨X0,X1,X2,X3,Xf0,Xf1,Xf2,Xf3⟩:=row_four (row_call x hS);obtain ⟨Q0,Q1,Qf0,Qf1⟩:=row_two (row_call k2 hS);obtain ⟨p0,p1⟩:=MX.out.below (o.trans (hS.mono o.size)) HAB.out;go_simp) (fun w' hS=>PA.out w') ?_
        simp only [put9]
        (refine plan_pure ?_ rfl rfl (fun w'=>?_) ?_;rotate_left;(go_simp;try with_reducible rfl);simp only [put9])
        (refine plan_pure ?_ rfl rfl (fun w'=>?_) ?_;rotate_left;(go_simp;try with_reducible rfl);simp only [put9])
        (refine plan_pure ?_ rfl rfl (fun w'=>?_) ?_;rotate_left;(go_simp;try with_reducible rfl);simp only [put9])
        refine plan_nil ?_
        intro g9 w7 L7 hr9 hg9
        simp only [List.drop_succ_cons,List.drop_zero]
        try simp only [put9]
        have zk2:=row_lt k2
        have zown:=own.lt
        have zx:=row_lt x
        have zy:=row_lt y
        have zo:=o.size
        replace own:=own.call L7
        replace x:=row_call x L7
        replace y:=row_call y L7
        replace o:=o.trans (L7.mono o.size)
        clear k2 L7
        obtain ⟨R0,R1,Rf0,Rf1⟩:=row_two hr9
        go_upto_region 13 with (fail)
        clear R0 R1 Rf0 Rf1
        replace own:=own.other (p:=⟨g9,0,none⟩) (by show g≠g9;omega) (.int .u64 (hi 0))
        replace x:=row_other (p:=⟨g9,0,none⟩) x (by show w.heap.size≠g9;omega) (.int .u64 (hi 0))
        replace y:=row_other (p:=⟨g9,0,none⟩) y (by show w.heap.size+1≠g9;omega) (.int .u64 (hi 0))
        replace o:=o.setCell (p:=⟨g9,0,none⟩) (by show w.heap.size≤g9;omega) (.int .u64 (hi 0))
        replace own:=own.other (p:=⟨g9,1,none⟩) (by show g≠g9;omega) (.int .u64 (lo 0))
        replace x:=row_other (p:=⟨g9,1,none⟩) x (by show w.heap.size≠g9;omega) (.int .u64 (lo 0))
        replace y:=row_other (p:=⟨g9,1,none⟩) y (by show w.heap.size+1≠g9;omega) (.int .u64 (lo 0))
        replace o:=o.setCell (p:=⟨g9,1,none⟩) (by show w.heap.size≤g9;omega) (.int .u64 (lo 0))
        have k3:=row_two_set (u := .int .u64 (hi 0)) (v := .int .u64 (lo 0)) hr9
        generalize ((w7.setCell ⟨g9,0,none⟩ (.int .u64 (hi 0))).setCell ⟨g9,1,none⟩ (.int .u64 (lo 0)))=w8 at own x y o k3 ⊢
        clear hr9
        obtain ⟨R0,R1,Rf0,Rf1⟩:=row_two k3
        obtain ⟨Y0,Y1,Y2,Y3,Yf0,Yf1,Yf2,Yf3⟩:=row_four y
        go_wp2
        exact bodyPost_ret (v := .tuple #[.agg #[.int .i64 0, .int .i64 0, .int .i64 0, .slice none 0 0], .int .i64 6]) (by simp [results,Tryz.results125,go_sem,Y0,Y1,Y2,Y3]) rfl (by rw [E.out];exact pret_zero (by (repeat (first | exact Below.refl _ _ | refine Below.setCell ?_ (by (try simp)<;>omega) _ | refine Below.alloc ?_ (by (try simp)<;>omega) _ | refine Below.drew ?_ | refine Below.trans ?_ (Below.mono (by assumption) (by (try simp)<;>omega))))))
    · have i1:¬ (j:Int)<(n:Int):=by omega
      obtain rfl:j=n:=by omega
      have E:=Lib.hid (qadd_ok HV.out h0 h1 (by rw [Int.toNat_natCast,HAV.out,HL.out];exact fitB_yes HA.out))
      rw [fill_all] at own
      obtain ⟨Y0,Y1,Y2,Y3,Yf0,Yf1,Yf2,Yf3⟩:=row_four y
      go_wp2
      have ow:=own_four (b:=w.heap.size+1) (own.other (p:=⟨w.heap.size,3,none⟩) (by show g≠w.heap.size;omega) (.slice (some ⟨g,0,none⟩) j j)) (by omega) (.int .i64 p) (.int .i64 land) (.int .i64 now) (.slice (some ⟨g,0,none⟩) j j)
      have ob:=below_four (b:=w.heap.size+1) (o.setCell (p:=⟨w.heap.size,3,none⟩) (by simp) (.slice (some ⟨g,0,none⟩) j j)) (by omega) (.int .i64 p) (.int .i64 land) (.int .i64 now) (.slice (some ⟨g,0,none⟩) j j)
      exact bodyPost_ret (v := .tuple #[.agg #[.int .i64 p, .int .i64 land, .int .i64 now, .slice (some ⟨g,0,none⟩) j j], .int .i64 0]) (by simp [results,Tryz.results125,go_sem,Y0,Y1,Y2,Y3]) rfl (by rw [E.out,Int.toNat_natCast,HAV.out,HL.out];exact pret_own ow (by omega) (by omega) (by omega) (upto_big HA.out) ob (by omega))
end Go.Proofs.YtdipoojjlddohaaGreat
end
section
/- The counter of items with polynomial decay: plain. -/
namespace Go.Proofs.YtdipoojjlddohaaGreat
def pmom (land:Int) (l:List Itm) (j:Nat):Nat:=(l.map fun x=>powT (ageN land x.t) x.v.toNat j).sum
theorem pmom_nil (land:Int) (j:Nat):pmom land [] j=0:=rfl
theorem pmom_cons (land:Int) (x:Itm) (l:List Itm) (j:Nat):pmom land (x :: l) j=powT (ageN land x.t) x.v.toNat j+pmom land l j:=by unfold pmom;simp
theorem pmom_append (land:Int) (a b:List Itm) (j:Nat):pmom land (a ++ b) j=pmom land a j+pmom land b j:=by unfold pmom;simp
theorem pmom_snoc (land:Int) (x:Itm) (l:List Itm) (j:Nat):pmom land (l ++ [x]) j=pmom land l j+powT (ageN land x.t) x.v.toNat j:=by rw [pmom_append,pmom_cons,pmom_nil,Nat.add_zero]
def Fit (land now:Int) (l:List Itm):Prop:=∀ x∈l,land≤x.t∧x.t≤now∧0≤x.v∧x.v≤4096
theorem Fit.cons {land now:Int} {x:Itm} {l:List Itm} (h:Fit land now (x :: l)):(land≤x.t∧x.t≤now∧0≤x.v∧x.v≤4096)∧Fit land now l:=⟨h x (by simp),fun y hy=>h y (by simp [hy])⟩
theorem Fit.later {land now now':Int} {l:List Itm} (h:Fit land now l) (hn:now≤now'):Fit land now' l:=fun x hx=>by have:=h x hx;omega
theorem Fit.append {land now:Int} {a b:List Itm} (h:Fit land now a) (h':Fit land now b):Fit land now (a ++ b):=fun x hx=>by
  rcases List.mem_append.1 hx with hx | hx
  · exact h x hx
  · exact h' x hx
theorem pmom_bound {land now:Int} (h0:0≤land) (h2:now≤16777216) {j:Nat} (hj:j≤4):∀ l:List Itm,Fit land now l→pmom land l j≤l.length*(79228181403575882009617301505*100*4096)
  | [],_=>by simp [pmom]
  | x :: l,h=>by
    obtain ⟨a,b⟩:=h.cons
    have ih:=pmom_bound h0 h2 hj l b
    have h1:=(ageN_bound h0 (show land≤x.t by omega) (by omega)).2
    have h3:=Nat.mul_le_mul (powN_small h1 hj) (show x.v.toNat≤4096 by omega)
    rw [pmom_cons,List.length_cons,Nat.add_mul,Nat.one_mul]
    unfold powT
    omega
theorem pmom_fits {land now:Int} (h0:0≤land) (h2:now≤16777216) {j:Nat} (hj:j≤4) {l:List Itm} (h:Fit land now l) (hl:l.length≤1000):pmom land l j<big:=by
  have:=pmom_bound h0 h2 hj l h
  have h3:=Nat.mul_le_mul_right (79228181403575882009617301505*100*4096) hl
  refine Nat.lt_of_le_of_lt this (Nat.lt_of_le_of_lt h3 ?_)
  decide
theorem pmom_up {land now:Int} (h0:0≤land) (h2:now≤16777216) (j:Nat):∀ l:List Itm,Fit land now l→pmom land l j≤pmom land l (j+1)
  | [],_=>Nat.le_refl _
  | x :: l,h=>by
    obtain ⟨a,b⟩:=h.cons
    have ih:=pmom_up h0 h2 j l b
    have h1:=(ageN_bound h0 (show land≤x.t by omega) (by omega)).1
    have h3:=Nat.mul_le_mul_right x.v.toNat (powN_mono h1 (show j≤j+1 by omega))
    rw [pmom_cons,pmom_cons]
    unfold powT
    omega
theorem pmom_by {land now:Int} (h0:0≤land) (h2:now≤16777216) (j:Nat):∀ l:List Itm,Fit land now l→pmom land l (j+1)≤pmom land l j*ageN land now
  | [],_=>by simp [pmom]
  | x :: l,h=>by
    obtain ⟨a,b⟩:=h.cons
    have ih:=pmom_by h0 h2 j l b
    have h1:ageN land x.t≤ageN land now:=by unfold ageN;omega
    have h3:powN (ageN land x.t) (j+1)*x.v.toNat≤powN (ageN land x.t) j*x.v.toNat*ageN land now:=by
      rw [powN_succ,Nat.mul_right_comm]
      exact Nat.mul_le_mul_left _ h1
    rw [pmom_cons,pmom_cons,Nat.add_mul]
    unfold powT
    omega
def psts (p:Nat) (land:Int) (l:List Itm):List Nat:=upto (pmom land l) (p+1)
theorem psts_len (p:Nat) (land:Int) (l:List Itm):(psts p land l).length=p+1:=upto_len _ _
theorem psts_at {p:Nat} {land:Int} {l:List Itm} {j:Nat} (h:j≤p):momAt (psts p land l) j=pmom land l j:=upto_at (by omega)
theorem psts_valid {p:Nat} {land now:Int} {l:List Itm} (hp:p≤4) (h0:0≤land) (h1:land≤now) (h2:now≤16777216) (h:Fit land now l):pvalE (p:Int) land now (psts p land l)=0:=by
  refine pvalE_yes ⟨by omega,by omega,by omega,h2,h0,h1,by rw [psts_len];omega,fun i hi=>?_⟩
  rw [psts_len] at hi
  refine linkOK_yes ?_
  by_cases c:i=0
  · exact .inl c
  · right
    obtain ⟨k,rfl⟩:∃ k,i=k+1:=⟨i-1,by omega⟩
    rw [show k+1-1=k from rfl,psts_at (by omega),psts_at (by omega)]
    exact ⟨pmom_up h0 h2 k l h,pmom_by h0 h2 k l h⟩
theorem pnew_psts {p:Nat} {land:Int} (hp:p≤4) (h0:0≤land) (h2:land≤16777216):qnew (p:Int) land=⟨p,land,land,psts p land [],0⟩:=by
  rw [qnew_yes (by omega) (by omega) h0 h2]
  congr 1
  unfold psts upto
  apply List.ext_getElem?
  intro i
  rw [List.getElem?_replicate,List.getElem?_map]
  by_cases h:i<p+1
  · rw [List.getElem?_range h,if_pos (by omega)]
    rfl
  · rw [List.getElem?_eq_none (by simp;omega),if_neg (by omega)]
    rfl
theorem padd_psts {p:Nat} {land now:Int} {l:List Itm} {v:Int} (hp:p≤4) (h0:0≤land) (h1:land≤now) (h2:now≤16777216) (h:Fit land now l) (hl:l.length≤900) (v0:0≤v) (v1:v≤4096) :
    qadd (p:Int) land now (psts p land l) v=⟨p,land,now,psts p land (l ++ [⟨now,v⟩]),0⟩∧Fit land now (l ++ [⟨now,v⟩]):=by
  have hf:Fit land now (l ++ [⟨now,v⟩]):=h.append (fun x hx=>by
    obtain rfl:x=⟨now,v⟩:=by simpa using hx
    exact ⟨h1,Int.le_refl _,v0,v1⟩)
  have e:∀ j,j<p+1→padT (ageN land now) v.toNat (psts p land l) j=pmom land (l ++ [⟨now,v⟩]) j:=fun j hj=>by
    unfold padT
    rw [psts_at (by omega),pmom_snoc]
  refine ⟨?_,hf⟩
  rw [qadd_ok (psts_valid hp h0 h1 h2 h) v0 v1 (by rw [psts_len];exact fitB_yes fun j hj=>by rw [e j hj];exact pmom_fits h0 h2 (by omega) hf (by simp;omega)),psts_len]
  rw [upto_congr e]
  rfl
/-! The binomial theorem, up to the fourth power. -/
end Go.Proofs.YtdipoojjlddohaaGreat
end
section
/- Synopses of sums with polynomial decay, with what they know of the stream. -/
namespace Go.Proofs.YtdipoojjlddohaaGreat
open Go.RowKit
def PoI (p:Nat) (ad:List Itm) (now:Int) (A:Option Addr) (m c:Nat) (w:World):Prop:=PIn (p:Nat) 0 now A m c (psts p 0 ad) w∧(p≤4∧(0≤now∧now≤16777216)∧ad.length≤800∧Fit 0 now ad)
theorem poI_ok (p:Nat) (ad:List Itm) (now:Int):InOK (PoI p ad now) :=
  ⟨fun ⟨h,hp⟩ hb=>⟨⟨(h.reads.below hb).more hb.size,h.pB,h.landB,h.nowB,h.mB,h.nc,h.cB⟩,hp⟩,
   fun u ⟨h,hp⟩ hne=>⟨⟨reads_keep0 h.reads (size_setCell _ _) (fun h0 a e=>Below.heap_setCell _ _ u a.block (fun x=>hne h0 a e x.symm)),h.pB,h.landB,h.nowB,h.mB,h.nc,h.cB⟩,hp⟩,
   fun cs ⟨h,hp⟩ hne=>⟨⟨reads_keep0 h.reads (size_setRow _ _ _) (fun h0 a e=>heap_setRow_other _ _ cs a.block (fun x=>hne h0 a e x.symm)),h.pB,h.landB,h.nowB,h.mB,h.nc,h.cB⟩,hp⟩,
   fun ⟨h,_⟩ hn a e=>reads_blk h.reads hn a e,
   fun ⟨h,hp⟩ hs hk=>⟨⟨reads_keep1 h.reads hs hk,h.pB,h.landB,h.nowB,h.mB,h.nc,h.cB⟩,hp⟩⟩
theorem poI_val {p:Nat} {ad:List Itm} {now:Int} {A:Option Addr} {m c:Nat} {w:World} (h:PoI p ad now A m c w):pvalE (p:Int) 0 now (psts p 0 ad)=0:=psts_valid h.2.1 (by omega) h.2.2.1.1 h.2.2.1.2 h.2.2.2.2
theorem po_cfg {p:Nat} (a:p≤4) (w:World):Calls Tryz.prog 108 #[.agg #[.int .i64 6, .int .i64 0, .int .i64 0, .int .i64 0, .int .i64 0, .int .i64 (p:Nat), .int .i64 0, .int .i64 0]] w fun e w'=>e = .returned (.int .i64 0)∧Below w.heap.size w w':=pcfgPoly (p:Nat) w (by omega) (by omega)
theorem poHV {p:Nat} {ad:List Itm} {now:Int} {A:Option Addr} {m c:Nat} {w:World} (h:PoI p ad now A m c w):RowKit.Hid (∀ w',Below w.heap.size w w'→Calls Tryz.prog 142 #[.agg #[.int .i64 (p:Nat), .int .i64 0, .int .i64 now, .slice A m c]] w' fun e w''=>e = .returned (.int .i64 0)∧Below w'.heap.size w' w'') :=
  Lib.hid (fun w' hb=>by
    have P:=ppval (p:Nat) 0 now A m c _ w' ((poI_ok p ad now).below h hb).1
    rw [poI_val h] at P
    exact P)
theorem kPoly {p N:Nat} (a:p≤4) (hN:N≤700):KindOK #[.int .i64 6, .int .i64 0, .int .i64 0, .int .i64 0, .int .i64 0, .int .i64 (p:Nat), .int .i64 0, .int .i64 0] (PoI p) (fun ad now A m c=>#[.int .i64 6, .int .i64 0, .int .i64 0, .int .i64 0, .int .i64 0, .int .i64 (p:Nat), .int .i64 0, .int .i64 0, .int .i64 0, .int .i64 0, .int .i64 0, .slice none 0 0, .int .i64 0, .int .i64 0, .int .i64 0, .int .i64 0, .slice none 0 0, .int .i64 0, .int .i64 0, .int .i64 0, .int .i64 0, .int .i64 0, .slice none 0 0, .int .i64 0, .int .i64 0, .int .i64 0, .int .i64 0, .int .i64 0, .int .i64 0, .slice none 0 0, .int .i64 0, .int .i64 0, .int .i64 0, .int .i64 0, .int .i64 0, .slice none 0 0, .int .i64 (p:Nat), .int .i64 0, .int .i64 now, .slice A m c, .int .i64 0, .slice none 0 0, .bool false, .int .i64 0, .int .i64 0, .int .i64 0, .slice none 0 0, .slice none 0 0, .int .i64 0, .int .i64 0, .int .i64 0, .slice none 0 0, .int .i64 0, .int .i64 0, .int .i64 0, .int .i64 0, .slice none 0 0]) (fun v=>0≤v∧v≤4096) N where
  inok:=fun ad now=>poI_ok p ad now
  size:=fun _ _ _ _ _=>rfl
  one:=fun _ _ _ _ _=>all_one rfl
  new:=fun w=>by
    refine pyNewPoly (p:Nat) 0 w (PoI p [] 0) (poI_ok p [] 0) (by omega) (by omega) (Lib.hid (po_cfg a)) (Lib.hid (fun w'=>(ppnew_ok (p:Nat) 0 w' (by omega) (by omega) (by omega) (by omega)).mono fun e w'' hq=>?_))
    rw [pnew_psts a (by omega) (by omega)] at hq
    obtain ⟨A,n,c,he,hin,hb,hf⟩:=hq
    exact ⟨A,n,c,he,⟨hin,a,⟨by omega,by omega⟩,by simp,fun x hx=>absurd hx (by simp)⟩,hb,fun _ a e => .inl (hf a e).1⟩
  adv:=fun ad now tt A m c w hi h1 h2=>by
    have hv:=poI_val hi
    refine pyAdvancePoly A m c (p:Nat) 0 now tt w (PoI p ad tt) (poI_ok p ad tt) _ (fun b hb=>?_) (poHV hi) (Lib.hid (po_cfg a)) (Lib.hid (fun w' hb=>(ppadv_ok (p:Nat) 0 now A m c _ tt w' ((poI_ok p ad now).below hi hb).1 hv h1 h2).mono fun e w'' hq=>?_))
    · obtain ⟨hm,a,e,rfl⟩:=hb
      exact reads_blk hi.1.reads hm a e
    · rw [qadv_ok hv h1 h2] at hq
      obtain ⟨A',n',c',he,hin',hb',hf⟩:=hq
      exact ⟨A',n',c',he,⟨hin',a,⟨by have:=hi.2.2.1;omega,h2⟩,hi.2.2.2.1,hi.2.2.2.2.later h1⟩,hb',fun _ a e => .inl (hf a e).1⟩
  add:=fun ad now v A m c w hi hn hv0=>by
    have hv:=poI_val hi
    refine pyAddPoly A m c (p:Nat) 0 now v w (PoI p (ad ++ [(⟨now,v⟩:Itm)]) now) (poI_ok p _ now) _ (fun b hb=>?_) (poHV hi) (Lib.hid (po_cfg a)) (Lib.hid (fun w' hb=>(ppadd_main (p:Nat) 0 now A m c _ v w' ((poI_ok p ad now).below hi hb).1 hv hv0.1 hv0.2).mono fun e w'' hq=>?_))
    · obtain ⟨hm,a,e,rfl⟩:=hb
      exact reads_blk hi.1.reads hm a e
    · rw [(padd_psts a (by omega) hi.2.2.1.1 hi.2.2.1.2 hi.2.2.2.2 (by have:=hi.2.2.2.1;omega) hv0.1 hv0.2).1] at hq
      obtain ⟨A',n',c',he,hin',hb',hf⟩:=hq
      refine ⟨A',n',c',he,⟨hin',a,hi.2.2.1,by rw [List.length_append];simp;omega,fun x hx=>?_⟩,hb',fun _ a e => .inl (hf a e).1⟩
      rcases List.mem_append.1 hx with hx | hx
      · exact hi.2.2.2.2 x hx
      · obtain rfl:x=⟨now,v⟩:=by simpa using hx
        exact ⟨hi.2.2.1.1,Int.le_refl _,hv0⟩
def PoA (p:Nat) (now:Int) (ad:List Itm) (w:World) (e:Ending) (w':World):Prop:=e = .returned (.tuple #[.agg #[.int .i64 0, .int .i64 0, .int .i64 0, .int .i64 0, .int .i64 0, .int .i64 0, .slice none 0 0, .int .u64 (hi (pmom 0 ad p)), .int .u64 (lo (pmom 0 ad p)), .int .u64 (hi (powN (ageN 0 now) p)), .int .u64 (lo (powN (ageN 0 now) p))], .int .i64 0])∧Below w.heap.size w w'
theorem tpAsk {A:Option Addr} {m c:Nat} {p:Nat} {now:Int} {ad:List Itm} {w:World} (h:PoI p ad now A m c w) (qa qb:Int):Calls Tryz.prog 12 #[.agg #[.int .i64 6, .int .i64 0, .int .i64 0, .int .i64 0, .int .i64 0, .int .i64 (p:Nat), .int .i64 0, .int .i64 0, .int .i64 0, .int .i64 0, .int .i64 0, .slice none 0 0, .int .i64 0, .int .i64 0, .int .i64 0, .int .i64 0, .slice none 0 0, .int .i64 0, .int .i64 0, .int .i64 0, .int .i64 0, .int .i64 0, .slice none 0 0, .int .i64 0, .int .i64 0, .int .i64 0, .int .i64 0, .int .i64 0, .int .i64 0, .slice none 0 0, .int .i64 0, .int .i64 0, .int .i64 0, .int .i64 0, .int .i64 0, .slice none 0 0, .int .i64 (p:Nat), .int .i64 0, .int .i64 now, .slice A m c, .int .i64 0, .slice none 0 0, .bool false, .int .i64 0, .int .i64 0, .int .i64 0, .slice none 0 0, .slice none 0 0, .int .i64 0, .int .i64 0, .int .i64 0, .slice none 0 0, .int .i64 0, .int .i64 0, .int .i64 0, .int .i64 0, .slice none 0 0], .agg #[.int .i64 9, .int .i64 qa, .int .i64 qb]] w (PoA p now ad w):=by
  have hv:=poI_val h
  have HC:=Lib.hid (po_cfg h.2.1)
  refine pyAskPoly A m c (p:Nat) 0 now qa qb _ _ _ _ w (poHV h) HC (Lib.hid (fun w'=>pansPoly (p:Nat) w' HC)) (Lib.hid (fun w' hb=>?_))
  have P:=ppask_ok (p:Nat) 0 now A m c _ w' ((poI_ok p ad now).below h hb).1 hv
  rw [qask_ok hv] at P
  simp only [Int.toNat_natCast,psts_at (Nat.le_refl p)] at P
  exact P
end Go.Proofs.YtdipoojjlddohaaGreat
end
section
/- Items with a landmark: plain. -/
namespace Go.Proofs.YtdipoojjlddohaaGreat
def PM (land last:Int) (l:List Itm):Prop :=
  (∀ i,i<l.length→land≤(itmAt l i).t∧(itmAt l i).t≤last∧(∀ j,j≤i→(itmAt l j).t≤(itmAt l i).t)∧0≤(itmAt l i).v∧(itmAt l i).v≤4096)∧land≤last
def ishift (d:Int) (x:Itm):Itm:={ x with t:=x.t+d }
def isome (d:Int) (l:List Itm) (k:Nat):List Itm:=(l.take k).map (ishift d) ++ l.drop k
def nowP (land:Int) (l:List Itm) (k:Nat):Int:=if k=0 then land else (itmAt l (k-1)).t
theorem take_snoc {l:List Itm} {k:Nat} (h:k<l.length):l.take (k+1)=l.take k ++ [itmAt l k]:=by
  rw [List.take_succ_eq_append_getElem h,itm_eq h]
end Go.Proofs.YtdipoojjlddohaaGreat
end
