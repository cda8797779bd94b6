/- What the law TopExact needs, joined of its texts by a program (slim2.py); part 32. -/
import Derived.Test.YtdipoojjlddohaaGreatZTopExact1
import Derived.Test.YtdipoojjlddohaaGreatZTopExact3
import Derived.Test.YtdipoojjlddohaaGreatZTopExact10
import Derived.Test.YtdipoojjlddohaaGreatZTopExact30
import Derived.Test.YtdipoojjlddohaaGreatZTopExact31
set_option linter.unusedVariables false
set_option linter.unusedSimpArgs false
set_option linter.unusedSectionVars false
set_option linter.unnecessarySimpa false
section
/- Counters with polynomial decay: the check, walked. -/
set_option maxRecDepth 100000
namespace Go.Proofs.YtdipoojjlddohaaGreat
open Go.RowKit Go.Shelf
theorem ppval_p0 (p land now:Int) (A:Option Addr) (n c:Nat) (ms:List Nat) (w:World) (hin:PIn p land now A n c ms w) (h:p<0):Calls Tryz.prog 142 #[.agg #[.int .i64 p, .int .i64 land, .int .i64 now, .slice A n c]] w fun e w'=>e = .returned (.int .i64 (pvalE p land now ms))∧Below w.heap.size w w':=by
  rw [pvalE_no (by omega)]
  clear hin
  go_enter Tryz.func142,Tryz.ntmps142
  go_wp2_with fail
  go_ret
  exact ⟨rfl,by (repeat (first | exact Below.refl _ _ | refine Below.setCell ?_ (by (try simp)<;>omega) _ | refine Below.alloc ?_ (by (try simp)<;>omega) _ | refine Below.drew ?_ | refine Below.trans ?_ (Below.mono (by assumption) (by (try simp)<;>omega))))⟩
theorem ppval_p1 (p land now:Int) (A:Option Addr) (n c:Nat) (ms:List Nat) (w:World) (hin:PIn p land now A n c ms w) (h:4<p):Calls Tryz.prog 142 #[.agg #[.int .i64 p, .int .i64 land, .int .i64 now, .slice A n c]] w fun e w'=>e = .returned (.int .i64 (pvalE p land now ms))∧Below w.heap.size w w':=by
  rw [pvalE_no (by omega)]
  have h1:0≤p:=by omega
  clear hin
  go_enter Tryz.func142,Tryz.ntmps142
  go_wp2_with fail
  go_ret
  exact ⟨rfl,by (repeat (first | exact Below.refl _ _ | refine Below.setCell ?_ (by (try simp)<;>omega) _ | refine Below.alloc ?_ (by (try simp)<;>omega) _ | refine Below.drew ?_ | refine Below.trans ?_ (Below.mono (by assumption) (by (try simp)<;>omega))))⟩
theorem ppval_n0 (p land now:Int) (A:Option Addr) (n c:Nat) (ms:List Nat) (w:World) (hin:PIn p land now A n c ms w) (h1:0≤p) (h2:p≤4) (h:now<0):Calls Tryz.prog 142 #[.agg #[.int .i64 p, .int .i64 land, .int .i64 now, .slice A n c]] w fun e w'=>e = .returned (.int .i64 (pvalE p land now ms))∧Below w.heap.size w w':=by
  rw [pvalE_no (by omega)]
  clear hin
  go_enter Tryz.func142,Tryz.ntmps142
  go_wp2_with (go_at_call 206;refine (ptick_neg _ h _).mono ?_;rintro e w9 ⟨rfl,rfl⟩)
  go_ret
  exact ⟨rfl,by (repeat (first | exact Below.refl _ _ | refine Below.setCell ?_ (by (try simp)<;>omega) _ | refine Below.alloc ?_ (by (try simp)<;>omega) _ | refine Below.drew ?_ | refine Below.trans ?_ (Below.mono (by assumption) (by (try simp)<;>omega))))⟩
theorem ppval_n1 (p land now:Int) (A:Option Addr) (n c:Nat) (ms:List Nat) (w:World) (hin:PIn p land now A n c ms w) (h1:0≤p) (h2:p≤4) (h:16777216<now):Calls Tryz.prog 142 #[.agg #[.int .i64 p, .int .i64 land, .int .i64 now, .slice A n c]] w fun e w'=>e = .returned (.int .i64 (pvalE p land now ms))∧Below w.heap.size w w':=by
  rw [pvalE_no (by omega)]
  clear hin
  go_enter Tryz.func142,Tryz.ntmps142
  go_wp2_with (go_at_call 206;refine (ptick_late _ h _).mono ?_;rintro e w9 ⟨rfl,rfl⟩)
  go_ret
  exact ⟨rfl,by (repeat (first | exact Below.refl _ _ | refine Below.setCell ?_ (by (try simp)<;>omega) _ | refine Below.alloc ?_ (by (try simp)<;>omega) _ | refine Below.drew ?_ | refine Below.trans ?_ (Below.mono (by assumption) (by (try simp)<;>omega))))⟩
theorem ppval_l0 (p land now:Int) (A:Option Addr) (n c:Nat) (ms:List Nat) (w:World) (hin:PIn p land now A n c ms w) (h1:0≤p) (h2:p≤4) (h3:0≤now) (h4:now≤16777216) (h:land<0):Calls Tryz.prog 142 #[.agg #[.int .i64 p, .int .i64 land, .int .i64 now, .slice A n c]] w fun e w'=>e = .returned (.int .i64 (pvalE p land now ms))∧Below w.heap.size w w':=by
  rw [pvalE_no (by omega)]
  clear hin
  go_enter Tryz.func142,Tryz.ntmps142
  go_wp2_with (go_at_call 206;refine (ptick_yes _ h3 h4 _).mono ?_;rintro e w9 ⟨rfl,rfl⟩)
  go_ret
  exact ⟨rfl,by (repeat (first | exact Below.refl _ _ | refine Below.setCell ?_ (by (try simp)<;>omega) _ | refine Below.alloc ?_ (by (try simp)<;>omega) _ | refine Below.drew ?_ | refine Below.trans ?_ (Below.mono (by assumption) (by (try simp)<;>omega))))⟩
theorem ppval_l1 (p land now:Int) (A:Option Addr) (n c:Nat) (ms:List Nat) (w:World) (hin:PIn p land now A n c ms w) (h1:0≤p) (h2:p≤4) (h3:0≤now) (h4:now≤16777216) (h5:0≤land) (h:now<land):Calls Tryz.prog 142 #[.agg #[.int .i64 p, .int .i64 land, .int .i64 now, .slice A n c]] w fun e w'=>e = .returned (.int .i64 (pvalE p land now ms))∧Below w.heap.size w w':=by
  rw [pvalE_no (by omega)]
  clear hin
  go_enter Tryz.func142,Tryz.ntmps142
  go_wp2_with (go_at_call 206;refine (ptick_yes _ h3 h4 _).mono ?_;rintro e w9 ⟨rfl,rfl⟩)
  go_ret
  exact ⟨rfl,by (repeat (first | exact Below.refl _ _ | refine Below.setCell ?_ (by (try simp)<;>omega) _ | refine Below.alloc ?_ (by (try simp)<;>omega) _ | refine Below.drew ?_ | refine Below.trans ?_ (Below.mono (by assumption) (by (try simp)<;>omega))))⟩
theorem ppval_len (p land now:Int) (A:Option Addr) (n c:Nat) (ms:List Nat) (w:World) (hin:PIn p land now A n c ms w) (h1:0≤p) (h2:p≤4) (h3:0≤now) (h4:now≤16777216) (h5:0≤land) (h6:land≤now) (h:(n:Int)≠p+1):Calls Tryz.prog 142 #[.agg #[.int .i64 p, .int .i64 land, .int .i64 now, .slice A n c]] w fun e w'=>e = .returned (.int .i64 (pvalE p land now ms))∧Below w.heap.size w w':=by
  rw [pvalE_no (fun a=>h (by have:=hin.len;omega))]
  have wp:IntKind.i64.wrap (p+1)=p+1:=IntWalk.i64_in _ (by omega)
  have hne:((n:Int) != p+1)=true:=by simpa using h
  clear hin
  go_enter Tryz.func142,Tryz.ntmps142
  go_wp2_with (go_at_call 206;refine (ptick_yes _ h3 h4 _).mono ?_;rintro e w9 ⟨rfl,rfl⟩)
  go_ret
  exact ⟨rfl,by (repeat (first | exact Below.refl _ _ | refine Below.setCell ?_ (by (try simp)<;>omega) _ | refine Below.alloc ?_ (by (try simp)<;>omega) _ | refine Below.drew ?_ | refine Below.trans ?_ (Below.mono (by assumption) (by (try simp)<;>omega))))⟩
set_option maxHeartbeats 4000000 in
set_option maxRecDepth 100000 in
theorem ppval_main (p land now:Int) (A:Option Addr) (n c:Nat) (ms:List Nat) (w:World) (hin:PIn p land now A n c ms w) (h1:0≤p) (h2:p≤4) (h3:0≤now) (h4:now≤16777216) (h5:0≤land) (h6:land≤now) (h:(n:Int)=p+1):Calls Tryz.prog 142 #[.agg #[.int .i64 p, .int .i64 land, .int .i64 now, .slice A n c]] w fun e w'=>e = .returned (.int .i64 (pvalE p land now ms))∧Below w.heap.size w w':=by
  have hl:=hin.len
  have e1:=Lib.hid hl
  have HR:=Lib.hid hin.reads
  have MB:=Lib.hid hin.mB
  have hn5:n≤5:=by omega
  obtain ⟨a1,a2⟩:=ageN_bound h5 h6 h4
  have ai:=ageN_int h6
  generalize hav:ageN land now=av at a1 a2 ai
  have HAV:=Lib.hid hav
  have ab':av<big:=by unfold big;omega
  have wa:IntKind.i64.wrap (now-land)=now-land:=IntWalk.i64_in _ (by omega)
  have wb:IntKind.i64.wrap (now-land+1)=now-land+1:=IntWalk.i64_in _ (by omega)
  have wc:IntKind.u64.wrap (now-land+1)=(av:Int):=by rw [IntWalk.u64_in _ (by omega)];omega
  have wp:IntKind.i64.wrap (p+1)=p+1:=IntWalk.i64_in _ (by omega)
  have hne:((n:Int) != p+1)=false:=by simp [h]
  have PO:=Lib.hid (fun w=>pof av (by omega) w)
  have HH:=Lib.hid h
  have hn1:1≤n:=by omega
  clear hin hl hav ai h
  go_enter Tryz.func142,Tryz.ntmps142
  go_wp2_with (first | (go_at_call 206;refine (ptick_yes _ h3 h4 _).mono ?_;rintro e w9 ⟨rfl,rfl⟩) | (go_at_call 76;with_reducible refine (PO.out _).mono ?_;rintro e w1 ⟨rfl,hb1⟩;have hz1:=hb1.size;(try simp at hz1);have o1:Below w.heap.size w w1:=(by (repeat (first | exact Below.refl _ _ | refine Below.setCell ?_ (by (try simp)<;>omega) _ | refine Below.alloc ?_ (by (try simp)<;>omega) _ | refine Below.drew ?_ | refine Below.trans ?_ (Below.mono (by assumption) (by (try simp)<;>omega)))));have q1_0:w.heap.size<w1.heap.size:=(by omega);have r1_0:Row w1 (w.heap.size) 42 #[.int .i64 p, .int .i64 land, .int .i64 now, .slice A n c]:=row_call (by (repeat (first | assumption | (refine row_new ?_;(first | (simp;done) | omega)) | refine row_alloc ?_ _ | refine row_drew ?_ | refine row_call ?_ (by assumption)))) hb1;obtain ⟨c1_0a,c1_0b,c1_0c,c1_0d,f1_0a,f1_0b,f1_0c,f1_0d⟩:=row_four r1_0))
  have L1:=row_alloc r1_0 (.cells #[.int .u64 (hi av), .int .u64 (lo av)] 67)
  have L2:Row (w1.alloc (.cells #[.int .u64 (hi av), .int .u64 (lo av)] 67)) w1.heap.size 67 #[.int .u64 (hi av), .int .u64 (lo av)]:=row_new rfl
  have L3:=o1.alloc o1.size (.cells #[.int .u64 (hi av), .int .u64 (lo av)] 67)
  have ne0:w1.heap.size≠w.heap.size:=by omega
  have hab:w.heap.size≤w1.heap.size:=by omega
  generalize w1.alloc (.cells #[.int .u64 (hi av), .int .u64 (lo av)] 67)=w2 at L1 L2 L3 ⊢
  generalize w1.heap.size=ab at L2 ne0 hab ⊢
  clear r1_0 o1 hb1
  go_loopw [4] (fun i wr=>∃ k:Nat,k+1≤n∧i = .int .i64 ((k:Int)+1)∧RowKit.Hid (∀ e,e<k+1→linkOK av ms e=true)∧Row wr (w.heap.size) 42 #[.int .i64 p, .int .i64 land, .int .i64 now, .slice A n c]∧Row wr ab 67 #[.int .u64 (hi av), .int .u64 (lo av)]∧Below w.heap.size w wr) (fun i _=>n+1-(intOf i).toNat)
  case atStart=>exact ⟨0,by omega,rfl,Lib.hid (fun e he=>linkOK_yes (.inl (by omega))),L1,L2,L3⟩
  case round =>
    clear L1 L2 L3
    obtain ⟨k,hk,rfl,HA,L1,L2,L3⟩:=hrel
    obtain ⟨X0,X1,X2,X3,Xf0,Xf1,Xf2,Xf3⟩:=row_four L1
    by_cases hlt:k+1<n
    · have i1:(k:Int)+1≤p:=by have:=HH.out;omega
      obtain ⟨ad,rfl,hadb,mx⟩:=HR.out.mom (i:=k) (by omega)
      obtain ⟨ad',e',_,my⟩:=HR.out.mom (i:=k+1) hlt
      obtain rfl:ad'=ad:=by injection e' with e';exact e'.symm
      have bx:=MB.out k
      have by_:=MB.out (k+1)
      generalize hx:momAt ms k=x at mx bx
      generalize hy:momAt ms (k+1)=y at my by_
      have HX:=Lib.hid hx
      have HY:=Lib.hid hy
      have MX:=Lib.hid mx
      have MY:=Lib.hid my
      have HAB:RowKit.Hid ((ad'.add (k*2)).block<w.heap.size):=Lib.hid (by rw [block_of_add];exact hadb)
      have HAB':RowKit.Hid ((ad'.add ((k+1)*2)).block<w.heap.size):=Lib.hid (by rw [block_of_add];exact hadb)
      clear hx hy mx my e'
      have i2:(0:Int)≤(k:Int):=by omega
      have i3:(k:Int)<(n:Int):=by omega
      have i4:(k:Int)+1<(n:Int):=by omega
      have i5:(0:Int)≤(k:Int)+1:=by omega
      have tj:((k:Int)+1).toNat=k+1:=by omega
      have wk:IntKind.i64.wrap (k:Int)=(k:Int):=IntWalk.i64_in _ (by omega)
      have wk1:IntKind.i64.wrap ((k:Int)+1-1)=(k:Int):=by rw [Int.add_sub_cancel];exact wk
      have wk2:IntKind.i64.wrap ((k:Int)+1+1)=(k:Int)+1+1:=IntWalk.i64_in _ (by omega)
      have PM0:=fun w=>pmul x av bx ab' w
      by_cases c1:y<x
      · obtain ⟨cv,hcv,cvc⟩:∃ q,cmp x y=q∧0<q:=⟨_,rfl,by unfold cmp;rw [if_neg (by omega),if_neg (by omega)];decide⟩
        have PC:=fun w=>pcmp_any x y w
        rw [hcv] at PC
        have PC:=Lib.hid PC
        clear hcv
        have E:=Lib.hid (pvalE_bad (p:=p) (land:=land) (now:=now) (ms:=ms) (i:=k+1) (by rw [e1.out];exact hlt) (by rw [HAV.out];exact linkOK_no (by omega) (by rw [show k+1-1=k from rfl,HX.out,HY.out];intro a;omega)))
        clear PM0
        go_upto_region 7 with (fail)
        clear X0 X1 X2 X3 Xf0 Xf1 Xf2 Xf3
        refine wp_region_free0 [0,1,2,3,4,5,6,7,8,9,10,11] [] [0,1,2,3,4,5,6,7,8,9,10,11] 12 (fun w'=>Row w' (w.heap.size) 42 #[.int .i64 p, .int .i64 land, .int .i64 now, .slice (some ad') n c]∧Row w' (ab) 67 #[.int .u64 (hi av), .int .u64 (lo av)]∧Below w.heap.size w w') (by kernel_rfl) (by kernel_rfl) (fun _ _ d _ _ h=>by cases d<;>exact h) ?_ ?_
        · exact ⟨L1,L2,L3.drew⟩
        (refine plan_pure ?_ rfl rfl (fun w'=>?_) ?_;rotate_left;(go_simp;try with_reducible rfl);simp only [put9])
        (refine plan_val ?_ rfl rfl rfl (fun w' hS=>?_) ?_;rotate_left;(obtain ⟨X0,X1,X2,X3,Xf0,Xf1,Xf2,Xf3⟩:=row_four hS.1;obtain ⟨G0,G1,Gf0,Gf1⟩:=row_two hS.2.1;obtain ⟨p0,p1⟩:=MX.out.below hS.2.2 HAB.out;obtain ⟨q0,q1⟩:=MY.out.below hS.2.2 HAB'.out;go_simp;try with_reducible rfl);simp only [put9])
        (refine plan_pure ?_ rfl rfl (fun w'=>?_) ?_;rotate_left;(go_simp;try with_reducible rfl);simp only [put9])
        (refine plan_pure ?_ rfl rfl (fun w'=>?_) ?_;rotate_left;(go_simp;try with_reducible rfl);simp only [put9])
        (refine plan_pure ?_ rfl rfl (fun w'=>?_) ?_;rotate_left;(go_simp;try with_reducible rfl);simp only [put9])
        (refine plan_val ?_ rfl rfl rfl (fun w' hS=>?_) ?_;rotate_left;(obtain ⟨X0,X1,X2,X3,Xf0,Xf1,Xf2,Xf3⟩:=row_four hS.1;obtain ⟨G0,G1,Gf0,Gf1⟩:=row_two hS.2.1;obtain ⟨p0,p1⟩:=MX.out.below hS.2.2 HAB.out;obtain ⟨q0,q1⟩:=MY.out.below hS.2.2 HAB'.out;go_simp;try with_reducible rfl);simp only [put9])
        (refine plan_pure ?_ rfl rfl (fun w'=>?_) ?_;rotate_left;(go_simp;try with_reducible rfl);simp only [put9])
        (refine plan_val ?_ rfl rfl rfl (fun w' hS=>?_) ?_;rotate_left;(obtain ⟨X0,X1,X2,X3,Xf0,Xf1,Xf2,Xf3⟩:=row_four hS.1;obtain ⟨G0,G1,Gf0,Gf1⟩:=row_two hS.2.1;obtain ⟨p0,p1⟩:=MX.out.below hS.2.2 HAB.out;obtain ⟨q0,q1⟩:=MY.out.below hS.2.2 HAB'.out;go_simp;try with_reducible rfl);simp only [put9])
        (refine plan_pure ?_ rfl rfl (fun w'=>?_) ?_;rotate_left;(go_simp;try with_reducible rfl);simp only [put9])
        (refine plan_pure ?_ rfl rfl (fun w'=>?_) ?_;rotate_left;(go_simp;try with_reducible rfl);simp only [put9])
        (refine plan_val ?_ rfl rfl rfl (fun w' hS=>?_) ?_;rotate_left;(obtain ⟨X0,X1,X2,X3,Xf0,Xf1,Xf2,Xf3⟩:=row_four hS.1;obtain ⟨G0,G1,Gf0,Gf1⟩:=row_two hS.2.1;obtain ⟨p0,p1⟩:=MX.out.below hS.2.2 HAB.out;obtain ⟨q0,q1⟩:=MY.out.below hS.2.2 HAB'.out;go_simp;try with_reducible rfl);simp only [put9])
        refine plan_call (.int .i64 cv) 235 #[W x,W y] rfl rfl rfl (fun _ _ h hb=>⟨row_call h.1 hb,row_call h.2.1 hb,h.2.2.trans (hb.mono h.2.2.size)⟩) (fun w' hS=>by obtain ⟨X0,X1,X2,X3,Xf0,Xf1,Xf2,Xf3⟩:=row_four hS.1;obtain ⟨G0,G1,Gf0,Gf1⟩:=row_two hS.2.1;obtain ⟨p0,p1⟩:=MX.out.below hS.2.2 HAB.out;obtain ⟨q0,q1⟩:=MY.out.below hS.2.2 HAB'.out;go_simp) (fun w' hS=>PC.out w') ?_
        simp only [put9]
        refine plan_nil ?_
        intro w3 L4
        simp only [List.drop_succ_cons,List.drop_zero]
        try simp only [put9]
        clear L1 L2 L3
        obtain ⟨_,_,L3⟩:=L4
        go_wp2
        go_ret
        exact ⟨ret_i64P E.out.symm,L3⟩
      · obtain ⟨cv,hcv,cvc⟩:∃ q,cmp x y=q∧¬ 0<q:=⟨_,rfl,by unfold cmp;split<;>first | decide | (split<;>first | decide | (exfalso;omega))⟩
        have PC:=fun w=>pcmp_any x y w
        rw [hcv] at PC
        have PC:=Lib.hid PC
        clear hcv
        by_cases c2:x*av<big
        · obtain ⟨v1,v2⟩:=mulV_yes c2
          rw [v1,v2] at PM0
          have HXA:RowKit.Hid (x*av=x*av):=Lib.hid rfl
          clear v1 v2
          generalize hxa:x*av=z at PM0 c2
          have PM:=Lib.hid PM0
          have HZ:=Lib.hid hxa
          clear PM0 hxa HXA
          by_cases c3:z<y
          · obtain ⟨cv2,hcv2,cv2c⟩:∃ q,cmp y z=q∧0<q:=⟨_,rfl,by unfold cmp;rw [if_neg (by omega),if_neg (by omega)];decide⟩
            have PC2:=fun w=>pcmp_any y z w
            rw [hcv2] at PC2
            have PC2:=Lib.hid PC2
            clear hcv2
            have E:=Lib.hid (pvalE_bad (p:=p) (land:=land) (now:=now) (ms:=ms) (i:=k+1) (by rw [e1.out];exact hlt) (by rw [HAV.out];exact linkOK_no (by omega) (by rw [show k+1-1=k from rfl,HX.out,HY.out];rw [HZ.out];intro a;omega)))
            go_upto_region 7 with (fail)
            clear X0 X1 X2 X3 Xf0 Xf1 Xf2 Xf3
            refine wp_region_free0 [0,1,2,3,4,5,6,7,8,9,10,11] [] [0,1,2,3,4,5,6,7,8,9,10,11] 12 (fun w'=>Row w' (w.heap.size) 42 #[.int .i64 p, .int .i64 land, .int .i64 now, .slice (some ad') n c]∧Row w' (ab) 67 #[.int .u64 (hi av), .int .u64 (lo av)]∧Below w.heap.size w w') (by kernel_rfl) (by kernel_rfl) (fun _ _ d _ _ h=>by cases d<;>exact h) ?_ ?_
            · exact ⟨L1,L2,L3.drew⟩
            (refine plan_pure ?_ rfl rfl (fun w'=>?_) ?_;rotate_left;(go_simp;try with_reducible rfl);simp only [put9])
            (refine plan_val ?_ rfl rfl rfl (fun w' hS=>?_) ?_;rotate_left;(obtain ⟨X0,X1,X2,X3,Xf0,Xf1,Xf2,Xf3⟩:=row_four hS.1;obtain ⟨G0,G1,Gf0,Gf1⟩:=row_two hS.2.1;obtain ⟨p0,p1⟩:=MX.out.below hS.2.2 HAB.out;obtain ⟨q0,q1⟩:=MY.out.below hS.2.2 HAB'.out;go_simp;try with_reducible rfl);simp only [put9])
            (refine plan_pure ?_ rfl rfl (fun w'=>?_) ?_;rotate_left;(go_simp;try with_reducible rfl);simp only [put9])
            (refine plan_pure ?_ rfl rfl (fun w'=>?_) ?_;rotate_left;(go_simp;try with_reducible rfl);simp only [put9])
            (refine plan_pure ?_ rfl rfl (fun w'=>?_) ?_;rotate_left;(go_simp;try with_reducible rfl);simp only [put9])
            (refine plan_val ?_ rfl rfl rfl (fun w' hS=>?_) ?_;rotate_left;(obtain ⟨X0,X1,X2,X3,Xf0,Xf1,Xf2,Xf3⟩:=row_four hS.1;obtain ⟨G0,G1,Gf0,Gf1⟩:=row_two hS.2.1;obtain ⟨p0,p1⟩:=MX.out.below hS.2.2 HAB.out;obtain ⟨q0,q1⟩:=MY.out.below hS.2.2 HAB'.out;go_simp;try with_reducible rfl);simp only [put9])
            (refine plan_pure ?_ rfl rfl (fun w'=>?_) ?_;rotate_left;(go_simp;try with_reducible rfl);simp only [put9])
            (refine plan_val ?_ rfl rfl rfl (fun w' hS=>?_) ?_;rotate_left;(obtain ⟨X0,X1,X2,X3,Xf0,Xf1,Xf2,Xf3⟩:=row_four hS.1;obtain ⟨G0,G1,Gf0,Gf1⟩:=row_two hS.2.1;obtain ⟨p0,p1⟩:=MX.out.below hS.2.2 HAB.out;obtain ⟨q0,q1⟩:=MY.out.below hS.2.2 HAB'.out;go_simp;try with_reducible rfl);simp only [put9])
            (refine plan_pure ?_ rfl rfl (fun w'=>?_) ?_;rotate_left;(go_simp;try with_reducible rfl);simp only [put9])
            (refine plan_pure ?_ rfl rfl (fun w'=>?_) ?_;rotate_left;(go_simp;try with_reducible rfl);simp only [put9])
            (refine plan_val ?_ rfl rfl rfl (fun w' hS=>?_) ?_;rotate_left;(obtain ⟨X0,X1,X2,X3,Xf0,Xf1,Xf2,Xf3⟩:=row_four hS.1;obtain ⟨G0,G1,Gf0,Gf1⟩:=row_two hS.2.1;obtain ⟨p0,p1⟩:=MX.out.below hS.2.2 HAB.out;obtain ⟨q0,q1⟩:=MY.out.below hS.2.2 HAB'.out;go_simp;try with_reducible rfl);simp only [put9])
            refine plan_call (.int .i64 cv) 235 #[W x,W y] rfl rfl rfl (fun _ _ h hb=>⟨row_call h.1 hb,row_call h.2.1 hb,h.2.2.trans (hb.mono h.2.2.size)⟩) (fun w' hS=>by obtain ⟨X0,X1,X2,X3,Xf0,Xf1,Xf2,Xf3⟩:=row_four hS.1;obtain ⟨G0,G1,Gf0,Gf1⟩:=row_two hS.2.1;obtain ⟨p0,p1⟩:=MX.out.below hS.2.2 HAB.out;obtain ⟨q0,q1⟩:=MY.out.below hS.2.2 HAB'.out;go_simp) (fun w' hS=>PC.out w') ?_
            simp only [put9]
            refine plan_nil ?_
            intro w3 L4
            simp only [List.drop_succ_cons,List.drop_zero]
            try simp only [put9]
            clear L1 L2 L3
            obtain ⟨L1,L2,L3⟩:=L4
            go_upto_region 9 with (fail)
            refine wp_region_free1 [0,1,2,3,4,5,6,7,8,10,9] [10] [0,1,2,3,4,5,6,7,8,9,11] (11,67,#[.int .u64 0, .int .u64 0]) 5 12 (fun w'=>Row w' (w.heap.size) 42 #[.int .i64 p, .int .i64 land, .int .i64 now, .slice (some ad') n c]∧Row w' (ab) 67 #[.int .u64 (hi av), .int .u64 (lo av)]∧Below w.heap.size w w') (by kernel_rfl) (by kernel_rfl) ⟨_,_,rfl,rfl,rfl,fun ρ w'=>by go_simp⟩ rfl (by simp) (fun _ h=>⟨row_alloc h.1 _,row_alloc h.2.1 _,h.2.2.alloc h.2.2.size _⟩) (fun _ _ d _ _ h=>by cases d<;>exact h) ?_ ?_
            · exact ⟨L1,L2,L3.drew⟩
            (refine plan_pure ?_ rfl rfl (fun w'=>?_) ?_;rotate_left;(go_simp;try with_reducible rfl);simp only [put9])
            (refine plan_val ?_ rfl rfl rfl (fun w' hS=>?_) ?_;rotate_left;(obtain ⟨X0,X1,X2,X3,Xf0,Xf1,Xf2,Xf3⟩:=row_four hS.1;obtain ⟨G0,G1,Gf0,Gf1⟩:=row_two hS.2.1;obtain ⟨p0,p1⟩:=MX.out.below hS.2.2 HAB.out;go_simp;try with_reducible rfl);simp only [put9])
            (refine plan_pure ?_ rfl rfl (fun w'=>?_) ?_;rotate_left;(go_simp;try with_reducible rfl);simp only [put9])
            (refine plan_pure ?_ rfl rfl (fun w'=>?_) ?_;rotate_left;(go_simp;try with_reducible rfl);simp only [put9])
            (refine plan_pure ?_ rfl rfl (fun w'=>?_) ?_;rotate_left;(go_simp;try with_reducible rfl);simp only [put9])
            (refine plan_val ?_ rfl rfl rfl (fun w' hS=>?_) ?_;rotate_left;(obtain ⟨X0,X1,X2,X3,Xf0,Xf1,Xf2,Xf3⟩:=row_four hS.1;obtain ⟨G0,G1,Gf0,Gf1⟩:=row_two hS.2.1;obtain ⟨p0,p1⟩:=MX.out.below hS.2.2 HAB.out;go_simp;try with_reducible rfl);simp only [put9])
            (refine plan_val ?_ rfl rfl rfl (fun w' hS=>?_) ?_;rotate_left;(obtain ⟨X0,X1,X2,X3,Xf0,Xf1,Xf2,Xf3⟩:=row_four hS.1;obtain ⟨G0,G1,Gf0,Gf1⟩:=row_two hS.2.1;obtain ⟨p0,p1⟩:=MX.out.below hS.2.2 HAB.out;go_simp;try with_reducible rfl);simp only [put9])
            refine plan_call (.tuple #[W z, .bool true]) 79 #[W x,W av] rfl rfl rfl (fun _ _ h hb=>⟨row_call h.1 hb,row_call h.2.1 hb,h.2.2.trans (hb.mono h.2.2.size)⟩) (fun w' hS=>by obtain ⟨X0,X1,X2,X3,Xf0,Xf1,Xf2,Xf3⟩:=row_four hS.1;obtain ⟨G0,G1,Gf0,Gf1⟩:=row_two hS.2.1;obtain ⟨p0,p1⟩:=MX.out.below hS.2.2 HAB.out;go_simp) (fun w' hS=>PM.out w') ?_
            simp only [put9]
            (refine plan_pure ?_ rfl rfl (fun w'=>?_) ?_;rotate_left;(go_simp;try with_reducible rfl);simp only [put9])
            (refine plan_pure ?_ rfl rfl (fun w'=>?_) ?_;rotate_left;(go_simp;try with_reducible rfl);simp only [put9])
            (refine plan_pure ?_ rfl rfl (fun w'=>?_) ?_;rotate_left;(go_simp;try with_reducible rfl);simp only [put9])
            refine plan_nil ?_
            intro g8 w5 L5 hr8 hg8
            simp only [List.drop_succ_cons,List.drop_zero]
            try simp only [put9]
            have z0:=row_lt L1
            have z1:=row_lt L2
            clear L1 L2 L3
            obtain ⟨Q0,Q1,Qf0,Qf1⟩:=row_two hr8
            have ng:g8≠w.heap.size:=by omega
            have ng1:g8≠ab:=by omega
            go_upto_region 10 with (fail)
            clear Q0 Q1 Qf0 Qf1
            have M1:=row_two_other (u := .int .u64 (hi z)) (v := .int .u64 (lo z)) L5.1 ng.symm
            have M2:=row_two_other (u := .int .u64 (hi z)) (v := .int .u64 (lo z)) L5.2.1 ng1.symm
            have M3:=row_two_set (u := .int .u64 (hi z)) (v := .int .u64 (lo z)) hr8
            have M4:Below w.heap.size w ((w5.setCell ⟨g8,0,none⟩ (.int .u64 (hi z))).setCell ⟨g8,1,none⟩ (.int .u64 (lo z))):=(L5.2.2.setCell (by show w.heap.size≤g8;omega) _).setCell (by show w.heap.size≤g8;omega) _
            generalize ((w5.setCell ⟨g8,0,none⟩ (.int .u64 (hi z))).setCell ⟨g8,1,none⟩ (.int .u64 (lo z)))=w6 at M1 M2 M3 M4 ⊢
            clear L5 hr8
            refine wp_region_free0 [0,1,2,3,4,5,6,7,8,9] [] [0,1,2,3,4,5,6,7,8,9] 10 (fun w'=>Row w' (w.heap.size) 42 #[.int .i64 p, .int .i64 land, .int .i64 now, .slice (some ad') n c]∧Row w' (ab) 67 #[.int .u64 (hi av), .int .u64 (lo av)]∧Row w' (g8) 67 #[.int .u64 (hi z), .int .u64 (lo z)]∧Below w.heap.size w w') (by kernel_rfl) (by kernel_rfl) (fun _ _ d _ _ h=>by cases d<;>exact h) ?_ ?_
            · exact ⟨M1,M2,M3,M4.drew⟩
            (refine plan_pure ?_ rfl rfl (fun w'=>?_) ?_;rotate_left;(go_simp;try with_reducible rfl);simp only [put9])
            (refine plan_pure ?_ rfl rfl (fun w'=>?_) ?_;rotate_left;(go_simp;try with_reducible rfl);simp only [put9])
            (refine plan_pure ?_ rfl rfl (fun w'=>?_) ?_;rotate_left;(go_simp;try with_reducible rfl);simp only [put9])
            (refine plan_val ?_ rfl rfl rfl (fun w' hS=>?_) ?_;rotate_left;(obtain ⟨X0,X1,X2,X3,Xf0,Xf1,Xf2,Xf3⟩:=row_four hS.1;obtain ⟨G0,G1,Gf0,Gf1⟩:=row_two hS.2.1;obtain ⟨Q0,Q1,Qf0,Qf1⟩:=row_two hS.2.2.1;obtain ⟨q0,q1⟩:=MY.out.below hS.2.2.2 HAB'.out;go_simp;try with_reducible rfl);simp only [put9])
            (refine plan_pure ?_ rfl rfl (fun w'=>?_) ?_;rotate_left;(go_simp;try with_reducible rfl);simp only [put9])
            (refine plan_pure ?_ rfl rfl (fun w'=>?_) ?_;rotate_left;(go_simp;try with_reducible rfl);simp only [put9])
            (refine plan_val ?_ rfl rfl rfl (fun w' hS=>?_) ?_;rotate_left;(obtain ⟨X0,X1,X2,X3,Xf0,Xf1,Xf2,Xf3⟩:=row_four hS.1;obtain ⟨G0,G1,Gf0,Gf1⟩:=row_two hS.2.1;obtain ⟨Q0,Q1,Qf0,Qf1⟩:=row_two hS.2.2.1;obtain ⟨q0,q1⟩:=MY.out.below hS.2.2.2 HAB'.out;go_simp;try with_reducible rfl);simp only [put9])
            (refine plan_val ?_ rfl rfl rfl (fun w' hS=>?_) ?_;rotate_left;(obtain ⟨X0,X1,X2,X3,Xf0,Xf1,Xf2,Xf3⟩:=row_four hS.1;obtain ⟨G0,G1,Gf0,Gf1⟩:=row_two hS.2.1;obtain ⟨Q0,Q1,Qf0,Qf1⟩:=row_two hS.2.2.1;obtain ⟨q0,q1⟩:=MY.out.below hS.2.2.2 HAB'.out;go_simp;try with_reducible rfl);simp only [put9])
            refine plan_call (.int .i64 cv2) 235 #[W y,W z] rfl rfl rfl (fun _ _ h hb=>⟨row_call h.1 hb,row_call h.2.1 hb,row_call h.2.2.1 hb,h.2.2.2.trans (hb.mono h.2.2.2.size)⟩) (fun w' hS=>by obtain ⟨X0,X1,X2,X3,Xf0,Xf1,Xf2,Xf3⟩:=row_four hS.1;obtain ⟨G0,G1,Gf0,Gf1⟩:=row_two hS.2.1;obtain ⟨Q0,Q1,Qf0,Qf1⟩:=row_two hS.2.2.1;obtain ⟨q0,q1⟩:=MY.out.below hS.2.2.2 HAB'.out;go_simp) (fun w' hS=>PC2.out w') ?_
            simp only [put9]
            (refine plan_pure ?_ rfl rfl (fun w'=>?_) ?_;rotate_left;(go_simp;try with_reducible rfl);simp only [put9])
            refine plan_nil ?_
            intro w7 L7
            simp only [List.drop_succ_cons,List.drop_zero]
            try simp only [put9]
            clear M1 M2 M3 M4
            obtain ⟨_,_,_,L3⟩:=L7
            go_wp2
            go_ret
            exact ⟨ret_i64P E.out.symm,L3⟩
          · obtain ⟨cv2,hcv2,cv2c⟩:∃ q,cmp y z=q∧¬ 0<q:=⟨_,rfl,by unfold cmp;split<;>first | decide | (split<;>first | decide | (exfalso;omega))⟩
            have PC2:=fun w=>pcmp_any y z w
            rw [hcv2] at PC2
            have PC2:=Lib.hid PC2
            clear hcv2
            have HB:=Lib.hid (fun e (he:e<k+1+1)=>by
              rcases Nat.lt_or_ge e (k+1) with g | g
              · exact HA.out e g
              · rw [show e=k+1 by omega];exact linkOK_yes (a:=av) (.inr (by rw [show k+1-1=k from rfl,HX.out,HY.out];rw [HZ.out];omega)))
            go_upto_region 7 with (fail)
            clear X0 X1 X2 X3 Xf0 Xf1 Xf2 Xf3
            refine wp_region_free0 [0,1,2,3,4,5,6,7,8,9,10,11] [] [0,1,2,3,4,5,6,7,8,9,10,11] 12 (fun w'=>Row w' (w.heap.size) 42 #[.int .i64 p, .int .i64 land, .int .i64 now, .slice (some ad') n c]∧Row w' (ab) 67 #[.int .u64 (hi av), .int .u64 (lo av)]∧Below w.heap.size w w') (by kernel_rfl) (by kernel_rfl) (fun _ _ d _ _ h=>by cases d<;>exact h) ?_ ?_
            · exact ⟨L1,L2,L3.drew⟩
            (refine plan_pure ?_ rfl rfl (fun w'=>?_) ?_;rotate_left;(go_simp;try with_reducible rfl);simp only [put9])
            (refine plan_val ?_ rfl rfl rfl (fun w' hS=>?_) ?_;rotate_left;(obtain ⟨X0,X1,X2,X3,Xf0,Xf1,Xf2,Xf3⟩:=row_four hS.1;obtain ⟨G0,G1,Gf0,Gf1⟩:=row_two hS.2.1;obtain ⟨p0,p1⟩:=MX.out.below hS.2.2 HAB.out;obtain ⟨q0,q1⟩:=MY.out.below hS.2.2 HAB'.out;go_simp;try with_reducible rfl);simp only [put9])
            (refine plan_pure ?_ rfl rfl (fun w'=>?_) ?_;rotate_left;(go_simp;try with_reducible rfl);simp only [put9])
            (refine plan_pure ?_ rfl rfl (fun w'=>?_) ?_;rotate_left;(go_simp;try with_reducible rfl);simp only [put9])
            (refine plan_pure ?_ rfl rfl (fun w'=>?_) ?_;rotate_left;(go_simp;try with_reducible rfl);simp only [put9])
            (refine plan_val ?_ rfl rfl rfl (fun w' hS=>?_) ?_;rotate_left;(obtain ⟨X0,X1,X2,X3,Xf0,Xf1,Xf2,Xf3⟩:=row_four hS.1;obtain ⟨G0,G1,Gf0,Gf1⟩:=row_two hS.2.1;obtain ⟨p0,p1⟩:=MX.out.below hS.2.2 HAB.out;obtain ⟨q0,q1⟩:=MY.out.below hS.2.2 HAB'.out;go_simp;try with_reducible rfl);simp only [put9])
            (refine plan_pure ?_ rfl rfl (fun w'=>?_) ?_;rotate_left;(go_simp;try with_reducible rfl);simp only [put9])
            (refine plan_val ?_ rfl rfl rfl (fun w' hS=>?_) ?_;rotate_left;(obtain ⟨X0,X1,X2,X3,Xf0,Xf1,Xf2,Xf3⟩:=row_four hS.1;obtain ⟨G0,G1,Gf0,Gf1⟩:=row_two hS.2.1;obtain ⟨p0,p1⟩:=MX.out.below hS.2.2 HAB.out;obtain ⟨q0,q1⟩:=MY.out.below hS.2.2 HAB'.out;go_simp;try with_reducible rfl);simp only [put9])
            (refine plan_pure ?_ rfl rfl (fun w'=>?_) ?_;rotate_left;(go_simp;try with_reducible rfl);simp only [put9])
            (refine plan_pure ?_ rfl rfl (fun w'=>?_) ?_;rotate_left;(go_simp;try with_reducible rfl);simp only [put9])
            (refine plan_val ?_ rfl rfl rfl (fun w' hS=>?_) ?_;rotate_left;(obtain ⟨X0,X1,X2,X3,Xf0,Xf1,Xf2,Xf3⟩:=row_four hS.1;obtain ⟨G0,G1,Gf0,Gf1⟩:=row_two hS.2.1;obtain ⟨p0,p1⟩:=MX.out.below hS.2.2 HAB.out;obtain ⟨q0,q1⟩:=MY.out.below hS.2.2 HAB'.out;go_simp;try with_reducible rfl);simp only [put9])
            refine plan_call (.int .i64 cv) 235 #[W x,W y] rfl rfl rfl (fun _ _ h hb=>⟨row_call h.1 hb,row_call h.2.1 hb,h.2.2.trans (hb.mono h.2.2.size)⟩) (fun w' hS=>by obtain ⟨X0,X1,X2,X3,Xf0,Xf1,Xf2,Xf3⟩:=row_four hS.1;obtain ⟨G0,G1,Gf0,Gf1⟩:=row_two hS.2.1;obtain ⟨p0,p1⟩:=MX.out.below hS.2.2 HAB.out;obtain ⟨q0,q1⟩:=MY.out.below hS.2.2 HAB'.out;go_simp) (fun w' hS=>PC.out w') ?_
            simp only [put9]
            refine plan_nil ?_
            intro w3 L4
            simp only [List.drop_succ_cons,List.drop_zero]
            try simp only [put9]
            clear L1 L2 L3
            obtain ⟨L1,L2,L3⟩:=L4
            go_upto_region 9 with (fail)
            refine wp_region_free1 [0,1,2,3,4,5,6,7,8,10,9] [10] [0,1,2,3,4,5,6,7,8,9,11] (11,67,#[.int .u64 0, .int .u64 0]) 5 12 (fun w'=>Row w' (w.heap.size) 42 #[.int .i64 p, .int .i64 land, .int .i64 now, .slice (some ad') n c]∧Row w' (ab) 67 #[.int .u64 (hi av), .int .u64 (lo av)]∧Below w.heap.size w w') (by kernel_rfl) (by kernel_rfl) ⟨_,_,rfl,rfl,rfl,fun ρ w'=>by go_simp⟩ rfl (by simp) (fun _ h=>⟨row_alloc h.1 _,row_alloc h.2.1 _,h.2.2.alloc h.2.2.size _⟩) (fun _ _ d _ _ h=>by cases d<;>exact h) ?_ ?_
            · exact ⟨L1,L2,L3.drew⟩
            (refine plan_pure ?_ rfl rfl (fun w'=>?_) ?_;rotate_left;(go_simp;try with_reducible rfl);simp only [put9])
            (refine plan_val ?_ rfl rfl rfl (fun w' hS=>?_) ?_;rotate_left;(obtain ⟨X0,X1,X2,X3,Xf0,Xf1,Xf2,Xf3⟩:=row_four hS.1;obtain ⟨G0,G1,Gf0,Gf1⟩:=row_two hS.2.1;obtain ⟨p0,p1⟩:=MX.out.below hS.2.2 HAB.out;go_simp;try with_reducible rfl);simp only [put9])
            (refine plan_pure ?_ rfl rfl (fun w'=>?_) ?_;rotate_left;(go_simp;try with_reducible rfl);simp only [put9])
            (refine plan_pure ?_ rfl rfl (fun w'=>?_) ?_;rotate_left;(go_simp;try with_reducible rfl);simp only [put9])
            (refine plan_pure ?_ rfl rfl (fun w'=>?_) ?_;rotate_left;(go_simp;try with_reducible rfl);simp only [put9])
            (refine plan_val ?_ rfl rfl rfl (fun w' hS=>?_) ?_;rotate_left;(obtain ⟨X0,X1,X2,X3,Xf0,Xf1,Xf2,Xf3⟩:=row_four hS.1;obtain ⟨G0,G1,Gf0,Gf1⟩:=row_two hS.2.1;obtain ⟨p0,p1⟩:=MX.out.below hS.2.2 HAB.out;go_simp;try with_reducible rfl);simp only [put9])
            (refine plan_val ?_ rfl rfl rfl (fun w' hS=>?_) ?_;rotate_left;(obtain ⟨X0,X1,X2,X3,Xf0,Xf1,Xf2,Xf3⟩:=row_four hS.1;obtain ⟨G0,G1,Gf0,Gf1⟩:=row_two hS.2.1;obtain ⟨p0,p1⟩:=MX.out.below hS.2.2 HAB.out;go_simp;try with_reducible rfl);simp only [put9])
            refine plan_call (.tuple #[W z, .bool true]) 79 #[W x,W av] rfl rfl rfl (fun _ _ h hb=>⟨row_call h.1 hb,row_call h.2.1 hb,h.2.2.trans (hb.mono h.2.2.size)⟩) (fun w' hS=>by obtain ⟨X0,X1,X2,X3,Xf0,Xf1,Xf2,Xf3⟩:=row_four hS.1;obtain ⟨G0,G1,Gf0,Gf1⟩:=row_two hS.2.1;obtain ⟨p0,p1⟩:=MX.out.below hS.2.2 HAB.out;go_simp) (fun w' hS=>PM.out w') ?_
            simp only [put9]
            (refine plan_pure ?_ rfl rfl (fun w'=>?_) ?_;rotate_left;(go_simp;try with_reducible rfl);simp only [put9])
            (refine plan_pure ?_ rfl rfl (fun w'=>?_) ?_;rotate_left;(go_simp;try with_reducible rfl);simp only [put9])
            (refine plan_pure ?_ rfl rfl (fun w'=>?_) ?_;rotate_left;(go_simp;try with_reducible rfl);simp only [put9])
            refine plan_nil ?_
            intro g8 w5 L5 hr8 hg8
            simp only [List.drop_succ_cons,List.drop_zero]
            try simp only [put9]
            have z0:=row_lt L1
            have z1:=row_lt L2
            clear L1 L2 L3
            obtain ⟨Q0,Q1,Qf0,Qf1⟩:=row_two hr8
            have ng:g8≠w.heap.size:=by omega
            have ng1:g8≠ab:=by omega
            go_upto_region 10 with (fail)
            clear Q0 Q1 Qf0 Qf1
            have M1:=row_two_other (u := .int .u64 (hi z)) (v := .int .u64 (lo z)) L5.1 ng.symm
            have M2:=row_two_other (u := .int .u64 (hi z)) (v := .int .u64 (lo z)) L5.2.1 ng1.symm
            have M3:=row_two_set (u := .int .u64 (hi z)) (v := .int .u64 (lo z)) hr8
            have M4:Below w.heap.size w ((w5.setCell ⟨g8,0,none⟩ (.int .u64 (hi z))).setCell ⟨g8,1,none⟩ (.int .u64 (lo z))):=(L5.2.2.setCell (by show w.heap.size≤g8;omega) _).setCell (by show w.heap.size≤g8;omega) _
            generalize ((w5.setCell ⟨g8,0,none⟩ (.int .u64 (hi z))).setCell ⟨g8,1,none⟩ (.int .u64 (lo z)))=w6 at M1 M2 M3 M4 ⊢
            clear L5 hr8
            refine wp_region_free0 [0,1,2,3,4,5,6,7,8,9] [] [0,1,2,3,4,5,6,7,8,9] 10 (fun w'=>Row w' (w.heap.size) 42 #[.int .i64 p, .int .i64 land, .int .i64 now, .slice (some ad') n c]∧Row w' (ab) 67 #[.int .u64 (hi av), .int .u64 (lo av)]∧Row w' (g8) 67 #[.int .u64 (hi z), .int .u64 (lo z)]∧Below w.heap.size w w') (by kernel_rfl) (by kernel_rfl) (fun _ _ d _ _ h=>by cases d<;>exact h) ?_ ?_
            · exact ⟨M1,M2,M3,M4.drew⟩
            (refine plan_pure ?_ rfl rfl (fun w'=>?_) ?_;rotate_left;(go_simp;try with_reducible rfl);simp only [put9])
            (refine plan_pure ?_ rfl rfl (fun w'=>?_) ?_;rotate_left;(go_simp;try with_reducible rfl);simp only [put9])
            (refine plan_pure ?_ rfl rfl (fun w'=>?_) ?_;rotate_left;(go_simp;try with_reducible rfl);simp only [put9])
            (refine plan_val ?_ rfl rfl rfl (fun w' hS=>?_) ?_;rotate_left;(obtain ⟨X0,X1,X2,X3,Xf0,Xf1,Xf2,Xf3⟩:=row_four hS.1;obtain ⟨G0,G1,Gf0,Gf1⟩:=row_two hS.2.1;obtain ⟨Q0,Q1,Qf0,Qf1⟩:=row_two hS.2.2.1;obtain ⟨q0,q1⟩:=MY.out.below hS.2.2.2 HAB'.out;go_simp;try with_reducible rfl);simp only [put9])
            (refine plan_pure ?_ rfl rfl (fun w'=>?_) ?_;rotate_left;(go_simp;try with_reducible rfl);simp only [put9])
            (refine plan_pure ?_ rfl rfl (fun w'=>?_) ?_;rotate_left;(go_simp;try with_reducible rfl);simp only [put9])
            (refine plan_val ?_ rfl rfl rfl (fun w' hS=>?_) ?_;rotate_left;(obtain ⟨X0,X1,X2,X3,Xf0,Xf1,Xf2,Xf3⟩:=row_four hS.1;obtain ⟨G0,G1,Gf0,Gf1⟩:=row_two hS.2.1;obtain ⟨Q0,Q1,Qf0,Qf1⟩:=row_two hS.2.2.1;obtain ⟨q0,q1⟩:=MY.out.below hS.2.2.2 HAB'.out;go_simp;try with_reducible rfl);simp only [put9])
            (refine plan_val ?_ rfl rfl rfl (fun w' hS=>?_) ?_;rotate_left;(obtain ⟨X0,X1,X2,X3,Xf0,Xf1,Xf2,Xf3⟩:=row_four hS.1;obtain ⟨G0,G1,Gf0,Gf1⟩:=row_two hS.2.1;obtain ⟨Q0,Q1,Qf0,Qf1⟩:=row_two hS.2.2.1;obtain ⟨q0,q1⟩:=MY.out.below hS.2.2.2 HAB'.out;go_simp;try with_reducible rfl);simp only [put9])
            refine plan_call (.int .i64 cv2) 235 #[W y,W z] rfl rfl rfl (fun _ _ h hb=>⟨row_call h.1 hb,row_call h.2.1 hb,row_call h.2.2.1 hb,h.2.2.2.trans (hb.mono h.2.2.2.size)⟩) (fun w' hS=>by obtain ⟨X0,X1,X2,X3,Xf0,Xf1,Xf2,Xf3⟩:=row_four hS.1;obtain ⟨G0,G1,Gf0,Gf1⟩:=row_two hS.2.1;obtain ⟨Q0,Q1,Qf0,Qf1⟩:=row_two hS.2.2.1;obtain ⟨q0,q1⟩:=MY.out.below hS.2.2.2 HAB'.out;go_simp) (fun w' hS=>PC2.out w') ?_
            simp only [put9]
            (refine plan_pure ?_ rfl rfl (fun w'=>?_) ?_;rotate_left;(go_simp;try with_reducible rfl);simp only [put9])
            refine plan_nil ?_
            intro w7 L7
            simp only [List.drop_succ_cons,List.drop_zero]
            try simp only [put9]
            clear M1 M2 M3 M4
            obtain ⟨N1,N2,_,N3⟩:=L7
            go_wp2
            go_roundw
            case rel=>exact ⟨k+1,by omega,by go_num,HB,N1,N2,N3⟩
            case measure=>simp [intOf];omega
        · obtain ⟨v1,v2⟩:=mulV_no c2
          rw [v1,v2] at PM0
          have PM:=Lib.hid PM0
          clear PM0 v1 v2
          have HB:=Lib.hid (fun e (he:e<k+1+1)=>by
            rcases Nat.lt_or_ge e (k+1) with g | g
            · exact HA.out e g
            · rw [show e=k+1 by omega];exact linkOK_yes (a:=av) (.inr (by rw [show k+1-1=k from rfl,HX.out,HY.out];refine ⟨by omega,?_⟩;exact Nat.le_of_lt (Nat.lt_of_lt_of_le by_ (Nat.le_of_not_lt c2)))))
          go_upto_region 7 with (fail)
          clear X0 X1 X2 X3 Xf0 Xf1 Xf2 Xf3
          refine wp_region_free0 [0,1,2,3,4,5,6,7,8,9,10,11] [] [0,1,2,3,4,5,6,7,8,9,10,11] 12 (fun w'=>Row w' (w.heap.size) 42 #[.int .i64 p, .int .i64 land, .int .i64 now, .slice (some ad') n c]∧Row w' (ab) 67 #[.int .u64 (hi av), .int .u64 (lo av)]∧Below w.heap.size w w') (by kernel_rfl) (by kernel_rfl) (fun _ _ d _ _ h=>by cases d<;>exact h) ?_ ?_
          · exact ⟨L1,L2,L3.drew⟩
          (refine plan_pure ?_ rfl rfl (fun w'=>?_) ?_;rotate_left;(go_simp;try with_reducible rfl);simp only [put9])
          (refine plan_val ?_ rfl rfl rfl (fun w' hS=>?_) ?_;rotate_left;(obtain ⟨X0,X1,X2,X3,Xf0,Xf1,Xf2,Xf3⟩:=row_four hS.1;obtain ⟨G0,G1,Gf0,Gf1⟩:=row_two hS.2.1;obtain ⟨p0,p1⟩:=MX.out.below hS.2.2 HAB.out;obtain ⟨q0,q1⟩:=MY.out.below hS.2.2 HAB'.out;go_simp;try with_reducible rfl);simp only [put9])
          (refine plan_pure ?_ rfl rfl (fun w'=>?_) ?_;rotate_left;(go_simp;try with_reducible rfl);simp only [put9])
          (refine plan_pure ?_ rfl rfl (fun w'=>?_) ?_;rotate_left;(go_simp;try with_reducible rfl);simp only [put9])
          (refine plan_pure ?_ rfl rfl (fun w'=>?_) ?_;rotate_left;(go_simp;try with_reducible rfl);simp only [put9])
          (refine plan_val ?_ rfl rfl rfl (fun w' hS=>?_) ?_;rotate_left;(obtain ⟨X0,X1,X2,X3,Xf0,Xf1,Xf2,Xf3⟩:=row_four hS.1;obtain ⟨G0,G1,Gf0,Gf1⟩:=row_two hS.2.1;obtain ⟨p0,p1⟩:=MX.out.below hS.2.2 HAB.out;obtain ⟨q0,q1⟩:=MY.out.below hS.2.2 HAB'.out;go_simp;try with_reducible rfl);simp only [put9])
          (refine plan_pure ?_ rfl rfl (fun w'=>?_) ?_;rotate_left;(go_simp;try with_reducible rfl);simp only [put9])
          (refine plan_val ?_ rfl rfl rfl (fun w' hS=>?_) ?_;rotate_left;(obtain ⟨X0,X1,X2,X3,Xf0,Xf1,Xf2,Xf3⟩:=row_four hS.1;obtain ⟨G0,G1,Gf0,Gf1⟩:=row_two hS.2.1;obtain ⟨p0,p1⟩:=MX.out.below hS.2.2 HAB.out;obtain ⟨q0,q1⟩:=MY.out.below hS.2.2 HAB'.out;go_simp;try with_reducible rfl);simp only [put9])
          (refine plan_pure ?_ rfl rfl (fun w'=>?_) ?_;rotate_left;(go_simp;try with_reducible rfl);simp only [put9])
          (refine plan_pure ?_ rfl rfl (fun w'=>?_) ?_;rotate_left;(go_simp;try with_reducible rfl);simp only [put9])
          (refine plan_val ?_ rfl rfl rfl (fun w' hS=>?_) ?_;rotate_left;(obtain ⟨X0,X1,X2,X3,Xf0,Xf1,Xf2,Xf3⟩:=row_four hS.1;obtain ⟨G0,G1,Gf0,Gf1⟩:=row_two hS.2.1;obtain ⟨p0,p1⟩:=MX.out.below hS.2.2 HAB.out;obtain ⟨q0,q1⟩:=MY.out.below hS.2.2 HAB'.out;go_simp;try with_reducible rfl);simp only [put9])
          refine plan_call (.int .i64 cv) 235 #[W x,W y] rfl rfl rfl (fun _ _ h hb=>⟨row_call h.1 hb,row_call h.2.1 hb,h.2.2.trans (hb.mono h.2.2.size)⟩) (fun w' hS=>by obtain ⟨X0,X1,X2,X3,Xf0,Xf1,Xf2,Xf3⟩:=row_four hS.1;obtain ⟨G0,G1,Gf0,Gf1⟩:=row_two hS.2.1;obtain ⟨p0,p1⟩:=MX.out.below hS.2.2 HAB.out;obtain ⟨q0,q1⟩:=MY.out.below hS.2.2 HAB'.out;go_simp) (fun w' hS=>PC.out w') ?_
          simp only [put9]
          refine plan_nil ?_
          intro w3 L4
          simp only [List.drop_succ_cons,List.drop_zero]
          try simp only [put9]
          clear L1 L2 L3
          obtain ⟨L1,L2,L3⟩:=L4
          go_upto_region 9 with (fail)
          refine wp_region_free1 [0,1,2,3,4,5,6,7,8,10,9] [10] [0,1,2,3,4,5,6,7,8,9,11] (11,67,#[.int .u64 0, .int .u64 0]) 5 12 (fun w'=>Row w' (w.heap.size) 42 #[.int .i64 p, .int .i64 land, .int .i64 now, .slice (some ad') n c]∧Row w' (ab) 67 #[.int .u64 (hi av), .int .u64 (lo av)]∧Below w.heap.size w w') (by kernel_rfl) (by kernel_rfl) ⟨_,_,rfl,rfl,rfl,fun ρ w'=>by go_simp⟩ rfl (by simp) (fun _ h=>⟨row_alloc h.1 _,row_alloc h.2.1 _,h.2.2.alloc h.2.2.size _⟩) (fun _ _ d _ _ h=>by cases d<;>exact h) ?_ ?_
          · exact ⟨L1,L2,L3.drew⟩
          (refine plan_pure ?_ rfl rfl (fun w'=>?_) ?_;rotate_left;(go_simp;try with_reducible rfl);simp only [put9])
          (refine plan_val ?_ rfl rfl rfl (fun w' hS=>?_) ?_;rotate_left;(obtain ⟨X0,X1,X2,X3,Xf0,Xf1,Xf2,Xf3⟩:=row_four hS.1;obtain ⟨G0,G1,Gf0,Gf1⟩:=row_two hS.2.1;obtain ⟨p0,p1⟩:=MX.out.below hS.2.2 HAB.out;go_simp;try with_reducible rfl);simp only [put9])
          (refine plan_pure ?_ rfl rfl (fun w'=>?_) ?_;rotate_left;(go_simp;try with_reducible rfl);simp only [put9])
          (refine plan_pure ?_ rfl rfl (fun w'=>?_) ?_;rotate_left;(go_simp;try with_reducible rfl);simp only [put9])
          (refine plan_pure ?_ rfl rfl (fun w'=>?_) ?_;rotate_left;(go_simp;try with_reducible rfl);simp only [put9])
          (refine plan_val ?_ rfl rfl rfl (fun w' hS=>?_) ?_;rotate_left;(obtain ⟨X0,X1,X2,X3,Xf0,Xf1,Xf2,Xf3⟩:=row_four hS.1;obtain ⟨G0,G1,Gf0,Gf1⟩:=row_two hS.2.1;obtain ⟨p0,p1⟩:=MX.out.below hS.2.2 HAB.out;go_simp;try with_reducible rfl);simp only [put9])
          (refine plan_val ?_ rfl rfl rfl (fun w' hS=>?_) ?_;rotate_left;(obtain ⟨X0,X1,X2,X3,Xf0,Xf1,Xf2,Xf3⟩:=row_four hS.1;obtain ⟨G0,G1,Gf0,Gf1⟩:=row_two hS.2.1;obtain ⟨p0,p1⟩:=MX.out.below hS.2.2 HAB.out;go_simp;try with_reducible rfl);simp only [put9])
          refine plan_call (.tuple #[W 0, .bool false]) 79 #[W x,W av] rfl rfl rfl (fun _ _ h hb=>⟨row_call h.1 hb,row_call h.2.1 hb,h.2.2.trans (hb.mono h.2.2.size)⟩) (fun w' hS=>by obtain ⟨X0,X1,X2,X3,Xf0,Xf1,Xf2,Xf3⟩:=row_four hS.1;obtain ⟨G0,G1,Gf0,Gf1⟩:=row_two hS.2.1;obtain ⟨p0,p1⟩:=MX.out.below hS.2.2 HAB.out;go_simp) (fun w' hS=>PM.out w') ?_
          simp only [put9]
          (refine plan_pure ?_ rfl rfl (fun w'=>?_) ?_;rotate_left;(go_simp;try with_reducible rfl);simp only [put9])
          (refine plan_pure ?_ rfl rfl (fun w'=>?_) ?_;rotate_left;(go_simp;try with_reducible rfl);simp only [put9])
          (refine plan_pure ?_ rfl rfl (fun w'=>?_) ?_;rotate_left;(go_simp;try with_reducible rfl);simp only [put9])
          refine plan_nil ?_
          intro g8 w5 L5 hr8 hg8
          simp only [List.drop_succ_cons,List.drop_zero]
          try simp only [put9]
          have z0:=row_lt L1
          have z1:=row_lt L2
          clear L1 L2 L3
          obtain ⟨Q0,Q1,Qf0,Qf1⟩:=row_two hr8
          have ng:g8≠w.heap.size:=by omega
          have ng1:g8≠ab:=by omega
          go_upto_region 10 with (fail)
          clear Q0 Q1 Qf0 Qf1
          have M1:=row_two_other (u := .int .u64 (hi 0)) (v := .int .u64 (lo 0)) L5.1 ng.symm
          have M2:=row_two_other (u := .int .u64 (hi 0)) (v := .int .u64 (lo 0)) L5.2.1 ng1.symm
          have M3:=row_two_set (u := .int .u64 (hi 0)) (v := .int .u64 (lo 0)) hr8
          have M4:Below w.heap.size w ((w5.setCell ⟨g8,0,none⟩ (.int .u64 (hi 0))).setCell ⟨g8,1,none⟩ (.int .u64 (lo 0))):=(L5.2.2.setCell (by show w.heap.size≤g8;omega) _).setCell (by show w.heap.size≤g8;omega) _
          generalize ((w5.setCell ⟨g8,0,none⟩ (.int .u64 (hi 0))).setCell ⟨g8,1,none⟩ (.int .u64 (lo 0)))=w6 at M1 M2 M3 M4 ⊢
          clear L5 hr8
          refine wp_region_free0 [0,1,2,3,4,5,6,7,8,9] [] [0,1,2,3,4,5,6,7,8,9] 10 (fun w'=>Row w' (w.heap.size) 42 #[.int .i64 p, .int .i64 land, .int .i64 now, .slice (some ad') n c]∧Row w' (ab) 67 #[.int .u64 (hi av), .int .u64 (lo av)]∧Row w' (g8) 67 #[.int .u64 (hi 0), .int .u64 (lo 0)]∧Below w.heap.size w w') (by kernel_rfl) (by kernel_rfl) (fun _ _ d _ _ h=>by cases d<;>exact h) ?_ ?_
          · exact ⟨M1,M2,M3,M4.drew⟩
          (refine plan_pure ?_ rfl rfl (fun w'=>?_) ?_;rotate_left;(go_simp;try with_reducible rfl);simp only [put9])
          (refine plan_pure ?_ rfl rfl (fun w'=>?_) ?_;rotate_left;(go_simp;try with_reducible rfl);simp only [put9])
          refine plan_not rfl rfl ?_
          simp only [put9]
          refine plan_not rfl rfl ?_
          simp only [put9]
          refine plan_not rfl rfl ?_
          simp only [put9]
          refine plan_not rfl rfl ?_
          simp only [put9]
          refine plan_not rfl rfl ?_
          simp only [put9]
          refine plan_not rfl rfl ?_
          simp only [put9]
          refine plan_not rfl rfl ?_
          simp only [put9]
          refine plan_not rfl rfl ?_
          simp only [put9]
          refine plan_nil ?_
          intro w7 L7
          simp only [List.drop_succ_cons,List.drop_zero]
          try simp only [put9]
          clear M1 M2 M3 M4
          obtain ⟨N1,N2,_,N3⟩:=L7
          go_wp2
          go_roundw
          case rel=>exact ⟨k+1,by omega,by go_num,HB,N1,N2,N3⟩
          case measure=>simp [intOf];omega
    · have i1:¬ (k:Int)+1≤p:=by have:=HH.out;omega
      have E:=Lib.hid (pvalE_yes (p:=p) (land:=land) (now:=now) (ms:=ms) ⟨h1,h2,h3,h4,h5,h6,by rw [e1.out];exact HH.out,fun i hi=>by rw [HAV.out];exact HA.out i (by rw [e1.out] at hi;omega)⟩)
      go_wp2
      go_ret
      exact ⟨ret_i64P E.out.symm,L3⟩
theorem ppval (p land now:Int) (A:Option Addr) (n c:Nat) (ms:List Nat) (w:World) (hin:PIn p land now A n c ms w):Calls Tryz.prog 142 #[.agg #[.int .i64 p, .int .i64 land, .int .i64 now, .slice A n c]] w fun e w'=>e = .returned (.int .i64 (pvalE p land now ms))∧Below w.heap.size w w':=by
  by_cases h1:p<0
  · exact ppval_p0 p land now A n c ms w hin h1
  · by_cases h2:4<p
    · exact ppval_p1 p land now A n c ms w hin h2
    · by_cases h3:now<0
      · exact ppval_n0 p land now A n c ms w hin (by omega) (by omega) h3
      · by_cases h4:16777216<now
        · exact ppval_n1 p land now A n c ms w hin (by omega) (by omega) h4
        · by_cases h5:land<0
          · exact ppval_l0 p land now A n c ms w hin (by omega) (by omega) (by omega) (by omega) h5
          · by_cases h6:now<land
            · exact ppval_l1 p land now A n c ms w hin (by omega) (by omega) (by omega) (by omega) (by omega) h6
            · by_cases h7:(n:Int)=p+1
              · exact ppval_main p land now A n c ms w hin (by omega) (by omega) (by omega) (by omega) (by omega) (by omega) h7
              · exact ppval_len p land now A n c ms w hin (by omega) (by omega) (by omega) (by omega) (by omega) (by omega) h7
end Go.Proofs.YtdipoojjlddohaaGreat
end
