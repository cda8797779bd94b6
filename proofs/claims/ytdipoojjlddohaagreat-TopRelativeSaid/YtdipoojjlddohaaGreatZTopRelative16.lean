/- What the law TopRelative needs, joined of its texts by a program (slim2.py); part 16. -/
import Derived.Test.YtdipoojjlddohaaGreatZTopRelative1
import Derived.Test.YtdipoojjlddohaaGreatZTopRelative3
import Derived.Test.YtdipoojjlddohaaGreatZTopRelative4
import Derived.Test.YtdipoojjlddohaaGreatZTopRelative5
import Derived.Test.YtdipoojjlddohaaGreatZTopRelative12
import Derived.Test.YtdipoojjlddohaaGreatZTopRelative15
set_option linter.unusedVariables false
set_option linter.unusedSimpArgs false
set_option linter.unusedSectionVars false
set_option linter.unnecessarySimpa false
set_option maxRecDepth 100000
namespace Go.Proofs.YtdipoojjlddohaaGreat
open MC
open MT
open Go.RowKit
theorem pbtick (x:Int) (w:World) (h0:0<=x) (h1:x<=16777216):Calls Tryz.prog 267 #[x] w (Rd (.bool true) w):=by
  go_enter Tryz.func267,Tryz.ntmps267;go_wp2_with fail;go_ret;exact ⟨by first | rfl | exact ret_bool (by simp;omega) | exact ret_bool (by simp [*]),rfl⟩
theorem pblevel (x:Int) (w:World) (h0:0<=x) (h1:x<=30):Calls Tryz.prog 228 #[x] w (Rd (.bool true) w):=by
  go_enter Tryz.func228,Tryz.ntmps228;go_wp2_with fail;go_ret;exact ⟨by first | rfl | exact ret_bool (by simp;omega) | exact ret_bool (by simp [*]),rfl⟩
def manyA (l:List Bk) (j:Nat):Array Value:=((List.range 31).map fun x=>Value.int .i64 (cnt (l.take j) x:Nat)).toArray
theorem many_zero (l:List Bk):manyA l 0=J27:=rfl
theorem many_at (l:List Bk) (j x:Nat) (hx:x<=30):(manyA l j)[x]?=some (.int .i64 (cnt (l.take j) x:Nat)):=by
  unfold manyA;rw [List.getElem?_toArray,List.getElem?_map,List.getElem?_range (by omega)];rfl
theorem many_step {l:List Bk} {j:Nat} (hj:j<l.length):(manyA l j).setIfInBounds (bkAt l j).lv (.int .i64 ((cnt (l.take j) (bkAt l j).lv:Nat)+1:Int))=manyA l (j+1):=by
  apply Array.ext_getElem?;intro i;by_cases hi:i<=30
  · rw [many_at _ _ _ hi,Array.getElem?_setIfInBounds];have hs:i<(manyA l j).size:=by unfold manyA;simp;omega
    rw [take_bk hj,cnt_append,cnt_cons,cnt_nil];by_cases h:(bkAt l j).lv=i
    · rw [if_pos h,if_pos (h ▸ hs),if_pos h,h];simp
    · rw [if_neg h,if_neg h,many_at _ _ _ hi];simp
  · rw [Array.getElem?_eq_none (by unfold manyA;simp;omega),Array.getElem?_eq_none (by unfold manyA;simp;omega)]
set_option maxRecDepth 100000 in
set_option maxHeartbeats 4000000 in
theorem pbvalidL (A:Option Addr) (m c:Nat) (l:List Bk) (k:Nat) (w:World) (hin:BIn A m c l w) (hv:BV k l) (hk:1<=k/\k<=128) (hm:m<=1000000) :
    Calls Tryz.prog 227 #[.slice A m c, .int .i64 (k:Nat)] w (Rr (.bool true) w):=by
  have HR:=Lib.hid hin;have HL:=Lib.hid hin.len;have HV:=Lib.hid hv;have k1:¬ (k:Int)<1:=by omega
  have k2:¬ 128<(k:Int):=by omega
  clear hin hv;go_enter Tryz.func227,Tryz.ntmps227;go_upto_region 4 with (fail)
  have R:Row (w.alloc (.cells J27 361)) w.heap.size 361 (manyA l 0):=by rw [many_zero];exact row_new rfl
  have o:Below w w (w.alloc (.cells J27 361)):=bel9;generalize w.alloc (.cells J27 361)=w0 at R o |-
  go_wp2;go_loopw [6,7,18] (fun u6 u7 i wr=>∃ j:Nat,j<=m/\i = .int .i64 (j:Nat)/\Row wr w 361 (manyA l j)/\Below w w wr) (fun _ _ i _=>m-(intOf i).toNat)
  case atStart=>exact ⟨0,Nat.zero_le _,rfl,R,o⟩
  case round =>
    clear R o;obtain ⟨j,hj,rfl,R,o⟩:=hrel;by_cases hlt:j<m
    · obtain ⟨ad,rfl,hadb,hi0⟩:=HR.out.reads.bk hlt;obtain ⟨c0,c1⟩:=hi0.below o (by rw [block_of_add];exact hadb);have jl:j<l.length:=by rw [HL.out];exact hlt
      have tB:=HV.out.tick _ (bk_mem jl);have vB:=HV.out.lev _ (bk_mem jl);have ST:=many_step jl;have hma:=many_at l j _ vB;have PT:=fun w=>pbtick (bkAt l j).t w tB.1 tB.2;have PL:=fun w=>pblevel ((bkAt l j).lv:Nat) w (by omega) (by omega);have hcn:=Nat.le_trans (cnt_le (l.take j) (bkAt l j).lv) (show (l.take j).length<=1000000 by rw [List.length_take,HL.out];omega);have ORD:=fun p (hp:p<j)=>HV.out.asc (i:=p) (j:=j) hp jl;generalize cnt (l.take j) (bkAt l j).lv=cn at ST hma hcn;generalize (bkAt l j).t=tj at c0 tB PT ORD;generalize (bkAt l j).lv=lv at c1 vB ST hma PL ORD;replace ST:=Lib.hid ST;replace hma:=Lib.hid hma;replace PT:=Lib.hid PT;replace PL:=Lib.hid PL;have v1:(lv:Int)<31:=by omega
      have v0:(0:Int)<=(lv:Int):=by omega
      have i1:(j:Int)<(m:Int):=by omega
      have i2:(0:Int)<=(j:Int):=by omega
      have wc:IntKind.i64.wrap ((cn:Int)+1)=(cn:Int)+1:=IntWalk.i64_in _ (by omega);clear hi0 jl;by_cases j0:j=0
      · have jp:¬ (0:Int)<(j:Int):=by omega
        clear ORD j0;go_upto_region 9 with (first | (go_at_call 267;with_reducible refine (PT.out _).mono ?_;rintro e w9 ⟨rfl,h9⟩;obtain rfl:=h9.symm) | (go_at_call 228;with_reducible refine (PL.out _).mono ?_;rintro e w9 ⟨rfl,h9⟩;obtain rfl:=h9.symm))
        have B:Row (wr.alloc (.cells #[tj, .int .i64 (lv:Nat)] 318)) wr.heap.size 318 #[tj, .int .i64 (lv:Nat)]:=row_new rfl;replace R:=row_alloc R (.cells #[tj, .int .i64 (lv:Nat)] 318);replace o:=o.alloc o.size (.cells #[tj, .int .i64 (lv:Nat)] 318);generalize wr.alloc (.cells #[tj, .int .i64 (lv:Nat)] 318)=w1 at R B o |-
        generalize wr.heap.size=bb at B |-
        have jb:¬ 0<j:=by omega
        go_quiet (fail);replace R:Row (w1.drewN nq) w.heap.size 361 (manyA l j):=R;replace B:Row (w1.drewN nq) bb 318 #[tj, .int .i64 (lv:Nat)]:=B;replace o:Below w w (w1.drewN nq):=o.trans ⟨rfl,rfl,rfl,Nat.le_refl _,fun _ _=>rfl⟩;generalize w1.drewN nq=w2 at R B o |-
        have hat:=(row_cell R lv).trans hma.out;have hfr:=row_free R lv;obtain ⟨B0,B1,_,_⟩:=row_two B;go_wp2;go_roundw
        case rel=>exact ⟨j+1,by omega,by go_num,by rw [<- ST.out];exact row_set R _ _,o.setCell (p:=⟨w,lv,none⟩) (Nat.le_refl _) _⟩
        case measure=>simp [intOf];omega
      · have jp:(0:Int)<(j:Int):=by omega
        obtain ⟨p,hp⟩:∃ p:Nat,j=p+1:=⟨j-1,by omega⟩
        obtain ⟨ad',ea,_,ht1⟩:=HR.out.reads.bk (i:=p) (by omega);obtain rfl:ad=ad':=by injection ea
        obtain ⟨g0,g1⟩:=ORD p (by omega);obtain ⟨x,hx⟩:∃ x,bkAt l p=x:=⟨_,rfl⟩
        rw [hx] at ht1 g0 g1;obtain ⟨tp,lp⟩:=x;dsimp only at g0 g1;have g2:¬ (lp:Int)<(lv:Int):=by omega
        have g3:¬ tj<tp:=by omega
        have wj:IntKind.i64.wrap ((j:Int)-1)=(p:Int):=by rw [IntWalk.i64_in _ (by omega)];omega
        have p1:(p:Int)<(m:Int):=by omega
        have p0:(0:Int)<=(p:Int):=by omega
        have e1:=(Below.refl w.heap.size w)
        clear e1 ORD j0 ea hp hx;go_upto_region 9 with (first | (go_at_call 267;with_reducible refine (PT.out _).mono ?_;rintro e w9 ⟨rfl,h9⟩;obtain rfl:=h9.symm) | (go_at_call 228;with_reducible refine (PL.out _).mono ?_;rintro e w9 ⟨rfl,h9⟩;obtain rfl:=h9.symm))
        have B:Row (wr.alloc (.cells #[tj, .int .i64 (lv:Nat)] 318)) wr.heap.size 318 #[tj, .int .i64 (lv:Nat)]:=row_new rfl;replace R:=row_alloc R (.cells #[tj, .int .i64 (lv:Nat)] 318);replace o:=o.alloc o.size (.cells #[tj, .int .i64 (lv:Nat)] 318);generalize wr.alloc (.cells #[tj, .int .i64 (lv:Nat)] 318)=w1 at R B o |-
        generalize wr.heap.size=bb at B |-
        have jb:0<j:=by omega
        have gb3:decide (tj<tp)=false:=decide_eq_false (by omega);have gb2:decide ((lp:Int)<(lv:Int))=false:=decide_eq_false (by omega);obtain ⟨q0,q1⟩:=ht1.below o (by rw [block_of_add];exact hadb);dsimp only at q0 q1;obtain ⟨B0,B1,_,_⟩:=row_two B;go_quiet (fail);replace R:Row (w1.drewN nq) w.heap.size 361 (manyA l j):=R;replace B:Row (w1.drewN nq) bb 318 #[tj, .int .i64 (lv:Nat)]:=B;replace o:Below w w (w1.drewN nq):=o.trans ⟨rfl,rfl,rfl,Nat.le_refl _,fun _ _=>rfl⟩;clear q0 q1 B0 B1;generalize w1.drewN nq=w2 at R B o |-
        have hat:=(row_cell R lv).trans hma.out;have hfr:=row_free R lv;obtain ⟨B0,B1,_,_⟩:=row_two B;go_wp2;go_roundw
        case rel=>exact ⟨j+1,by omega,by go_num,by rw [<- ST.out];exact row_set R _ _,o.setCell (p:=⟨w,lv,none⟩) (Nat.le_refl _) _⟩
        case measure=>simp [intOf];omega
    · have i1:¬ (j:Int)<(m:Int):=by omega
      obtain rfl:j=m:=by omega
      have hle:=HL.out;by_cases m0:j=0
      · have m0b:((j:Int) == 0)=true:=by simp;omega
        clear R hle;go_wp2;go_ret;exact ⟨rfl,o⟩
      · have m0b:((j:Int) == 0)=false:=by simp;omega
        obtain ⟨ad,rfl,hadb,hi0⟩:=HR.out.reads.bk (i:=0) (by omega);have hi0:BkCells w ad (bkAt l 0):=hi0;obtain ⟨c0,c1⟩:=hi0.below o hadb;have vB:=HV.out.lev _ (bk_mem (l:=l) (i:=0) (by omega));have HMO:=Lib.hid HV.out.most;have HLE:=HV.out.least;unfold topL at HLE;generalize (bkAt l 0).lv=tp at c1 vB HLE;replace HLE:=Lib.hid HLE
        have MA:RowKit.Hid (∀ x,x<=30->(manyA l j)[x]?=some (.int .i64 (cnt l x:Nat))):=Lib.hid (fun x hx=>by
          rw [many_at _ _ _ hx,List.take_of_length_le (by omega)])
        have i0:(0:Int)<(j:Int):=by omega
        clear c0 hi0 hle;go_upto_region 16 with (fail)
        clear c1;go_wp2;go_loopw [9] (fun i wr=>∃ x:Nat,x<=tp+1/\i = .int .i64 (x:Nat)/\Row wr w 361 (manyA l j)/\Below w w wr) (fun i _=>tp+1-(intOf i).toNat)
        case atStart=>exact ⟨0,Nat.zero_le _,rfl,R,o⟩
        case round =>
          clear R o;obtain ⟨x,hx,rfl,R,o⟩:=hrel;by_cases hlt:x<=tp
          · have q1:(x:Int)<=(tp:Int):=by omega
            have hat:=(row_cell R x).trans (MA.out x (by omega));have mo:=HMO.out x;have ml:x<tp->k<=cnt l x:=HLE.out x;generalize cnt l x=cn at hat mo ml;have t1:¬ (k:Int)+1<(cn:Int):=by omega
            have wk:IntKind.i64.wrap ((k:Int)+1)=(k:Int)+1:=IntWalk.i64_in _ (by omega);have v1:(x:Int)<31:=by omega
            have v0:(0:Int)<=(x:Int):=by omega
            by_cases h2:x<tp
            · have h2':(x:Int)<(tp:Int):=by omega
              have t2:¬ (cn:Int)<(k:Int):=by have:=ml h2;omega
              go_wp2;go_roundw
              case rel=>exact ⟨x+1,by omega,by go_num,R,o⟩
              case measure=>simp [intOf];omega
            · have h2':¬ (x:Int)<(tp:Int):=by omega
              go_wp2;go_roundw
              case rel=>exact ⟨x+1,by omega,by go_num,R,o⟩
              case measure=>simp [intOf];omega
          · have q1:¬ (x:Int)<=(tp:Int):=by omega
            go_wp2;go_ret;exact ⟨rfl,o⟩
theorem btot_take {l:List Bk} {j:Nat} (h:j<l.length):btot (l.take (j+1))=btot (l.take j)+2 ^ (bkAt l j).lv:=by
  rw [take_bk h,tot_append];rfl
theorem btot_take_le (l:List Bk) (j:Nat):btot (l.take j)<=btot l:=by
  have:=tot_append (l.take j) (l.drop j);rw [List.take_append_drop] at this;omega
set_option maxRecDepth 100000 in
set_option maxHeartbeats 2000000 in
theorem pbtotal (A:Option Addr) (m c:Nat) (l:List Bk) (w:World) (hin:BIn A m c l w) (hv:∀ b∈l,b.lv<=30) (hT:btot l<=1073741824) :
    Calls Tryz.prog 210 #[.slice A m c] w (Rr (.int .i64 (btot l:Nat)) w):=by
  have HR:=Lib.hid hin;have HL:=Lib.hid hin.len;have HV:=Lib.hid hv;have hmB:m<=9223372036854775807:=by have:=hin.mc;have:=hin.cB;unfold maxLen at *;omega
  clear hin hv;have hT2:=fun j=>Nat.le_trans (btot_take_le l j) hT;replace hT2:=Lib.hid hT2;generalize hN:btot l=N;replace hN:=Lib.hid hN;clear hT;go_enter Tryz.func210,Tryz.ntmps210;go_wp2;go_loopw [3,5,8] (fun n u5 i wr=>∃ j:Nat,j<=m/\i = .int .i64 (j:Nat)/\n = .int .i64 (btot (l.take j):Nat)/\Below w w wr) (fun _ _ i _=>m-(intOf i).toNat)
  case atStart=>exact ⟨0,Nat.zero_le _,rfl,rfl,Below.refl _ _⟩
  case round =>
    obtain ⟨j,hj,rfl,rfl,o⟩:=hrel;by_cases hlt:j<m
    · obtain ⟨ad,rfl,hadb,hi0⟩:=HR.out.reads.bk hlt;obtain ⟨c0,c1⟩:=hi0.below o (by rw [block_of_add];exact hadb);have jl:j<l.length:=by rw [HL.out];exact hlt
      have vB:=HV.out _ (bk_mem jl);have PL:=fun w=>pblevel ((bkAt l j).lv:Nat) w (by omega) (by omega);have b1:=hT2.out j;have b2:=hT2.out (j+1);have ST:=btot_take jl;obtain ⟨N1,hN1⟩:∃ x,btot (l.take (j+1))=x:=⟨_,rfl⟩
      rw [hN1] at ST b2;generalize btot (l.take j)=N0 at ST b1 |-
      generalize (bkAt l j).t=tj at c0;generalize (bkAt l j).lv=lv at c1 vB PL ST;replace PL:=Lib.hid PL
      have SE:RowKit.Hid (RowKit.wrap64 ((N0:Int)+RowKit.wrap64 (2 ^ lv))=((N1:Nat):Int)):=Lib.hid (by
        have e:((2:Int) ^ lv)=((2 ^ lv:Nat):Int):=by simp
        rw [e];generalize 2 ^ lv=p at ST |-
        rw [IntWalk.wrap64_in (p:Int) (by omega),IntWalk.wrap64_in _ (by omega)]
        omega)
      replace hN1:=Lib.hid hN1;have i1:(j:Int)<(m:Int):=by omega
      have i2:(0:Int)<=(j:Int):=by omega
      have v0:(0:Int)<=(lv:Int):=by omega
      clear hi0 jl ST b1 b2;go_wp2_with (go_at_call 228;with_reducible refine (PL.out _).mono ?_;rintro e w9 ⟨rfl,h9⟩;obtain rfl:=h9.symm);go_roundw
      case rel=>exact ⟨j+1,by omega,by go_num,by rw [hN1.out];exact congrArg (Value.int .i64) SE.out,o.alloc o.size _⟩
      case measure=>simp [intOf];omega
    · have i1:¬ (j:Int)<(m:Int):=by omega
      obtain rfl:j=m:=by omega
      rw [List.take_of_length_le (by rw [HL.out];exact Nat.le_refl _),hN.out];go_wp2;go_ret;exact ⟨rfl,o⟩
theorem pbmay (A:Option Addr) (m c:Nat) (l:List Bk) (t:Int) (w:World) (hin:BIn A m c l w) (t0:0<=t) (t1:t<=16777216) (ht:∀ b∈l,b.t<=t) :
    Calls Tryz.prog 259 #[.slice A m c,t] w (Rr (.bool true) w):=by
  have PT:=Lib.hid (fun w=>pbtick t w t0 t1);have hmB:m<=9223372036854775807:=by have:=hin.mc;have:=hin.cB;unfold maxLen at *;omega
  by_cases m0:m=0
  · have m0b:((m:Int) == 0)=true:=by simp;omega
    clear hin ht m0;go_enter Tryz.func259,Tryz.ntmps259;go_wp2_with (go_at_call 267;with_reducible refine (PT.out _).mono ?_;rintro e w9 ⟨rfl,h9⟩;obtain rfl:=h9.symm);go_ret;exact ⟨by first | rfl | exact ret_bool (by simp;omega) | exact ret_bool (by simp [*]),Below.refl _ _⟩
  · have m0b:((m:Int) == 0)=false:=by simp;omega
    obtain ⟨p,hp⟩:∃ p:Nat,m=p+1:=⟨m-1,by omega⟩
    obtain ⟨ad,rfl,hadb,hi0⟩:=hin.reads.bk (i:=p) (by omega);have hb:=ht _ (bk_mem (l:=l) (i:=p) (by rw [hin.len];omega));obtain ⟨c0,_⟩:=hi0;generalize (bkAt l p).t=tp at c0 hb;have wj:IntKind.i64.wrap ((m:Int)-1)=(p:Int):=by rw [IntWalk.i64_in _ (by omega)];omega
    have p1:(p:Int)<(m:Int):=by omega
    have p0:(0:Int)<=(p:Int):=by omega
    clear hin ht m0 hp;go_enter Tryz.func259,Tryz.ntmps259;go_wp2_with (go_at_call 267;with_reducible refine (PT.out _).mono ?_;rintro e w9 ⟨rfl,h9⟩;obtain rfl:=h9.symm);go_ret;exact ⟨by first | rfl | exact ret_bool (by simp;omega) | exact ret_bool (by simp [*]),Below.refl _ _⟩
def lenB:Value->Nat
  | .slice _ n _=>n
  | _=>0
theorem bkcells_own {w:World} {g n c:Nat} {l:List Bk} (h:Own w 318 2 g n c (bcells l)) {i:Nat} (hi:i<n):w.cell? ⟨g,i*2,none⟩=some (.int .i64 (bkAt l i).t)/\w.cell? ⟨g,i*2+1,none⟩=some (.int .i64 ((bkAt l i).lv:Nat)):=by
  have hl:=h.len;rw [bcells_len] at hl;have ht:=bcells_at l i (by omega);exact ⟨(h.cell (by omega)).trans ht.1,(h.cell (by omega)).trans ht.2⟩
theorem own_bklen {w:World} {g n c:Nat} {l:List Bk} (h:Own w 318 2 g n c (bcells l)):l.length=n:=by
  have hl:=h.len;rw [bcells_len] at hl;omega
theorem set_cut {cur:List Bk} {b:Nat} {m:Bk} (h:b+2<=cur.length):(cur.set b m).take (b+1) ++ (cur.set b m).drop (b+2)=cur.take b ++ m :: cur.drop (b+2):=by
  rw [List.drop_set_of_lt (by omega),List.set_eq_take_append_cons_drop,if_pos (by omega),List.take_append,List.take_of_length_le (by rw [List.length_take];omega)];rw [List.length_take,Nat.min_eq_left (by omega),show b+1-b=1 by omega,List.take_succ_cons,List.take_zero,List.append_assoc];rfl
theorem orow_pos {w:World} {base n size:Nat} {e:TypeId} {v:Value} {xs:List Value} (h:w.ownsRow base e size v n xs) (hn:0<n):∃ g c,v = .slice (some ⟨g,0,none⟩) n c/\Own w e size g n c xs/\base<=g:=by
  rcases h.2 with ⟨_,h0⟩ | ⟨g,c,cur,rfl,_⟩
  · omega
  · obtain ⟨o1,o2⟩:=own_of_row h;exact ⟨g,c,rfl,o1,o2⟩
def InsRet (base k:Nat) (l:List Bk) (t:Int) (n:Nat) (w:World) (e:Ending) (w':World):Prop :=
  ∃ v' n' l',e = .returned v'/\w'.ownsRow base 318 2 v' n' (bcells l')/\Ins k l t n l'/\Below base w w'
theorem InsRet.mk' {base k:Nat} {l l':List Bk} {t:Int} {n n':Nat} {w w':World} {v':Value} (h1:w'.ownsRow base 318 2 v' n' (bcells l')) (h2:Ins k l t n l') (h3:Below base w w'):InsRet base k l t n w (.returned v') w':=⟨v',n',l',rfl,h1,h2,h3⟩
theorem reads_drop {w:World} {g n c j:Nat} {xs:List Value} {e:TypeId} (h:Own w e 2 g n c xs) (hj:j<=n):Reads w w.heap.size 2 (some ⟨g,j*2,none⟩) (n-j) (xs.drop (j*2)):=by
  have hl:=h.len;refine ⟨by rw [List.length_drop,hl,Nat.sub_mul],fun hn=>⟨_,rfl,h.lt,fun i u hu=>?_⟩⟩;rw [List.getElem?_drop] at hu
  have hi:j*2+i<n*2:=by
    have:=(List.getElem?_eq_some_iff.1 hu).1;omega
  have e1:(⟨g,j*2,none⟩:Addr).add i=⟨g,j*2+i,none⟩:=by unfold Addr.add;split<;>simp_all
  rw [e1,h.cell hi];exact hu
set_option maxRecDepth 100000 in
set_option maxHeartbeats 8000000 in
theorem pbinsert (base:Nat) (v:Value) (n:Nat) (l:List Bk) (k:Nat) (t:Int) (w:World) (hown:w.ownsRow base 318 2 v n (bcells l)) (hbase:base<=w.heap.size) (hv:BV k l) (k1:1<=k) (k2:k<=128) (t0:0<=t) (t1:t<=16777216) (ht:∀ b∈l,b.t<=t) (hT:btot l+1<=1073741824) :
    Calls Tryz.prog 260 #[v, .int .i64 (k:Nat),t] w (InsRet base k l t 1 w):=by
  obtain ⟨ib,hib,iz0,iz1,iz2⟩:=info_parts info_bk;have hln:l.length=n:=by have:=hown.1;rw [bcells_len] at this;omega
  have hnT:=tot_len l;have ST:=Lib.hid (InsR.start hv ⟨t0,t1⟩ ht);clear hv ht;go_enter Tryz.func260,Tryz.ntmps260;go_upto_region 2 with (at_builtin;refine wpList_push rfl _ _ 30 rfl 318 ib (.agg #[(),()]) 2 16 Tryz.underlying30 hib iz0 iz1 iz2 rfl (by decide) base v n (bcells l) rfl hown #[t,()] rfl rfl (by simp [Value.oneCell']) (by unfold maxLen;omega) (by omega) hbase ?_;intro g c1 w1 own hbg hat1 hg1)
  have o:Below base w w1:=below_grown ((Below.refl base w).alloc hbase (.cells #[t,()] 318)) hg1 (fun q hq=>(hown.lt q hq).1) (by simp;omega);have own:Own w1 318 2 g (n+1) c1 (bcells (l ++ [Bk.mk t 0])):=by rw [bcells_append];exact own
  clear hat1 hg1 hown;go_wp2;go_loopw [0,7,8,9] (fun u0 u7 u8 u9 wr=>∃ (g c' nn:Nat) (cur:List Bk) (e L:Nat),u0 = .slice (some ⟨g,0,none⟩) nn c'/\u7 = .int .i64 (e:Nat)/\u8 = .int .i64 (L:Nat)/\Own wr 318 2 g nn c' (bcells cur)/\base<=g/\RowKit.Hid (InsR k l t cur e L)/\Below base w wr) (fun u0 _ _ _ _=>lenB u0)
  case atStart =>
    refine ⟨g,c1,n+1,l ++ [Bk.mk t 0],l.length+1,0,rfl,by rw [hln];go_num,rfl,own,hbg,Lib.hid ST.out,o⟩
  case round =>
    clear own o hbg;obtain ⟨g,c',nn,cur,e,L,rfl,rfl,rfl,own,hbg,HJ,o⟩:=hrel;have hnn:=own_bklen own;have hel:=HJ.out.el;rw [hnn] at hel;have hcl:cur.length<=1073741825:=by have:=tot_len cur;have:=HJ.out.tot;omega
    go_wp2;go_loopw [9] (fun u9 wi=>∃ b:Nat,b<=e/\u9 = .int .i64 (b:Nat)/\RowKit.Hid (∀ i,b<=i->i<e->(bkAt cur i).lv=L)/\wi=wr) (fun u9 _=>(intOf u9).toNat)
    case atStart=>exact ⟨e,Nat.le_refl _,rfl,Lib.hid (fun i h1 h2=>by omega),rfl⟩
    case round =>
      obtain ⟨b,hbe,rfl,HB,rfl⟩:=hrel;by_cases b0:b=0
      · have j0:¬ (0:Int)<(b:Int):=by omega
        have j1:¬ 0<b:=by omega
        have H2:RowKit.Hid (b=0∨(bkAt cur (b-1)).lv≠L):=Lib.hid (.inl b0);clear b0;by_cases hc:e-b<k+2
        · have hc':(e:Int)-(b:Int)<(k:Int)+2:=by omega
          have HF:=Lib.hid (HJ.out.done hbe HB.out H2.out hc hT);clear HB;go_wp2;go_ret;exact InsRet.mk' (own.row hbg) HF.out o
        · have hc':¬ (e:Int)-(b:Int)<(k:Int)+2:=by omega
          have HS:=HJ.out.step k1 hbe HB.out H2.out hc
          have LB:L<=1073741824:=by
            have h0:=HB.out b (Nat.le_refl _) (by omega);have h1:=tot_mem (bk_mem (l:=cur) (i:=b) (by omega));have h2:=two_pow_le (x:=(bkAt cur b).lv) (by have:=HJ.out.tot;omega);omega
          have wL:IntKind.i64.wrap ((L:Int)+1)=((L+1:Nat):Int):=by rw [IntWalk.i64_in _ (by omega)];omega
          have l0:(b:Int)<(nn:Int):=by omega
          have l1:(b:Int)+1<(nn:Int):=by omega
          have l2:(b:Int)+2<=(nn:Int):=by omega
          have z0:(0:Int)<=(b:Int):=by omega
          have cc:=own.cap.1;have l3:(b:Int)+1<=(c':Int):=by omega
          have l4:(nn:Int)<=(c':Int):=by omega
          have q1:=(bkcells_own own (i:=b+1) (by omega)).1;generalize hm1:(bkAt cur (b+1)).t=t1 at HS q1;obtain ⟨p0,p1⟩:=bkcells_own own (i:=b) (by omega);have f0:=own.free (b*2);have f1:=own.free (b*2+1);go_upto_region 11 with (fail)
          replace own:=(own.set (b*2) (.int .i64 t1)).set (b*2+1) (.int .i64 ((L:Int)+1))
          have hbs:((bcells cur).set (b*2) (.int .i64 t1)).set (b*2+1) (.int .i64 ((L:Int)+1))=bcells (cur.set b ⟨t1,L+1⟩):=by
            have:=bcells_set cur b (by omega) ⟨t1,L+1⟩;simpa using this
          rw [hbs] at own;have hsc:=set_cut (cur:=cur) (b:=b) (m:=⟨t1,L+1⟩) (by omega);replace o:=(o.setCell (p:=⟨g,b*2,none⟩) hbg (.int .i64 t1)).setCell (p:=⟨g,b*2+1,none⟩) hbg (.int .i64 ((L:Int)+1));generalize (wr.setCell ⟨g,b*2,none⟩ (.int .i64 t1)).setCell ⟨g,b*2+1,none⟩ (.int .i64 ((L:Int)+1))=w3 at own o |-
          clear p0 p1 f0 f1 q1 hbs HJ HB;have x1:(0:Int)<=(b:Int)+1:=by omega
          have x2:(0:Int)<=(b:Int)+2:=by omega
          have y1:IntKind.i64.wrap ((b:Int)+1)=(b:Int)+1:=IntWalk.i64_in _ (by omega);have y2:IntKind.i64.wrap ((b:Int)+2)=(b:Int)+2:=IntWalk.i64_in _ (by omega);have y3:((b:Int)+1).toNat=b+1:=by omega
          have y4:((b:Int)+2).toNat=b+2:=by omega
          generalize hAD:(if c'=b+2 then some (⟨g,0,none⟩:Addr) else some ⟨g,(b+2)*2,none⟩)=AD;refine wp_region_free0 [0,1,2,4,5,6,3,7] [] [0,1,2,3,4,5,6,7] 8 (fun w'=>Below w3 w3 w') (by kernel_rfl) (by kernel_rfl) (fun _ _ d _ _ h=>by cases d<;>exact h) ?_ ?_
          · exact (Below.refl _ _).drew
          iterate 8 (refine plp rfl rfl ?_;simp only [put9])
          refine plan_nil ?_;intro w4 L4;simp only [List.drop_succ_cons,List.drop_zero];try simp only [put9]
          replace own:=own.call L4;replace o:=o.trans (L4.mono (by have:=o.size;omega));clear L4;generalize cur.set b ⟨t1,L+1⟩=cS at own hsc;have OC:=(own.cut (k:=b+1) (by omega)).row hbg;rw [bcells_take] at OC
          have RD:Reads w4 w4.heap.size 2 AD (nn-(b+2)) (bcells (cS.drop (b+2))):=by
            have RD:=reads_drop own (j:=b+2) (by omega);rw [bcells_drop] at RD;by_cases hcb:c'=b+2
            · exact ⟨RD.1,fun hn=>by have:=own.cap.1;omega⟩
            · rw [if_neg hcb] at hAD;rw [<- hAD];exact RD
          have zs:=o.size;go_upto_region 12 with (at_builtin;refine wpList_append_any _ rfl _ _ 30 rfl base 318 ib (.agg #[(),()]) 2 16 Tryz.underlying30 hib iz0 iz1 iz2 rfl (by decide) (.slice (some ⟨g,0,none⟩) (b+1) c') (b+1) (bcells (cS.take (b+1))) rfl OC w4.heap.size AD (nn-(b+2)) (c'-(b+2)) (bcells (cS.drop (b+2))) rfl RD (bcells_one _) (by unfold maxLen;omega) (by omega) (by omega) ?_;intro v6 w6 own6 hg6 hat6)
          rw [<- bcells_append,hsc,show b+1+(nn-(b+2))=nn-1 by omega] at own6;replace o:=below_grown o hg6 (fun q hq=>by have e9:g=q:=Option.some.inj hq;omega) (by omega);obtain ⟨g6,c6,rfl,own7,hb6⟩:=orow_pos own6 (by omega);replace HS:=Lib.hid HS;clear own6 own OC RD hsc hg6 hat6;go_wp2;go_roundw
          case rel=>exact ⟨g6,c6,nn-1,_,b+1,L+1,rfl,by go_num,by go_num,own7,hb6,HS,o⟩
          case measure=>simp [lenB];omega
      · have j0:(0:Int)<(b:Int):=by omega
        have j1:0<b:=by omega
        obtain ⟨p,hp⟩:∃ p:Nat,b=p+1:=⟨b-1,by omega⟩
        have wj:IntKind.i64.wrap ((b:Int)-1)=(p:Int):=by rw [IntWalk.i64_in _ (by omega)];omega
        have y1:(p:Int)<(nn:Int):=by omega
        have y0:(0:Int)<=(p:Int):=by omega
        have pc:=(bkcells_own own (i:=p) (by omega)).2;have hpb:b-1=p:=by omega
        clear b0;by_cases hlv:(bkAt cur p).lv=L
        · have HB2:RowKit.Hid (∀ i,p<=i->i<e->(bkAt cur i).lv=L):=Lib.hid (fun i h1 h2=>by
            by_cases hi:i=p
            · rw [hi];exact hlv
            · exact HB.out i (by omega) h2)
          rw [hlv] at pc;have lq:((L:Int) == (L:Int))=true:=by simp
          have hpe:p<=e:=by omega
          have hpl:p<b:=by omega
          clear hlv HB hp hpb;go_wp2;go_roundw
          case rel=>exact ⟨p,hpe,by go_num,HB2,by trivial⟩
          case measure=>simp [intOf];omega
        · have H2:RowKit.Hid (b=0∨(bkAt cur (b-1)).lv≠L):=Lib.hid (.inr (by rw [hpb];exact hlv));have lq:(((bkAt cur p).lv:Int) == (L:Int))=false:=by simp;omega
          generalize (bkAt cur p).lv=lp at pc lq;clear hlv hp hpb;by_cases hc:e-b<k+2
          · have hc':(e:Int)-(b:Int)<(k:Int)+2:=by omega
            have HF:=Lib.hid (HJ.out.done hbe HB.out H2.out hc hT);clear HB;go_wp2;go_ret;exact InsRet.mk' (own.row hbg) HF.out o
          · have hc':¬ (e:Int)-(b:Int)<(k:Int)+2:=by omega
            have HS:=HJ.out.step k1 hbe HB.out H2.out hc
            have LB:L<=1073741824:=by
              have h0:=HB.out b (Nat.le_refl _) (by omega);have h1:=tot_mem (bk_mem (l:=cur) (i:=b) (by omega));have h2:=two_pow_le (x:=(bkAt cur b).lv) (by have:=HJ.out.tot;omega);omega
            have wL:IntKind.i64.wrap ((L:Int)+1)=((L+1:Nat):Int):=by rw [IntWalk.i64_in _ (by omega)];omega
            have l0:(b:Int)<(nn:Int):=by omega
            have l1:(b:Int)+1<(nn:Int):=by omega
            have l2:(b:Int)+2<=(nn:Int):=by omega
            have z0:(0:Int)<=(b:Int):=by omega
            have cc:=own.cap.1;have l3:(b:Int)+1<=(c':Int):=by omega
            have l4:(nn:Int)<=(c':Int):=by omega
            have q1:=(bkcells_own own (i:=b+1) (by omega)).1;generalize hm1:(bkAt cur (b+1)).t=t1 at HS q1;obtain ⟨p0,p1⟩:=bkcells_own own (i:=b) (by omega);have f0:=own.free (b*2);have f1:=own.free (b*2+1);go_upto_region 11 with (fail)
            replace own:=(own.set (b*2) (.int .i64 t1)).set (b*2+1) (.int .i64 ((L:Int)+1))
            have hbs:((bcells cur).set (b*2) (.int .i64 t1)).set (b*2+1) (.int .i64 ((L:Int)+1))=bcells (cur.set b ⟨t1,L+1⟩):=by
              have:=bcells_set cur b (by omega) ⟨t1,L+1⟩;simpa using this
            rw [hbs] at own;have hsc:=set_cut (cur:=cur) (b:=b) (m:=⟨t1,L+1⟩) (by omega);replace o:=(o.setCell (p:=⟨g,b*2,none⟩) hbg (.int .i64 t1)).setCell (p:=⟨g,b*2+1,none⟩) hbg (.int .i64 ((L:Int)+1));generalize (wr.setCell ⟨g,b*2,none⟩ (.int .i64 t1)).setCell ⟨g,b*2+1,none⟩ (.int .i64 ((L:Int)+1))=w3 at own o |-
            clear p0 p1 f0 f1 q1 hbs HJ HB;have x1:(0:Int)<=(b:Int)+1:=by omega
            have x2:(0:Int)<=(b:Int)+2:=by omega
            have y1:IntKind.i64.wrap ((b:Int)+1)=(b:Int)+1:=IntWalk.i64_in _ (by omega);have y2:IntKind.i64.wrap ((b:Int)+2)=(b:Int)+2:=IntWalk.i64_in _ (by omega);have y3:((b:Int)+1).toNat=b+1:=by omega
            have y4:((b:Int)+2).toNat=b+2:=by omega
            generalize hAD:(if c'=b+2 then some (⟨g,0,none⟩:Addr) else some ⟨g,(b+2)*2,none⟩)=AD;refine wp_region_free0 [0,1,2,4,5,6,3,7] [] [0,1,2,3,4,5,6,7] 8 (fun w'=>Below w3 w3 w') (by kernel_rfl) (by kernel_rfl) (fun _ _ d _ _ h=>by cases d<;>exact h) ?_ ?_
            · exact (Below.refl _ _).drew
            iterate 8 (refine plp rfl rfl ?_;simp only [put9])
            refine plan_nil ?_;intro w4 L4;simp only [List.drop_succ_cons,List.drop_zero];try simp only [put9]
            replace own:=own.call L4;replace o:=o.trans (L4.mono (by have:=o.size;omega));clear L4;generalize cur.set b ⟨t1,L+1⟩=cS at own hsc;have OC:=(own.cut (k:=b+1) (by omega)).row hbg;rw [bcells_take] at OC
            have RD:Reads w4 w4.heap.size 2 AD (nn-(b+2)) (bcells (cS.drop (b+2))):=by
              have RD:=reads_drop own (j:=b+2) (by omega);rw [bcells_drop] at RD;by_cases hcb:c'=b+2
              · exact ⟨RD.1,fun hn=>by have:=own.cap.1;omega⟩
              · rw [if_neg hcb] at hAD;rw [<- hAD];exact RD
            have zs:=o.size;go_upto_region 12 with (at_builtin;refine wpList_append_any _ rfl _ _ 30 rfl base 318 ib (.agg #[(),()]) 2 16 Tryz.underlying30 hib iz0 iz1 iz2 rfl (by decide) (.slice (some ⟨g,0,none⟩) (b+1) c') (b+1) (bcells (cS.take (b+1))) rfl OC w4.heap.size AD (nn-(b+2)) (c'-(b+2)) (bcells (cS.drop (b+2))) rfl RD (bcells_one _) (by unfold maxLen;omega) (by omega) (by omega) ?_;intro v6 w6 own6 hg6 hat6)
            rw [<- bcells_append,hsc,show b+1+(nn-(b+2))=nn-1 by omega] at own6;replace o:=below_grown o hg6 (fun q hq=>by have e9:g=q:=Option.some.inj hq;omega) (by omega);obtain ⟨g6,c6,rfl,own7,hb6⟩:=orow_pos own6 (by omega);replace HS:=Lib.hid HS;clear own6 own OC RD hsc hg6 hat6;go_wp2;go_roundw
            case rel=>exact ⟨g6,c6,nn-1,_,b+1,L+1,rfl,by go_num,by go_num,own7,hb6,HS,o⟩
            case measure=>simp [lenB];omega
set_option maxRecDepth 100000 in
theorem pbIns (A:Option Addr) (m c:Nat) (l:List Bk) (k:Nat) (t:Int) (w:World) (hin:BIn A m c l w) (hv:BV k l) (k1:1<=k) (k2:k<=128) (hm:m<=1000000) (t0:0<=t) (t1:t<=16777216) (ht:∀ b∈l,b.t<=t) (hT:btot l+1<=1073741824) :
    Calls Tryz.prog 211 #[.slice A m c, .int .i64 (k:Nat),t] w (BRet (Ins k l t 1) w):=by
  obtain ⟨ib,hib,iz0,iz1,iz2⟩:=info_parts info_bk;have PV:=Lib.hid (fun w' (hb:Below w w w')=>pbvalidL A m c l k w' (hin.below hb) hv ⟨k1,k2⟩ hm);have PM:=Lib.hid (fun w' (hb:Below w w w')=>pbmay A m c l t w' (hin.below hb) t0 t1 ht);have PT:=Lib.hid (fun w' (hb:Below w w w')=>pbtotal A m c l w' (hin.below hb) hv.lev (by omega));have PI:=Lib.hid (fun w' g c2 (h:Own w' 318 2 g m c2 (bcells l)) (hg:w.heap.size<=g) (hw:w.heap.size<=w'.heap.size)=>pbinsert w.heap.size (.slice (some ⟨g,0,none⟩) m c2) m l k t w' (h.row hg) hw hv k1 k2 t0 t1 ht hT);have hT2:decide ((1073741824:Int)<=(btot l:Int))=false:=decide_eq_false (by omega);have RD0:=hin.reads;generalize btot l=N at PT hT2;clear hT hv ht hin;go_enter Tryz.func211,Tryz.ntmps211;go_wp2_with fail;refine (PV.out _ (Below.refl _ _)).mono ?_;rintro e w1 ⟨rfl,o⟩;go_wp2_with fail;refine (PM.out _ o).mono ?_;rintro e w2 ⟨rfl,hb⟩;replace o:=o.trans (hb.mono o.size);clear hb;go_wp2_with fail;refine (PT.out _ o).mono ?_;rintro e w3 ⟨rfl,hb⟩;replace o:=o.trans (hb.mono o.size);clear hb;have RD:=RD0.below o;go_wp2_with (at_builtin;refine wpList_clone rfl _ _ 30 rfl 318 ib (.agg #[(),()]) 2 16 Tryz.underlying30 hib iz0 iz1 iz2 rfl (by decide) rfl w.heap.size A m c (bcells l) rfl RD o.size (bcells_one _) (by unfold maxLen;omega) (by omega) ?_;intro g c2 w4 own4 hg4 hb4 hz4);refine (PI.out _ _ _ own4 (by have:=o.size;omega) (by have:=o.size;omega)).mono ?_;rintro e w5 ⟨v5,n5,l5,rfl,own5,hI,hb5⟩;obtain ⟨A5,c5,rfl,rd5,h1,h2,h3⟩:=orow_forms own5;replace o:=(o.trans (hb4.mono o.size)).trans hb5;replace hI:=Lib.hid hI;go_wp2;go_ret;exact ⟨A5,n5,c5,l5,rfl,⟨rd5,h1,h2⟩,hI.out,o,fun a e=>(h3 a e).1⟩
set_option maxRecDepth 100000 in
set_option maxHeartbeats 4000000 in
theorem pbMany_0 (A:Option Addr) (m c:Nat) (l:List Bk) (k n:Nat) (t:Int) (w:World) (hin:BIn A m c l w) (hv:BV k l) (k1:1<=k) (k2:k<=128) (hm:m<=1000000) (t0:0<=t) (t1:t<=16777216) (ht:∀ b∈l,b.t<=t) (hn:n<=1024) (hT:btot l+n<=1073741824) (h0:n=0) :
    Calls Tryz.prog 212 (J25 (.slice A m c) (k:Nat) t (n:Nat)) w (BRet (Ins k l t n) w):=by
  obtain ⟨ib,hib,iz0,iz1,iz2⟩:=info_parts info_bk;have PV:=Lib.hid (fun w' (hb:Below w w w')=>pbvalidL A m c l k w' (hin.below hb) hv ⟨k1,k2⟩ hm);have PM:=Lib.hid (fun w' (hb:Below w w w')=>pbmay A m c l t w' (hin.below hb) t0 t1 ht);have PT:=Lib.hid (fun w' (hb:Below w w w')=>pbtotal A m c l w' (hin.below hb) hv.lev (by omega));have n1:¬ (n:Int)<0:=by omega
  have n2:¬ 1024<(n:Int):=by omega
  have n3:¬ (0:Int)<(n:Int):=by omega
  have n3':¬ 0<n:=by omega
  have HVV:=Lib.hid hv;have HT:=Lib.hid ht;have hlN:=hin.len;have RD0:=hin.reads;obtain ⟨N,hN⟩:∃ N,btot l=N:=⟨_,rfl⟩
  rw [hN] at PT hT;have HN:=Lib.hid hN;clear hv ht hin h0 hN;go_enter Tryz.func212,Tryz.ntmps212;go_wp2_with fail;refine (PV.out _ (Below.refl _ _)).mono ?_;rintro e w1 ⟨rfl,o⟩;go_wp2_with fail;refine (PM.out _ o).mono ?_;rintro e w2 ⟨rfl,hb⟩;replace o:=o.trans (hb.mono o.size);clear hb;have RD:=RD0.below o
  go_upto_block 0 with (at_builtin;refine wpList_clone rfl _ _ 30 rfl 318 ib (.agg #[(),()]) 2 16 Tryz.underlying30 hib iz0 iz1 iz2 rfl (by decide) rfl w.heap.size A m c (bcells l) rfl RD o.size (bcells_one _) (by unfold maxLen;omega) (by omega) ?_;intro g c2 w4 own4 hg4 hb4 hz4)
  have R0:=own4.row (show w.heap.size<=g by have:=o.size;omega);replace o:=o.trans (hb4.mono o.size);clear own4 hb4 hz4 RD RD0 hlN;have I0:=Lib.hid (Ins.zero HVV.out (t:=t));go_wp2;go_loopw [3,9] (fun u3 u9 wr=>∃ (q r n':Nat) (li:List Bk),q+r=n/\u3 = .int .i64 (r:Nat)/\wr.ownsRow w.heap.size 318 2 u9 n' (bcells li)/\RowKit.Hid (Ins k l t q li)/\Below w w wr) (fun u3 _ _=>(intOf u3).toNat)
  case atStart=>exact ⟨0,n,m,l,by omega,rfl,R0,I0,o⟩
  case round =>
    clear R0 o;obtain ⟨q,r,n',li,hqr,rfl,R,HI,o⟩:=hrel;by_cases r0:0<r
    · have r1:(0:Int)<(r:Int):=by omega
      have PI:=pbinsert w.heap.size u9 n' li k t wr R o.size HI.out.val k1 k2 t0 t1 (fun b hb=>by
        rcases HI.out.ticks b hb with h | ⟨b0,hb0,h⟩
        · omega
        · have:=HT.out b0 hb0
          omega) (by have:=HI.out.tot;have:=HN.out;omega)
      replace PI:=Lib.hid PI;have wr1:IntKind.i64.wrap ((r:Int)-1)=(r:Int)-1:=IntWalk.i64_in _ (by omega);go_wp2_with fail;refine PI.out.mono ?_;rintro e w5 ⟨v5,n5,l5,rfl,own5,hI,hb5⟩;replace o:=o.trans hb5;replace hI:=Lib.hid (HI.out.one_more hI);clear PI HI R hb5;go_wp2;go_roundw
      case rel=>exact ⟨q+1,r-1,n5,l5,by omega,by go_num,own5,hI,o⟩
      case measure=>simp [intOf];omega
    · have r1:¬ (0:Int)<(r:Int):=by omega
      obtain rfl:q=n:=by omega
      obtain ⟨A5,c5,rfl,rd5,h1,h2,h3⟩:=orow_forms R;go_wp2;go_ret;exact ⟨A5,n',c5,li,rfl,⟨rd5,h1,h2⟩,HI.out,o,fun a e=>(h3 a e).1⟩
set_option maxRecDepth 100000 in
set_option maxHeartbeats 4000000 in
theorem pbMany_n (A:Option Addr) (m c:Nat) (l:List Bk) (k n:Nat) (t:Int) (w:World) (hin:BIn A m c l w) (hv:BV k l) (k1:1<=k) (k2:k<=128) (hm:m<=1000000) (t0:0<=t) (t1:t<=16777216) (ht:∀ b∈l,b.t<=t) (hn:n<=1024) (hT:btot l+n<=1073741824) (h0:1<=n) :
    Calls Tryz.prog 212 (J25 (.slice A m c) (k:Nat) t (n:Nat)) w (BRet (Ins k l t n) w):=by
  obtain ⟨ib,hib,iz0,iz1,iz2⟩:=info_parts info_bk;have PV:=Lib.hid (fun w' (hb:Below w w w')=>pbvalidL A m c l k w' (hin.below hb) hv ⟨k1,k2⟩ hm);have PM:=Lib.hid (fun w' (hb:Below w w w')=>pbmay A m c l t w' (hin.below hb) t0 t1 ht);have PT:=Lib.hid (fun w' (hb:Below w w w')=>pbtotal A m c l w' (hin.below hb) hv.lev (by omega));have n1:¬ (n:Int)<0:=by omega
  have n2:¬ 1024<(n:Int):=by omega
  have n3:(0:Int)<(n:Int):=by omega
  have n3':0<n:=by omega
  have n4:¬ 1073741824-(n:Int)<(btot l:Int):=by omega
  have HVV:=Lib.hid hv;have HT:=Lib.hid ht;have hlN:=hin.len;have RD0:=hin.reads;obtain ⟨N,hN⟩:∃ N,btot l=N:=⟨_,rfl⟩
  rw [hN] at PT hT n4;have HN:=Lib.hid hN;clear hv ht hin h0 hN;go_enter Tryz.func212,Tryz.ntmps212;go_wp2_with fail;refine (PV.out _ (Below.refl _ _)).mono ?_;rintro e w1 ⟨rfl,o⟩;go_wp2_with fail;refine (PM.out _ o).mono ?_;rintro e w2 ⟨rfl,hb⟩;replace o:=o.trans (hb.mono o.size);clear hb;go_wp2_with fail;refine (PT.out _ o).mono ?_;rintro e w3 ⟨rfl,hb⟩;replace o:=o.trans (hb.mono o.size);clear hb;have RD:=RD0.below o
  go_upto_block 0 with (at_builtin;refine wpList_clone rfl _ _ 30 rfl 318 ib (.agg #[(),()]) 2 16 Tryz.underlying30 hib iz0 iz1 iz2 rfl (by decide) rfl w.heap.size A m c (bcells l) rfl RD o.size (bcells_one _) (by unfold maxLen;omega) (by omega) ?_;intro g c2 w4 own4 hg4 hb4 hz4)
  have R0:=own4.row (show w.heap.size<=g by have:=o.size;omega);replace o:=o.trans (hb4.mono o.size);clear own4 hb4 hz4 RD RD0 hlN;have I0:=Lib.hid (Ins.zero HVV.out (t:=t));go_wp2;go_loopw [3,9] (fun u3 u9 wr=>∃ (q r n':Nat) (li:List Bk),q+r=n/\u3 = .int .i64 (r:Nat)/\wr.ownsRow w.heap.size 318 2 u9 n' (bcells li)/\RowKit.Hid (Ins k l t q li)/\Below w w wr) (fun u3 _ _=>(intOf u3).toNat)
  case atStart=>exact ⟨0,n,m,l,by omega,rfl,R0,I0,o⟩
  case round =>
    clear R0 o;obtain ⟨q,r,n',li,hqr,rfl,R,HI,o⟩:=hrel;by_cases r0:0<r
    · have r1:(0:Int)<(r:Int):=by omega
      have PI:=pbinsert w.heap.size u9 n' li k t wr R o.size HI.out.val k1 k2 t0 t1 (fun b hb=>by
        rcases HI.out.ticks b hb with h | ⟨b0,hb0,h⟩
        · omega
        · have:=HT.out b0 hb0
          omega) (by have:=HI.out.tot;have:=HN.out;omega)
      replace PI:=Lib.hid PI;have wr1:IntKind.i64.wrap ((r:Int)-1)=(r:Int)-1:=IntWalk.i64_in _ (by omega);go_wp2_with fail;refine PI.out.mono ?_;rintro e w5 ⟨v5,n5,l5,rfl,own5,hI,hb5⟩;replace o:=o.trans hb5;replace hI:=Lib.hid (HI.out.one_more hI);clear PI HI R hb5;go_wp2;go_roundw
      case rel=>exact ⟨q+1,r-1,n5,l5,by omega,by go_num,own5,hI,o⟩
      case measure=>simp [intOf];omega
    · have r1:¬ (0:Int)<(r:Int):=by omega
      obtain rfl:q=n:=by omega
      obtain ⟨A5,c5,rfl,rd5,h1,h2,h3⟩:=orow_forms R;go_wp2;go_ret;exact ⟨A5,n',c5,li,rfl,⟨rd5,h1,h2⟩,HI.out,o,fun a e=>(h3 a e).1⟩
theorem pbMany (A:Option Addr) (m c:Nat) (l:List Bk) (k n:Nat) (t:Int) (w:World) (hin:BIn A m c l w) (hv:BV k l) (k1:1<=k) (k2:k<=128) (hm:m<=1000000) (t0:0<=t) (t1:t<=16777216) (ht:∀ b∈l,b.t<=t) (hn:n<=1024) (hT:btot l+n<=1073741824) :
    Calls Tryz.prog 212 (J25 (.slice A m c) (k:Nat) t (n:Nat)) w (BRet (Ins k l t n) w):=by
  by_cases h:n=0
  · exact pbMany_0 A m c l k n t w hin hv k1 k2 hm t0 t1 ht hn hT h
  · exact pbMany_n A m c l k n t w hin hv k1 k2 hm t0 t1 ht hn hT (by omega)
end Go.Proofs.YtdipoojjlddohaaGreat
