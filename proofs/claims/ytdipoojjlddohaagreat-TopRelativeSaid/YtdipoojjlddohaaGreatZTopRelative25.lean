/- What the law TopRelative needs, joined of its texts by a program (slim2.py); part 25. -/
import Derived.Test.YtdipoojjlddohaaGreatZTopRelative1
import Derived.Test.YtdipoojjlddohaaGreatZTopRelative3
import Derived.Test.YtdipoojjlddohaaGreatZTopRelative4
import Derived.Test.YtdipoojjlddohaaGreatZTopRelative14
import Derived.Test.YtdipoojjlddohaaGreatZTopRelative24
set_option linter.unusedVariables false
set_option linter.unusedSimpArgs false
set_option linter.unusedSectionVars false
set_option linter.unnecessarySimpa false
set_option maxRecDepth 100000
namespace Go.Proofs.YtdipoojjlddohaaGreat
open MC
open MT
open Go.RowKit
structure LOK (now lo hi:Int) (l:List Itm):Prop where
  tick:∀ x∈l,0<=x.t/\x.t<=now
  val:∀ x∈l,lo<=x.v/\x.v<=hi
  ord:l.Pairwise fun a b=>a.t<=b.t
theorem LOK.sub {now lo hi:Int} {l l':List Itm} (h:LOK now lo hi l) (hs:l'.Sublist l):LOK now lo hi l' :=
  ⟨fun x hx=>h.tick x (hs.subset hx),fun x hx=>h.val x (hs.subset hx),h.ord.sublist hs⟩
theorem LOK.later {now tt lo hi:Int} {l:List Itm} (h:LOK now lo hi l) (ht:now<=tt):LOK tt lo hi l :=
  ⟨fun x hx=>by have:=h.tick x hx;omega,h.val,h.ord⟩
theorem LOK.at {now lo hi:Int} {l:List Itm} (h:LOK now lo hi l) {i:Nat} (hi':i<l.length):0<=(itmAt l i).t/\(itmAt l i).t<=now/\lo<=(itmAt l i).v/\(itmAt l i).v<=hi:=by
  have hm:itmAt l i∈l:=by rw [<- itm_eq hi'];exact List.getElem_mem _
  exact ⟨(h.tick _ hm).1,(h.tick _ hm).2,h.val _ hm⟩
theorem LOK.asc {now lo hi:Int} {l:List Itm} (h:LOK now lo hi l) {i j:Nat} (hij:i<j) (hj:j<l.length):(itmAt l i).t<=(itmAt l j).t:=by
  have:=List.pairwise_iff_getElem.1 h.ord i j (by omega) hj hij;rw [itm_eq (by omega),itm_eq hj] at this;exact this
theorem LOK.live {now lo hi:Int} {l:List Itm} (h:LOK now lo hi l) (wd:Int):LOK now lo hi (liveI now wd l)/\∀ x∈liveI now wd l,now-wd<x.t:=by
  refine ⟨h.sub List.filter_sublist,fun x hx=>?_⟩;have:=(List.mem_filter.1 hx).2;simp at this;exact this.1
def exLo (l:List Itm):Int:=if l=[] then 0 else exFold false l l.length
def exHi (l:List Itm):Int:=if l=[] then 0 else exFold true l l.length
theorem ex_is {l:List Itm} (h:l≠[]):IsMin l (exLo l)/\IsMax l (exHi l):=by
  have hl:0<l.length:=List.length_pos_iff.2 h;unfold exLo exHi;rw [if_neg h,if_neg h];obtain ⟨⟨x,hx,e⟩,h2⟩:=exFold_is (g:=false) l.length (Nat.le_refl _) hl;obtain ⟨⟨y,hy,e'⟩,h4⟩:=exFold_is (g:=true) l.length (Nat.le_refl _) hl;refine ⟨⟨⟨x,hx,e⟩,fun z hz=>?_⟩,⟨⟨y,hy,e'⟩,fun z hz=>?_⟩⟩
  · obtain ⟨i,hi,rfl⟩:=List.mem_iff_getElem.1 hz;have:=h2 i hi;rw [itm_eq hi];simp only [exKey,Bool.false_eq_true,if_false] at this;omega
  · obtain ⟨i,hi,rfl⟩:=List.mem_iff_getElem.1 hz;have:=h4 i hi;rw [itm_eq hi];simp only [exKey,if_true] at this;omega
theorem ex_rng {lo hi:Int} {l:List Itm} (h:∀ x∈l,lo<=x.v/\x.v<=hi) (h0:lo<=0) (h1:0<=hi):lo<=exLo l/\exLo l<=exHi l/\exHi l<=hi:=by
  by_cases e:l=[]
  · unfold exLo exHi;rw [if_pos e,if_pos e];omega
  · obtain ⟨⟨⟨x,hx,ex⟩,_⟩,⟨⟨y,hy,ey⟩,hm⟩⟩:=ex_is e;have:=hm x hx;have:=h x hx;have:=h y hy;omega
def exN (op:Int) (l:List Itm):Nat:=if op=1 then l.length else if op=2 then (isum l).toNat else if op=3 then (isq l).toNat else if op=4 then (exHi l-exLo l).toNat else rn (itT l) (itN l)
def exD (op:Int) (l:List Itm):Nat:=if op=5 then rd (itT l) (itN l) else 1
theorem isum_le {b:Int}:∀ {l:List Itm},(∀ x∈l,x.v<=b)->isum l<=b*l.length
  | [],_=>by simp [isum]
  | x :: l,h=>by
    have h1:=h x (by simp);have h2:=isum_le (l:=l) fun y hy=>h y (by simp [hy]);rw [isum,List.length_cons,Int.natCast_add,Int.mul_add];omega
theorem isq_le:∀ {l:List Itm},(∀ x∈l, -4096<=x.v/\x.v<=4096)->isq l<=16777216*l.length
  | [],_=>by simp [isq]
  | x :: l,h=>by
    have h1:=h x (by simp);have h2:=isq_le (l:=l) fun y hy=>h y (by simp [hy])
    have h3:x.v*x.v<=16777216:=by
      have:x.v.natAbs*x.v.natAbs<=4096*4096:=Nat.mul_le_mul (by omega) (by omega);have e:x.v*x.v=((x.v.natAbs*x.v.natAbs:Nat):Int):=(Int.natAbs_mul_self (a:=x.v)).symm;omega
    rw [isq,List.length_cons,Int.natCast_add,Int.mul_add];omega
theorem agg_ex {agg:Int} {l:List Itm} (ha:1<=agg/\agg<=4) (hv:ValsOK agg l):AggIs agg l (exN agg l:Nat):=by
  have c:agg=1∨agg=2∨agg=3∨agg=4:=by omega
  unfold exN;rcases c with rfl | rfl | rfl | rfl
  · exact ⟨fun _=>by simp,fun h=>absurd h (by decide),fun h=>absurd h (by decide),fun h=>absurd h (by decide)⟩
  · have:=isum_nonneg l (fun x hx=>by have:=(hv x hx).1;simpa [leastV] using this);exact ⟨fun h=>absurd h (by decide),fun _=>by simp;omega,fun h=>absurd h (by decide),fun h=>absurd h (by decide)⟩
  · have:=isq_nonneg l;exact ⟨fun h=>absurd h (by decide),fun h=>absurd h (by decide),fun _=>by simp;omega,fun h=>absurd h (by decide)⟩
  · refine ⟨fun h=>absurd h (by decide),fun h=>absurd h (by decide),fun h=>absurd h (by decide),fun _=>?_⟩;by_cases e:l=[]
    · subst e;exact .inl ⟨rfl,by simp [exLo,exHi]⟩
    · obtain ⟨h1,h2⟩:=ex_is e;refine .inr ⟨exLo l,exHi l,h1,h2,?_⟩;obtain ⟨⟨x,hx,ex⟩,h3⟩:=h1;have:=h2.2 x hx;simp;omega
structure AnsOK (k l1 l2 m1 m2 h1 h2 v1 v2:Nat):Prop where
  bnd:BndOK l1 l2 m1 m2 h1 h2
  rat:RatOK v1 v2
  lo:l1*v2<=v1*l2
  hi:v1*h2<=h1*v2
  le:l1*h2<=h1*l2
  nar:k*(h1*l2-l1*h2)*v2<=v1*(l2*h2)
theorem ans_whole {k lo hi n:Nat} (h0:lo<=n) (h1:n<=hi) (h2:k*(hi-lo)<=n) (hb:hi<4611686018427387904):AnsOK k lo 1 ((lo+hi) / 2) 1 hi 1 n 1 :=
  ⟨⟨ratOK_one (by omega),ratOK_one (by omega),ratOK_one hb,by omega,by omega⟩,ratOK_one (by omega),by omega,by omega,by omega,by simpa using h2⟩
theorem ans_count {k lo hi n:Nat} (h:lo<=n/\n<=hi/\hi<=65536/\(k*(hi-lo)+1<=lo∨lo=0/\hi=0)):AnsOK k lo 1 ((lo+hi) / 2) 1 hi 1 n 1:=by
  refine ans_whole h.1 h.2.1 ?_ (by omega);rcases h.2.2.2 with g | ⟨rfl,rfl⟩
  · omega
  · simp
theorem ans_spread {k lT lN hT hN:Nat} {l:List Itm} (h:SpTrue k lT lN hT hN (itT l) (itN l)):AnsOK k (rn lT lN) (rd lT lN) (rn lT lN) (rd lT lN) (rn hT hN) (rd hT hN) (exN 5 l) (exD 5 l):=by
  have e1:exN 5 l=rn (itT l) (itN l):=by unfold exN;simp
  have e2:exD 5 l=rd (itT l) (itN l):=by unfold exD;simp
  rw [e1,e2];exact ⟨⟨h.lo,h.lo,h.hi,Nat.le_refl _,rat_le h.l1 h.h1 h.lh⟩,h.v,rat_le h.l1 h.v1 h.lv,rat_le h.v1 h.h1 h.vh,rat_le h.l1 h.h1 h.lh,rat_within h.h1 h.l1 h.v1 h.lh h.nar⟩
theorem row_eight {w:World} {b:Nat} {t:TypeId} {x0 x1 x2 x3 x4 x5 x6 x7:Value} (h:Row w b t #[x0,x1,x2,x3,x4,x5,x6,x7]):w.cell? ⟨b,0,none⟩=some x0/\w.cell? ⟨b,1,none⟩=some x1/\w.cell? ⟨b,2,none⟩=some x2/\w.cell? ⟨b,3,none⟩=some x3/\w.cell? ⟨b,4,none⟩=some x4/\w.cell? ⟨b,5,none⟩=some x5/\w.cell? ⟨b,6,none⟩=some x6/\w.cell? ⟨b,7,none⟩=some x7/\w.frozen? ⟨b,0,none⟩=false/\w.frozen? ⟨b,1,none⟩=false/\w.frozen? ⟨b,2,none⟩=false/\w.frozen? ⟨b,3,none⟩=false/\w.frozen? ⟨b,4,none⟩=false/\w.frozen? ⟨b,5,none⟩=false/\w.frozen? ⟨b,6,none⟩=false/\w.frozen? ⟨b,7,none⟩=false :=
  ⟨row_cell h 0,row_cell h 1,row_cell h 2,row_cell h 3,row_cell h 4,row_cell h 5,row_cell h 6,row_cell h 7,row_free h 0,row_free h 1,row_free h 2,row_free h 3,row_free h 4,row_free h 5,row_free h 6,row_free h 7⟩
theorem pcin (n lo hi:Int) (w:World) (h0:lo<=n) (h1:n<=hi):Calls Tryz.prog 201 #[n,lo,hi] w (Rd (.bool true) w):=by
  go_enter Tryz.func201,Tryz.ntmps201;go_wp2_with fail;go_ret;exact ⟨by first | rfl | exact ret_bool (by simp;omega) | exact ret_bool (by simp [*]),rfl⟩
set_option maxRecDepth 100000 in
theorem ptake1 (sb cb ob j:Nat) (cs:Array Value) (x:Value) (w:World) (S:Row w sb 291 #[.pointer (some ⟨cb,j,none⟩)]) (C:Row w cb 27 cs) (O:Row w ob 4 #[.bool true]) (hx:cs[j]?=some x) (n1:cb≠ob) (n2:sb≠ob) (n3:sb≠cb) :
    Calls Tryz.prog 200 #[.bool true, .slice (some ⟨sb,0,none⟩) 1 1, .pointer (some ⟨ob,0,none⟩)] w fun e w'=>e = .returned (.tuple #[])/\w'=(w.setCell ⟨ob,0,none⟩ (.bool true)).setCell ⟨cb,j,none⟩ (.int .i64 0):=by
  obtain ⟨O0,O1⟩:=row_one O;go_enter Tryz.func200,Tryz.ntmps200;go_upto_region 1 with (fail)
  have S':=row_other (p:=⟨ob,0,none⟩) S n2 (.bool true);have C':=row_other (p:=⟨ob,0,none⟩) C n1 (.bool true);generalize hw1:w.setCell ⟨ob,0,none⟩ (.bool true)=w1 at S' C' |-
  replace hw1:=Lib.hid hw1;clear S C O O0 O1;obtain ⟨S0,_⟩:=row_one S';have C0:=(row_cell C' j).trans hx;have C1:=row_free C' j;clear S' C';go_wp2;go_loopw [6,13] (fun _ i wr=>(i = .int .i64 0/\wr=w1)∨(i = .int .i64 1/\wr=w1.setCell ⟨cb,j,none⟩ (.int .i64 0))) (fun _ i _=>2-(intOf i).toNat)
  case atStart=>exact .inl ⟨rfl,rfl⟩
  case round =>
    rcases hrel with ⟨rfl,rfl⟩ | ⟨rfl,rfl⟩
    · go_wp2;go_roundw
      case rel=>exact .inr ⟨by go_num,by first | rfl | trivial⟩
      case measure=>simp [intOf]
    · go_wp2
      go_end0
      exact ⟨rfl,by rw [hw1.out]⟩
set_option maxRecDepth 100000 in
set_option maxHeartbeats 2000000 in
theorem pcfgCount (kk cp wd:Int) (w:World) (hkk0:1<=kk) (hkk1:kk<=64) (hcp0:1<=cp) (hcp1:cp<=65536) (hwd0:1<=wd) (hwd1:wd<=1048576):Calls Tryz.prog 108 #[.agg (J23 wd kk cp)] w (Rr (.int .i64 0) w):=by
  have Pkk:=Lib.hid (fun w=>pcin kk 1 64 w hkk0 hkk1);have Pcp:=Lib.hid (fun w=>pcin cp 1 65536 w hcp0 hcp1);have Pwd:=Lib.hid (fun w=>pcin wd 1 1048576 w hwd0 hwd1);clear hkk0 hkk1 hcp0 hcp1 hwd0 hwd1;go_enter Tryz.func108,Tryz.ntmps108;go_upto_region 4 with (fail)
  have C:Row ((w.alloc (.cells (J23 wd kk cp) 27)).alloc (.cells #[.bool true] 4)) (w.heap.size) 27 (J23 wd kk cp):=row_alloc (row_new rfl) _;have O:Row ((w.alloc (.cells (J23 wd kk cp) 27)).alloc (.cells #[.bool true] 4)) (w.heap.size+1) 4 #[.bool true]:=row_new (by simp);have o:Below w w ((w.alloc (.cells (J23 wd kk cp) 27)).alloc (.cells #[.bool true] 4)):=bel9;generalize ((w.alloc (.cells (J23 wd kk cp) 27)).alloc (.cells #[.bool true] 4))=w1 at C O o |-
  obtain ⟨C0,C1,C2,C3,C4,C5,C6,C7,Cf0,Cf1,Cf2,Cf3,Cf4,Cf5,Cf6,Cf7⟩:=row_eight C;obtain ⟨O0,Of0⟩:=row_one O;go_wp2_with fail;refine (Pkk.out _).mono ?_;rintro e wx ⟨rfl,hx⟩;obtain rfl:=hx.symm;go_wp2_with fail;have S:Row (w1.alloc (.cells #[.pointer (some ⟨w,3,none⟩)] 291)) w1.heap.size 291 #[.pointer (some ⟨w,3,none⟩)]:=row_new rfl;have zs:=row_lt O;replace C:=row_alloc C (.cells #[.pointer (some ⟨w,3,none⟩)] 291);replace O:=row_alloc O (.cells #[.pointer (some ⟨w,3,none⟩)] 291);replace o:=o.alloc o.size (.cells #[.pointer (some ⟨w,3,none⟩)] 291);generalize w1.alloc (.cells #[.pointer (some ⟨w,3,none⟩)] 291)=w2 at S C O o |-
  generalize w1.heap.size=sb at S zs |-
  refine (ptake1 sb (w.heap.size) (w.heap.size+1) 3 (J23 wd kk cp) (.int .i64 kk) w2 S C O rfl (by omega) (by omega) (by omega)).mono ?_;rintro e w3 ⟨rfl,hw3⟩;replace C:Row w3 (w.heap.size) 27 #[.int .i64 2,(),wd,(),cp,(),(),()]:=by rw [hw3];exact row_set (row_other (p:=⟨w.heap.size+1,0,none⟩) C (by show w.heap.size≠w.heap.size+1;omega) (.bool true)) 3 (.int .i64 0)
  replace O:Row w3 (w.heap.size+1) 4 #[.bool true]:=by rw [hw3];exact row_other (p:=⟨w,3,none⟩) (row_set O 0 (.bool true)) (by show w.heap.size+1≠w.heap.size;omega) (.int .i64 0)
  replace o:Below w w w3:=by rw [hw3];exact (o.setCell (p:=⟨w.heap.size+1,0,none⟩) (by show w.heap.size<=w.heap.size+1;omega) (.bool true)).setCell (p:=⟨w,3,none⟩) (Nat.le_refl _) (.int .i64 0)
  clear hw3 S zs C0 C1 C2 C3 C4 C5 C6 C7 Cf0 Cf1 Cf2 Cf3 Cf4 Cf5 Cf6 Cf7 O0 Of0;obtain ⟨w1,hw1⟩:∃ x,x=w3:=⟨_,rfl⟩
  rw [<- hw1] at C O o |-
  clear hw1 w3;obtain ⟨C0,C1,C2,C3,C4,C5,C6,C7,Cf0,Cf1,Cf2,Cf3,Cf4,Cf5,Cf6,Cf7⟩:=row_eight C;obtain ⟨O0,Of0⟩:=row_one O;go_wp2_with fail;refine (Pcp.out _).mono ?_;rintro e wx ⟨rfl,hx⟩;obtain rfl:=hx.symm;go_wp2_with fail;have S:Row (w1.alloc (.cells #[.pointer (some ⟨w,4,none⟩)] 291)) w1.heap.size 291 #[.pointer (some ⟨w,4,none⟩)]:=row_new rfl;have zs:=row_lt O;replace C:=row_alloc C (.cells #[.pointer (some ⟨w,4,none⟩)] 291);replace O:=row_alloc O (.cells #[.pointer (some ⟨w,4,none⟩)] 291);replace o:=o.alloc o.size (.cells #[.pointer (some ⟨w,4,none⟩)] 291);generalize w1.alloc (.cells #[.pointer (some ⟨w,4,none⟩)] 291)=w2 at S C O o |-
  generalize w1.heap.size=sb at S zs |-
  refine (ptake1 sb (w.heap.size) (w.heap.size+1) 4 #[.int .i64 2,(),wd,(),cp,(),(),()] (.int .i64 cp) w2 S C O rfl (by omega) (by omega) (by omega)).mono ?_;rintro e w3 ⟨rfl,hw3⟩;replace C:Row w3 (w.heap.size) 27 #[.int .i64 2,(),wd,(),(),(),(),()]:=by rw [hw3];exact row_set (row_other (p:=⟨w.heap.size+1,0,none⟩) C (by show w.heap.size≠w.heap.size+1;omega) (.bool true)) 4 (.int .i64 0)
  replace O:Row w3 (w.heap.size+1) 4 #[.bool true]:=by rw [hw3];exact row_other (p:=⟨w,4,none⟩) (row_set O 0 (.bool true)) (by show w.heap.size+1≠w.heap.size;omega) (.int .i64 0)
  replace o:Below w w w3:=by rw [hw3];exact (o.setCell (p:=⟨w.heap.size+1,0,none⟩) (by show w.heap.size<=w.heap.size+1;omega) (.bool true)).setCell (p:=⟨w,4,none⟩) (Nat.le_refl _) (.int .i64 0)
  clear hw3 S zs C0 C1 C2 C3 C4 C5 C6 C7 Cf0 Cf1 Cf2 Cf3 Cf4 Cf5 Cf6 Cf7 O0 Of0;obtain ⟨w1,hw1⟩:∃ x,x=w3:=⟨_,rfl⟩
  rw [<- hw1] at C O o |-
  clear hw1 w3;obtain ⟨C0,C1,C2,C3,C4,C5,C6,C7,Cf0,Cf1,Cf2,Cf3,Cf4,Cf5,Cf6,Cf7⟩:=row_eight C;obtain ⟨O0,Of0⟩:=row_one O;go_wp2_with fail;refine (Pwd.out _).mono ?_;rintro e wx ⟨rfl,hx⟩;obtain rfl:=hx.symm;go_upto_region 36 with (fail)
  replace C:=row_set (row_other (p:=⟨w.heap.size+1,0,none⟩) C (by show w.heap.size≠w.heap.size+1;omega) (.bool true)) 2 (.int .i64 0);replace O:=row_other (p:=⟨w,2,none⟩) (row_set O 0 (.bool true)) (by show w.heap.size+1≠w.heap.size;omega) (.int .i64 0);replace o:=(o.setCell (p:=⟨w.heap.size+1,0,none⟩) (by show w.heap.size<=w.heap.size+1;omega) (.bool true)).setCell (p:=⟨w,2,none⟩) (Nat.le_refl _) (.int .i64 0);replace C:Row ((w1.setCell ⟨w.heap.size+1,0,none⟩ (.bool true)).setCell ⟨w,2,none⟩ (.int .i64 0)) (w.heap.size) 27 J44:=C;replace O:Row ((w1.setCell ⟨w.heap.size+1,0,none⟩ (.bool true)).setCell ⟨w,2,none⟩ (.int .i64 0)) (w.heap.size+1) 4 #[.bool true]:=O;generalize (w1.setCell ⟨w.heap.size+1,0,none⟩ (.bool true)).setCell ⟨w,2,none⟩ (.int .i64 0)=w2 at C O o |-
  clear C0 C1 C2 C3 C4 C5 C6 C7 Cf0 Cf1 Cf2 Cf3 Cf4 Cf5 Cf6 Cf7 O0 Of0;obtain ⟨C0,C1,C2,C3,C4,C5,C6,C7,Cf0,Cf1,Cf2,Cf3,Cf4,Cf5,Cf6,Cf7⟩:=row_eight C;obtain ⟨O0,Of0⟩:=row_one O;go_wp2;go_ret;exact ⟨rfl,o⟩
set_option maxRecDepth 100000 in
set_option maxHeartbeats 2000000 in
theorem pcfgSpread (kk cp wd:Int) (w:World) (hkk0:1<=kk) (hkk1:kk<=64) (hcp0:1<=cp) (hcp1:cp<=65536) (hwd0:1<=wd) (hwd1:wd<=1048576):Calls Tryz.prog 108 #[.agg (J28 wd kk cp)] w (Rr (.int .i64 0) w):=by
  have Pkk:=Lib.hid (fun w=>pcin kk 1 64 w hkk0 hkk1);have Pcp:=Lib.hid (fun w=>pcin cp 1 65536 w hcp0 hcp1);have Pwd:=Lib.hid (fun w=>pcin wd 1 1048576 w hwd0 hwd1);clear hkk0 hkk1 hcp0 hcp1 hwd0 hwd1;go_enter Tryz.func108,Tryz.ntmps108;go_upto_region 4 with (fail)
  have C:Row ((w.alloc (.cells (J28 wd kk cp) 27)).alloc (.cells #[.bool true] 4)) (w.heap.size) 27 (J28 wd kk cp):=row_alloc (row_new rfl) _;have O:Row ((w.alloc (.cells (J28 wd kk cp) 27)).alloc (.cells #[.bool true] 4)) (w.heap.size+1) 4 #[.bool true]:=row_new (by simp);have o:Below w w ((w.alloc (.cells (J28 wd kk cp) 27)).alloc (.cells #[.bool true] 4)):=bel9;generalize ((w.alloc (.cells (J28 wd kk cp) 27)).alloc (.cells #[.bool true] 4))=w1 at C O o |-
  obtain ⟨C0,C1,C2,C3,C4,C5,C6,C7,Cf0,Cf1,Cf2,Cf3,Cf4,Cf5,Cf6,Cf7⟩:=row_eight C;obtain ⟨O0,Of0⟩:=row_one O;go_wp2_with fail;refine (Pkk.out _).mono ?_;rintro e wx ⟨rfl,hx⟩;obtain rfl:=hx.symm;go_wp2_with fail;have S:Row (w1.alloc (.cells #[.pointer (some ⟨w,3,none⟩)] 291)) w1.heap.size 291 #[.pointer (some ⟨w,3,none⟩)]:=row_new rfl;have zs:=row_lt O;replace C:=row_alloc C (.cells #[.pointer (some ⟨w,3,none⟩)] 291);replace O:=row_alloc O (.cells #[.pointer (some ⟨w,3,none⟩)] 291);replace o:=o.alloc o.size (.cells #[.pointer (some ⟨w,3,none⟩)] 291);generalize w1.alloc (.cells #[.pointer (some ⟨w,3,none⟩)] 291)=w2 at S C O o |-
  generalize w1.heap.size=sb at S zs |-
  refine (ptake1 sb (w.heap.size) (w.heap.size+1) 3 (J28 wd kk cp) (.int .i64 kk) w2 S C O rfl (by omega) (by omega) (by omega)).mono ?_;rintro e w3 ⟨rfl,hw3⟩;replace C:Row w3 (w.heap.size) 27 #[.int .i64 5,(),wd,(),cp,(),(),()]:=by rw [hw3];exact row_set (row_other (p:=⟨w.heap.size+1,0,none⟩) C (by show w.heap.size≠w.heap.size+1;omega) (.bool true)) 3 (.int .i64 0)
  replace O:Row w3 (w.heap.size+1) 4 #[.bool true]:=by rw [hw3];exact row_other (p:=⟨w,3,none⟩) (row_set O 0 (.bool true)) (by show w.heap.size+1≠w.heap.size;omega) (.int .i64 0)
  replace o:Below w w w3:=by rw [hw3];exact (o.setCell (p:=⟨w.heap.size+1,0,none⟩) (by show w.heap.size<=w.heap.size+1;omega) (.bool true)).setCell (p:=⟨w,3,none⟩) (Nat.le_refl _) (.int .i64 0)
  clear hw3 S zs C0 C1 C2 C3 C4 C5 C6 C7 Cf0 Cf1 Cf2 Cf3 Cf4 Cf5 Cf6 Cf7 O0 Of0;obtain ⟨w1,hw1⟩:∃ x,x=w3:=⟨_,rfl⟩
  rw [<- hw1] at C O o |-
  clear hw1 w3;obtain ⟨C0,C1,C2,C3,C4,C5,C6,C7,Cf0,Cf1,Cf2,Cf3,Cf4,Cf5,Cf6,Cf7⟩:=row_eight C;obtain ⟨O0,Of0⟩:=row_one O;go_wp2_with fail;refine (Pcp.out _).mono ?_;rintro e wx ⟨rfl,hx⟩;obtain rfl:=hx.symm;go_wp2_with fail;have S:Row (w1.alloc (.cells #[.pointer (some ⟨w,4,none⟩)] 291)) w1.heap.size 291 #[.pointer (some ⟨w,4,none⟩)]:=row_new rfl;have zs:=row_lt O;replace C:=row_alloc C (.cells #[.pointer (some ⟨w,4,none⟩)] 291);replace O:=row_alloc O (.cells #[.pointer (some ⟨w,4,none⟩)] 291);replace o:=o.alloc o.size (.cells #[.pointer (some ⟨w,4,none⟩)] 291);generalize w1.alloc (.cells #[.pointer (some ⟨w,4,none⟩)] 291)=w2 at S C O o |-
  generalize w1.heap.size=sb at S zs |-
  refine (ptake1 sb (w.heap.size) (w.heap.size+1) 4 #[.int .i64 5,(),wd,(),cp,(),(),()] (.int .i64 cp) w2 S C O rfl (by omega) (by omega) (by omega)).mono ?_;rintro e w3 ⟨rfl,hw3⟩;replace C:Row w3 (w.heap.size) 27 #[.int .i64 5,(),wd,(),(),(),(),()]:=by rw [hw3];exact row_set (row_other (p:=⟨w.heap.size+1,0,none⟩) C (by show w.heap.size≠w.heap.size+1;omega) (.bool true)) 4 (.int .i64 0)
  replace O:Row w3 (w.heap.size+1) 4 #[.bool true]:=by rw [hw3];exact row_other (p:=⟨w,4,none⟩) (row_set O 0 (.bool true)) (by show w.heap.size+1≠w.heap.size;omega) (.int .i64 0)
  replace o:Below w w w3:=by rw [hw3];exact (o.setCell (p:=⟨w.heap.size+1,0,none⟩) (by show w.heap.size<=w.heap.size+1;omega) (.bool true)).setCell (p:=⟨w,4,none⟩) (Nat.le_refl _) (.int .i64 0)
  clear hw3 S zs C0 C1 C2 C3 C4 C5 C6 C7 Cf0 Cf1 Cf2 Cf3 Cf4 Cf5 Cf6 Cf7 O0 Of0;obtain ⟨w1,hw1⟩:∃ x,x=w3:=⟨_,rfl⟩
  rw [<- hw1] at C O o |-
  clear hw1 w3;obtain ⟨C0,C1,C2,C3,C4,C5,C6,C7,Cf0,Cf1,Cf2,Cf3,Cf4,Cf5,Cf6,Cf7⟩:=row_eight C;obtain ⟨O0,Of0⟩:=row_one O;go_wp2_with fail;refine (Pwd.out _).mono ?_;rintro e wx ⟨rfl,hx⟩;obtain rfl:=hx.symm;go_upto_region 36 with (fail)
  replace C:=row_set (row_other (p:=⟨w.heap.size+1,0,none⟩) C (by show w.heap.size≠w.heap.size+1;omega) (.bool true)) 2 (.int .i64 0);replace O:=row_other (p:=⟨w,2,none⟩) (row_set O 0 (.bool true)) (by show w.heap.size+1≠w.heap.size;omega) (.int .i64 0);replace o:=(o.setCell (p:=⟨w.heap.size+1,0,none⟩) (by show w.heap.size<=w.heap.size+1;omega) (.bool true)).setCell (p:=⟨w,2,none⟩) (Nat.le_refl _) (.int .i64 0);replace C:Row ((w1.setCell ⟨w.heap.size+1,0,none⟩ (.bool true)).setCell ⟨w,2,none⟩ (.int .i64 0)) (w.heap.size) 27 J47:=C;replace O:Row ((w1.setCell ⟨w.heap.size+1,0,none⟩ (.bool true)).setCell ⟨w,2,none⟩ (.int .i64 0)) (w.heap.size+1) 4 #[.bool true]:=O;generalize (w1.setCell ⟨w.heap.size+1,0,none⟩ (.bool true)).setCell ⟨w,2,none⟩ (.int .i64 0)=w2 at C O o |-
  clear C0 C1 C2 C3 C4 C5 C6 C7 Cf0 Cf1 Cf2 Cf3 Cf4 Cf5 Cf6 Cf7 O0 Of0;obtain ⟨C0,C1,C2,C3,C4,C5,C6,C7,Cf0,Cf1,Cf2,Cf3,Cf4,Cf5,Cf6,Cf7⟩:=row_eight C;obtain ⟨O0,Of0⟩:=row_one O;go_wp2;go_ret;exact ⟨rfl,o⟩
set_option maxRecDepth 100000 in
set_option maxHeartbeats 2000000 in
theorem pcfgSmooth (ag kk cp wd:Int) (w:World) (hag0:1<=ag) (hag1:ag<=4) (hkk0:1<=kk) (hkk1:kk<=64) (hcp0:1<=cp) (hcp1:cp<=65536) (hwd0:1<=wd) (hwd1:wd<=1048576):Calls Tryz.prog 108 #[.agg (J32 ag wd kk cp)] w (Rr (.int .i64 0) w):=by
  have Pag:=Lib.hid (fun w=>pcin ag 1 4 w hag0 hag1);have Pkk:=Lib.hid (fun w=>pcin kk 1 64 w hkk0 hkk1);have Pcp:=Lib.hid (fun w=>pcin cp 1 65536 w hcp0 hcp1);have Pwd:=Lib.hid (fun w=>pcin wd 1 1048576 w hwd0 hwd1);clear hag0 hag1 hkk0 hkk1 hcp0 hcp1 hwd0 hwd1;go_enter Tryz.func108,Tryz.ntmps108;go_upto_region 4 with (fail)
  have C:Row ((w.alloc (.cells (J32 ag wd kk cp) 27)).alloc (.cells #[.bool true] 4)) (w.heap.size) 27 (J32 ag wd kk cp):=row_alloc (row_new rfl) _;have O:Row ((w.alloc (.cells (J32 ag wd kk cp) 27)).alloc (.cells #[.bool true] 4)) (w.heap.size+1) 4 #[.bool true]:=row_new (by simp);have o:Below w w ((w.alloc (.cells (J32 ag wd kk cp) 27)).alloc (.cells #[.bool true] 4)):=bel9;generalize ((w.alloc (.cells (J32 ag wd kk cp) 27)).alloc (.cells #[.bool true] 4))=w1 at C O o |-
  obtain ⟨C0,C1,C2,C3,C4,C5,C6,C7,Cf0,Cf1,Cf2,Cf3,Cf4,Cf5,Cf6,Cf7⟩:=row_eight C;obtain ⟨O0,Of0⟩:=row_one O;go_wp2_with fail;refine (Pag.out _).mono ?_;rintro e wx ⟨rfl,hx⟩;obtain rfl:=hx.symm;go_wp2_with fail;have S:Row (w1.alloc (.cells #[.pointer (some ⟨w,1,none⟩)] 291)) w1.heap.size 291 #[.pointer (some ⟨w,1,none⟩)]:=row_new rfl;have zs:=row_lt O;replace C:=row_alloc C (.cells #[.pointer (some ⟨w,1,none⟩)] 291);replace O:=row_alloc O (.cells #[.pointer (some ⟨w,1,none⟩)] 291);replace o:=o.alloc o.size (.cells #[.pointer (some ⟨w,1,none⟩)] 291);generalize w1.alloc (.cells #[.pointer (some ⟨w,1,none⟩)] 291)=w2 at S C O o |-
  generalize w1.heap.size=sb at S zs |-
  refine (ptake1 sb (w.heap.size) (w.heap.size+1) 1 (J32 ag wd kk cp) (.int .i64 ag) w2 S C O rfl (by omega) (by omega) (by omega)).mono ?_;rintro e w3 ⟨rfl,hw3⟩;replace C:Row w3 (w.heap.size) 27 #[.int .i64 4,(),wd,kk,cp,(),(),()]:=by rw [hw3];exact row_set (row_other (p:=⟨w.heap.size+1,0,none⟩) C (by show w.heap.size≠w.heap.size+1;omega) (.bool true)) 1 (.int .i64 0)
  replace O:Row w3 (w.heap.size+1) 4 #[.bool true]:=by rw [hw3];exact row_other (p:=⟨w,1,none⟩) (row_set O 0 (.bool true)) (by show w.heap.size+1≠w.heap.size;omega) (.int .i64 0)
  replace o:Below w w w3:=by rw [hw3];exact (o.setCell (p:=⟨w.heap.size+1,0,none⟩) (by show w.heap.size<=w.heap.size+1;omega) (.bool true)).setCell (p:=⟨w,1,none⟩) (Nat.le_refl _) (.int .i64 0)
  clear hw3 S zs C0 C1 C2 C3 C4 C5 C6 C7 Cf0 Cf1 Cf2 Cf3 Cf4 Cf5 Cf6 Cf7 O0 Of0;obtain ⟨w1,hw1⟩:∃ x,x=w3:=⟨_,rfl⟩
  rw [<- hw1] at C O o |-
  clear hw1 w3;obtain ⟨C0,C1,C2,C3,C4,C5,C6,C7,Cf0,Cf1,Cf2,Cf3,Cf4,Cf5,Cf6,Cf7⟩:=row_eight C;obtain ⟨O0,Of0⟩:=row_one O;go_wp2_with fail;refine (Pkk.out _).mono ?_;rintro e wx ⟨rfl,hx⟩;obtain rfl:=hx.symm;go_wp2_with fail;have S:Row (w1.alloc (.cells #[.pointer (some ⟨w,3,none⟩)] 291)) w1.heap.size 291 #[.pointer (some ⟨w,3,none⟩)]:=row_new rfl;have zs:=row_lt O;replace C:=row_alloc C (.cells #[.pointer (some ⟨w,3,none⟩)] 291);replace O:=row_alloc O (.cells #[.pointer (some ⟨w,3,none⟩)] 291);replace o:=o.alloc o.size (.cells #[.pointer (some ⟨w,3,none⟩)] 291);generalize w1.alloc (.cells #[.pointer (some ⟨w,3,none⟩)] 291)=w2 at S C O o |-
  generalize w1.heap.size=sb at S zs |-
  refine (ptake1 sb (w.heap.size) (w.heap.size+1) 3 #[.int .i64 4,(),wd,kk,cp,(),(),()] (.int .i64 kk) w2 S C O rfl (by omega) (by omega) (by omega)).mono ?_;rintro e w3 ⟨rfl,hw3⟩;replace C:Row w3 (w.heap.size) 27 #[.int .i64 4,(),wd,(),cp,(),(),()]:=by rw [hw3];exact row_set (row_other (p:=⟨w.heap.size+1,0,none⟩) C (by show w.heap.size≠w.heap.size+1;omega) (.bool true)) 3 (.int .i64 0)
  replace O:Row w3 (w.heap.size+1) 4 #[.bool true]:=by rw [hw3];exact row_other (p:=⟨w,3,none⟩) (row_set O 0 (.bool true)) (by show w.heap.size+1≠w.heap.size;omega) (.int .i64 0)
  replace o:Below w w w3:=by rw [hw3];exact (o.setCell (p:=⟨w.heap.size+1,0,none⟩) (by show w.heap.size<=w.heap.size+1;omega) (.bool true)).setCell (p:=⟨w,3,none⟩) (Nat.le_refl _) (.int .i64 0)
  clear hw3 S zs C0 C1 C2 C3 C4 C5 C6 C7 Cf0 Cf1 Cf2 Cf3 Cf4 Cf5 Cf6 Cf7 O0 Of0;obtain ⟨w1,hw1⟩:∃ x,x=w3:=⟨_,rfl⟩
  rw [<- hw1] at C O o |-
  clear hw1 w3;obtain ⟨C0,C1,C2,C3,C4,C5,C6,C7,Cf0,Cf1,Cf2,Cf3,Cf4,Cf5,Cf6,Cf7⟩:=row_eight C;obtain ⟨O0,Of0⟩:=row_one O;go_wp2_with fail;refine (Pcp.out _).mono ?_;rintro e wx ⟨rfl,hx⟩;obtain rfl:=hx.symm;go_wp2_with fail;have S:Row (w1.alloc (.cells #[.pointer (some ⟨w,4,none⟩)] 291)) w1.heap.size 291 #[.pointer (some ⟨w,4,none⟩)]:=row_new rfl;have zs:=row_lt O;replace C:=row_alloc C (.cells #[.pointer (some ⟨w,4,none⟩)] 291);replace O:=row_alloc O (.cells #[.pointer (some ⟨w,4,none⟩)] 291);replace o:=o.alloc o.size (.cells #[.pointer (some ⟨w,4,none⟩)] 291);generalize w1.alloc (.cells #[.pointer (some ⟨w,4,none⟩)] 291)=w2 at S C O o |-
  generalize w1.heap.size=sb at S zs |-
  refine (ptake1 sb (w.heap.size) (w.heap.size+1) 4 #[.int .i64 4,(),wd,(),cp,(),(),()] (.int .i64 cp) w2 S C O rfl (by omega) (by omega) (by omega)).mono ?_;rintro e w3 ⟨rfl,hw3⟩;replace C:Row w3 (w.heap.size) 27 #[.int .i64 4,(),wd,(),(),(),(),()]:=by rw [hw3];exact row_set (row_other (p:=⟨w.heap.size+1,0,none⟩) C (by show w.heap.size≠w.heap.size+1;omega) (.bool true)) 4 (.int .i64 0)
  replace O:Row w3 (w.heap.size+1) 4 #[.bool true]:=by rw [hw3];exact row_other (p:=⟨w,4,none⟩) (row_set O 0 (.bool true)) (by show w.heap.size+1≠w.heap.size;omega) (.int .i64 0)
  replace o:Below w w w3:=by rw [hw3];exact (o.setCell (p:=⟨w.heap.size+1,0,none⟩) (by show w.heap.size<=w.heap.size+1;omega) (.bool true)).setCell (p:=⟨w,4,none⟩) (Nat.le_refl _) (.int .i64 0)
  clear hw3 S zs C0 C1 C2 C3 C4 C5 C6 C7 Cf0 Cf1 Cf2 Cf3 Cf4 Cf5 Cf6 Cf7 O0 Of0;obtain ⟨w1,hw1⟩:∃ x,x=w3:=⟨_,rfl⟩
  rw [<- hw1] at C O o |-
  clear hw1 w3;obtain ⟨C0,C1,C2,C3,C4,C5,C6,C7,Cf0,Cf1,Cf2,Cf3,Cf4,Cf5,Cf6,Cf7⟩:=row_eight C;obtain ⟨O0,Of0⟩:=row_one O;go_wp2_with fail;refine (Pwd.out _).mono ?_;rintro e wx ⟨rfl,hx⟩;obtain rfl:=hx.symm;go_upto_region 36 with (fail)
  replace C:=row_set (row_other (p:=⟨w.heap.size+1,0,none⟩) C (by show w.heap.size≠w.heap.size+1;omega) (.bool true)) 2 (.int .i64 0);replace O:=row_other (p:=⟨w,2,none⟩) (row_set O 0 (.bool true)) (by show w.heap.size+1≠w.heap.size;omega) (.int .i64 0);replace o:=(o.setCell (p:=⟨w.heap.size+1,0,none⟩) (by show w.heap.size<=w.heap.size+1;omega) (.bool true)).setCell (p:=⟨w,2,none⟩) (Nat.le_refl _) (.int .i64 0);replace C:Row ((w1.setCell ⟨w.heap.size+1,0,none⟩ (.bool true)).setCell ⟨w,2,none⟩ (.int .i64 0)) (w.heap.size) 27 J46:=C;replace O:Row ((w1.setCell ⟨w.heap.size+1,0,none⟩ (.bool true)).setCell ⟨w,2,none⟩ (.int .i64 0)) (w.heap.size+1) 4 #[.bool true]:=O;generalize (w1.setCell ⟨w.heap.size+1,0,none⟩ (.bool true)).setCell ⟨w,2,none⟩ (.int .i64 0)=w2 at C O o |-
  clear C0 C1 C2 C3 C4 C5 C6 C7 Cf0 Cf1 Cf2 Cf3 Cf4 Cf5 Cf6 Cf7 O0 Of0;obtain ⟨C0,C1,C2,C3,C4,C5,C6,C7,Cf0,Cf1,Cf2,Cf3,Cf4,Cf5,Cf6,Cf7⟩:=row_eight C;obtain ⟨O0,Of0⟩:=row_one O;go_wp2;go_ret;exact ⟨rfl,o⟩
set_option maxRecDepth 100000 in
set_option maxHeartbeats 2000000 in
theorem pcfgSum (kk cp mx wd:Int) (w:World) (hkk0:1<=kk) (hkk1:kk<=64) (hcp0:1<=cp) (hcp1:cp<=65536) (hmx0:1<=mx) (hmx1:mx<=1024) (hwd0:1<=wd) (hwd1:wd<=1048576):Calls Tryz.prog 108 #[.agg (J22 wd kk cp mx)] w (Rr (.int .i64 0) w):=by
  have Pkk:=Lib.hid (fun w=>pcin kk 1 64 w hkk0 hkk1);have Pcp:=Lib.hid (fun w=>pcin cp 1 65536 w hcp0 hcp1);have Pmx:=Lib.hid (fun w=>pcin mx 1 1024 w hmx0 hmx1);have Pwd:=Lib.hid (fun w=>pcin wd 1 1048576 w hwd0 hwd1);clear hkk0 hkk1 hcp0 hcp1 hmx0 hmx1 hwd0 hwd1;go_enter Tryz.func108,Tryz.ntmps108;go_upto_region 4 with (fail)
  have C:Row ((w.alloc (.cells (J22 wd kk cp mx) 27)).alloc (.cells #[.bool true] 4)) (w.heap.size) 27 (J22 wd kk cp mx):=row_alloc (row_new rfl) _;have O:Row ((w.alloc (.cells (J22 wd kk cp mx) 27)).alloc (.cells #[.bool true] 4)) (w.heap.size+1) 4 #[.bool true]:=row_new (by simp);have o:Below w w ((w.alloc (.cells (J22 wd kk cp mx) 27)).alloc (.cells #[.bool true] 4)):=bel9;generalize ((w.alloc (.cells (J22 wd kk cp mx) 27)).alloc (.cells #[.bool true] 4))=w1 at C O o |-
  obtain ⟨C0,C1,C2,C3,C4,C5,C6,C7,Cf0,Cf1,Cf2,Cf3,Cf4,Cf5,Cf6,Cf7⟩:=row_eight C;obtain ⟨O0,Of0⟩:=row_one O;go_wp2_with fail;refine (Pmx.out _).mono ?_;rintro e wx ⟨rfl,hx⟩;obtain rfl:=hx.symm;go_upto_region 24 with (fail)
  replace C:=row_set (row_other (p:=⟨w.heap.size+1,0,none⟩) C (by show w.heap.size≠w.heap.size+1;omega) (.bool true)) 7 (.int .i64 0);replace O:=row_other (p:=⟨w,7,none⟩) (row_set O 0 (.bool true)) (by show w.heap.size+1≠w.heap.size;omega) (.int .i64 0);replace o:=(o.setCell (p:=⟨w.heap.size+1,0,none⟩) (by show w.heap.size<=w.heap.size+1;omega) (.bool true)).setCell (p:=⟨w,7,none⟩) (Nat.le_refl _) (.int .i64 0);replace C:Row ((w1.setCell ⟨w.heap.size+1,0,none⟩ (.bool true)).setCell ⟨w,7,none⟩ (.int .i64 0)) (w.heap.size) 27 #[.int .i64 3,(),wd,kk,cp,(),(),()]:=C;replace O:Row ((w1.setCell ⟨w.heap.size+1,0,none⟩ (.bool true)).setCell ⟨w,7,none⟩ (.int .i64 0)) (w.heap.size+1) 4 #[.bool true]:=O;generalize (w1.setCell ⟨w.heap.size+1,0,none⟩ (.bool true)).setCell ⟨w,7,none⟩ (.int .i64 0)=w2 at C O o |-
  clear C0 C1 C2 C3 C4 C5 C6 C7 Cf0 Cf1 Cf2 Cf3 Cf4 Cf5 Cf6 Cf7 O0 Of0;obtain ⟨w1,hw1⟩:∃ x,x=w2:=⟨_,rfl⟩
  rw [<- hw1] at C O o |-
  clear hw1 w2;obtain ⟨C0,C1,C2,C3,C4,C5,C6,C7,Cf0,Cf1,Cf2,Cf3,Cf4,Cf5,Cf6,Cf7⟩:=row_eight C;obtain ⟨O0,Of0⟩:=row_one O;go_wp2_with fail;refine (Pkk.out _).mono ?_;rintro e wx ⟨rfl,hx⟩;obtain rfl:=hx.symm;go_wp2_with fail;have S:Row (w1.alloc (.cells #[.pointer (some ⟨w,3,none⟩)] 291)) w1.heap.size 291 #[.pointer (some ⟨w,3,none⟩)]:=row_new rfl;have zs:=row_lt O;replace C:=row_alloc C (.cells #[.pointer (some ⟨w,3,none⟩)] 291);replace O:=row_alloc O (.cells #[.pointer (some ⟨w,3,none⟩)] 291);replace o:=o.alloc o.size (.cells #[.pointer (some ⟨w,3,none⟩)] 291);generalize w1.alloc (.cells #[.pointer (some ⟨w,3,none⟩)] 291)=w2 at S C O o |-
  generalize w1.heap.size=sb at S zs |-
  refine (ptake1 sb (w.heap.size) (w.heap.size+1) 3 #[.int .i64 3,(),wd,kk,cp,(),(),()] (.int .i64 kk) w2 S C O rfl (by omega) (by omega) (by omega)).mono ?_;rintro e w3 ⟨rfl,hw3⟩;replace C:Row w3 (w.heap.size) 27 #[.int .i64 3,(),wd,(),cp,(),(),()]:=by rw [hw3];exact row_set (row_other (p:=⟨w.heap.size+1,0,none⟩) C (by show w.heap.size≠w.heap.size+1;omega) (.bool true)) 3 (.int .i64 0)
  replace O:Row w3 (w.heap.size+1) 4 #[.bool true]:=by rw [hw3];exact row_other (p:=⟨w,3,none⟩) (row_set O 0 (.bool true)) (by show w.heap.size+1≠w.heap.size;omega) (.int .i64 0)
  replace o:Below w w w3:=by rw [hw3];exact (o.setCell (p:=⟨w.heap.size+1,0,none⟩) (by show w.heap.size<=w.heap.size+1;omega) (.bool true)).setCell (p:=⟨w,3,none⟩) (Nat.le_refl _) (.int .i64 0)
  clear hw3 S zs C0 C1 C2 C3 C4 C5 C6 C7 Cf0 Cf1 Cf2 Cf3 Cf4 Cf5 Cf6 Cf7 O0 Of0;obtain ⟨w1,hw1⟩:∃ x,x=w3:=⟨_,rfl⟩
  rw [<- hw1] at C O o |-
  clear hw1 w3;obtain ⟨C0,C1,C2,C3,C4,C5,C6,C7,Cf0,Cf1,Cf2,Cf3,Cf4,Cf5,Cf6,Cf7⟩:=row_eight C;obtain ⟨O0,Of0⟩:=row_one O;go_wp2_with fail;refine (Pcp.out _).mono ?_;rintro e wx ⟨rfl,hx⟩;obtain rfl:=hx.symm;go_wp2_with fail;have S:Row (w1.alloc (.cells #[.pointer (some ⟨w,4,none⟩)] 291)) w1.heap.size 291 #[.pointer (some ⟨w,4,none⟩)]:=row_new rfl;have zs:=row_lt O;replace C:=row_alloc C (.cells #[.pointer (some ⟨w,4,none⟩)] 291);replace O:=row_alloc O (.cells #[.pointer (some ⟨w,4,none⟩)] 291);replace o:=o.alloc o.size (.cells #[.pointer (some ⟨w,4,none⟩)] 291);generalize w1.alloc (.cells #[.pointer (some ⟨w,4,none⟩)] 291)=w2 at S C O o |-
  generalize w1.heap.size=sb at S zs |-
  refine (ptake1 sb (w.heap.size) (w.heap.size+1) 4 #[.int .i64 3,(),wd,(),cp,(),(),()] (.int .i64 cp) w2 S C O rfl (by omega) (by omega) (by omega)).mono ?_;rintro e w3 ⟨rfl,hw3⟩;replace C:Row w3 (w.heap.size) 27 #[.int .i64 3,(),wd,(),(),(),(),()]:=by rw [hw3];exact row_set (row_other (p:=⟨w.heap.size+1,0,none⟩) C (by show w.heap.size≠w.heap.size+1;omega) (.bool true)) 4 (.int .i64 0)
  replace O:Row w3 (w.heap.size+1) 4 #[.bool true]:=by rw [hw3];exact row_other (p:=⟨w,4,none⟩) (row_set O 0 (.bool true)) (by show w.heap.size+1≠w.heap.size;omega) (.int .i64 0)
  replace o:Below w w w3:=by rw [hw3];exact (o.setCell (p:=⟨w.heap.size+1,0,none⟩) (by show w.heap.size<=w.heap.size+1;omega) (.bool true)).setCell (p:=⟨w,4,none⟩) (Nat.le_refl _) (.int .i64 0)
  clear hw3 S zs C0 C1 C2 C3 C4 C5 C6 C7 Cf0 Cf1 Cf2 Cf3 Cf4 Cf5 Cf6 Cf7 O0 Of0;obtain ⟨w1,hw1⟩:∃ x,x=w3:=⟨_,rfl⟩
  rw [<- hw1] at C O o |-
  clear hw1 w3;obtain ⟨C0,C1,C2,C3,C4,C5,C6,C7,Cf0,Cf1,Cf2,Cf3,Cf4,Cf5,Cf6,Cf7⟩:=row_eight C;obtain ⟨O0,Of0⟩:=row_one O;go_wp2_with fail;refine (Pwd.out _).mono ?_;rintro e wx ⟨rfl,hx⟩;obtain rfl:=hx.symm;go_upto_region 36 with (fail)
  replace C:=row_set (row_other (p:=⟨w.heap.size+1,0,none⟩) C (by show w.heap.size≠w.heap.size+1;omega) (.bool true)) 2 (.int .i64 0);replace O:=row_other (p:=⟨w,2,none⟩) (row_set O 0 (.bool true)) (by show w.heap.size+1≠w.heap.size;omega) (.int .i64 0);replace o:=(o.setCell (p:=⟨w.heap.size+1,0,none⟩) (by show w.heap.size<=w.heap.size+1;omega) (.bool true)).setCell (p:=⟨w,2,none⟩) (Nat.le_refl _) (.int .i64 0);replace C:Row ((w1.setCell ⟨w.heap.size+1,0,none⟩ (.bool true)).setCell ⟨w,2,none⟩ (.int .i64 0)) (w.heap.size) 27 J45:=C;replace O:Row ((w1.setCell ⟨w.heap.size+1,0,none⟩ (.bool true)).setCell ⟨w,2,none⟩ (.int .i64 0)) (w.heap.size+1) 4 #[.bool true]:=O;generalize (w1.setCell ⟨w.heap.size+1,0,none⟩ (.bool true)).setCell ⟨w,2,none⟩ (.int .i64 0)=w2 at C O o |-
  clear C0 C1 C2 C3 C4 C5 C6 C7 Cf0 Cf1 Cf2 Cf3 Cf4 Cf5 Cf6 Cf7 O0 Of0;obtain ⟨C0,C1,C2,C3,C4,C5,C6,C7,Cf0,Cf1,Cf2,Cf3,Cf4,Cf5,Cf6,Cf7⟩:=row_eight C;obtain ⟨O0,Of0⟩:=row_one O;go_wp2;go_ret;exact ⟨rfl,o⟩
section
variable {P:Program} {c:Code} {Q:Exit->Act->World->Prop} {a:Act} {w:World} {cs1 cs2 cs3:Array Value} {t1 t2 t3:TypeId}
theorem start1 (h:∀ w1,Row w1 w t1 cs1->Below w w w1->c.wp P Q a w1):c.wp P Q a (w.alloc (.cells cs1 t1)) :=
  h _ (row_new rfl) ((Below.refl _ _).alloc (Nat.le_refl _) _)
theorem start2 (h:∀ w1,Row w1 w t1 cs1->Row w1 (w.heap.size+1) t2 cs2->Below w w w1->c.wp P Q a w1):c.wp P Q a ((w.alloc (.cells cs1 t1)).alloc (.cells cs2 t2)) :=
  h _ (row_alloc (row_new rfl) _) (row_new (by simp)) (((Below.refl _ _).alloc (Nat.le_refl _) _).alloc (by simp) _)
theorem start3 (h:∀ w1,Row w1 w t1 cs1->Row w1 (w.heap.size+1) t2 cs2->Row w1 (w.heap.size+2) t3 cs3->Below w w w1->c.wp P Q a w1):c.wp P Q a (((w.alloc (.cells cs1 t1)).alloc (.cells cs2 t2)).alloc (.cells cs3 t3)) :=
  h _ (row_alloc (row_alloc (row_new rfl) _) _) (row_alloc (row_new (by first | (simp;done) | (simp;omega))) _) (row_new (by first | (simp;done) | (simp;omega))) ((((Below.refl _ _).alloc (Nat.le_refl _) _).alloc (by first | (simp;done) | (simp;omega)) _).alloc (by first | (simp;done) | (simp;omega)) _)
end
def setL:World->Nat->Nat->List Value->World
  | w,_,_,[]=>w
  | w,b,i,v :: r=>setL (w.setCell ⟨b,i,none⟩ v) b (i+1) r
def arrL:Array Value->Nat->List Value->Array Value
  | cs,_,[]=>cs
  | cs,i,v :: r=>arrL (cs.setIfInBounds i v) (i+1) r
theorem row_setL {b:Nat} {t:TypeId}:∀ (vs:List Value) {w:World} {i:Nat} {cs:Array Value},Row w b t cs->Row (setL w b i vs) b t (arrL cs i vs)
  | [],_,_,_,h=>h
  | v :: r,_,i,_,h=>row_setL r (row_set h i v)
theorem row_otherL {b g:Nat} {t:TypeId} {cs:Array Value} (hne:b≠g):∀ (vs:List Value) {w:World} {i:Nat},Row w b t cs->Row (setL w g i vs) b t cs
  | [],_,_,h=>h
  | v :: r,_,i,h=>row_otherL hne r (row_other (p:=⟨g,i,none⟩) h hne v)
theorem below_setL {B g:Nat} {w0:World} (hB:B<=g):∀ (vs:List Value) {w:World} {i:Nat},Below B w0 w->Below B w0 (setL w g i vs)
  | [],_,_,h=>h
  | v :: r,_,i,h=>below_setL hB r (h.setCell (p:=⟨g,i,none⟩) hB v)
section
variable {w w0:World} {B x g a1 a2 a3 a4:Nat} {tx tg t1 t2 t3 t4:TypeId} {cx cg c1 c2 c3 c4:Array Value}
theorem layK {K:Act->World->Prop} {a:Act} (vs:List Value) (X:Row w x tx cx) (o:Below B w0 w) (G:Row w g tg cg) (A1:Row w a1 t1 c1) (A2:Row w a2 t2 c2) (A3:Row w a3 t3 c3) (A4:Row w a4 t4 c4) (hx:x≠g) (h1:a1≠g) (h2:a2≠g) (h3:a3≠g) (h4:a4≠g) (hB:B<=g)
    (h:∀ w',Row w' x tx cx->Below B w0 w'->Row w' g tg (arrL cg 0 vs)->Row w' a1 t1 c1->Row w' a2 t2 c2->Row w' a3 t3 c3->Row w' a4 t4 c4->K a w'):K a (setL w g 0 vs) :=
  h _ (row_otherL hx vs X) (below_setL hB vs o) (row_setL vs G) (row_otherL h1 vs A1) (row_otherL h2 vs A2) (row_otherL h3 vs A3) (row_otherL h4 vs A4)
theorem layC {P:Program} {c:Code} {Q:Exit->Act->World->Prop} {a:Act} (vs:List Value) (X:Row w x tx cx) (o:Below B w0 w) (G:Row w g tg cg) (A1:Row w a1 t1 c1) (A2:Row w a2 t2 c2) (A3:Row w a3 t3 c3) (A4:Row w a4 t4 c4) (hx:x≠g) (h1:a1≠g) (h2:a2≠g) (h3:a3≠g) (h4:a4≠g) (hB:B<=g)
    (h:∀ w',Row w' x tx cx->Below B w0 w'->Row w' g tg (arrL cg 0 vs)->Row w' a1 t1 c1->Row w' a2 t2 c2->Row w' a3 t3 c3->Row w' a4 t4 c4->c.wp P Q a w'):c.wp P Q a (setL w g 0 vs) :=
  h _ (row_otherL hx vs X) (below_setL hB vs o) (row_setL vs G) (row_otherL h1 vs A1) (row_otherL h2 vs A2) (row_otherL h3 vs A3) (row_otherL h4 vs A4)
end
end Go.Proofs.YtdipoojjlddohaaGreat
