/- What the law TopRelative needs, joined of its texts by a program (slim2.py); part 12. -/
import Derived.Test.YtdipoojjlddohaaGreatZTopRelative1
import Derived.Test.YtdipoojjlddohaaGreatZTopRelative2
import Derived.Test.YtdipoojjlddohaaGreatZTopRelative3
import Derived.Test.YtdipoojjlddohaaGreatZTopRelative4
import Derived.Test.YtdipoojjlddohaaGreatZTopRelative5
import Derived.Test.YtdipoojjlddohaaGreatZTopRelative8
import Derived.Test.YtdipoojjlddohaaGreatZTopRelative9
set_option linter.unusedVariables false
set_option linter.unusedSimpArgs false
set_option linter.unusedSectionVars false
set_option linter.unnecessarySimpa false
set_option maxRecDepth 100000
namespace Go.Proofs.YtdipoojjlddohaaGreat
open MC
open MT
open Go.RowKit
def mcells (l:List Mk):List Value:=l.flatMap fun m=>[.int .i64 m.seq, .int .i64 m.t, .int .i64 m.n, .int .i64 m.s, .int .i64 m.q, .int .i64 m.lo, .int .i64 m.hi]
theorem mcells_nil:mcells []=[]:=rfl
theorem mcells_cons (m:Mk) (l:List Mk):mcells (m :: l) = .int .i64 m.seq :: .int .i64 m.t :: .int .i64 m.n :: .int .i64 m.s :: .int .i64 m.q :: .int .i64 m.lo :: .int .i64 m.hi :: mcells l:=rfl
theorem mcells_append (a b:List Mk):mcells (a ++ b)=mcells a ++ mcells b:=by unfold mcells;rw [List.flatMap_append]
theorem mcells_len:∀ l:List Mk,(mcells l).length=l.length*7
  | []=>rfl
  | m :: l=>by rw [mcells_cons];simp only [List.length_cons,mcells_len l];omega
theorem mcells_at:∀ (l:List Mk) (i:Nat),i<l.length->(mcells l)[i*7]?=some (.int .i64 (mkAt l i).seq)/\(mcells l)[i*7+1]?=some (.int .i64 (mkAt l i).t)/\(mcells l)[i*7+2]?=some (.int .i64 (mkAt l i).n)/\(mcells l)[i*7+3]?=some (.int .i64 (mkAt l i).s)/\(mcells l)[i*7+4]?=some (.int .i64 (mkAt l i).q)/\(mcells l)[i*7+5]?=some (.int .i64 (mkAt l i).lo)/\(mcells l)[i*7+6]?=some (.int .i64 (mkAt l i).hi)
  | [],i,h=>absurd h (by simp)
  | m :: l,0,_=>⟨rfl,rfl,rfl,rfl,rfl,rfl,rfl⟩
  | m :: l,i+1,h=>by
    have ih:=mcells_at l i (by simpa using h);rw [mcells_cons,show (i+1)*7=i*7+1+1+1+1+1+1+1 by omega,show i*7+1+1+1+1+1+1+1+1=(i*7+1)+1+1+1+1+1+1+1 by omega,show i*7+1+1+1+1+1+1+1+2=(i*7+2)+1+1+1+1+1+1+1 by omega,show i*7+1+1+1+1+1+1+1+3=(i*7+3)+1+1+1+1+1+1+1 by omega,show i*7+1+1+1+1+1+1+1+4=(i*7+4)+1+1+1+1+1+1+1 by omega,show i*7+1+1+1+1+1+1+1+5=(i*7+5)+1+1+1+1+1+1+1 by omega,show i*7+1+1+1+1+1+1+1+6=(i*7+6)+1+1+1+1+1+1+1 by omega];simp only [List.getElem?_cons_succ];exact ih
theorem mcells_one (l:List Mk):∀ u∈mcells l,u.oneCell'=true:=by
  intro u hu;unfold mcells at hu;rw [List.mem_flatMap] at hu;obtain ⟨t,_,ht⟩:=hu;simp at ht;rcases ht with rfl | rfl | rfl | rfl | rfl | rfl | rfl<;>rfl
def I64 (x:Int):Prop := -9223372036854775808<=x/\x<=9223372036854775807
def M64 (m:Mk):Prop:=I64 m.seq/\I64 m.t/\I64 m.n/\I64 m.s/\I64 m.q/\I64 m.lo/\I64 m.hi
theorem M64_zero:M64 Mk.zero:=by unfold M64 I64 Mk.zero;simp
def MkCells (w:World) (a:Addr) (m:Mk):Prop:=w.cell? a=some (.int .i64 m.seq)/\w.cell? ⟨a.block,a.off+1,none⟩=some (.int .i64 m.t)/\w.cell? ⟨a.block,a.off+2,none⟩=some (.int .i64 m.n)/\w.cell? ⟨a.block,a.off+3,none⟩=some (.int .i64 m.s)/\w.cell? ⟨a.block,a.off+4,none⟩=some (.int .i64 m.q)/\w.cell? ⟨a.block,a.off+5,none⟩=some (.int .i64 m.lo)/\w.cell? ⟨a.block,a.off+6,none⟩=some (.int .i64 m.hi)
section
variable {w w':World} {B m:Nat} {A:Option Addr} {l:List Mk}
theorem Reads.mk_len (h:Reads w B 7 A m (mcells l)):l.length=m:=by have:=h.1;rw [mcells_len] at this;omega
theorem mk_lit (a:Addr) (j:Nat) (h:j≠0):a.add j=⟨a.block,a.off+j,none⟩:=by unfold Addr.add;rw [if_neg h]
theorem MkCells.keep {a:Addr} {x:Mk} (h:MkCells w a x) (hk:∀ p:Addr,p.block=a.block->w'.cell? p=w.cell? p):MkCells w' a x :=
  ⟨(hk _ rfl).trans h.1,(hk ⟨a.block,a.off+1,none⟩ rfl).trans h.2.1,(hk ⟨a.block,a.off+2,none⟩ rfl).trans h.2.2.1,(hk ⟨a.block,a.off+3,none⟩ rfl).trans h.2.2.2.1,(hk ⟨a.block,a.off+4,none⟩ rfl).trans h.2.2.2.2.1,(hk ⟨a.block,a.off+5,none⟩ rfl).trans h.2.2.2.2.2.1,(hk ⟨a.block,a.off+6,none⟩ rfl).trans h.2.2.2.2.2.2⟩
theorem MkCells.below {a:Addr} {x:Mk} (h:MkCells w a x) (hb:Below B w w') (hlt:a.block<B):MkCells w' a x:=h.keep fun p hp=>hb.cell (by rw [hp];exact hlt)
theorem Reads.mk {i:Nat} (h:Reads w B 7 A m (mcells l)) (hi:i<m):∃ ad,A=some ad/\ad.block<B/\MkCells w (ad.add (i*7)) (mkAt l i):=by
  obtain ⟨ad,e,hb,hc⟩:=h.2 (by omega);have ht:=mcells_at l i (by rw [h.mk_len];exact hi);refine ⟨ad,e,hb,hc _ _ ht.1,?_,?_,?_,?_,?_,?_⟩
  · rw [<- mk_lit _ 1 (by decide),add_of_add];exact hc _ _ ht.2.1
  · rw [<- mk_lit _ 2 (by decide),add_of_add];exact hc _ _ ht.2.2.1
  · rw [<- mk_lit _ 3 (by decide),add_of_add];exact hc _ _ ht.2.2.2.1
  · rw [<- mk_lit _ 4 (by decide),add_of_add];exact hc _ _ ht.2.2.2.2.1
  · rw [<- mk_lit _ 5 (by decide),add_of_add];exact hc _ _ ht.2.2.2.2.2.1
  · rw [<- mk_lit _ 6 (by decide),add_of_add];exact hc _ _ ht.2.2.2.2.2.2
end
structure MIn (A:Option Addr) (m c:Nat) (l:List Mk) (w:World):Prop where
  reads:Reads w w.heap.size 7 A m (mcells l)
  mB:∀ i,M64 (mkAt l i)
  mc:m<=c
  cB:c<=maxLen
section
variable {w w':World} {m c:Nat} {A:Option Addr} {l:List Mk}
theorem MIn.max (h:MIn A m c l w):m<=9223372036854775807:=by
  have:=h.mc;have:=h.cB;unfold maxLen at *;omega
theorem MIn.len (h:MIn A m c l w):l.length=m:=h.reads.mk_len
theorem MIn.below (h:MIn A m c l w) (hb:Below w w w'):MIn A m c l w':=⟨(h.reads.below hb).more hb.size,h.mB,h.mc,h.cB⟩
theorem Own.mk {g i:Nat} (h:Own w 228 7 g m c (mcells l)) (hi:i<m):MkCells w ⟨g,i*7,none⟩ (mkAt l i):=by
  have hl:=h.len;rw [mcells_len] at hl;have ht:=mcells_at l i (by omega);exact ⟨(show w.cell? ⟨g,i*7,none⟩=_ from (h.cell (by omega)).trans ht.1),(show w.cell? ⟨g,i*7+1,none⟩=_ from (h.cell (by omega)).trans ht.2.1),(show w.cell? ⟨g,i*7+2,none⟩=_ from (h.cell (by omega)).trans ht.2.2.1),(show w.cell? ⟨g,i*7+3,none⟩=_ from (h.cell (by omega)).trans ht.2.2.2.1),(show w.cell? ⟨g,i*7+4,none⟩=_ from (h.cell (by omega)).trans ht.2.2.2.2.1),(show w.cell? ⟨g,i*7+5,none⟩=_ from (h.cell (by omega)).trans ht.2.2.2.2.2.1),(show w.cell? ⟨g,i*7+6,none⟩=_ from (h.cell (by omega)).trans ht.2.2.2.2.2.2)⟩
end
theorem info_mk:(Tryz.prog.info? 228).map (fun i=>(i.zero,i.size,i.bytes))=some (some (.agg #[(),(),(),(),(),(),()]),7,56):=by kernel_rfl
theorem mul_small {n x:Int} (h0:0<=n) (h1:n<=65536) (h2 : -4096<=x) (h3:x<=4096) : -268435456<=n*x/\n*x<=268435456:=by
  constructor
  · have:n*(-4096)<=n*x:=Int.mul_le_mul_of_nonneg_left h2 h0;omega
  · have:n*x<=n*4096:=Int.mul_le_mul_of_nonneg_left h3 h0;omega
theorem pfits_0 (n lo hi s q:Int) (w:World) (hn0:0<=n) (hn1:n<=65536) (l0 : -4096<=lo) (l1:lo<=4096) (g0 : -4096<=hi) (g1:hi<=4096)  (h:s<n*lo):Calls Tryz.prog 268 (J21 n lo hi s q) w (Rd (.bool false) w):=by
  have b1:=mul_small hn0 hn1 l0 l1;have b2:=mul_small hn0 hn1 g0 g1;have wl:IntKind.i64.wrap (n*lo)=n*lo:=IntWalk.i64_in _ (by omega);have wh:IntKind.i64.wrap (n*hi)=n*hi:=IntWalk.i64_in _ (by omega);have wn2:IntKind.i64.wrap (n*4096)=n*4096:=IntWalk.i64_in _ (by omega);have wn3:IntKind.i64.wrap (n*4096*4096)=n*4096*4096:=IntWalk.i64_in _ (by omega);go_enter Tryz.func268,Tryz.ntmps268;go_wp2_with fail;go_ret;exact ⟨by first | rfl | exact ret_bool (by simp;omega) | exact ret_bool (by simp [*]),rfl⟩
theorem pfits_1 (n lo hi s q:Int) (w:World) (hn0:0<=n) (hn1:n<=65536) (l0 : -4096<=lo) (l1:lo<=4096) (g0 : -4096<=hi) (g1:hi<=4096) (h0:n*lo<=s) (h:n*hi<s):Calls Tryz.prog 268 (J21 n lo hi s q) w (Rd (.bool false) w):=by
  have b1:=mul_small hn0 hn1 l0 l1;have b2:=mul_small hn0 hn1 g0 g1;have wl:IntKind.i64.wrap (n*lo)=n*lo:=IntWalk.i64_in _ (by omega);have wh:IntKind.i64.wrap (n*hi)=n*hi:=IntWalk.i64_in _ (by omega);have wn2:IntKind.i64.wrap (n*4096)=n*4096:=IntWalk.i64_in _ (by omega);have wn3:IntKind.i64.wrap (n*4096*4096)=n*4096*4096:=IntWalk.i64_in _ (by omega);go_enter Tryz.func268,Tryz.ntmps268;go_wp2_with fail;go_ret;exact ⟨by first | rfl | exact ret_bool (by simp;omega) | exact ret_bool (by simp [*]),rfl⟩
theorem pfits_2 (n lo hi s q:Int) (w:World) (hn0:0<=n) (hn1:n<=65536) (l0 : -4096<=lo) (l1:lo<=4096) (g0 : -4096<=hi) (g1:hi<=4096) (h0:n*lo<=s) (h1:s<=n*hi) (h:q<0):Calls Tryz.prog 268 (J21 n lo hi s q) w (Rd (.bool false) w):=by
  have b1:=mul_small hn0 hn1 l0 l1;have b2:=mul_small hn0 hn1 g0 g1;have wl:IntKind.i64.wrap (n*lo)=n*lo:=IntWalk.i64_in _ (by omega);have wh:IntKind.i64.wrap (n*hi)=n*hi:=IntWalk.i64_in _ (by omega);have wn2:IntKind.i64.wrap (n*4096)=n*4096:=IntWalk.i64_in _ (by omega);have wn3:IntKind.i64.wrap (n*4096*4096)=n*4096*4096:=IntWalk.i64_in _ (by omega);go_enter Tryz.func268,Tryz.ntmps268;go_wp2_with fail;go_ret;exact ⟨by first | rfl | exact ret_bool (by simp;omega) | exact ret_bool (by simp [*]),rfl⟩
theorem pfits_3 (n lo hi s q:Int) (w:World) (hn0:0<=n) (hn1:n<=65536) (l0 : -4096<=lo) (l1:lo<=4096) (g0 : -4096<=hi) (g1:hi<=4096) (h0:n*lo<=s) (h1:s<=n*hi) (h2:0<=q) (h:n*4096*4096<q):Calls Tryz.prog 268 (J21 n lo hi s q) w (Rd (.bool false) w):=by
  have b1:=mul_small hn0 hn1 l0 l1;have b2:=mul_small hn0 hn1 g0 g1;have wl:IntKind.i64.wrap (n*lo)=n*lo:=IntWalk.i64_in _ (by omega);have wh:IntKind.i64.wrap (n*hi)=n*hi:=IntWalk.i64_in _ (by omega);have wn2:IntKind.i64.wrap (n*4096)=n*4096:=IntWalk.i64_in _ (by omega);have wn3:IntKind.i64.wrap (n*4096*4096)=n*4096*4096:=IntWalk.i64_in _ (by omega);go_enter Tryz.func268,Tryz.ntmps268;go_wp2_with fail;go_ret;exact ⟨by first | rfl | exact ret_bool (by simp;omega) | exact ret_bool (by simp [*]),rfl⟩
theorem pfits_4 (n lo hi s q:Int) (w:World) (hn0:0<=n) (hn1:n<=65536) (l0 : -4096<=lo) (l1:lo<=4096) (g0 : -4096<=hi) (g1:hi<=4096) (h0:n*lo<=s) (h1:s<=n*hi) (h2:0<=q) (h3:q<=n*4096*4096) (h:n*q<s*s):Calls Tryz.prog 268 (J21 n lo hi s q) w (Rd (.bool false) w):=by
  have b1:=mul_small hn0 hn1 l0 l1;have b2:=mul_small hn0 hn1 g0 g1;have wl:IntKind.i64.wrap (n*lo)=n*lo:=IntWalk.i64_in _ (by omega);have wh:IntKind.i64.wrap (n*hi)=n*hi:=IntWalk.i64_in _ (by omega);have wn2:IntKind.i64.wrap (n*4096)=n*4096:=IntWalk.i64_in _ (by omega);have wn3:IntKind.i64.wrap (n*4096*4096)=n*4096*4096:=IntWalk.i64_in _ (by omega);have b3:=sq_bound (s:=s) (B:=268435456) (by omega) (by omega);have b4:0<=n*q/\n*q<=65536*1099511627776:=⟨Int.mul_nonneg hn0 h2,Int.mul_le_mul hn1 (by omega) h2 (by decide)⟩
  have wss:IntKind.i64.wrap (s*s)=s*s:=IntWalk.i64_in _ (by omega);have wnq:IntKind.i64.wrap (n*q)=n*q:=IntWalk.i64_in _ (by omega);go_enter Tryz.func268,Tryz.ntmps268;go_wp2_with fail;go_ret;exact ⟨by first | rfl | exact ret_bool (by simp;omega) | exact ret_bool (by simp [*]),rfl⟩
theorem pfits_5 (n lo hi s q:Int) (w:World) (hn0:0<=n) (hn1:n<=65536) (l0 : -4096<=lo) (l1:lo<=4096) (g0 : -4096<=hi) (g1:hi<=4096) (h0:n*lo<=s) (h1:s<=n*hi) (h2:0<=q) (h3:q<=n*4096*4096) (h4:s*s<=n*q):Calls Tryz.prog 268 (J21 n lo hi s q) w (Rd (.bool true) w):=by
  have b1:=mul_small hn0 hn1 l0 l1;have b2:=mul_small hn0 hn1 g0 g1;have wl:IntKind.i64.wrap (n*lo)=n*lo:=IntWalk.i64_in _ (by omega);have wh:IntKind.i64.wrap (n*hi)=n*hi:=IntWalk.i64_in _ (by omega);have wn2:IntKind.i64.wrap (n*4096)=n*4096:=IntWalk.i64_in _ (by omega);have wn3:IntKind.i64.wrap (n*4096*4096)=n*4096*4096:=IntWalk.i64_in _ (by omega);have b3:=sq_bound (s:=s) (B:=268435456) (by omega) (by omega);have b4:0<=n*q/\n*q<=65536*1099511627776:=⟨Int.mul_nonneg hn0 h2,Int.mul_le_mul hn1 (by omega) h2 (by decide)⟩
  have wss:IntKind.i64.wrap (s*s)=s*s:=IntWalk.i64_in _ (by omega);have wnq:IntKind.i64.wrap (n*q)=n*q:=IntWalk.i64_in _ (by omega);go_enter Tryz.func268,Tryz.ntmps268;go_wp2_with fail;go_ret;exact ⟨by first | rfl | exact ret_bool (by simp;omega) | exact ret_bool (by simp [*]),rfl⟩
theorem pfits (n lo hi s q:Int) (w:World) (hn0:0<=n) (hn1:n<=65536) (l0 : -4096<=lo) (l1:lo<=4096) (g0 : -4096<=hi) (g1:hi<=4096):Calls Tryz.prog 268 (J21 n lo hi s q) w (Rd (.bool (decide (n*lo<=s/\s<=n*hi/\0<=q/\q<=n*4096*4096/\s*s<=n*q))) w):=by
  by_cases h0:n*lo<=s
  · skip
    by_cases h1:s<=n*hi
    · skip
      by_cases h2:0<=q
      · skip
        by_cases h3:q<=n*4096*4096
        · skip
          by_cases h4:s*s<=n*q
          · skip
            rw [show decide (n*lo<=s/\s<=n*hi/\0<=q/\q<=n*4096*4096/\s*s<=n*q)=true from decide_eq_true ⟨h0,h1,h2,h3,h4⟩];exact pfits_5 n lo hi s q w hn0 hn1 l0 l1 g0 g1 h0 h1 h2 h3 h4
          · rw [show decide (n*lo<=s/\s<=n*hi/\0<=q/\q<=n*4096*4096/\s*s<=n*q)=false from decide_eq_false (fun a=>h4 a.2.2.2.2)];exact pfits_4 n lo hi s q w hn0 hn1 l0 l1 g0 g1 h0 h1 h2 h3 (Int.not_le.1 h4)
        · rw [show decide (n*lo<=s/\s<=n*hi/\0<=q/\q<=n*4096*4096/\s*s<=n*q)=false from decide_eq_false (fun a=>h3 a.2.2.2.1)];exact pfits_3 n lo hi s q w hn0 hn1 l0 l1 g0 g1 h0 h1 h2 (Int.not_le.1 h3)
      · rw [show decide (n*lo<=s/\s<=n*hi/\0<=q/\q<=n*4096*4096/\s*s<=n*q)=false from decide_eq_false (fun a=>h2 a.2.2.1)];exact pfits_2 n lo hi s q w hn0 hn1 l0 l1 g0 g1 h0 h1 (Int.not_le.1 h2)
    · rw [show decide (n*lo<=s/\s<=n*hi/\0<=q/\q<=n*4096*4096/\s*s<=n*q)=false from decide_eq_false (fun a=>h1 a.2.1)];exact pfits_1 n lo hi s q w hn0 hn1 l0 l1 g0 g1 h0 (Int.not_le.1 h1)
  · rw [show decide (n*lo<=s/\s<=n*hi/\0<=q/\q<=n*4096*4096/\s*s<=n*q)=false from decide_eq_false (fun a=>h0 a.1)];exact pfits_0 n lo hi s q w hn0 hn1 l0 l1 g0 g1  (Int.not_le.1 h0)
theorem pfitsP (n lo hi s q:Int) (w:World) (hn0:0<=n) (hn1:n<=65536) (l0 : -4096<=lo) (l1:lo<=4096) (g0 : -4096<=hi) (g1:hi<=4096):Calls Tryz.prog 268 (J21 n lo hi s q) w (Rd (.bool (decide (partP n lo hi s q))) w):=by
  have e:decide (partP n lo hi s q)=decide (n*lo<=s/\s<=n*hi/\0<=q/\q<=n*4096*4096/\s*s<=n*q):=by
    by_cases h:partP n lo hi s q
    · exact (decide_eq_true h).trans (decide_eq_true (p:=n*lo<=s/\s<=n*hi/\0<=q/\q<=n*4096*4096/\s*s<=n*q) h).symm
    · exact (decide_eq_false h).trans (decide_eq_false (p:=n*lo<=s/\s<=n*hi/\0<=q/\q<=n*4096*4096/\s*s<=n*q) h).symm
  rw [e];exact pfits n lo hi s q w hn0 hn1 l0 l1 g0 g1
theorem ptick_2 (now:Int) (w:World)  (h0:0<=now) (h1:now<=16777216):Calls Tryz.prog 230 #[now] w (Rd (.bool true) w):=by
  go_enter Tryz.func230,Tryz.ntmps230;go_wp2_with fail;go_ret;exact ⟨by first | rfl | exact ret_bool (by simp;omega),rfl⟩
theorem pfirst_yes (now wd:Int) (w:World) (n0:0<=now) (n1:now<=16777216) (d0:1<=wd) (d1:wd<=1048576) (h:0<=now-wd+1):Calls Tryz.prog 160 #[now,wd] w (Rd (.int .i64 (now-wd+1)) w):=by
  have PT:=Lib.hid (fun w=>ptick_2 now w n0 n1);have w1:IntKind.i64.wrap (now-wd)=now-wd:=IntWalk.i64_in _ (by omega);have w2:IntKind.i64.wrap (now-wd+1)=now-wd+1:=IntWalk.i64_in _ (by omega);go_enter Tryz.func160,Tryz.ntmps160;go_wp2_with (go_at_call 230;with_reducible refine (PT.out _).mono ?_;rintro e w9 ⟨rfl,h9⟩;obtain rfl:=h9.symm);go_ret;exact ⟨by first | rfl | exact ret_i64 (by omega),rfl⟩
theorem pfirst_no (now wd:Int) (w:World) (n0:0<=now) (n1:now<=16777216) (d0:1<=wd) (d1:wd<=1048576) (h:now-wd+1<0):Calls Tryz.prog 160 #[now,wd] w (Rd (.int .i64 0) w):=by
  have PT:=Lib.hid (fun w=>ptick_2 now w n0 n1);have w1:IntKind.i64.wrap (now-wd)=now-wd:=IntWalk.i64_in _ (by omega);have w2:IntKind.i64.wrap (now-wd+1)=now-wd+1:=IntWalk.i64_in _ (by omega);go_enter Tryz.func160,Tryz.ntmps160;go_wp2_with (go_at_call 230;with_reducible refine (PT.out _).mono ?_;rintro e w9 ⟨rfl,h9⟩;obtain rfl:=h9.symm);go_ret;exact ⟨by first | rfl | exact ret_i64 (by omega),rfl⟩
theorem plive_yes_true (now wd t:Int) (w:World) (n0:0<=now) (n1:now<=16777216) (d0:1<=wd) (d1:wd<=1048576) (t0:0<=t) (t1:t<=now) (h:0<=now-wd+1) (hl:now-wd<t):Calls Tryz.prog 137 #[now,wd,t] w (Rd (.bool true) w):=by
  have PT:=Lib.hid (fun w=>ptick_2 t w t0 (by omega));have PF:=Lib.hid (fun w=>pfirst_yes now wd w n0 n1 d0 d1 h);go_enter Tryz.func137,Tryz.ntmps137;go_wp2_with (first | (go_at_call 230;with_reducible refine (PT.out _).mono ?_;rintro e w9 ⟨rfl,h9⟩;obtain rfl:=h9.symm) | (go_at_call 160;with_reducible refine (PF.out _).mono ?_;rintro e w9 ⟨rfl,h9⟩;obtain rfl:=h9.symm));go_ret;exact ⟨by first | rfl | exact ret_bool (by simp;omega),rfl⟩
theorem plive_yes_false (now wd t:Int) (w:World) (n0:0<=now) (n1:now<=16777216) (d0:1<=wd) (d1:wd<=1048576) (t0:0<=t) (t1:t<=now) (h:0<=now-wd+1) (hl:¬ now-wd<t):Calls Tryz.prog 137 #[now,wd,t] w (Rd (.bool false) w):=by
  have PT:=Lib.hid (fun w=>ptick_2 t w t0 (by omega));have PF:=Lib.hid (fun w=>pfirst_yes now wd w n0 n1 d0 d1 h);go_enter Tryz.func137,Tryz.ntmps137;go_wp2_with (first | (go_at_call 230;with_reducible refine (PT.out _).mono ?_;rintro e w9 ⟨rfl,h9⟩;obtain rfl:=h9.symm) | (go_at_call 160;with_reducible refine (PF.out _).mono ?_;rintro e w9 ⟨rfl,h9⟩;obtain rfl:=h9.symm));go_ret;exact ⟨by first | rfl | exact ret_bool (by simp;omega),rfl⟩
theorem plive_no_true (now wd t:Int) (w:World) (n0:0<=now) (n1:now<=16777216) (d0:1<=wd) (d1:wd<=1048576) (t0:0<=t) (t1:t<=now) (h:now-wd+1<0) (hl:now-wd<t):Calls Tryz.prog 137 #[now,wd,t] w (Rd (.bool true) w):=by
  have PT:=Lib.hid (fun w=>ptick_2 t w t0 (by omega));have PF:=Lib.hid (fun w=>pfirst_no now wd w n0 n1 d0 d1 h);go_enter Tryz.func137,Tryz.ntmps137;go_wp2_with (first | (go_at_call 230;with_reducible refine (PT.out _).mono ?_;rintro e w9 ⟨rfl,h9⟩;obtain rfl:=h9.symm) | (go_at_call 160;with_reducible refine (PF.out _).mono ?_;rintro e w9 ⟨rfl,h9⟩;obtain rfl:=h9.symm));go_ret;exact ⟨by first | rfl | exact ret_bool (by simp;omega),rfl⟩
theorem plive (now wd t:Int) (w:World) (n0:0<=now) (n1:now<=16777216) (d0:1<=wd) (d1:wd<=1048576) (t0:0<=t) (t1:t<=now):Calls Tryz.prog 137 #[now,wd,t] w (Rd (.bool (decide (now-wd<t))) w):=by
  by_cases h:0<=now-wd+1
  · by_cases hl:now-wd<t
    · rw [decide_eq_true hl];exact plive_yes_true now wd t w n0 n1 d0 d1 t0 t1 h hl
    · rw [decide_eq_false hl];exact plive_yes_false now wd t w n0 n1 d0 d1 t0 t1 h hl
  · rw [decide_eq_true (by omega)];exact plive_no_true now wd t w n0 n1 d0 d1 t0 t1 (by omega) (by omega)
theorem orow_keep {w w':World} {base:Nat} {e:TypeId} {size:Nat} {v:Value} {n:Nat} {xs:List Value} (h:w.ownsRow base e size v n xs) (hg:∀ g,v.ownBlock=some g->w'.heap[g]?=w.heap[g]?):w'.ownsRow base e size v n xs:=by
  refine ⟨h.1,?_⟩;rcases h.2 with hn | ⟨g,cap,cur,rfl,hb,hgg,rest⟩
  · exact .inl hn
  · exact .inr ⟨g,cap,cur,rfl,hb,by rw [hg g rfl];exact hgg,rest⟩
theorem orow_other {w:World} {base:Nat} {e:TypeId} {size:Nat} {v:Value} {n:Nat} {xs:List Value} (h:w.ownsRow base e size v n xs) {p:Addr} (hne:v.ownBlock≠some p.block) (u:Value):(w.setCell p u).ownsRow base e size v n xs :=
  orow_keep h fun g he=>Below.heap_setCell w p u g (fun x=>hne (x ▸ he))
theorem orow_new {w:World} {base:Nat} {e:TypeId} {size:Nat} {v:Value} {n b:Nat} {xs:List Value} (h:w.ownsRow base e size v n xs) (hb:w.heap.size<=b):v.ownBlock≠some b:=fun e=>by
  have:=(h.lt b e).2;omega
theorem orow_forms {w:World} {base:Nat} {e:TypeId} {size:Nat} {v:Value} {n:Nat} {xs:List Value} (h:w.ownsRow base e size v n xs) :
    ∃ A c,v = .slice A n c/\Reads w w.heap.size size A n xs/\n<=c/\c<=maxLen/\∀ a,A=some a->base<=a.block/\a.block<w.heap.size:=by
  rcases h.2 with ⟨rfl,rfl⟩ | ⟨g,cap,cur,rfl,hb,hgg,h1,h2,_⟩
  · exact ⟨none,0,rfl,Reads.of_own h,Nat.le_refl _,Nat.zero_le _,fun a e=>by cases e⟩
  · exact ⟨_,cap,rfl,Reads.of_own h,h1,h2,fun a e=>by cases e;exact h.lt _ rfl⟩
theorem reads_keep {w w':World} {B size n:Nat} {A:Option Addr} {xs:List Value} (h:Reads w B size A n xs) (hk:∀ a,A=some a->a.block<B->w'.heap[a.block]?=w.heap[a.block]?):Reads w' B size A n xs:=by
  refine ⟨h.1,fun hn=>?_⟩;obtain ⟨ad,e,hb,hc⟩:=h.2 hn;refine ⟨ad,e,hb,fun j u hu=>?_⟩;have hq:(ad.add j).block=ad.block:=block_of_add ..;exact (World.cell?_of_block (w:=w) (w':=w') (a:=ad.add j) (by rw [hq];exact hk ad e hb)).trans (hc j u hu)
theorem reads_set {w:World} {B size n:Nat} {A:Option Addr} {xs:List Value} (h:Reads w B size A n xs) {p:Addr} (hp:∀ a,A=some a->a.block≠p.block) (u:Value):Reads (w.setCell p u) B size A n xs :=
  reads_keep h fun a e _=>Below.heap_setCell w p u a.block (hp a e)
def MRet (n:Nat) (l:List Mk) (w:World) (e:Ending) (w':World):Prop:=∃ v,e = .returned v/\w'.ownsRow w.heap.size 228 7 v n (mcells l)/\Below w w w'
def SmallM (m:Mk):Prop:=(0<=m.n/\m.n<=65536)/\(-268435456<=m.s/\m.s<=268435456)/\0<=m.q/\m.q<=1099511627776
theorem mk_take {l:List Mk} {j:Nat} (h:j<l.length):l.take (j+1)=l.take j ++ [mkAt l j]:=by
  rw [List.take_succ_eq_append_getElem h];unfold mkAt;rw [List.getD_eq_getElem?_getD,List.getElem?_eq_getElem h];rfl
theorem SmallM.of_one {seq cap now w least:Int} {m:Mk} (h:oneP seq cap now w least m) (hc:cap<=65536) (hl : -4096<=least):SmallM m:=by
  obtain ⟨h1,h2,h3,h4,h5,h6,h7,h8,h9,p1,p2,p3,p4,p5⟩:=h;have b1:=mul_small (n:=m.n) (x:=m.lo) (by omega) (by omega) (by omega) (by omega);have b2:=mul_small (n:=m.n) (x:=m.hi) (by omega) (by omega) (by omega) (by omega);exact ⟨by omega,by omega,by omega,by omega⟩
set_option maxRecDepth 100000 in
set_option maxHeartbeats 4000000 in
theorem pmadd (A:Option Addr) (m c:Nat) (l:List Mk) (seq t v:Int) (w:World) (hin:MIn A m c l w) (hm:m<=1000000) (hS:∀ i,i<m->SmallM (mkAt l i)) (v0 : -4096<=v) (v1:v<=4096) :
    Calls Tryz.prog 215 (J25 (.slice A m c) seq t v) w fun e w'=>MRet (m+1) (incl l seq t v) w e w':=by
  have HR:=Lib.hid hin;have HL:=Lib.hid hin.len;have HS:=Lib.hid hS;have hvv:=vv_small v0 v1;have wvv:IntKind.i64.wrap (v*v)=v*v:=IntWalk.i64_in _ (by omega);obtain ⟨i0,hi0,iz0,iz1,iz2⟩:=info_parts info_mk;clear hin hS;go_enter Tryz.func215,Tryz.ntmps215;go_wp2;go_loopw [9,14] (fun u i wr=>∃ j:Nat,j<=m/\i = .int .i64 (j:Nat)/\wr.ownsRow w.heap.size 228 7 u j (mcells ((l.take j).map (inc v)))/\Below w w wr) (fun _ i _=>m-(intOf i).toNat)
  case atStart=>exact ⟨0,by omega,rfl,World.ownsRow_nil _ _ _ _,Below.refl _ _⟩
  case round =>
    obtain ⟨j,hj,rfl,own,o⟩:=hrel;by_cases hlt:j<m
    · obtain ⟨ad,rfl,hadb,ht0⟩:=HR.out.reads.mk hlt;have hS1:=HS.out j hlt;have HE:RowKit.Hid (mcells ((l.take (j+1)).map (inc v))=mcells ((l.take j).map (inc v)) ++ mcells [inc v (mkAt l j)]):=Lib.hid (by rw [mk_take (by rw [HL.out];exact hlt),List.map_append,mcells_append];rfl);generalize mkAt l j=mj at ht0 hS1 HE;obtain ⟨sq,tk,n,s,q,lo,hi⟩:=mj;obtain ⟨p0,p1,p2,p3,p4,p5,p6⟩:=ht0.below o (by rw [block_of_add];exact hadb);obtain ⟨⟨n0,n1⟩,⟨s0,s1⟩,q0,q1⟩:=hS1;dsimp only at p0 p1 p2 p3 p4 p5 p6 n0 n1 s0 s1 q0 q1;have HX:RowKit.Hid (mcells [inc v (⟨sq,tk,n,s,q,lo,hi⟩:Mk)]=((J1 sq tk (.int .i64 (n+1)) (.int .i64 (s+v)) (.int .i64 (q+v*v)) (.int .i64 (min lo v)) (.int .i64 (max hi v))):Array Value).toList):=Lib.hid rfl;have wn:IntKind.i64.wrap (n+1)=n+1:=IntWalk.i64_in _ (by omega);have ws:IntKind.i64.wrap (s+v)=s+v:=IntWalk.i64_in _ (by omega);have wq:IntKind.i64.wrap (q+v*v)=q+v*v:=IntWalk.i64_in _ (by omega);clear ht0 n0 n1 s0 s1 q0 q1 hvv;have i1:(j:Int)<(m:Int):=by omega
      have i2:(0:Int)<=(j:Int):=by omega
      go_upto_region 5 with (fail)
      have K:Row (wr.alloc (.cells (J1 sq tk n s q lo hi) 228)) wr.heap.size 228 (J1 sq tk n s q lo hi):=row_new rfl;have zo:=o.size;have kn:u9.ownBlock≠some wr.heap.size:=orow_new own (Nat.le_refl _);replace own:=own.alloc (.cells (J1 sq tk n s q lo hi) 228);replace o:=o.alloc o.size (.cells (J1 sq tk n s q lo hi) 228);generalize wr.alloc (.cells (J1 sq tk n s q lo hi) 228)=w3 at own o K |-
      generalize wr.heap.size=mb at K kn zo |-
      clear p0 p1 p2 p3 p4 p5 p6;obtain ⟨K0,K1,K2,K3,K4,K5,K6,Kf0,Kf1,Kf2,Kf3,Kf4,Kf5,Kf6⟩:=row_seven K;have KR:=Lib.hid K;clear K;go_upto_region 9 with (fail)
      replace own:=orow_other (p:=⟨mb,2,none⟩) own kn (.int .i64 (n+1));replace o:=o.setCell (p:=⟨mb,2,none⟩) (by show w.heap.size<=mb;omega) (.int .i64 (n+1));replace own:=orow_other (p:=⟨mb,3,none⟩) own kn (.int .i64 (s+v));replace o:=o.setCell (p:=⟨mb,3,none⟩) (by show w.heap.size<=mb;omega) (.int .i64 (s+v));replace own:=orow_other (p:=⟨mb,4,none⟩) own kn (.int .i64 (q+v*v));replace o:=o.setCell (p:=⟨mb,4,none⟩) (by show w.heap.size<=mb;omega) (.int .i64 (q+v*v));replace own:=orow_other (p:=⟨mb,5,none⟩) own kn (.int .i64 (min lo v));replace o:=o.setCell (p:=⟨mb,5,none⟩) (by show w.heap.size<=mb;omega) (.int .i64 (min lo v));replace own:=orow_other (p:=⟨mb,6,none⟩) own kn (.int .i64 (max hi v));replace o:=o.setCell (p:=⟨mb,6,none⟩) (by show w.heap.size<=mb;omega) (.int .i64 (max hi v));have K:Row (((((w3.setCell ⟨mb,2,none⟩ (.int .i64 (n+1))).setCell ⟨mb,3,none⟩ (.int .i64 (s+v))).setCell ⟨mb,4,none⟩ (.int .i64 (q+v*v))).setCell ⟨mb,5,none⟩ (.int .i64 (min lo v))).setCell ⟨mb,6,none⟩ (.int .i64 (max hi v))) mb 228 (J1 sq tk (.int .i64 (n+1)) (.int .i64 (s+v)) (.int .i64 (q+v*v)) (.int .i64 (min lo v)) (.int .i64 (max hi v))):=(row_set (row_set (row_set (row_set (row_set KR.out 2 (.int .i64 (n+1))) 3 (.int .i64 (s+v))) 4 (.int .i64 (q+v*v))) 5 (.int .i64 (min lo v))) 6 (.int .i64 (max hi v)))
      generalize (((((w3.setCell ⟨mb,2,none⟩ (.int .i64 (n+1))).setCell ⟨mb,3,none⟩ (.int .i64 (s+v))).setCell ⟨mb,4,none⟩ (.int .i64 (q+v*v))).setCell ⟨mb,5,none⟩ (.int .i64 (min lo v))).setCell ⟨mb,6,none⟩ (.int .i64 (max hi v)))=w4 at own o K |-
      clear K0 K1 K2 K3 K4 K5 K6 Kf0 Kf1 Kf2 Kf3 Kf4 Kf5 Kf6 KR;obtain ⟨K0,K1,K2,K3,K4,K5,K6,Kf0,Kf1,Kf2,Kf3,Kf4,Kf5,Kf6⟩:=row_seven K;have hbl:=own.lt;have OWN:=Lib.hid own;have zo:=o.size;clear own;go_wp2_with (at_builtin;refine wpList_push rfl _ _ 35 rfl 228 i0 (.agg #[(),(),(),(),(),(),()]) 7 56 Tryz.underlying35 hi0 iz0 iz1 iz2 rfl (by decide) w.heap.size u9 j (mcells ((l.take j).map (inc v))) rfl OWN.out (J1 sq tk (.int .i64 (n+1)) (.int .i64 (s+v)) (.int .i64 (q+v*v)) (.int .i64 (min lo v)) (.int .i64 (max hi v))) rfl rfl (by simp [Value.oneCell']) (by unfold maxLen;omega) (by omega) (by omega) ?_;intro g' c4 w9 own9 hg9 hat9 hgr9)
      have own:w9.ownsRow w.heap.size 228 7 (.slice (some ⟨g',0,none⟩) (j+1) c4) (j+1) (mcells ((l.take (j+1)).map (inc v))):=by
        rw [HE.out,HX.out];exact own9.row hg9
      replace o:=below_grown (o.alloc o.size (.cells (J1 sq tk (.int .i64 (n+1)) (.int .i64 (s+v)) (.int .i64 (q+v*v)) (.int .i64 (min lo v)) (.int .i64 (max hi v))) 228)) hgr9 (fun b e=>(hbl b e).1) (by simp;omega);clear own9 hgr9 hat9 OWN zo;go_wp2;go_roundw
      case rel=>exact ⟨j+1,by omega,by go_num,own,o⟩
      case measure=>simp [intOf];omega
    · have i1:¬ (j:Int)<(m:Int):=by omega
      obtain rfl:j=m:=by omega
      have HE:RowKit.Hid (mcells (incl l seq t v)=mcells ((l.take j).map (inc v)) ++ (#[seq,t, .int .i64 1,v, .int .i64 (v*v),v,v]:Array Value).toList):=Lib.hid (by
        unfold incl;rw [mcells_append,List.take_of_length_le (by rw [HL.out];exact Nat.le_refl _)]
        rfl)
      have hbl:=own.lt;have OWN:=Lib.hid own;have zo:=o.size;clear own hvv;go_wp2_with (at_builtin;refine wpList_push rfl _ _ 35 rfl 228 i0 (.agg #[(),(),(),(),(),(),()]) 7 56 Tryz.underlying35 hi0 iz0 iz1 iz2 rfl (by decide) w.heap.size u9 j (mcells ((l.take j).map (inc v))) rfl OWN.out #[seq,t, .int .i64 1,v, .int .i64 (v*v),v,v] rfl rfl (by simp [Value.oneCell']) (by unfold maxLen;omega) (by omega) (by omega) ?_;intro g' c4 w9 own9 hg9 hat9 hgr9)
      have own:w9.ownsRow w.heap.size 228 7 (.slice (some ⟨g',0,none⟩) (j+1) c4) (j+1) (mcells (incl l seq t v)):=by
        rw [HE.out];exact own9.row hg9
      replace o:=below_grown (o.alloc o.size (.cells #[seq,t, .int .i64 1,v, .int .i64 (v*v),v,v] 228)) hgr9 (fun b e=>(hbl b e).1) (by simp;omega);clear own9 hgr9 hat9 OWN zo;go_wp2;go_ret;exact ⟨_,rfl,own,o⟩
theorem and_xor (a:Nat):∀ b,2*(a &&& b)+(a ^^^ b)=a+b:=by
  induction a using Nat.strongRecOn with
  | _ a ih =>
    intro b;by_cases h:a=0
    · subst h;simp
    · have i:=ih (a / 2) (by omega) (b / 2);have h1:=Nat.and_div_two (a:=a) (b:=b);have h2:=Nat.xor_div_two (a:=a) (b:=b);have h3:=Nat.and_mod_two_eq_one (a:=a) (b:=b);have h4:=Nat.xor_mod_two_eq_one (a:=a) (b:=b);rw [<- h1,<- h2] at i;generalize (a &&& b)=x at *;generalize (a ^^^ b)=y at *;omega
theorem i64_small (n:Int) (h0:0<=n) (h1:n<2 ^ 62):IntKind.i64.wrap n=n:=IntWalk.i64_in _ (by omega)
theorem bits_xor (a b:Nat) (ha:a<2 ^ 62) (hb:b<2 ^ 62):bits .xor .i64 a b=((a ^^^ b:Nat):Int):=by
  have ha':a % 2 ^ IntKind.i64.bits=a:=Nat.mod_eq_of_lt (Nat.lt_of_lt_of_le ha (by decide));have hb':b % 2 ^ IntKind.i64.bits=b:=Nat.mod_eq_of_lt (Nat.lt_of_lt_of_le hb (by decide));simp only [bits,BitVec.ofInt_natCast,BitVec.toNat_xor,BitVec.toNat_ofNat,ha',hb'];exact i64_small _ (Int.natCast_nonneg _) (by exact_mod_cast Nat.xor_lt_two_pow ha hb)
theorem mid_is {lo hi:Nat} (h:hi<=4398046511104) (h2:lo<=hi):∃ x y:Nat,bits .and .i64 (lo:Int) (hi:Int)=(x:Int)/\bits .xor .i64 (lo:Int) (hi:Int)=(y:Int)/\(x:Int)+(y:Int) / 2=((lo+hi) / 2:Nat):=by
  refine ⟨lo &&& hi,lo ^^^ hi,(bits_nat .i64 62 (by decide) i64_small lo hi (by omega) (by omega)).1,bits_xor lo hi (by omega) (by omega),?_⟩;have:=and_xor lo hi;omega
theorem pratio (n:Int) (w:World):Calls Tryz.prog 57 #[n] w (Rr (.agg #[n, .int .i64 1]) w):=by
  go_enter Tryz.func57,Tryz.ntmps57;go_wp2;exact bodyPost_ret (v := .agg #[n, .int .i64 1]) (by simp [results,Tryz.results57,go_sem]) rfl ⟨rfl,bel9⟩
theorem row_six_of {w:World} {b:Nat} {t:TypeId} {x0 x1 x2 x3 x4 x5:Value} (h:Row w b t (J6 x0 x1 x2 x3 x4 x5)):w.cell? ⟨b,0,none⟩=some x0/\w.cell? ⟨b,1,none⟩=some x1/\w.cell? ⟨b,2,none⟩=some x2/\w.cell? ⟨b,3,none⟩=some x3/\w.cell? ⟨b,4,none⟩=some x4/\w.cell? ⟨b,5,none⟩=some x5:=by
  obtain ⟨h0,h1,h2,h3,h4,h5,_⟩:=row_six h;exact ⟨h0,h1,h2,h3,h4,h5⟩
theorem below_six {B b:Nat} {w0 w:World} (h:Below B w0 w) (hb:B<=b) (u0 u1 u2 u3 u4 u5:Value):Below B w0 ((((((w.setCell ⟨b,0,none⟩ u0).setCell ⟨b,1,none⟩ u1).setCell ⟨b,2,none⟩ u2).setCell ⟨b,3,none⟩ u3).setCell ⟨b,4,none⟩ u4).setCell ⟨b,5,none⟩ u5) :=
  (((((h.setCell (p:=⟨b,0,none⟩) hb u0).setCell (p:=⟨b,1,none⟩) hb u1).setCell (p:=⟨b,2,none⟩) hb u2).setCell (p:=⟨b,3,none⟩) hb u3).setCell (p:=⟨b,4,none⟩) hb u4).setCell (p:=⟨b,5,none⟩) hb u5
theorem pwhole (lo hi:Nat) (h:lo<=hi) (hB:hi<=4398046511104) (w:World):Calls Tryz.prog 139 #[lo,hi] w (Rr (.tuple #[.agg (J30 lo (.int .i64 ((lo+hi) / 2:Nat)) hi), .bool true]) w):=by
  have h1:¬ (hi:Int)<(lo:Int):=by omega
  obtain ⟨x,y,e1,e2,e3⟩:=mid_is hB h;have e4:wrap64 ((x:Int)+(y:Int) / 2)=((lo+hi) / 2:Nat):=by rw [e3];exact IntWalk.wrap64_in _ (by omega)
  generalize (lo+hi) / 2=md at e3 e4 |-
  clear e3;have P1:=Lib.hid (fun w=>pratio (lo:Int) w);have P2:=Lib.hid (fun w=>pratio (md:Int) w);have P3:=Lib.hid (fun w=>pratio (hi:Int) w);go_enter Tryz.func139,Tryz.ntmps139;go_wp2_with fail;refine (P1.out _).mono ?_;rintro e w1 ⟨rfl,hb1⟩;have r:Row w1 w 64 J29:=row_call (row_new rfl) hb1;have o:Below w w w1:=((Below.refl _ _).alloc (Nat.le_refl _) _).trans (hb1.mono (by simp));clear hb1;go_wp2_with fail;refine (P2.out _).mono ?_;rintro e w2 ⟨rfl,hb2⟩;replace r:=row_call r hb2;replace o:=o.trans (hb2.mono o.size);clear hb2;go_wp2_with fail;refine (P3.out _).mono ?_;rintro e w3 ⟨rfl,hb3⟩;replace r:=row_call r hb3;replace o:=o.trans (hb3.mono o.size);clear hb3;obtain ⟨R0,R1,R2,R3,R4,R5,Rf0,Rf1,Rf2,Rf3,Rf4,Rf5⟩:=row_six r;go_wp2;exact bodyPost_ret (v := .tuple #[.agg (J30 lo md hi), .bool true]) (by simp [results,Tryz.results139,go_sem,R0,R1,R2,R3,R4,R5]) rfl ⟨rfl,below_six o (Nat.le_refl _) _ _ _ _ _ _⟩
set_option maxHeartbeats 2000000 in
theorem pratval (a b:Nat) (w:World) (ha:a<9223372036854775808) (hb0:1<=b) (hb:b<9223372036854775808) (hg:Nat.gcd a b=1):Calls Tryz.prog 56 #[.agg #[.int .i64 (a:Nat), .int .i64 (b:Nat)]] w (Rr (.bool true) w):=by
  have PZ:=Lib.hid (fun w=>psize a ha w);have PA:=Lib.hid (fun w=>pof a (by omega) w);have PB:=Lib.hid (fun w=>pof b (by omega) w);have PO:=Lib.hid (fun w=>pof 1 (by omega) w);have PG:=fun w=>pgcd a b (by unfold big;omega) (by unfold big;omega) w;rw [hg] at PG;replace PG:=Lib.hid PG;have i1:(1:Int)<=(b:Int):=by omega
  have d1:decide ((1:Int)<=(b:Int))=true:=decide_eq_true i1;have wb:IntKind.u64.wrap (b:Int)=(b:Int):=IntWalk.u64_in _ (by omega);clear hg;go_enter Tryz.func56,Tryz.ntmps56;go_upto_region 1 with (fail)
  have X:Row (w.alloc (.cells #[.int .i64 (a:Nat), .int .i64 (b:Nat)] 62)) w.heap.size 62 #[.int .i64 (a:Nat), .int .i64 (b:Nat)]:=row_new rfl;have o:Below w w (w.alloc (.cells #[.int .i64 (a:Nat), .int .i64 (b:Nat)] 62)):=bel9;generalize (w.alloc (.cells #[.int .i64 (a:Nat), .int .i64 (b:Nat)] 62))=w1 at X o |-
  refine wp_region_free0 [0,1,2,3,4,5,6,7,8,9,10,11,12,13,14,15] [] [0,1,2,3,4,5,6,7,8,9,10,11,12,13,14,15] 16 (fun w'=>Row w' (w.heap.size) 62 #[.int .i64 (a:Nat), .int .i64 (b:Nat)]/\Below w w w') (by kernel_rfl) (by kernel_rfl) (fun _ _ d _ _ h=>by cases d<;>exact h) ?_ ?_
  · exact ⟨X,o.drew⟩
  (refine plp rfl rfl ?_;simp only [put9]);(refine plv rfl rfl rfl (fun w' hS=>by cases r2 hS.1;exact gs9) ?_;simp only [put9]);iterate 3 (refine plp rfl rfl ?_;simp only [put9])
  (refine plv rfl rfl rfl (fun w' hS=>by cases r2 hS.1;exact gs9) ?_;simp only [put9]);refine plan_call (.int .u64 (a:Nat)) 155 #[.int .i64 (a:Nat)] rfl rfl rfl (fun _ _ h hb=>⟨row_call h.1 hb,h.2.trans (hb.mono h.2.size)⟩) (fun w' hS=>by cases r2 hS.1;go_simp) (fun w' hS=>(PZ.out w').mono fun _ _ h=>⟨h.1,by rw [h.2];exact Below.refl _ _⟩) ?_;simp only [put9];refine plan_call (W a) 76 #[.int .u64 (a:Nat)] rfl rfl rfl (fun _ _ h hb=>⟨row_call h.1 hb,h.2.trans (hb.mono h.2.size)⟩) (fun w' hS=>by cases r2 hS.1;go_simp) (fun w' hS=>PA.out w') ?_;simp only [put9];(refine plp rfl rfl ?_;simp only [put9]);(refine plv rfl rfl rfl (fun w' hS=>by cases r2 hS.1;exact gs9) ?_;simp only [put9]);(refine plp rfl rfl ?_;simp only [put9]);refine plan_call (W b) 76 #[.int .u64 (b:Nat)] rfl rfl rfl (fun _ _ h hb=>⟨row_call h.1 hb,h.2.trans (hb.mono h.2.size)⟩) (fun w' hS=>by cases r2 hS.1;go_simp) (fun w' hS=>PB.out w') ?_;simp only [put9];refine plan_call (W 1) 154 #[W a,W b] rfl rfl rfl (fun _ _ h hb=>⟨row_call h.1 hb,h.2.trans (hb.mono h.2.size)⟩) (fun w' hS=>by cases r2 hS.1;go_simp) (fun w' hS=>PG.out w') ?_;simp only [put9];refine plan_call (W 1) 76 #[.int .u64 1] rfl rfl rfl (fun _ _ h hb=>⟨row_call h.1 hb,h.2.trans (hb.mono h.2.size)⟩) (fun w' hS=>by cases r2 hS.1;go_simp) (fun w' hS=>PO.out w') ?_;simp only [put9];iterate 2 (refine plp rfl rfl ?_;simp only [put9])
  refine plan_nil ?_;intro w3 L;simp only [List.drop_succ_cons,List.drop_zero];try simp only [put9]
  have o2:=L.2;clear L X o;go_wp2;go_ret;exact ⟨rfl,o2⟩
theorem pexactR (a b:Nat) (w:World) (ha:a<9223372036854775808) (hb0:1<=b) (hb:b<9223372036854775808) (hg:Nat.gcd a b=1):Calls Tryz.prog 85 #[.agg #[.int .i64 (a:Nat), .int .i64 (b:Nat)]] w (Rr (.agg (J41 (a:Nat) (b:Nat))) w):=by
  have PV:=Lib.hid (fun w=>pratval a b w ha hb0 hb hg);clear ha hb0 hb hg;go_enter Tryz.func85,Tryz.ntmps85;go_wp2_with fail;have X:Row ((w.alloc (.cells #[.int .i64 (a:Nat), .int .i64 (b:Nat)] 62)).alloc (.cells J29 64)) w.heap.size 62 #[.int .i64 (a:Nat), .int .i64 (b:Nat)]:=row_alloc (row_new rfl) _;have R:Row ((w.alloc (.cells #[.int .i64 (a:Nat), .int .i64 (b:Nat)] 62)).alloc (.cells J29 64)) (w.heap.size+1) 64 J29:=row_new (by simp);have o:Below w w ((w.alloc (.cells #[.int .i64 (a:Nat), .int .i64 (b:Nat)] 62)).alloc (.cells J29 64)):=bel9;generalize ((w.alloc (.cells #[.int .i64 (a:Nat), .int .i64 (b:Nat)] 62)).alloc (.cells J29 64))=w1 at X R o |-
  refine (PV.out _).mono ?_;rintro e w2 ⟨rfl,hb2⟩;replace X:=row_call X hb2;replace R:=row_call R hb2;replace o:=o.trans (hb2.mono o.size);clear hb2;cases r2 X;obtain ⟨R0,R1,R2,R3,R4,R5,Rf0,Rf1,Rf2,Rf3,Rf4,Rf5⟩:=row_six R;go_wp2;exact bodyPost_ret (v := .agg (J41 (a:Nat) (b:Nat))) (by simp [results,Tryz.results85,go_sem,R0,R1,R2,R3,R4,R5]) rfl ⟨rfl,below_six o (by omega) _ _ _ _ _ _⟩
def icmp (p q:Int):Int:=if p<q then -1 else if p=q then 0 else 1
def pabs (a b:Int):Nat:=a.natAbs*b.natAbs
def sneg (a b:Int):Bool:=decide (a<0) != decide (b<0)
def pneg (a b:Int):Bool:=sneg a b && !decide (pabs a b=0)
theorem i64_abs {a:Int} (h : -9223372036854775808<=a/\a<=9223372036854775807):a.natAbs<18446744073709551616:=by omega
theorem pabs_eq (a b:Int):pabs a b=(a*b).natAbs:=(Int.natAbs_mul a b).symm
theorem pneg_eq (a b:Int):pneg a b=decide (a*b<0):=by
  have hz:pabs a b=0↔a=0∨b=0:=by
    unfold pabs;rw [Nat.mul_eq_zero];omega
  unfold pneg sneg;rcases Int.lt_trichotomy a 0 with h | h | h<;>rcases Int.lt_trichotomy b 0 with k | k | k
  · have:=Int.mul_pos_of_neg_of_neg h k;simp [h,k];omega
  · subst k;simp [h,hz]
  · have:=Int.mul_neg_of_neg_of_pos h k;have n0:¬ b<0:=by omega
    have:¬ (pabs a b=0):=by rw [hz];omega
    simp [h,n0,this];omega
  · subst h;simp [k,hz]
  · subst h;subst k;simp
  · subst h;simp [hz]<;>omega
  · have:=Int.mul_neg_of_pos_of_neg h k;have n0:¬ a<0:=by omega
    have:¬ (pabs a b=0):=by rw [hz];omega
    simp [k,n0,this];omega
  · subst k;simp [hz]<;>omega
  · have:=Int.mul_pos h k;have n0:¬ a<0:=by omega
    have n1:¬ b<0:=by omega
    simp [n0,n1];omega
def pcrossV (m n:Bool) (x y:Nat):Int:=if m then (if n then cmp y x else -1) else (if n then 1 else cmp x y)
theorem cross_is (a b c d:Int):pcrossV (pneg a b) (pneg c d) (pabs a b) (pabs c d)=icmp (a*b) (c*d):=by
  rw [pneg_eq,pneg_eq,pabs_eq,pabs_eq];generalize a*b=p;generalize c*d=q;unfold pcrossV icmp cmp;by_cases h:p<0<;>by_cases k:q<0<;>simp only [h,k,decide_true,decide_false,if_true,if_false,Bool.false_eq_true]<;>repeat (first | omega | split)
end Go.Proofs.YtdipoojjlddohaaGreat
