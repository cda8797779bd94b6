/- What the law TopRelative needs, joined of its texts by a program (slim2.py); part 6. -/
import Derived.Test.YtdipoojjlddohaaGreatZTopRelative1
import Derived.Test.YtdipoojjlddohaaGreatZTopRelative4
import Derived.Test.YtdipoojjlddohaaGreatZTopRelative5
set_option linter.unusedVariables false
set_option linter.unusedSimpArgs false
set_option linter.unusedSectionVars false
set_option linter.unnecessarySimpa false
set_option maxRecDepth 100000
namespace Go.Proofs.YtdipoojjlddohaaGreat
open MC
open MT
open Go.RowKit
theorem tmod_mod {a n:Int} (hn:1<=n):a % n=if a.tmod n<0 then a.tmod n+n else a.tmod n:=by
  rw [Int.tmod_eq_emod];have h0:=Int.emod_nonneg a (show n≠0 by omega);have h1:=Int.emod_lt_of_pos a (show 0<n by omega);have hd:n.natAbs=n:=by omega
  split
  · rw [if_neg (by omega)];omega
  · rename_i h;rw [not_or] at h;have h2:a % n≠0:=fun e=>h.2 (Int.dvd_of_emod_eq_zero e);rw [if_pos (by omega)];omega
theorem tmod_bd {a n:Int} (hn:1<=n) : -n<a.tmod n/\a.tmod n<n:=by
  have:=tmod_mod (a:=a) hn;have h0:=Int.emod_nonneg a (show n≠0 by omega);have h1:=Int.emod_lt_of_pos a (show 0<n by omega);rw [Int.tmod_eq_emod];have hd:n.natAbs=n:=by omega
  split
  · omega
  · rename_i h;rw [not_or] at h;have h2:a % n≠0:=fun e=>h.2 (Int.dvd_of_emod_eq_zero e);omega
theorem pmod (a n:Int) (hn:1<=n) (hn2:n<=4611686018427387904) (w:World):Calls Tryz.prog 8 #[a,n] w (Rd (.int .i64 (a % n)) w):=by
  rw [tmod_mod hn];have hb:=tmod_bd (a:=a) hn;have hz:n≠0:=by omega
  have hm1:¬ n = -1:=by omega
  obtain ⟨b1,b2⟩:=hb;have hw:IntKind.i64.wrap (a.tmod n)=a.tmod n:=IntWalk.i64_in _ (by omega);by_cases h:a.tmod n<0
  · rw [if_pos h];have hw2:IntKind.i64.wrap (a.tmod n+n)=a.tmod n+n:=IntWalk.i64_in _ (by omega);go_enter Tryz.func8,Tryz.ntmps8;go_wp2;go_ret;exact ⟨by first | rfl | simp_all,rfl⟩
  · rw [if_neg h];have h':0<=a.tmod n:=by omega
    go_enter Tryz.func8,Tryz.ntmps8;go_wp2;go_ret;exact ⟨by first | rfl | simp_all,rfl⟩
theorem pint (a n:Int) (hn:1<=n) (hn2:n<=4611686018427387904) (w:World):Calls Tryz.prog 9 #[a,n] w (Rd (.int .i64 (a % n)) w):=by
  have PM:=Lib.hid (fun w=>pmod a n hn hn2 w);have h0:=Int.emod_nonneg a (show n≠0 by omega);have h1:=Int.emod_lt_of_pos a (show 0<n by omega);generalize a % n=r at PM h0 h1 |-
  go_enter Tryz.func9,Tryz.ntmps9;go_wp2_with (go_at_call 8;with_reducible refine (PM.out _).mono ?_;rintro e w9 ⟨rfl,rfl⟩);go_ret;exact ⟨rfl,rfl⟩
def mval (a:Int):Int:=if a % 8=0 then a.tdiv 8 % 8193-4096 else if a % 8=1 then 4096*(2*(a.tdiv 8 % 2)-1) else a.tdiv 8 % 13-6
theorem mval_bd (a:Int) : -4096<=mval a/\mval a<=4096:=by unfold mval;split<;>(try split)<;>omega
def mgap (a w:Int):Int:=if a % 8=0 then a.tdiv 8 % (2*w+2) else if a % 8=1∨a % 8=2 then 1+a.tdiv 8 % 3 else 0
theorem mgap_bd (a:Int) {w:Int} (hw:1<=w):0<=mgap a w/\mgap a w<=2*w+1:=by
  unfold mgap;have h0:=Int.emod_nonneg (a.tdiv 8) (show 2*w+2≠0 by omega);have h1:=Int.emod_lt_of_pos (a.tdiv 8) (show 0<2*w+2 by omega);split<;>(try split)<;>omega
theorem tdiv8_bd {a:Int} (h : -9223372036854775808<=a/\a<=9223372036854775807) : -9223372036854775808<=a.tdiv 8/\a.tdiv 8<=9223372036854775807:=by
  rw [Int.tdiv_eq_ediv,show Int.sign 8=1 from rfl];split<;>omega
theorem pval_0 (a:Int) (ha : -9223372036854775808<=a/\a<=9223372036854775807) (h:a % 8=0) (w0:World):Calls Tryz.prog 36 #[a] w0 fun e w'=>e = .returned (.int .i64 (mval a))/\w'=w0:=by
  rw [mval,if_pos h];have hbb:=tdiv8_bd ha;have hw:IntKind.i64.wrap (a.tdiv 8)=a.tdiv 8:=IntWalk.i64_in _ hbb;have P8:=fun w=>pmod a 8 (by decide) (by decide) w;rw [h] at P8;have PB:=fun w=>pmod (a.tdiv 8) 8193 (by decide) (by decide) w;have b0:=Int.emod_nonneg (a.tdiv 8) (show (8193:Int)≠0 by decide);have b1:=Int.emod_lt_of_pos (a.tdiv 8) (show (0:Int)<8193 by decide);generalize a.tdiv 8 % 8193=q at PB b0 b1 |-
  have P8:=Lib.hid P8;have PB:=Lib.hid PB;clear h hbb;go_enter Tryz.func36,Tryz.ntmps36;go_wp2_with (first | (go_at_call 8;with_reducible refine (P8.out _).mono ?_;rintro e w9 ⟨rfl,rfl⟩) | (go_at_call 8;with_reducible refine (PB.out _).mono ?_;rintro e w9 ⟨rfl,rfl⟩));go_ret;exact ⟨rfl,rfl⟩
theorem pval_1 (a:Int) (ha : -9223372036854775808<=a/\a<=9223372036854775807) (h0:¬ a % 8=0) (h:a % 8=1) (w0:World):Calls Tryz.prog 36 #[a] w0 fun e w'=>e = .returned (.int .i64 (mval a))/\w'=w0:=by
  rw [mval,if_neg h0,if_pos h];have hbb:=tdiv8_bd ha;have hw:IntKind.i64.wrap (a.tdiv 8)=a.tdiv 8:=IntWalk.i64_in _ hbb;have P8:=fun w=>pmod a 8 (by decide) (by decide) w;rw [h] at P8;have PB:=fun w=>pmod (a.tdiv 8) 2 (by decide) (by decide) w;have b0:=Int.emod_nonneg (a.tdiv 8) (show (2:Int)≠0 by decide);have b1:=Int.emod_lt_of_pos (a.tdiv 8) (show (0:Int)<2 by decide);generalize a.tdiv 8 % 2=q at PB b0 b1 |-
  have P8:=Lib.hid P8;have PB:=Lib.hid PB;clear h0 h hbb;go_enter Tryz.func36,Tryz.ntmps36;go_wp2_with (first | (go_at_call 8;with_reducible refine (P8.out _).mono ?_;rintro e w9 ⟨rfl,rfl⟩) | (go_at_call 8;with_reducible refine (PB.out _).mono ?_;rintro e w9 ⟨rfl,rfl⟩));go_ret;exact ⟨rfl,rfl⟩
theorem pval_2 (a:Int) (ha : -9223372036854775808<=a/\a<=9223372036854775807) (h0:¬ a % 8=0) (h:¬ a % 8=1) (w0:World):Calls Tryz.prog 36 #[a] w0 fun e w'=>e = .returned (.int .i64 (mval a))/\w'=w0:=by
  rw [mval,if_neg h0,if_neg h];have hbb:=tdiv8_bd ha;have hw:IntKind.i64.wrap (a.tdiv 8)=a.tdiv 8:=IntWalk.i64_in _ hbb;have P8:=fun w=>pmod a 8 (by decide) (by decide) w;generalize a % 8=r8 at P8 h0 h;have c0:(r8 == 0)=false:=by simpa using h0
  have c1:(r8 == 1)=false:=by simpa using h
  have PB:=fun w=>pmod (a.tdiv 8) 13 (by decide) (by decide) w;have b0:=Int.emod_nonneg (a.tdiv 8) (show (13:Int)≠0 by decide);have b1:=Int.emod_lt_of_pos (a.tdiv 8) (show (0:Int)<13 by decide);generalize a.tdiv 8 % 13=q at PB b0 b1 |-
  have P8:=Lib.hid P8;have PB:=Lib.hid PB;clear h0 h hbb;go_enter Tryz.func36,Tryz.ntmps36;go_wp2_with (first | (go_at_call 8;with_reducible refine (P8.out _).mono ?_;rintro e w9 ⟨rfl,rfl⟩) | (go_at_call 8;with_reducible refine (PB.out _).mono ?_;rintro e w9 ⟨rfl,rfl⟩));go_ret;exact ⟨rfl,rfl⟩
theorem pval (a:Int) (ha : -9223372036854775808<=a/\a<=9223372036854775807) (w:World):Calls Tryz.prog 36 #[a] w (Rd (.int .i64 (mval a)) w):=by
  by_cases h0:a % 8=0
  · exact pval_0 a ha h0 w
  · by_cases h1:a % 8=1
    · exact pval_1 a ha h0 h1 w
    · exact pval_2 a ha h0 h1 w
theorem pgap_0 (a:Int) (w:Int) (hw1:1<=w) (hw2:w<=1048576) (ha : -9223372036854775808<=a/\a<=9223372036854775807) (h:a % 8=0) (w0:World):Calls Tryz.prog 35 #[a,w] w0 fun e w'=>e = .returned (.int .i64 (mgap a w))/\w'=w0:=by
  rw [mgap,if_pos h];have hbb:=tdiv8_bd ha;have hw:IntKind.i64.wrap (a.tdiv 8)=a.tdiv 8:=IntWalk.i64_in _ hbb;have P8:=fun w=>pmod a 8 (by decide) (by decide) w;rw [h] at P8;have PB:=fun w'=>pmod (a.tdiv 8) (2*w+2) (by omega) (by omega) w';have b0:=Int.emod_nonneg (a.tdiv 8) (show ((2*w+2):Int)≠0 by omega);have b1:=Int.emod_lt_of_pos (a.tdiv 8) (show (0:Int)<(2*w+2) by omega);generalize a.tdiv 8 % (2*w+2)=q at PB b0 b1 |-
  have PB:=Lib.hid PB;have P8:=Lib.hid P8;clear h hbb;go_enter Tryz.func35,Tryz.ntmps35;go_wp2_with (first | (go_at_call 8;with_reducible refine (P8.out _).mono ?_;rintro e w9 ⟨rfl,rfl⟩) | (go_at_call 8;with_reducible refine (PB.out _).mono ?_;rintro e w9 ⟨rfl,rfl⟩));go_ret;exact ⟨rfl,rfl⟩
theorem pgap_1 (a:Int) (w:Int) (hw1:1<=w) (hw2:w<=1048576) (ha : -9223372036854775808<=a/\a<=9223372036854775807) (h0:¬ a % 8=0) (h:a % 8=1) (w0:World):Calls Tryz.prog 35 #[a,w] w0 fun e w'=>e = .returned (.int .i64 (mgap a w))/\w'=w0:=by
  rw [mgap,if_neg h0,if_pos (Or.inl h)];have hbb:=tdiv8_bd ha;have hw:IntKind.i64.wrap (a.tdiv 8)=a.tdiv 8:=IntWalk.i64_in _ hbb;have P8:=fun w=>pmod a 8 (by decide) (by decide) w;rw [h] at P8;have PB:=fun w'=>pmod (a.tdiv 8) 3 (by omega) (by omega) w';have b0:=Int.emod_nonneg (a.tdiv 8) (show (3:Int)≠0 by omega);have b1:=Int.emod_lt_of_pos (a.tdiv 8) (show (0:Int)<3 by omega);generalize a.tdiv 8 % 3=q at PB b0 b1 |-
  have PB:=Lib.hid PB;have P8:=Lib.hid P8;clear h0 h hbb;go_enter Tryz.func35,Tryz.ntmps35;go_wp2_with (first | (go_at_call 8;with_reducible refine (P8.out _).mono ?_;rintro e w9 ⟨rfl,rfl⟩) | (go_at_call 8;with_reducible refine (PB.out _).mono ?_;rintro e w9 ⟨rfl,rfl⟩));go_ret;exact ⟨rfl,rfl⟩
theorem pgap_2 (a:Int) (w:Int) (hw1:1<=w) (hw2:w<=1048576) (ha : -9223372036854775808<=a/\a<=9223372036854775807) (h0:¬ a % 8=0) (h:a % 8=2) (w0:World):Calls Tryz.prog 35 #[a,w] w0 fun e w'=>e = .returned (.int .i64 (mgap a w))/\w'=w0:=by
  rw [mgap,if_neg h0,if_pos (Or.inr h)];have hbb:=tdiv8_bd ha;have hw:IntKind.i64.wrap (a.tdiv 8)=a.tdiv 8:=IntWalk.i64_in _ hbb;have P8:=fun w=>pmod a 8 (by decide) (by decide) w;rw [h] at P8;have PB:=fun w'=>pmod (a.tdiv 8) 3 (by omega) (by omega) w';have b0:=Int.emod_nonneg (a.tdiv 8) (show (3:Int)≠0 by omega);have b1:=Int.emod_lt_of_pos (a.tdiv 8) (show (0:Int)<3 by omega);generalize a.tdiv 8 % 3=q at PB b0 b1 |-
  have PB:=Lib.hid PB;have P8:=Lib.hid P8;clear h0 h hbb;go_enter Tryz.func35,Tryz.ntmps35;go_wp2_with (first | (go_at_call 8;with_reducible refine (P8.out _).mono ?_;rintro e w9 ⟨rfl,rfl⟩) | (go_at_call 8;with_reducible refine (PB.out _).mono ?_;rintro e w9 ⟨rfl,rfl⟩));go_ret;exact ⟨rfl,rfl⟩
theorem pgap_3 (a:Int) (w:Int) (hw1:1<=w) (hw2:w<=1048576) (ha : -9223372036854775808<=a/\a<=9223372036854775807) (h0:¬ a % 8=0) (h:¬ (a % 8=1∨a % 8=2)) (w0:World):Calls Tryz.prog 35 #[a,w] w0 fun e w'=>e = .returned (.int .i64 (mgap a w))/\w'=w0:=by
  rw [mgap,if_neg h0,if_neg h];have hbb:=tdiv8_bd ha;have hw:IntKind.i64.wrap (a.tdiv 8)=a.tdiv 8:=IntWalk.i64_in _ hbb;have P8:=fun w=>pmod a 8 (by decide) (by decide) w;generalize a % 8=r8 at P8 h0 h;rw [not_or] at h;have c0:(r8 == 0)=false:=by simpa using h0
  have c1:(r8 == 1)=false:=by simpa using h.1
  have c2:(r8 == 2)=false:=by simpa using h.2
  have P8:=Lib.hid P8;clear h0 h hbb;go_enter Tryz.func35,Tryz.ntmps35;go_wp2_with (first | (go_at_call 8;with_reducible refine (P8.out _).mono ?_;rintro e w9 ⟨rfl,rfl⟩));go_ret;exact ⟨rfl,rfl⟩
theorem pgap (a w:Int) (ha : -9223372036854775808<=a/\a<=9223372036854775807) (hw1:1<=w) (hw2:w<=1048576) (w0:World):Calls Tryz.prog 35 #[a,w] w0 fun e w'=>e = .returned (.int .i64 (mgap a w))/\w'=w0:=by
  by_cases h0:a % 8=0
  · exact pgap_0 a w hw1 hw2 ha h0 w0
  · by_cases h1:a % 8=1∨a % 8=2
    · rcases h1 with h1 | h1
      · exact pgap_1 a w hw1 hw2 ha h0 h1 w0
      · exact pgap_2 a w hw1 hw2 ha h0 h1 w0
    · exact pgap_3 a w hw1 hw2 ha h0 h1 w0
structure Itm where
  t:Int
  v:Int
def itmAt (l:List Itm) (i:Nat):Itm:=l.getD i ⟨0,0⟩
def icells (l:List Itm):List Value:=l.flatMap fun x=>[.int .i64 x.t, .int .i64 x.v]
theorem icells_cons (x:Itm) (l:List Itm):icells (x :: l) = .int .i64 x.t :: .int .i64 x.v :: icells l:=rfl
theorem icells_append (a b:List Itm):icells (a ++ b)=icells a ++ icells b:=by unfold icells;rw [List.flatMap_append]
theorem icells_len:∀ l:List Itm,(icells l).length=l.length*2
  | []=>rfl
  | x :: l=>by rw [icells_cons];simp only [List.length_cons,icells_len l];omega
theorem icells_at:∀ (l:List Itm) (i:Nat),i<l.length->(icells l)[i*2]?=some (.int .i64 (itmAt l i).t)/\(icells l)[i*2+1]?=some (.int .i64 (itmAt l i).v)
  | [],i,h=>absurd h (by simp)
  | x :: l,0,_=>⟨rfl,rfl⟩
  | x :: l,i+1,h=>by
    have ih:=icells_at l i (by simpa using h);rw [icells_cons,show (i+1)*2=i*2+1+1 by omega,show i*2+1+1+1=(i*2+1)+1+1 by omega];simp only [List.getElem?_cons_succ];exact ih
theorem icells_set (l:List Itm) (i:Nat) (h:i<l.length) (v:Int):(icells l).set (i*2+1) (.int .i64 v)=icells (l.set i { itmAt l i with v:=v }):=by
  induction l generalizing i with
  | nil=>exact absurd h (by simp)
  | cons x l ih =>
    cases i with
    | zero=>rfl
    | succ i =>
      have:=ih i (by simpa using h);rw [icells_cons,show (i+1)*2+1=i*2+1+1+1 by omega];simp only [List.set_cons_succ];rw [this];rfl
theorem addr_lit (a:Addr) (j:Nat) (h:j≠0):a.add j=⟨a.block,a.off+j,none⟩:=by unfold Addr.add;rw [if_neg h]
def ItmCells (w:World) (a:Addr) (x:Itm):Prop:=w.cell? a=some (.int .i64 x.t)/\w.cell? ⟨a.block,a.off+1,none⟩=some (.int .i64 x.v)
section
variable {w w':World} {B m:Nat} {A:Option Addr} {l:List Itm}
theorem ItmCells.below {a:Addr} {x:Itm} (h:ItmCells w a x) (hb:Below B w w') (hlt:a.block<B):ItmCells w' a x :=
  ⟨(hb.cell hlt).trans h.1,(hb.cell (p:=⟨a.block,a.off+1,none⟩) hlt).trans h.2⟩
theorem Reads.itm_len (h:Reads w B 2 A m (icells l)):l.length=m:=by have:=h.1;rw [icells_len] at this;omega
theorem Reads.itm {i:Nat} (h:Reads w B 2 A m (icells l)) (hi:i<m):∃ ad,A=some ad/\ad.block<B/\ItmCells w (ad.add (i*2)) (itmAt l i):=by
  obtain ⟨ad,e,hb,hc⟩:=h.2 (by omega);have ht:=icells_at l i (by rw [h.itm_len];exact hi);refine ⟨ad,e,hb,hc _ _ ht.1,?_⟩;rw [<- addr_lit _ 1 (by decide),add_of_add];exact hc _ _ ht.2
end
structure RIn (A:Option Addr) (m c:Nat) (l:List Itm) (w:World):Prop where
  reads:Reads w w.heap.size 2 A m (icells l)
  tB:∀ i, -9223372036854775808<=(itmAt l i).t/\(itmAt l i).t<=9223372036854775807
  vB:∀ i, -9223372036854775808<=(itmAt l i).v/\(itmAt l i).v<=9223372036854775807
  mc:m<=c
  cB:c<=maxLen
theorem RIn.below {A:Option Addr} {m c:Nat} {l:List Itm} {w w':World} (h:RIn A m c l w) (hb:Below w w w'):RIn A m c l w':=⟨(h.reads.below hb).more hb.size,h.tB,h.vB,h.mc,h.cB⟩
def Made (st lo hi last:Int) (l:List Itm):Prop :=
  (∀ i,i<l.length->0<=(itmAt l i).t/\(itmAt l i).t<=last/\(∀ j,j<=i->(itmAt l j).t<=(itmAt l i).t)/\lo<=(itmAt l i).v/\(itmAt l i).v<=hi)/\0<=last/\last<=st*l.length
theorem itm_left {l:List Itm} {x:Itm} {i:Nat} (h:i<l.length):itmAt (l ++ [x]) i=itmAt l i:=by
  unfold itmAt;rw [List.getD_eq_getElem?_getD,List.getD_eq_getElem?_getD,List.getElem?_append_left h]
theorem itm_last {l:List Itm} {x:Itm}:itmAt (l ++ [x]) l.length=x:=by
  unfold itmAt;rw [List.getD_eq_getElem?_getD,List.getElem?_append_right (Nat.le_refl _)];simp
theorem made_nil {st lo hi:Int}:Made st lo hi 0 []:=⟨fun i h=>absurd h (by simp),Int.le_refl _,by simp⟩
theorem made_snoc {st lo hi last g v:Int} {l:List Itm} (h:Made st lo hi last l) (g0:0<=g) (g1:g<=st) (v0:lo<=v) (v1:v<=hi):Made st lo hi (last+g) (l ++ [⟨last+g,v⟩]):=by
  obtain ⟨h1,h2,h3⟩:=h;refine ⟨fun i hi=>?_,by omega,?_⟩
  · rw [List.length_append,List.length_singleton] at hi;by_cases c:i<l.length
    · have q:=h1 i c;rw [itm_left c];refine ⟨q.1,by omega,fun j hj=>?_,q.2.2.2⟩;rw [itm_left (by omega)];exact q.2.2.1 j hj
    · obtain rfl:i=l.length:=by omega
      rw [itm_last];refine ⟨(show 0<=last+g by omega),Int.le_refl _,fun j hj=>?_,v0,v1⟩;by_cases c2:j<l.length
      · rw [itm_left c2];have:=(h1 j c2).2.1;show _<=last+g;omega
      · obtain rfl:j=l.length:=by omega
        rw [itm_last];exact Int.le_refl _
  · rw [List.length_append,List.length_singleton];have e:st*((l.length+1:Nat):Int)=st*(l.length:Int)+st:=by rw [Int.natCast_succ,Int.mul_add,Int.mul_one]
    rw [e];omega
theorem made_bound {st lo hi last:Int} {l:List Itm} (h:Made st lo hi last l) (hs0:0<=st) (hs:st<=2097153) (hl:l.length<=1000000):last<=2097153000000:=by
  have h3:=h.2.2;have:st*(l.length:Int)<=2097153*1000000:=Int.mul_le_mul hs (by omega) (by omega) (by omega);omega
theorem info_itm:(Tryz.prog.info? 90).map (fun i=>(i.zero,i.size,i.bytes))=some (some (.agg #[(),()]),2,16):=by kernel_rfl
def imod (q:Int) (x:Itm):Itm:={ x with v:=x.v % q }
def ipart (q:Int) (l:List Itm) (k:Nat):List Itm:=(l.take k).map (imod q) ++ l.drop k
theorem ipart_zero (q:Int) (l:List Itm):ipart q l 0=l:=by simp [ipart]
theorem ipart_all (q:Int) (l:List Itm):ipart q l l.length=l.map (imod q):=by simp [ipart]
theorem ipart_len (q:Int) (l:List Itm) (k:Nat):(ipart q l k).length=l.length:=by simp [ipart];omega
theorem itm_eq {l:List Itm} {i:Nat} (h:i<l.length):l[i]=itmAt l i:=by unfold itmAt;rw [List.getD_eq_getElem?_getD,List.getElem?_eq_getElem h];rfl
theorem ipart_at {q:Int} {l:List Itm} {k:Nat} (h:k<l.length):itmAt (ipart q l k) k=itmAt l k:=by
  unfold ipart itmAt;rw [List.getD_eq_getElem?_getD,List.getD_eq_getElem?_getD,List.getElem?_append_right (by simp;omega)];simp [Nat.min_eq_left (Nat.le_of_lt h)]
theorem ipart_step {q:Int} {l:List Itm} {k:Nat} (h:k<l.length):(ipart q l k).set k { itmAt (ipart q l k) k with v:=(itmAt l k).v % q }=ipart q l (k+1):=by
  rw [ipart_at h];unfold ipart;rw [List.set_append_right _ _ (by simp;omega),List.length_map,List.length_take,Nat.min_eq_left (by omega),Nat.sub_self,List.drop_eq_getElem_cons h,List.set_cons_zero,List.take_succ_eq_append_getElem h,List.map_append,itm_eq h];simp [imod]
theorem itm_map (q:Int) (l:List Itm) (i:Nat) (h:i<l.length):itmAt (l.map (imod q)) i=imod q (itmAt l i):=by
  unfold itmAt;rw [List.getD_eq_getElem?_getD,List.getD_eq_getElem?_getD,List.getElem?_map,List.getElem?_eq_getElem h];rfl
theorem made_map {st lo hi last q:Int} {l:List Itm} (hq:1<=q) (h:Made st lo hi last l):Made st 0 (q-1) last (l.map (imod q)):=by
  obtain ⟨h1,h2,h3⟩:=h;refine ⟨fun i hi=>?_,h2,by rw [List.length_map];exact h3⟩;rw [List.length_map] at hi;rw [itm_map q l i hi];have a:=h1 i hi;have b0:=Int.emod_nonneg (itmAt l i).v (show q≠0 by omega);have b1:=Int.emod_lt_of_pos (itmAt l i).v (show 0<q by omega);refine ⟨a.1,a.2.1,fun j hj=>?_,b0,by show _ % q<=q-1;omega⟩;rw [itm_map q l j (by omega)];exact a.2.2.1 j hj
end Go.Proofs.YtdipoojjlddohaaGreat
