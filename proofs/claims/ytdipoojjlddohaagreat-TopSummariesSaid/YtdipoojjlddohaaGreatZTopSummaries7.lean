/- What the law TopSummaries needs, joined of its texts by a program (slim2.py); part 7. -/
import Derived.Test.YtdipoojjlddohaaGreatZTopSummaries1
import Derived.Test.YtdipoojjlddohaaGreatZTopSummaries2
import Derived.Test.YtdipoojjlddohaaGreatZTopSummaries4
import Derived.Test.YtdipoojjlddohaaGreatZTopSummaries6
set_option linter.unusedVariables false
set_option linter.unusedSimpArgs false
set_option linter.unusedSectionVars false
set_option linter.unnecessarySimpa false
section
/- Items made out of any numbers, walked. -/
namespace Go.Proofs.YtdipoojjlddohaaGreat
open Go.RowKit
structure Itm where
  t:Int
  v:Int
def itmAt (l:List Itm) (i:Nat):Itm:=l.getD i ⟨0,0⟩
def icells (l:List Itm):List Value:=l.flatMap fun x=>[.int .i64 x.t, .int .i64 x.v]
theorem icells_cons (x:Itm) (l:List Itm):icells (x :: l) = .int .i64 x.t :: .int .i64 x.v :: icells l:=rfl
theorem icells_append (a b:List Itm):icells (a ++ b)=icells a ++ icells b:=by unfold icells;rw [List.flatMap_append]
theorem icells_len:∀ l:List Itm,(icells l).length=l.length*2
  | []=>rfl
  | x :: l=>by rw [icells_cons];simp only [List.length_cons,icells_len l];omega
theorem icells_at:∀ (l:List Itm) (i:Nat),i<l.length→(icells l)[i*2]?=some (.int .i64 (itmAt l i).t)∧(icells l)[i*2+1]?=some (.int .i64 (itmAt l i).v)
  | [],i,h=>absurd h (by simp)
  | x :: l,0,_=>⟨rfl,rfl⟩
  | x :: l,i+1,h=>by
    have ih:=icells_at l i (by simpa using h)
    rw [icells_cons,show (i+1)*2=i*2+1+1 by omega,show i*2+1+1+1=(i*2+1)+1+1 by omega]
    simp only [List.getElem?_cons_succ]
    exact ih
theorem addr_lit (a:Addr) (j:Nat) (h:j≠0):a.add j=⟨a.block,a.off+j,none⟩:=by unfold Addr.add;rw [if_neg h]
def ItmCells (w:World) (a:Addr) (x:Itm):Prop:=w.cell? a=some (.int .i64 x.t)∧w.cell? ⟨a.block,a.off+1,none⟩=some (.int .i64 x.v)
section
variable {w w':World} {B m:Nat} {A:Option Addr} {l:List Itm}
theorem ItmCells.below {a:Addr} {x:Itm} (h:ItmCells w a x) (hb:Below B w w') (hlt:a.block<B):ItmCells w' a x :=
  ⟨(hb.cell hlt).trans h.1,(hb.cell (p:=⟨a.block,a.off+1,none⟩) hlt).trans h.2⟩
theorem Reads.itm_len (h:Reads w B 2 A m (icells l)):l.length=m:=by have:=h.1;rw [icells_len] at this;omega
theorem Reads.itm {i:Nat} (h:Reads w B 2 A m (icells l)) (hi:i<m):∃ ad,A=some ad∧ad.block<B∧ItmCells w (ad.add (i*2)) (itmAt l i):=by
  obtain ⟨ad,e,hb,hc⟩:=h.2 (by omega)
  have ht:=icells_at l i (by rw [h.itm_len];exact hi)
  refine ⟨ad,e,hb,hc _ _ ht.1,?_⟩
  rw [← addr_lit _ 1 (by decide),add_of_add]
  exact hc _ _ ht.2
end
structure RIn (A:Option Addr) (m c:Nat) (l:List Itm) (w:World):Prop where
  reads:Reads w w.heap.size 2 A m (icells l)
  tB:∀ i, -9223372036854775808≤(itmAt l i).t∧(itmAt l i).t≤9223372036854775807
  vB:∀ i, -9223372036854775808≤(itmAt l i).v∧(itmAt l i).v≤9223372036854775807
  mc:m≤c
  cB:c≤maxLen
theorem RIn.below {A:Option Addr} {m c:Nat} {l:List Itm} {w w':World} (h:RIn A m c l w) (hb:Below w.heap.size w w'):RIn A m c l w':=⟨(h.reads.below hb).more hb.size,h.tB,h.vB,h.mc,h.cB⟩
def Made (st lo hi last:Int) (l:List Itm):Prop :=
  (∀ i,i<l.length→0≤(itmAt l i).t∧(itmAt l i).t≤last∧(∀ j,j≤i→(itmAt l j).t≤(itmAt l i).t)∧lo≤(itmAt l i).v∧(itmAt l i).v≤hi)∧0≤last∧last≤st*l.length
theorem itm_left {l:List Itm} {x:Itm} {i:Nat} (h:i<l.length):itmAt (l ++ [x]) i=itmAt l i:=by
  unfold itmAt
  rw [List.getD_eq_getElem?_getD,List.getD_eq_getElem?_getD,List.getElem?_append_left h]
theorem itm_last {l:List Itm} {x:Itm}:itmAt (l ++ [x]) l.length=x:=by
  unfold itmAt
  rw [List.getD_eq_getElem?_getD,List.getElem?_append_right (Nat.le_refl _)]
  simp
theorem made_nil {st lo hi:Int}:Made st lo hi 0 []:=⟨fun i h=>absurd h (by simp),Int.le_refl _,by simp⟩
theorem made_snoc {st lo hi last g v:Int} {l:List Itm} (h:Made st lo hi last l) (g0:0≤g) (g1:g≤st) (v0:lo≤v) (v1:v≤hi):Made st lo hi (last+g) (l ++ [⟨last+g,v⟩]):=by
  obtain ⟨h1,h2,h3⟩:=h
  refine ⟨fun i hi=>?_,by omega,?_⟩
  · rw [List.length_append,List.length_singleton] at hi
    by_cases c:i<l.length
    · have q:=h1 i c
      rw [itm_left c]
      refine ⟨q.1,by omega,fun j hj=>?_,q.2.2.2⟩
      rw [itm_left (by omega)]
      exact q.2.2.1 j hj
    · obtain rfl:i=l.length:=by omega
      rw [itm_last]
      refine ⟨(show 0≤last+g by omega),Int.le_refl _,fun j hj=>?_,v0,v1⟩
      by_cases c2:j<l.length
      · rw [itm_left c2]
        have:=(h1 j c2).2.1
        show _≤last+g
        omega
      · obtain rfl:j=l.length:=by omega
        rw [itm_last]
        exact Int.le_refl _
  · rw [List.length_append,List.length_singleton]
    have e:st*((l.length+1:Nat):Int)=st*(l.length:Int)+st:=by rw [Int.natCast_succ,Int.mul_add,Int.mul_one]
    rw [e]
    omega
theorem made_bound {st lo hi last:Int} {l:List Itm} (h:Made st lo hi last l) (hs0:0≤st) (hs:st≤2097153) (hl:l.length≤1000000):last≤2097153000000:=by
  have h3:=h.2.2
  have:st*(l.length:Int)≤2097153*1000000:=Int.mul_le_mul hs (by omega) (by omega) (by omega)
  omega
theorem info_itm:(Tryz.prog.info? 90).map (fun i=>(i.zero,i.size,i.bytes))=some (some (.agg #[.int .i64 0, .int .i64 0]),2,16):=by kernel_rfl
def IRet (most:Nat) (st lo hi:Int) (w:World) (e:Ending) (w':World):Prop :=
  ∃ (v:Value) (l:List Itm) (last:Int),e = .returned v∧w'.ownsRow w.heap.size 90 2 v l.length (icells l)∧l.length≤most∧Made st lo hi last l∧Below w.heap.size w w'
set_option maxHeartbeats 2000000 in
theorem pitems (A:Option Addr) (m c:Nat) (l:List Itm) (wd most:Nat) (w:World) (hin:RIn A m c l w) (hw1:1≤wd) (hw2:wd≤1048576) (hmost:most≤100000) :
    Calls Tryz.prog 10 #[.slice A m c, .int .i64 wd, .int .i64 most] w (IRet most (2*(wd:Int)+1) (-4096) 4096 w):=by
  have HR:=Lib.hid hin
  have hmB:m≤9223372036854775807:=by have:=hin.mc;have:=hin.cB;unfold maxLen at *;omega
  obtain ⟨i1,hi1,iz0,iz1,iz2⟩:=info_parts info_itm
  clear hin
  go_enter Tryz.func10,Tryz.ntmps10
  go_wp2
  go_loopw [7,8,9] (fun v tt i wr=>∃ (l':List Itm) (last:Int),l'.length≤m∧l'.length≤most∧i = .int .i64 (l'.length:Nat)∧tt = .int .i64 last∧wr.ownsRow w.heap.size 90 2 v l'.length (icells l')∧RowKit.Hid (Made (2*(wd:Int)+1) (-4096) 4096 last l')∧Below w.heap.size w wr) (fun _ _ i _=>m-(intOf i).toNat)
  case atStart=>exact ⟨[],0,by simp,by simp,rfl,rfl,World.ownsRow_nil _ _ _ _,Lib.hid made_nil,Below.refl _ _⟩
  case round =>
    obtain ⟨l',last,hk1,hk2,rfl,rfl,own,HM,hb⟩:=hrel
    have lb:=made_bound HM.out (by omega) (by omega) (by omega)
    have lb0:=HM.out.2.1
    generalize hk:l'.length=k at hk1 hk2 own ⊢
    have HK:=Lib.hid hk
    clear hk
    by_cases hlt:k<m
    · by_cases hlt2:k<most
      · obtain ⟨ad,rfl,hadb,hi0⟩:=HR.out.reads.itm hlt
        obtain ⟨c0,c1⟩:=hi0.below hb (by rw [block_of_add];exact hadb)
        have tB:=HR.out.tB k
        have vB:=HR.out.vB k
        have PG:=Lib.hid (fun w=>pgap (itmAt l k).t (wd:Int) tB (by omega) (by omega) w)
        have PV:=Lib.hid (fun w=>pval (itmAt l k).v vB w)
        have gB:=mgap_bd (itmAt l k).t (w:=(wd:Int)) (by omega)
        have wB:=mval_bd (itmAt l k).v
        generalize mgap (itmAt l k).t (wd:Int)=g at PG gB
        generalize mval (itmAt l k).v=v at PV wB
        generalize (itmAt l k).t=rt at c0 PG
        generalize (itmAt l k).v=rv at c1 PV
        obtain ⟨gB0,gB1⟩:=gB
        obtain ⟨wB0,wB1⟩:=wB
        have HM2:=Lib.hid (made_snoc HM.out gB0 gB1 wB0 wB1)
        have i2:(k:Int)<(m:Int):=by omega
        have i3:(k:Int)<(most:Int):=by omega
        have i4:(0:Int)≤(k:Int):=by omega
        have hbl:=own.lt
        have OWN:=Lib.hid own
        have zb:=hb.size
        clear hi0 tB vB own
        go_wp2_with (first | (go_at_call 35;with_reducible refine (PG.out _).mono ?_;rintro e w9 ⟨rfl,rfl⟩) | (go_at_call 36;with_reducible refine (PV.out _).mono ?_;rintro e w9 ⟨rfl,rfl⟩) | (at_builtin;refine wpList_push rfl _ _ 22 rfl 90 i1 (.agg #[.int .i64 0, .int .i64 0]) 2 16 Tryz.underlying22 hi1 iz0 iz1 iz2 rfl (by decide) w.heap.size u7 k (icells l') rfl OWN.out #[.int .i64 (last+g), .int .i64 v] rfl rfl (by simp [Value.oneCell']) (by unfold maxLen;omega) (by omega) zb ?_;intro g' c4 w8 own8 hg8 hat8 hgr8))
        have L8:w8.ownsRow w.heap.size 90 2 (.slice (some ⟨g',0,none⟩) (k+1) c4) (l' ++ [(⟨last+g,v⟩:Itm)]).length (icells (l' ++ [(⟨last+g,v⟩:Itm)])):=by
          rw [icells_append,List.length_append,HK.out]
          exact own8.row hg8
        have L9:Below w.heap.size w w8:=below_grown (hb.alloc zb _) hgr8 (fun b e=>(hbl b e).1) (by simp;omega)
        have hlen:(l' ++ [(⟨last+g,v⟩:Itm)]).length=k+1:=by rw [List.length_append,HK.out];rfl
        clear own8 hgr8 hat8
        go_roundw
        case rel=>exact ⟨l' ++ [(⟨last+g,v⟩:Itm)],last+g,by omega,by omega,by rw [hlen];go_num,rfl,L8,HM2,L9⟩
        case measure=>simp [intOf];omega
      · have i2:(k:Int)<(m:Int):=by omega
        have i3:¬ (k:Int)<(most:Int):=by omega
        go_wp2
        go_ret
        exact ⟨_,l',last,rfl,by rw [HK.out];exact own,by rw [HK.out];omega,HM.out,hb⟩
    · have i2:¬ (k:Int)<(m:Int):=by omega
      go_wp2
      go_ret
      exact ⟨_,l',last,rfl,by rw [HK.out];exact own,by rw [HK.out];omega,HM.out,hb⟩
def imod (q:Int) (x:Itm):Itm:={ x with v:=x.v % q }
def ipart (q:Int) (l:List Itm) (k:Nat):List Itm:=(l.take k).map (imod q) ++ l.drop k
theorem itm_eq {l:List Itm} {i:Nat} (h:i<l.length):l[i]=itmAt l i:=by unfold itmAt;rw [List.getD_eq_getElem?_getD,List.getElem?_eq_getElem h];rfl
end Go.Proofs.YtdipoojjlddohaaGreat
end
section
/- Buckets in memory. -/
namespace Go.Proofs.YtdipoojjlddohaaGreat
open Go.RowKit
def bcells (l:List Bk):List Value:=l.flatMap fun x=>[.int .i64 x.t, .int .i64 (x.lv:Nat)]
theorem bcells_cons (x:Bk) (l:List Bk):bcells (x :: l) = .int .i64 x.t :: .int .i64 (x.lv:Nat) :: bcells l:=rfl
theorem bcells_append (a b:List Bk):bcells (a ++ b)=bcells a ++ bcells b:=by unfold bcells;rw [List.flatMap_append]
theorem bcells_len:∀ l:List Bk,(bcells l).length=l.length*2
  | []=>rfl
  | x :: l=>by rw [bcells_cons];simp only [List.length_cons,bcells_len l];omega
theorem bcells_at:∀ (l:List Bk) (i:Nat),i<l.length→(bcells l)[i*2]?=some (.int .i64 (bkAt l i).t)∧(bcells l)[i*2+1]?=some (.int .i64 ((bkAt l i).lv:Nat))
  | [],i,h=>absurd h (by simp)
  | x :: l,0,_=>⟨rfl,rfl⟩
  | x :: l,i+1,h=>by
    have ih:=bcells_at l i (by simpa using h)
    rw [bcells_cons,show (i+1)*2=i*2+1+1 by omega,show i*2+1+1+1=(i*2+1)+1+1 by omega]
    simp only [List.getElem?_cons_succ]
    exact ih
theorem bcells_set (l:List Bk) (i:Nat) (h:i<l.length) (b:Bk):((bcells l).set (i*2) (.int .i64 b.t)).set (i*2+1) (.int .i64 (b.lv:Nat))=bcells (l.set i b):=by
  induction l generalizing i with
  | nil=>exact absurd h (by simp)
  | cons x l ih =>
    cases i with
    | zero=>rfl
    | succ i =>
      have:=ih i (by simpa using h)
      rw [bcells_cons,show (i+1)*2=i*2+1+1 by omega,show i*2+1+1+1=(i*2+1)+1+1 by omega]
      simp only [List.set_cons_succ]
      rw [this]
      rfl
theorem bcells_one (l:List Bk):∀ u∈bcells l,u.oneCell'=true:=by
  intro u hu
  unfold bcells at hu
  rw [List.mem_flatMap] at hu
  obtain ⟨x,_,hx⟩:=hu
  simp at hx
  rcases hx with rfl | rfl<;>rfl
theorem bcells_take (l:List Bk) (k:Nat):(bcells l).take (k*2)=bcells (l.take k):=by
  induction l generalizing k with
  | nil=>simp [bcells]
  | cons x l ih =>
    cases k with
    | zero=>simp [bcells]
    | succ k=>rw [bcells_cons,List.take_succ_cons,bcells_cons,show (k+1)*2=k*2+1+1 by omega,List.take_succ_cons,List.take_succ_cons,ih]
theorem bcells_drop (l:List Bk) (k:Nat):(bcells l).drop (k*2)=bcells (l.drop k):=by
  induction l generalizing k with
  | nil=>simp [bcells]
  | cons x l ih =>
    cases k with
    | zero=>simp [bcells]
    | succ k=>rw [bcells_cons,List.drop_succ_cons,show (k+1)*2=k*2+1+1 by omega,List.drop_succ_cons,List.drop_succ_cons,ih]
def BkCells (w:World) (a:Addr) (x:Bk):Prop:=w.cell? a=some (.int .i64 x.t)∧w.cell? ⟨a.block,a.off+1,none⟩=some (.int .i64 (x.lv:Nat))
section
variable {w w':World} {B m:Nat} {A:Option Addr} {l:List Bk}
theorem BkCells.below {a:Addr} {x:Bk} (h:BkCells w a x) (hb:Below B w w') (hlt:a.block<B):BkCells w' a x :=
  ⟨(hb.cell hlt).trans h.1,(hb.cell (p:=⟨a.block,a.off+1,none⟩) hlt).trans h.2⟩
theorem Reads.bk_len (h:Reads w B 2 A m (bcells l)):l.length=m:=by have:=h.1;rw [bcells_len] at this;omega
theorem Reads.bk {i:Nat} (h:Reads w B 2 A m (bcells l)) (hi:i<m):∃ ad,A=some ad∧ad.block<B∧BkCells w (ad.add (i*2)) (bkAt l i):=by
  obtain ⟨ad,e,hb,hc⟩:=h.2 (by omega)
  have ht:=bcells_at l i (by rw [h.bk_len];exact hi)
  refine ⟨ad,e,hb,hc _ _ ht.1,?_⟩
  rw [← addr_lit _ 1 (by decide),add_of_add]
  exact hc _ _ ht.2
end
structure BIn (A:Option Addr) (m c:Nat) (l:List Bk) (w:World):Prop where
  reads:Reads w w.heap.size 2 A m (bcells l)
  mc:m≤c
  cB:c≤maxLen
theorem BIn.below {A:Option Addr} {m c:Nat} {l:List Bk} {w w':World} (h:BIn A m c l w) (hb:Below w.heap.size w w'):BIn A m c l w':=⟨(h.reads.below hb).more hb.size,h.mc,h.cB⟩
theorem BIn.len {A:Option Addr} {m c:Nat} {l:List Bk} {w:World} (h:BIn A m c l w):l.length=m:=h.reads.bk_len
theorem BIn.nil {w:World}:BIn none 0 0 [] w:=⟨by simpa [bcells] using Reads.none_,Nat.le_refl _,Nat.zero_le _⟩
def BRet (P:List Bk→Prop) (w:World) (e:Ending) (w':World):Prop :=
  ∃ (A:Option Addr) (m c:Nat) (l:List Bk),e = .returned (.slice A m c)∧BIn A m c l w'∧P l∧Below w.heap.size w w'∧∀ a,A=some a→w.heap.size≤a.block
theorem info_bk:(Tryz.prog.info? 318).map (fun i=>(i.zero,i.size,i.bytes))=some (some (.agg #[.int .i64 0, .int .i64 0]),2,16):=by kernel_rfl
end Go.Proofs.YtdipoojjlddohaaGreat
end
section
/- Lists of buckets: valid ones, their totals, walked. -/
namespace Go.Proofs.YtdipoojjlddohaaGreat
open Go.RowKit
theorem pbtick (x:Int) (w:World) (h0:0≤x) (h1:x≤16777216):Calls Tryz.prog 267 #[.int .i64 x] w fun e w'=>e = .returned (.bool true)∧w'=w:=by
  go_enter Tryz.func267,Tryz.ntmps267
  go_wp2_with fail
  go_ret
  exact ⟨by first | rfl | exact ret_bool (by simp;omega) | exact ret_bool (by simp [*]),rfl⟩
theorem pblevel (x:Int) (w:World) (h0:0≤x) (h1:x≤30):Calls Tryz.prog 228 #[.int .i64 x] w fun e w'=>e = .returned (.bool true)∧w'=w:=by
  go_enter Tryz.func228,Tryz.ntmps228
  go_wp2_with fail
  go_ret
  exact ⟨by first | rfl | exact ret_bool (by simp;omega) | exact ret_bool (by simp [*]),rfl⟩
def manyA (l:List Bk) (j:Nat):Array Value:=((List.range 31).map fun x=>Value.int .i64 (cnt (l.take j) x:Nat)).toArray
theorem many_zero (l:List Bk):manyA l 0=#[.int .i64 0, .int .i64 0, .int .i64 0, .int .i64 0, .int .i64 0, .int .i64 0, .int .i64 0, .int .i64 0, .int .i64 0, .int .i64 0, .int .i64 0, .int .i64 0, .int .i64 0, .int .i64 0, .int .i64 0, .int .i64 0, .int .i64 0, .int .i64 0, .int .i64 0, .int .i64 0, .int .i64 0, .int .i64 0, .int .i64 0, .int .i64 0, .int .i64 0, .int .i64 0, .int .i64 0, .int .i64 0, .int .i64 0, .int .i64 0, .int .i64 0]:=rfl
theorem many_at (l:List Bk) (j x:Nat) (hx:x≤30):(manyA l j)[x]?=some (.int .i64 (cnt (l.take j) x:Nat)):=by
  unfold manyA
  rw [List.getElem?_toArray,List.getElem?_map,List.getElem?_range (by omega)]
  rfl
theorem many_step {l:List Bk} {j:Nat} (hj:j<l.length):(manyA l j).setIfInBounds (bkAt l j).lv (.int .i64 ((cnt (l.take j) (bkAt l j).lv:Nat)+1:Int))=manyA l (j+1):=by
  apply Array.ext_getElem?
  intro i
  by_cases hi:i≤30
  · rw [many_at _ _ _ hi,Array.getElem?_setIfInBounds]
    have hs:i<(manyA l j).size:=by unfold manyA;simp;omega
    rw [take_bk hj,cnt_append,cnt_cons,cnt_nil]
    by_cases h:(bkAt l j).lv=i
    · rw [if_pos h,if_pos (h ▸ hs),if_pos h,h]
      simp
    · rw [if_neg h,if_neg h,many_at _ _ _ hi]
      simp
  · rw [Array.getElem?_eq_none (by unfold manyA;simp;omega),Array.getElem?_eq_none (by unfold manyA;simp;omega)]
set_option maxRecDepth 100000 in
set_option maxHeartbeats 4000000 in
theorem pbvalidL (A:Option Addr) (m c:Nat) (l:List Bk) (k:Nat) (w:World) (hin:BIn A m c l w) (hv:BV k l) (hk:1≤k∧k≤128) (hm:m≤1000000) :
    Calls Tryz.prog 227 #[.slice A m c, .int .i64 (k:Nat)] w fun e w'=>e = .returned (.bool true)∧Below w.heap.size w w':=by
  have HR:=Lib.hid hin
  have HL:=Lib.hid hin.len
  have HV:=Lib.hid hv
  have k1:¬ (k:Int)<1:=by omega
  have k2:¬ 128<(k:Int):=by omega
  clear hin hv
  go_enter Tryz.func227,Tryz.ntmps227
  go_upto_region 4 with (fail)
  have R:Row (w.alloc (.cells #[.int .i64 0, .int .i64 0, .int .i64 0, .int .i64 0, .int .i64 0, .int .i64 0, .int .i64 0, .int .i64 0, .int .i64 0, .int .i64 0, .int .i64 0, .int .i64 0, .int .i64 0, .int .i64 0, .int .i64 0, .int .i64 0, .int .i64 0, .int .i64 0, .int .i64 0, .int .i64 0, .int .i64 0, .int .i64 0, .int .i64 0, .int .i64 0, .int .i64 0, .int .i64 0, .int .i64 0, .int .i64 0, .int .i64 0, .int .i64 0, .int .i64 0] 361)) w.heap.size 361 (manyA l 0):=by rw [many_zero];exact row_new rfl
  have o:Below w.heap.size w (w.alloc (.cells #[.int .i64 0, .int .i64 0, .int .i64 0, .int .i64 0, .int .i64 0, .int .i64 0, .int .i64 0, .int .i64 0, .int .i64 0, .int .i64 0, .int .i64 0, .int .i64 0, .int .i64 0, .int .i64 0, .int .i64 0, .int .i64 0, .int .i64 0, .int .i64 0, .int .i64 0, .int .i64 0, .int .i64 0, .int .i64 0, .int .i64 0, .int .i64 0, .int .i64 0, .int .i64 0, .int .i64 0, .int .i64 0, .int .i64 0, .int .i64 0, .int .i64 0] 361)):=by (repeat (first | exact Below.refl _ _ | refine Below.setCell ?_ (by (try simp)<;>omega) _ | refine Below.alloc ?_ (by (try simp)<;>omega) _ | refine Below.drew ?_ | refine Below.trans ?_ (Below.mono (by assumption) (by (try simp)<;>omega))))
  generalize w.alloc (.cells #[.int .i64 0, .int .i64 0, .int .i64 0, .int .i64 0, .int .i64 0, .int .i64 0, .int .i64 0, .int .i64 0, .int .i64 0, .int .i64 0, .int .i64 0, .int .i64 0, .int .i64 0, .int .i64 0, .int .i64 0, .int .i64 0, .int .i64 0, .int .i64 0, .int .i64 0, .int .i64 0, .int .i64 0, .int .i64 0, .int .i64 0, .int .i64 0, .int .i64 0, .int .i64 0, .int .i64 0, .int .i64 0, .int .i64 0, .int .i64 0, .int .i64 0] 361)=w0 at R o ⊢
  go_wp2
  go_loopw [6,7,18] (fun u6 u7 i wr=>∃ j:Nat,j≤m∧i = .int .i64 (j:Nat)∧Row wr w.heap.size 361 (manyA l j)∧Below w.heap.size w wr) (fun _ _ i _=>m-(intOf i).toNat)
  case atStart=>exact ⟨0,Nat.zero_le _,rfl,R,o⟩
  case round =>
    clear R o
    obtain ⟨j,hj,rfl,R,o⟩:=hrel
    by_cases hlt:j<m
    · obtain ⟨ad,rfl,hadb,hi0⟩:=HR.out.reads.bk hlt
      obtain ⟨c0,c1⟩:=hi0.below o (by rw [block_of_add];exact hadb)
      have jl:j<l.length:=by rw [HL.out];exact hlt
      have tB:=HV.out.tick _ (bk_mem jl)
      have vB:=HV.out.lev _ (bk_mem jl)
      have ST:=many_step jl
      have hma:=many_at l j _ vB
      have PT:=fun w=>pbtick (bkAt l j).t w tB.1 tB.2
      have PL:=fun w=>pblevel ((bkAt l j).lv:Nat) w (by omega) (by omega)
      have hcn:=Nat.le_trans (cnt_le (l.take j) (bkAt l j).lv) (show (l.take j).length≤1000000 by rw [List.length_take,HL.out];omega)
      have ORD:=fun p (hp:p<j)=>HV.out.asc (i:=p) (j:=j) hp jl
      generalize cnt (l.take j) (bkAt l j).lv=cn at ST hma hcn
      generalize (bkAt l j).t=tj at c0 tB PT ORD
      generalize (bkAt l j).lv=lv at c1 vB ST hma PL ORD
      replace ST:=Lib.hid ST
      replace hma:=Lib.hid hma
      replace PT:=Lib.hid PT
      replace PL:=Lib.hid PL
      have v1:(lv:Int)<31:=by omega
      have v0:(0:Int)≤(lv:Int):=by omega
      have i1:(j:Int)<(m:Int):=by omega
      have i2:(0:Int)≤(j:Int):=by omega
      have wc:IntKind.i64.wrap ((cn:Int)+1)=(cn:Int)+1:=IntWalk.i64_in _ (by omega)
      clear hi0 jl
      by_cases j0:j=0
      · have jp:¬ (0:Int)<(j:Int):=by omega
        clear ORD j0
        go_upto_region 9 with (first | (go_at_call 267;with_reducible refine (PT.out _).mono ?_;rintro e w9 ⟨rfl,h9⟩;obtain rfl:=h9.symm) | (go_at_call 228;with_reducible refine (PL.out _).mono ?_;rintro e w9 ⟨rfl,h9⟩;obtain rfl:=h9.symm))
        have B:Row (wr.alloc (.cells #[.int .i64 tj, .int .i64 (lv:Nat)] 318)) wr.heap.size 318 #[.int .i64 tj, .int .i64 (lv:Nat)]:=row_new rfl
        replace R:=row_alloc R (.cells #[.int .i64 tj, .int .i64 (lv:Nat)] 318)
        replace o:=o.alloc o.size (.cells #[.int .i64 tj, .int .i64 (lv:Nat)] 318)
        generalize wr.alloc (.cells #[.int .i64 tj, .int .i64 (lv:Nat)] 318)=w1 at R B o ⊢
        generalize wr.heap.size=bb at B ⊢
        have jb:¬ 0<j:=by omega
        go_quiet (fail)
        replace R:Row (w1.drewN nq) w.heap.size 361 (manyA l j):=R
        replace B:Row (w1.drewN nq) bb 318 #[.int .i64 tj, .int .i64 (lv:Nat)]:=B
        replace o:Below w.heap.size w (w1.drewN nq):=o.trans ⟨rfl,rfl,rfl,Nat.le_refl _,fun _ _=>rfl⟩
        generalize w1.drewN nq=w2 at R B o ⊢
        have hat:=(row_cell R lv).trans hma.out
        have hfr:=row_free R lv
        obtain ⟨B0,B1,_,_⟩:=row_two B
        go_wp2
        go_roundw
        case rel=>exact ⟨j+1,by omega,by go_num,by rw [← ST.out];exact row_set R _ _,o.setCell (p:=⟨w.heap.size,lv,none⟩) (Nat.le_refl _) _⟩
        case measure=>simp [intOf];omega
      · have jp:(0:Int)<(j:Int):=by omega
        obtain ⟨p,hp⟩:∃ p:Nat,j=p+1:=⟨j-1,by omega⟩
        obtain ⟨ad',ea,_,ht1⟩:=HR.out.reads.bk (i:=p) (by omega)
        obtain rfl:ad=ad':=by injection ea
        obtain ⟨g0,g1⟩:=ORD p (by omega)
        obtain ⟨x,hx⟩:∃ x,bkAt l p=x:=⟨_,rfl⟩
        rw [hx] at ht1 g0 g1
        obtain ⟨tp,lp⟩:=x
        dsimp only at g0 g1
        have g2:¬ (lp:Int)<(lv:Int):=by omega
        have g3:¬ tj<tp:=by omega
        have wj:IntKind.i64.wrap ((j:Int)-1)=(p:Int):=by rw [IntWalk.i64_in _ (by omega)];omega
        have p1:(p:Int)<(m:Int):=by omega
        have p0:(0:Int)≤(p:Int):=by omega
        have e1:=(Below.refl w.heap.size w)
        clear e1 ORD j0 ea hp hx
        go_upto_region 9 with (first | (go_at_call 267;with_reducible refine (PT.out _).mono ?_;rintro e w9 ⟨rfl,h9⟩;obtain rfl:=h9.symm) | (go_at_call 228;with_reducible refine (PL.out _).mono ?_;rintro e w9 ⟨rfl,h9⟩;obtain rfl:=h9.symm))
        have B:Row (wr.alloc (.cells #[.int .i64 tj, .int .i64 (lv:Nat)] 318)) wr.heap.size 318 #[.int .i64 tj, .int .i64 (lv:Nat)]:=row_new rfl
        replace R:=row_alloc R (.cells #[.int .i64 tj, .int .i64 (lv:Nat)] 318)
        replace o:=o.alloc o.size (.cells #[.int .i64 tj, .int .i64 (lv:Nat)] 318)
        generalize wr.alloc (.cells #[.int .i64 tj, .int .i64 (lv:Nat)] 318)=w1 at R B o ⊢
        generalize wr.heap.size=bb at B ⊢
        have jb:0<j:=by omega
        have gb3:decide (tj<tp)=false:=decide_eq_false (by omega)
        have gb2:decide ((lp:Int)<(lv:Int))=false:=decide_eq_false (by omega)
        obtain ⟨q0,q1⟩:=ht1.below o (by rw [block_of_add];exact hadb)
        dsimp only at q0 q1
        obtain ⟨B0,B1,_,_⟩:=row_two B
        go_quiet (fail)
        replace R:Row (w1.drewN nq) w.heap.size 361 (manyA l j):=R
        replace B:Row (w1.drewN nq) bb 318 #[.int .i64 tj, .int .i64 (lv:Nat)]:=B
        replace o:Below w.heap.size w (w1.drewN nq):=o.trans ⟨rfl,rfl,rfl,Nat.le_refl _,fun _ _=>rfl⟩
        clear q0 q1 B0 B1
        generalize w1.drewN nq=w2 at R B o ⊢
        have hat:=(row_cell R lv).trans hma.out
        have hfr:=row_free R lv
        obtain ⟨B0,B1,_,_⟩:=row_two B
        go_wp2
        go_roundw
        case rel=>exact ⟨j+1,by omega,by go_num,by rw [← ST.out];exact row_set R _ _,o.setCell (p:=⟨w.heap.size,lv,none⟩) (Nat.le_refl _) _⟩
        case measure=>simp [intOf];omega
    · have i1:¬ (j:Int)<(m:Int):=by omega
      obtain rfl:j=m:=by omega
      have hle:=HL.out
      by_cases m0:j=0
      · have m0b:((j:Int) == 0)=true:=by simp;omega
        clear R hle
        go_wp2
        go_ret
        exact ⟨rfl,o⟩
      · have m0b:((j:Int) == 0)=false:=by simp;omega
        obtain ⟨ad,rfl,hadb,hi0⟩:=HR.out.reads.bk (i:=0) (by omega)
        have hi0:BkCells w ad (bkAt l 0):=hi0
        obtain ⟨c0,c1⟩:=hi0.below o hadb
        have vB:=HV.out.lev _ (bk_mem (l:=l) (i:=0) (by omega))
        have HMO:=Lib.hid HV.out.most
        have HLE:=HV.out.least
        unfold topL at HLE
        generalize (bkAt l 0).lv=tp at c1 vB HLE
        replace HLE:=Lib.hid HLE
        have MA:RowKit.Hid (∀ x,x≤30→(manyA l j)[x]?=some (.int .i64 (cnt l x:Nat))):=Lib.hid (fun x hx=>by
          rw [many_at _ _ _ hx,List.take_of_length_le (by omega)])
        have i0:(0:Int)<(j:Int):=by omega
        clear c0 hi0 hle
        go_upto_region 16 with (fail)
        clear c1
        go_wp2
        go_loopw [9] (fun i wr=>∃ x:Nat,x≤tp+1∧i = .int .i64 (x:Nat)∧Row wr w.heap.size 361 (manyA l j)∧Below w.heap.size w wr) (fun i _=>tp+1-(intOf i).toNat)
        case atStart=>exact ⟨0,Nat.zero_le _,rfl,R,o⟩
        case round =>
          clear R o
          obtain ⟨x,hx,rfl,R,o⟩:=hrel
          by_cases hlt:x≤tp
          · have q1:(x:Int)≤(tp:Int):=by omega
            have hat:=(row_cell R x).trans (MA.out x (by omega))
            have mo:=HMO.out x
            have ml:x<tp→k≤cnt l x:=HLE.out x
            generalize cnt l x=cn at hat mo ml
            have t1:¬ (k:Int)+1<(cn:Int):=by omega
            have wk:IntKind.i64.wrap ((k:Int)+1)=(k:Int)+1:=IntWalk.i64_in _ (by omega)
            have v1:(x:Int)<31:=by omega
            have v0:(0:Int)≤(x:Int):=by omega
            by_cases h2:x<tp
            · have h2':(x:Int)<(tp:Int):=by omega
              have t2:¬ (cn:Int)<(k:Int):=by have:=ml h2;omega
              go_wp2
              go_roundw
              case rel=>exact ⟨x+1,by omega,by go_num,R,o⟩
              case measure=>simp [intOf];omega
            · have h2':¬ (x:Int)<(tp:Int):=by omega
              go_wp2
              go_roundw
              case rel=>exact ⟨x+1,by omega,by go_num,R,o⟩
              case measure=>simp [intOf];omega
          · have q1:¬ (x:Int)≤(tp:Int):=by omega
            go_wp2
            go_ret
            exact ⟨rfl,o⟩
theorem btot_take {l:List Bk} {j:Nat} (h:j<l.length):btot (l.take (j+1))=btot (l.take j)+2 ^ (bkAt l j).lv:=by
  rw [take_bk h,tot_append]
  rfl
theorem btot_take_le (l:List Bk) (j:Nat):btot (l.take j)≤btot l:=by
  have:=tot_append (l.take j) (l.drop j)
  rw [List.take_append_drop] at this
  omega
set_option maxRecDepth 100000 in
set_option maxHeartbeats 2000000 in
theorem pbtotal (A:Option Addr) (m c:Nat) (l:List Bk) (w:World) (hin:BIn A m c l w) (hv:∀ b∈l,b.lv≤30) (hT:btot l≤1073741824) :
    Calls Tryz.prog 210 #[.slice A m c] w fun e w'=>e = .returned (.int .i64 (btot l:Nat))∧Below w.heap.size w w':=by
  have HR:=Lib.hid hin
  have HL:=Lib.hid hin.len
  have HV:=Lib.hid hv
  have hmB:m≤9223372036854775807:=by have:=hin.mc;have:=hin.cB;unfold maxLen at *;omega
  clear hin hv
  have hT2:=fun j=>Nat.le_trans (btot_take_le l j) hT
  replace hT2:=Lib.hid hT2
  generalize hN:btot l=N
  replace hN:=Lib.hid hN
  clear hT
  go_enter Tryz.func210,Tryz.ntmps210
  go_wp2
  go_loopw [3,5,8] (fun n u5 i wr=>∃ j:Nat,j≤m∧i = .int .i64 (j:Nat)∧n = .int .i64 (btot (l.take j):Nat)∧Below w.heap.size w wr) (fun _ _ i _=>m-(intOf i).toNat)
  case atStart=>exact ⟨0,Nat.zero_le _,rfl,rfl,Below.refl _ _⟩
  case round =>
    obtain ⟨j,hj,rfl,rfl,o⟩:=hrel
    by_cases hlt:j<m
    · obtain ⟨ad,rfl,hadb,hi0⟩:=HR.out.reads.bk hlt
      obtain ⟨c0,c1⟩:=hi0.below o (by rw [block_of_add];exact hadb)
      have jl:j<l.length:=by rw [HL.out];exact hlt
      have vB:=HV.out _ (bk_mem jl)
      have PL:=fun w=>pblevel ((bkAt l j).lv:Nat) w (by omega) (by omega)
      have b1:=hT2.out j
      have b2:=hT2.out (j+1)
      have ST:=btot_take jl
      obtain ⟨N1,hN1⟩:∃ x,btot (l.take (j+1))=x:=⟨_,rfl⟩
      rw [hN1] at ST b2
      generalize btot (l.take j)=N0 at ST b1 ⊢
      generalize (bkAt l j).t=tj at c0
      generalize (bkAt l j).lv=lv at c1 vB PL ST
      replace PL:=Lib.hid PL
      have SE:RowKit.Hid (RowKit.wrap64 ((N0:Int)+RowKit.wrap64 (2 ^ lv))=((N1:Nat):Int)):=Lib.hid (by
        have e:((2:Int) ^ lv)=((2 ^ lv:Nat):Int):=by simp
        rw [e]
        generalize 2 ^ lv=p at ST ⊢
        rw [IntWalk.wrap64_in (p:Int) (by omega),IntWalk.wrap64_in _ (by omega)]
        omega)
      replace hN1:=Lib.hid hN1
      have i1:(j:Int)<(m:Int):=by omega
      have i2:(0:Int)≤(j:Int):=by omega
      have v0:(0:Int)≤(lv:Int):=by omega
      clear hi0 jl ST b1 b2
      go_wp2_with (go_at_call 228;with_reducible refine (PL.out _).mono ?_;rintro e w9 ⟨rfl,h9⟩;obtain rfl:=h9.symm)
      go_roundw
      case rel=>exact ⟨j+1,by omega,by go_num,by rw [hN1.out];exact congrArg (Value.int .i64) SE.out,o.alloc o.size _⟩
      case measure=>simp [intOf];omega
    · have i1:¬ (j:Int)<(m:Int):=by omega
      obtain rfl:j=m:=by omega
      rw [List.take_of_length_le (by rw [HL.out];exact Nat.le_refl _),hN.out]
      go_wp2
      go_ret
      exact ⟨rfl,o⟩
end Go.Proofs.YtdipoojjlddohaaGreat
end
