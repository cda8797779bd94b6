/- What the law TopSummaries needs, joined of its texts by a program (slim2.py); part 38. -/
import Derived.Test.YtdipoojjlddohaaGreatZTopSummaries1
import Derived.Test.YtdipoojjlddohaaGreatZTopSummaries2
import Derived.Test.YtdipoojjlddohaaGreatZTopSummaries4
import Derived.Test.YtdipoojjlddohaaGreatZTopSummaries14
import Derived.Test.YtdipoojjlddohaaGreatZTopSummaries27
import Derived.Test.YtdipoojjlddohaaGreatZTopSummaries30
set_option linter.unusedVariables false
set_option linter.unusedSimpArgs false
set_option linter.unusedSectionVars false
set_option linter.unnecessarySimpa false
section
/- A stream is played into a synopsis of any kind that takes every item, whose state may lie in several blocks: the top's run, walked. -/
namespace Go.Proofs.YtdipoojjlddohaaGreat
open Go.RowKit
structure KindT {γ:Type} (cfg:Array Value) (IN:List Itm→Int→Option Addr→Nat→Nat→γ→World→Prop) (TB:Option Addr→Nat→γ→Nat→Prop) (csf:List Itm→Int→Option Addr→Nat→Nat→Array Value) (okv:Int→Prop) (N:Nat):Prop where
  inok:∀ ad now,InT (IN ad now) TB
  size:∀ ad now A m c,(csf ad now A m c).size=57
  one:∀ ad now A m c,(csf ad now A m c).all (·.oneCell')=true
  new:∀ w,Calls Tryz.prog 37 #[.agg cfg, .int .i64 0] w (GRetT (IN [] 0) TB (csf [] 0) 0 (fun _=>False) w)
  adv:∀ ad now tt A m c x w,IN ad now A m c x w→now≤tt→tt≤16777216→Calls Tryz.prog 21 #[.agg (csf ad now A m c), .int .i64 tt] w (GRetT (IN ad tt) TB (csf ad tt) 0 (TB A m x) w)
  add:∀ ad now v A m c x w,IN ad now A m c x w→ad.length<N→okv v→Calls Tryz.prog 38 #[.agg (csf ad now A m c), .int .i64 v, .slice none 0 0] w (GRetT (IN (ad ++ [⟨now,v⟩]) now) TB (csf (ad ++ [⟨now,v⟩]) now) 0 (TB A m x) w)
def RunRetT {γ:Type} (IN:List Itm→Int→Option Addr→Nat→Nat→γ→World→Prop) (csf:List Itm→Int→Option Addr→Nat→Nat→Array Value) (l:List Itm) (w:World) (e:Ending) (w':World):Prop :=
  ∃ (A:Option Addr) (m c:Nat) (x:γ) (v:Value),e = .returned (.tuple #[.agg (csf l (nowK l l.length) A m c),v, .bool true])∧IN l (nowK l l.length) A m c x w'∧w'.ownsRow w.heap.size 90 2 v l.length (icells l)∧Below w.heap.size w w'
set_option maxRecDepth 100000 in
set_option maxHeartbeats 8000000 in
theorem prunT {γ:Type} (x0 x1 x2 x3 x4 x5 x6 x7:Value) (IN:List Itm→Int→Option Addr→Nat→Nat→γ→World→Prop) (TB:Option Addr→Nat→γ→Nat→Prop) (csf:List Itm→Int→Option Addr→Nat→Nat→Array Value) (okv:Int→Prop) (N:Nat) (HK:RowKit.Hid (KindT #[x0,x1,x2,x3,x4,x5,x6,x7] IN TB csf okv N)) (A0:Option Addr) (n c0:Nat) (l:List Itm) (w:World) (hin:Reads w w.heap.size 2 A0 n (icells l)) (hn:n≤100000) (hN:n≤N)
    (hT:∀ i,i<n→nowK l i≤(itmAt l i).t∧(itmAt l i).t≤16777216∧okv (itmAt l i).v):Calls Tryz.prog 11 #[.agg #[x0,x1,x2,x3,x4,x5,x6,x7], .slice A0 n c0] w (RunRetT IN csf l w):=by
  obtain ⟨ii,hii,iz0,iz1,iz2⟩:=info_parts info_itm
  have HR:=Lib.hid hin
  have HL:=Lib.hid hin.itm_len
  have HT:=Lib.hid hT
  clear hin hT
  go_enter Tryz.func11,Tryz.ntmps11
  go_upto_region 1 with (fail)
  have X:Row ((w.alloc (.cells #[x0,x1,x2,x3,x4,x5,x6,x7] 27)).alloc (.cells #[.int .i64 0, .int .i64 0, .int .i64 0, .int .i64 0, .int .i64 0, .int .i64 0, .int .i64 0, .int .i64 0, .int .i64 0, .int .i64 0, .int .i64 0, .slice none 0 0, .int .i64 0, .int .i64 0, .int .i64 0, .int .i64 0, .slice none 0 0, .int .i64 0, .int .i64 0, .int .i64 0, .int .i64 0, .int .i64 0, .slice none 0 0, .int .i64 0, .int .i64 0, .int .i64 0, .int .i64 0, .int .i64 0, .int .i64 0, .slice none 0 0, .int .i64 0, .int .i64 0, .int .i64 0, .int .i64 0, .int .i64 0, .slice none 0 0, .int .i64 0, .int .i64 0, .int .i64 0, .slice none 0 0, .int .i64 0, .slice none 0 0, .bool false, .int .i64 0, .int .i64 0, .int .i64 0, .slice none 0 0, .slice none 0 0, .int .i64 0, .int .i64 0, .int .i64 0, .slice none 0 0, .int .i64 0, .int .i64 0, .int .i64 0, .int .i64 0, .slice none 0 0] 58)) (w.heap.size) 27 #[x0,x1,x2,x3,x4,x5,x6,x7]:=row_alloc (row_new rfl) _
  have R:Row ((w.alloc (.cells #[x0,x1,x2,x3,x4,x5,x6,x7] 27)).alloc (.cells #[.int .i64 0, .int .i64 0, .int .i64 0, .int .i64 0, .int .i64 0, .int .i64 0, .int .i64 0, .int .i64 0, .int .i64 0, .int .i64 0, .int .i64 0, .slice none 0 0, .int .i64 0, .int .i64 0, .int .i64 0, .int .i64 0, .slice none 0 0, .int .i64 0, .int .i64 0, .int .i64 0, .int .i64 0, .int .i64 0, .slice none 0 0, .int .i64 0, .int .i64 0, .int .i64 0, .int .i64 0, .int .i64 0, .int .i64 0, .slice none 0 0, .int .i64 0, .int .i64 0, .int .i64 0, .int .i64 0, .int .i64 0, .slice none 0 0, .int .i64 0, .int .i64 0, .int .i64 0, .slice none 0 0, .int .i64 0, .slice none 0 0, .bool false, .int .i64 0, .int .i64 0, .int .i64 0, .slice none 0 0, .slice none 0 0, .int .i64 0, .int .i64 0, .int .i64 0, .slice none 0 0, .int .i64 0, .int .i64 0, .int .i64 0, .int .i64 0, .slice none 0 0] 58)) (w.heap.size+1) 58 #[.int .i64 0, .int .i64 0, .int .i64 0, .int .i64 0, .int .i64 0, .int .i64 0, .int .i64 0, .int .i64 0, .int .i64 0, .int .i64 0, .int .i64 0, .slice none 0 0, .int .i64 0, .int .i64 0, .int .i64 0, .int .i64 0, .slice none 0 0, .int .i64 0, .int .i64 0, .int .i64 0, .int .i64 0, .int .i64 0, .slice none 0 0, .int .i64 0, .int .i64 0, .int .i64 0, .int .i64 0, .int .i64 0, .int .i64 0, .slice none 0 0, .int .i64 0, .int .i64 0, .int .i64 0, .int .i64 0, .int .i64 0, .slice none 0 0, .int .i64 0, .int .i64 0, .int .i64 0, .slice none 0 0, .int .i64 0, .slice none 0 0, .bool false, .int .i64 0, .int .i64 0, .int .i64 0, .slice none 0 0, .slice none 0 0, .int .i64 0, .int .i64 0, .int .i64 0, .slice none 0 0, .int .i64 0, .int .i64 0, .int .i64 0, .int .i64 0, .slice none 0 0]:=row_new (by simp)
  have o:Below w.heap.size w ((w.alloc (.cells #[x0,x1,x2,x3,x4,x5,x6,x7] 27)).alloc (.cells #[.int .i64 0, .int .i64 0, .int .i64 0, .int .i64 0, .int .i64 0, .int .i64 0, .int .i64 0, .int .i64 0, .int .i64 0, .int .i64 0, .int .i64 0, .slice none 0 0, .int .i64 0, .int .i64 0, .int .i64 0, .int .i64 0, .slice none 0 0, .int .i64 0, .int .i64 0, .int .i64 0, .int .i64 0, .int .i64 0, .slice none 0 0, .int .i64 0, .int .i64 0, .int .i64 0, .int .i64 0, .int .i64 0, .int .i64 0, .slice none 0 0, .int .i64 0, .int .i64 0, .int .i64 0, .int .i64 0, .int .i64 0, .slice none 0 0, .int .i64 0, .int .i64 0, .int .i64 0, .slice none 0 0, .int .i64 0, .slice none 0 0, .bool false, .int .i64 0, .int .i64 0, .int .i64 0, .slice none 0 0, .slice none 0 0, .int .i64 0, .int .i64 0, .int .i64 0, .slice none 0 0, .int .i64 0, .int .i64 0, .int .i64 0, .int .i64 0, .slice none 0 0] 58)):=by (repeat (first | exact Below.refl _ _ | refine Below.setCell ?_ (by (try simp)<;>omega) _ | refine Below.alloc ?_ (by (try simp)<;>omega) _ | refine Below.drew ?_ | refine Below.trans ?_ (Below.mono (by assumption) (by (try simp)<;>omega))))
  obtain ⟨w1,hw1⟩:∃ x,x=((w.alloc (.cells #[x0,x1,x2,x3,x4,x5,x6,x7] 27)).alloc (.cells #[.int .i64 0, .int .i64 0, .int .i64 0, .int .i64 0, .int .i64 0, .int .i64 0, .int .i64 0, .int .i64 0, .int .i64 0, .int .i64 0, .int .i64 0, .slice none 0 0, .int .i64 0, .int .i64 0, .int .i64 0, .int .i64 0, .slice none 0 0, .int .i64 0, .int .i64 0, .int .i64 0, .int .i64 0, .int .i64 0, .slice none 0 0, .int .i64 0, .int .i64 0, .int .i64 0, .int .i64 0, .int .i64 0, .int .i64 0, .slice none 0 0, .int .i64 0, .int .i64 0, .int .i64 0, .int .i64 0, .int .i64 0, .slice none 0 0, .int .i64 0, .int .i64 0, .int .i64 0, .slice none 0 0, .int .i64 0, .slice none 0 0, .bool false, .int .i64 0, .int .i64 0, .int .i64 0, .slice none 0 0, .slice none 0 0, .int .i64 0, .int .i64 0, .int .i64 0, .slice none 0 0, .int .i64 0, .int .i64 0, .int .i64 0, .int .i64 0, .slice none 0 0] 58)):=⟨_,rfl⟩
  rw [← hw1] at X R o ⊢
  clear hw1
  obtain ⟨X0,X1,X2,X3,X4,X5,X6,X7,Xf0,Xf1,Xf2,Xf3,Xf4,Xf5,Xf6,Xf7⟩:=row_eight X
  go_wp2_with fail
  refine (HK.out.new _).mono ?_
  rintro e w2 ⟨A1,m1,c1,y1,rfl,in1,hb,fr0⟩
  have zr0:=row_lt R
  replace R:=row_call R hb
  replace o:=o.trans (hb.mono o.size)
  clear hb X X0 Xf0 X1 Xf1 X2 Xf2 X3 Xf3 X4 Xf4 X5 Xf5 X6 Xf6 X7 Xf7
  have hs1:=HK.out.size [] 0 A1 m1 c1
  have h1:=HK.out.one [] 0 A1 m1 c1
  have IOA:=HK.out.inok [] 0
  generalize hcs1:csf [] 0 A1 m1 c1=cs1 at hs1 h1 ⊢
  have SZ:Row (w2.alloc (.cells #[.int .i64 0, .int .i64 0, .int .i64 0, .int .i64 0, .int .i64 0, .int .i64 0, .int .i64 0, .int .i64 0, .int .i64 0, .int .i64 0, .int .i64 0, .slice none 0 0, .int .i64 0, .int .i64 0, .int .i64 0, .int .i64 0, .slice none 0 0, .int .i64 0, .int .i64 0, .int .i64 0, .int .i64 0, .int .i64 0, .slice none 0 0, .int .i64 0, .int .i64 0, .int .i64 0, .int .i64 0, .int .i64 0, .int .i64 0, .slice none 0 0, .int .i64 0, .int .i64 0, .int .i64 0, .int .i64 0, .int .i64 0, .slice none 0 0, .int .i64 0, .int .i64 0, .int .i64 0, .slice none 0 0, .int .i64 0, .slice none 0 0, .bool false, .int .i64 0, .int .i64 0, .int .i64 0, .slice none 0 0, .slice none 0 0, .int .i64 0, .int .i64 0, .int .i64 0, .slice none 0 0, .int .i64 0, .int .i64 0, .int .i64 0, .int .i64 0, .slice none 0 0] 58)) w2.heap.size 58 #[.int .i64 0, .int .i64 0, .int .i64 0, .int .i64 0, .int .i64 0, .int .i64 0, .int .i64 0, .int .i64 0, .int .i64 0, .int .i64 0, .int .i64 0, .slice none 0 0, .int .i64 0, .int .i64 0, .int .i64 0, .int .i64 0, .slice none 0 0, .int .i64 0, .int .i64 0, .int .i64 0, .int .i64 0, .int .i64 0, .slice none 0 0, .int .i64 0, .int .i64 0, .int .i64 0, .int .i64 0, .int .i64 0, .int .i64 0, .slice none 0 0, .int .i64 0, .int .i64 0, .int .i64 0, .int .i64 0, .int .i64 0, .slice none 0 0, .int .i64 0, .int .i64 0, .int .i64 0, .slice none 0 0, .int .i64 0, .slice none 0 0, .bool false, .int .i64 0, .int .i64 0, .int .i64 0, .slice none 0 0, .slice none 0 0, .int .i64 0, .int .i64 0, .int .i64 0, .slice none 0 0, .int .i64 0, .int .i64 0, .int .i64 0, .int .i64 0, .slice none 0 0]:=row_new rfl
  go_upto_region 2 with (with_reducible refine wpList_ssyn SZ rfl hs1 h1 rfl _ _ rfl rfl rfl ?_)
  have S:=row_setRow (cs:=cs1) SZ
  have zr:=row_lt R
  have z1:=o.size
  have b1:=IOA.blk in1
  replace in1:=IOA.setr (b:=w2.heap.size) cs1 (IOA.below in1 ((Below.refl _ _).alloc (Nat.le_refl _) (.cells #[.int .i64 0, .int .i64 0, .int .i64 0, .int .i64 0, .int .i64 0, .int .i64 0, .int .i64 0, .int .i64 0, .int .i64 0, .int .i64 0, .int .i64 0, .slice none 0 0, .int .i64 0, .int .i64 0, .int .i64 0, .int .i64 0, .slice none 0 0, .int .i64 0, .int .i64 0, .int .i64 0, .int .i64 0, .int .i64 0, .slice none 0 0, .int .i64 0, .int .i64 0, .int .i64 0, .int .i64 0, .int .i64 0, .int .i64 0, .slice none 0 0, .int .i64 0, .int .i64 0, .int .i64 0, .int .i64 0, .int .i64 0, .slice none 0 0, .int .i64 0, .int .i64 0, .int .i64 0, .slice none 0 0, .int .i64 0, .slice none 0 0, .bool false, .int .i64 0, .int .i64 0, .int .i64 0, .slice none 0 0, .slice none 0 0, .int .i64 0, .int .i64 0, .int .i64 0, .slice none 0 0, .int .i64 0, .int .i64 0, .int .i64 0, .int .i64 0, .slice none 0 0] 58))) (fun g hg=>by have:=b1 g hg;omega)
  have fr1:∀ g,TB A1 m1 y1 g→g≠w2.heap.size∧g≠w.heap.size+1:=fun g hg=>by
    have:=b1 g hg
    rcases fr0 g hg with h | h
    · exact ⟨by omega,by omega⟩
    · exact h.elim
  replace R:=row_setRow_other (g:=w2.heap.size) (cs':=cs1) (row_alloc R (.cells #[.int .i64 0, .int .i64 0, .int .i64 0, .int .i64 0, .int .i64 0, .int .i64 0, .int .i64 0, .int .i64 0, .int .i64 0, .int .i64 0, .int .i64 0, .slice none 0 0, .int .i64 0, .int .i64 0, .int .i64 0, .int .i64 0, .slice none 0 0, .int .i64 0, .int .i64 0, .int .i64 0, .int .i64 0, .int .i64 0, .slice none 0 0, .int .i64 0, .int .i64 0, .int .i64 0, .int .i64 0, .int .i64 0, .int .i64 0, .slice none 0 0, .int .i64 0, .int .i64 0, .int .i64 0, .int .i64 0, .int .i64 0, .slice none 0 0, .int .i64 0, .int .i64 0, .int .i64 0, .slice none 0 0, .int .i64 0, .slice none 0 0, .bool false, .int .i64 0, .int .i64 0, .int .i64 0, .slice none 0 0, .slice none 0 0, .int .i64 0, .int .i64 0, .int .i64 0, .slice none 0 0, .int .i64 0, .int .i64 0, .int .i64 0, .int .i64 0, .slice none 0 0] 58)) (by omega)
  replace o:=below_setRow (g:=w2.heap.size) (o.alloc o.size (.cells #[.int .i64 0, .int .i64 0, .int .i64 0, .int .i64 0, .int .i64 0, .int .i64 0, .int .i64 0, .int .i64 0, .int .i64 0, .int .i64 0, .int .i64 0, .slice none 0 0, .int .i64 0, .int .i64 0, .int .i64 0, .int .i64 0, .slice none 0 0, .int .i64 0, .int .i64 0, .int .i64 0, .int .i64 0, .int .i64 0, .slice none 0 0, .int .i64 0, .int .i64 0, .int .i64 0, .int .i64 0, .int .i64 0, .int .i64 0, .slice none 0 0, .int .i64 0, .int .i64 0, .int .i64 0, .int .i64 0, .int .i64 0, .slice none 0 0, .int .i64 0, .int .i64 0, .int .i64 0, .slice none 0 0, .int .i64 0, .slice none 0 0, .bool false, .int .i64 0, .int .i64 0, .int .i64 0, .slice none 0 0, .slice none 0 0, .int .i64 0, .int .i64 0, .int .i64 0, .slice none 0 0, .int .i64 0, .int .i64 0, .int .i64 0, .int .i64 0, .slice none 0 0] 58)) o.size cs1
  obtain ⟨w3,hw3⟩:∃ x,x=(w2.alloc (.cells #[.int .i64 0, .int .i64 0, .int .i64 0, .int .i64 0, .int .i64 0, .int .i64 0, .int .i64 0, .int .i64 0, .int .i64 0, .int .i64 0, .int .i64 0, .slice none 0 0, .int .i64 0, .int .i64 0, .int .i64 0, .int .i64 0, .slice none 0 0, .int .i64 0, .int .i64 0, .int .i64 0, .int .i64 0, .int .i64 0, .slice none 0 0, .int .i64 0, .int .i64 0, .int .i64 0, .int .i64 0, .int .i64 0, .int .i64 0, .slice none 0 0, .int .i64 0, .int .i64 0, .int .i64 0, .int .i64 0, .int .i64 0, .slice none 0 0, .int .i64 0, .int .i64 0, .int .i64 0, .slice none 0 0, .int .i64 0, .slice none 0 0, .bool false, .int .i64 0, .int .i64 0, .int .i64 0, .slice none 0 0, .slice none 0 0, .int .i64 0, .int .i64 0, .int .i64 0, .slice none 0 0, .int .i64 0, .int .i64 0, .int .i64 0, .int .i64 0, .slice none 0 0] 58)).setRow w2.heap.size cs1:=⟨_,rfl⟩
  rw [← hw3] at S R in1 o ⊢
  clear hw3 SZ h1 b1
  generalize w2.heap.size=sb at S z1 zr fr1 ⊢
  rw [← hcs1] at S
  clear hcs1 hs1
  go_wp2
  go_loopw [8,9,11,12,13,21] (fun u8 u9 _ _ _ u21 wr=>∃ (k:Nat) (A:Option Addr) (m c:Nat) (x:γ),k≤n∧u21 = .int .i64 (k:Nat)∧u8 = .int .i64 0∧wr.ownsRow w.heap.size 90 2 u9 k (icells (l.take k))∧Row wr sb 58 (csf (l.take k) (nowK l k) A m c)∧Row wr (w.heap.size+1) 58 #[.int .i64 0, .int .i64 0, .int .i64 0, .int .i64 0, .int .i64 0, .int .i64 0, .int .i64 0, .int .i64 0, .int .i64 0, .int .i64 0, .int .i64 0, .slice none 0 0, .int .i64 0, .int .i64 0, .int .i64 0, .int .i64 0, .slice none 0 0, .int .i64 0, .int .i64 0, .int .i64 0, .int .i64 0, .int .i64 0, .slice none 0 0, .int .i64 0, .int .i64 0, .int .i64 0, .int .i64 0, .int .i64 0, .int .i64 0, .slice none 0 0, .int .i64 0, .int .i64 0, .int .i64 0, .int .i64 0, .int .i64 0, .slice none 0 0, .int .i64 0, .int .i64 0, .int .i64 0, .slice none 0 0, .int .i64 0, .slice none 0 0, .bool false, .int .i64 0, .int .i64 0, .int .i64 0, .slice none 0 0, .slice none 0 0, .int .i64 0, .int .i64 0, .int .i64 0, .slice none 0 0, .int .i64 0, .int .i64 0, .int .i64 0, .int .i64 0, .slice none 0 0]∧IN (l.take k) (nowK l k) A m c x wr∧RowKit.Hid (∀ g,TB A m x g→g≠sb∧g≠w.heap.size+1∧u9.ownBlock≠some g)∧Below w.heap.size w wr) (fun _ _ _ _ _ u21 _=>n-(intOf u21).toNat)
  case atStart=>exact ⟨0,A1,m1,c1,y1,Nat.zero_le _,rfl,rfl,World.ownsRow_nil _ _ _ _,S,R,in1,Lib.hid (fun g hg=>⟨(fr1 g hg).1,(fr1 g hg).2,by simp [Value.ownBlock]⟩),o⟩
  case round =>
    clear S R in1 fr1 o
    obtain ⟨k,A,m,c,y0,hk,rfl,rfl,OW,S,R,in1,fr,o⟩:=hrel
    by_cases hlt:k<n
    · obtain ⟨ad,rfl,hadb,hi0⟩:=HR.out.itm hlt
      obtain ⟨c0',c1'⟩:=hi0.below o (by rw [block_of_add];exact hadb)
      obtain ⟨t1,t2,t3⟩:=HT.out k hlt
      have kl:k<l.length:=by rw [HL.out];exact hlt
      have eT:l.take (k+1)=l.take k ++ [itmAt l k]:=by rw [List.take_succ_eq_append_getElem kl,itm_eq kl]
      have eN:nowK l (k+1)=(itmAt l k).t:=by unfold nowK;rw [if_neg (by omega)];rfl
      have ln:(l.take k).length<N:=by rw [List.length_take];omega
      obtain ⟨⟨tk,vk⟩,hx⟩:∃ x,itmAt l k=x:=⟨_,rfl⟩
      rw [hx] at c0' c1' t1 t2 t3 eT eN
      dsimp only at c0' c1' t1 t2 t3 eN
      have PA:=HK.out.adv (l.take k) (nowK l k) tk A m c y0
      have PD:=fun A m c y w=>HK.out.add (l.take k) tk vk A m c y w
      have hs0:=HK.out.size (l.take k) (nowK l k) A m c
      have IO0:=HK.out.inok (l.take k) (nowK l k)
      have IO1:=HK.out.inok (l.take k) tk
      have IO2:=HK.out.inok (l.take k ++ [⟨tk,vk⟩]) tk
      have hb0:=IO0.blk in1
      have S1:=HK.out.size (l.take k) tk
      have O1:=HK.out.one (l.take k) tk
      have S2:=HK.out.size (l.take k ++ [⟨tk,vk⟩]) tk
      have O2:=HK.out.one (l.take k ++ [⟨tk,vk⟩]) tk
      generalize csf (l.take k) (nowK l k) A m c=cs0 at S PA hs0
      replace PA:=Lib.hid (fun w' (h:IN (l.take k) (nowK l k) A m c y0 w')=>PA w' h t1 t2)
      replace PD:=Lib.hid (fun A m c y w (h:IN (l.take k) tk A m c y w)=>PD A m c y w h ln t3)
      replace S1:=Lib.hid S1
      replace O1:=Lib.hid O1
      replace S2:=Lib.hid S2
      replace O2:=Lib.hid O2
      replace eT:=Lib.hid eT
      replace eN:=Lib.hid eN
      have i1:(k:Int)<(n:Int):=by omega
      have i2:(0:Int)≤(k:Int):=by omega
      have zo:=o.size
      clear hi0 t1 t2 t3 kl ln hx
      generalize nowK l k=nw at *
      generalize l.take k=lk at *
      go_upto_region 6 with (fail)
      have B:Row (wr.alloc (.cells #[.int .i64 tk, .int .i64 vk] 90)) wr.heap.size 90 #[.int .i64 tk, .int .i64 vk]:=row_new rfl
      have zS:=row_lt S
      have zR:=row_lt R
      have zW:=fun g (e:u9.ownBlock=some g)=>(OW.lt g e).2
      have hbi:∀ g,TB A m y0 g→g≠wr.heap.size:=fun g hg=>by have:=hb0 g hg;omega
      replace S:=row_alloc S (.cells #[.int .i64 tk, .int .i64 vk] 90)
      replace R:=row_alloc R (.cells #[.int .i64 tk, .int .i64 vk] 90)
      replace in1:=IO0.below in1 ((Below.refl _ _).alloc (Nat.le_refl _) (.cells #[.int .i64 tk, .int .i64 vk] 90))
      replace OW:=OW.alloc (.cells #[.int .i64 tk, .int .i64 vk] 90)
      replace o:=o.alloc o.size (.cells #[.int .i64 tk, .int .i64 vk] 90)
      obtain ⟨w1,hw1⟩:∃ x,x=wr.alloc (.cells #[.int .i64 tk, .int .i64 vk] 90):=⟨_,rfl⟩
      rw [← hw1] at B S R in1 OW o ⊢
      clear hw1 c0' c1' hb0
      generalize wr.heap.size=ib at B zS zR zW hbi ⊢
      obtain ⟨B0,B1,_,_⟩:=row_two B
      go_wp2_with (with_reducible refine wpList_lsyn S hs0 rfl _ rfl rfl ?_)
      refine (PA.out _ in1).mono ?_
      rintro e w2 ⟨A2,m2,c2,y2,rfl,in2,hb,fr2⟩
      have yS:=row_lt S
      have yR:=row_lt R
      have yB:=row_lt B
      have yW:=fun g (e:u9.ownBlock=some g)=>(OW.lt g e).2
      have frA:∀ g,TB A2 m2 y2 g→g≠sb∧g≠w.heap.size+1∧g≠ib∧u9.ownBlock≠some g:=fun g hg=>by
        rcases fr2 g hg with h | h
        · exact ⟨by omega,by omega,by omega,fun x=>by have:=yW _ x;omega⟩
        · obtain ⟨f1,f2,f3⟩:=fr.out g h
          exact ⟨f1,f2,hbi g h,f3⟩
      replace S:=row_call S hb
      replace R:=row_call R hb
      replace B:=row_call B hb
      replace OW:=orow_keep OW (fun g e=>hb.block g (OW.lt g e).2)
      replace o:=o.trans (hb.mono o.size)
      have nWS:=orow_ne_row OW S (by decide)
      have s1:=S1.out A2 m2 c2
      have o1:=O1.out A2 m2 c2
      generalize hcs1:csf lk tk A2 m2 c2=cs1 at s1 o1 ⊢
      replace hcs1:=Lib.hid hcs1
      go_upto_region 8 with (with_reducible refine wpList_ssyn S hs0 s1 o1 rfl _ _ rfl rfl rfl ?_)
      clear B0 B1 hb yS yR yB yW fr2 PA fr hbi
      replace S:=row_setRow (cs:=cs1) S
      replace R:=row_setRow_other (g:=sb) (cs':=cs1) R (by omega)
      replace B:=row_setRow_other (g:=sb) (cs':=cs1) B (by omega)
      replace OW:=orow_keep OW (fun g e=>heap_setRow_other w2 sb cs1 g (fun x=>nWS (x ▸ e)))
      replace in2:=IO1.setr (b:=sb) cs1 in2 (fun g hg=>(frA g hg).1.symm)
      replace o:=below_setRow (g:=sb) o z1 cs1
      obtain ⟨w3,hw3⟩:∃ x,x=w2.setRow sb cs1:=⟨_,rfl⟩
      rw [← hw3] at S R B OW in2 o ⊢
      clear hw3
      obtain ⟨B0,B1,_,_⟩:=row_two B
      rw [← hcs1.out] at S s1
      clear hcs1
      go_wp2_with (with_reducible refine wpList_lsyn S s1 rfl _ rfl rfl ?_)
      refine (PD.out _ _ _ _ _ in2).mono ?_
      rintro e w4 ⟨A3,m3,c3,y3,rfl,in3,hb,fr3⟩
      have yS:=row_lt S
      have yR:=row_lt R
      have yB:=row_lt B
      have yW:=fun g (e:u9.ownBlock=some g)=>(OW.lt g e).2
      have frB:∀ g,TB A3 m3 y3 g→g≠sb∧g≠w.heap.size+1∧g≠ib∧u9.ownBlock≠some g:=fun g hg=>by
        rcases fr3 g hg with h | h
        · exact ⟨by omega,by omega,by omega,fun x=>by have:=yW _ x;omega⟩
        · exact frA g h
      replace S:=row_call S hb
      replace R:=row_call R hb
      replace B:=row_call B hb
      replace OW:=orow_keep OW (fun g e=>hb.block g (OW.lt g e).2)
      replace o:=o.trans (hb.mono o.size)
      have xS:=row_lt S
      have xR:=row_lt R
      have xB:=row_lt B
      have xW:=fun g (e:u9.ownBlock=some g)=>(OW.lt g e).2
      have hs2:=S2.out A3 m3 c3
      have o2:=O2.out A3 m3 c3
      generalize hcs2:csf (lk ++ [⟨tk,vk⟩]) tk A3 m3 c3=cs2 at hs2 o2 ⊢
      replace hcs2:=Lib.hid hcs2
      have TZ:Row (w4.alloc (.cells #[.int .i64 0, .int .i64 0, .int .i64 0, .int .i64 0, .int .i64 0, .int .i64 0, .int .i64 0, .int .i64 0, .int .i64 0, .int .i64 0, .int .i64 0, .slice none 0 0, .int .i64 0, .int .i64 0, .int .i64 0, .int .i64 0, .slice none 0 0, .int .i64 0, .int .i64 0, .int .i64 0, .int .i64 0, .int .i64 0, .slice none 0 0, .int .i64 0, .int .i64 0, .int .i64 0, .int .i64 0, .int .i64 0, .int .i64 0, .slice none 0 0, .int .i64 0, .int .i64 0, .int .i64 0, .int .i64 0, .int .i64 0, .slice none 0 0, .int .i64 0, .int .i64 0, .int .i64 0, .slice none 0 0, .int .i64 0, .slice none 0 0, .bool false, .int .i64 0, .int .i64 0, .int .i64 0, .slice none 0 0, .slice none 0 0, .int .i64 0, .int .i64 0, .int .i64 0, .slice none 0 0, .int .i64 0, .int .i64 0, .int .i64 0, .int .i64 0, .slice none 0 0] 58)) w4.heap.size 58 #[.int .i64 0, .int .i64 0, .int .i64 0, .int .i64 0, .int .i64 0, .int .i64 0, .int .i64 0, .int .i64 0, .int .i64 0, .int .i64 0, .int .i64 0, .slice none 0 0, .int .i64 0, .int .i64 0, .int .i64 0, .int .i64 0, .slice none 0 0, .int .i64 0, .int .i64 0, .int .i64 0, .int .i64 0, .int .i64 0, .slice none 0 0, .int .i64 0, .int .i64 0, .int .i64 0, .int .i64 0, .int .i64 0, .int .i64 0, .slice none 0 0, .int .i64 0, .int .i64 0, .int .i64 0, .int .i64 0, .int .i64 0, .slice none 0 0, .int .i64 0, .int .i64 0, .int .i64 0, .slice none 0 0, .int .i64 0, .slice none 0 0, .bool false, .int .i64 0, .int .i64 0, .int .i64 0, .slice none 0 0, .slice none 0 0, .int .i64 0, .int .i64 0, .int .i64 0, .slice none 0 0, .int .i64 0, .int .i64 0, .int .i64 0, .int .i64 0, .slice none 0 0]:=row_new rfl
      go_upto_region 14 with (with_reducible refine wpList_ssyn TZ rfl hs2 o2 rfl _ _ rfl rfl rfl ?_)
      clear B0 B1 hb yS yR yB yW fr3 PD frA
      have T:=row_setRow (cs:=cs2) TZ
      have hb3:=IO2.blk in3
      have htb:∀ g,TB A3 m3 y3 g→g≠w4.heap.size:=fun g hg=>by have:=hb3 g hg;omega
      replace in3:=IO2.setr (b:=w4.heap.size) cs2 (IO2.below in3 ((Below.refl _ _).alloc (Nat.le_refl _) (.cells #[.int .i64 0, .int .i64 0, .int .i64 0, .int .i64 0, .int .i64 0, .int .i64 0, .int .i64 0, .int .i64 0, .int .i64 0, .int .i64 0, .int .i64 0, .slice none 0 0, .int .i64 0, .int .i64 0, .int .i64 0, .int .i64 0, .slice none 0 0, .int .i64 0, .int .i64 0, .int .i64 0, .int .i64 0, .int .i64 0, .slice none 0 0, .int .i64 0, .int .i64 0, .int .i64 0, .int .i64 0, .int .i64 0, .int .i64 0, .slice none 0 0, .int .i64 0, .int .i64 0, .int .i64 0, .int .i64 0, .int .i64 0, .slice none 0 0, .int .i64 0, .int .i64 0, .int .i64 0, .slice none 0 0, .int .i64 0, .slice none 0 0, .bool false, .int .i64 0, .int .i64 0, .int .i64 0, .slice none 0 0, .slice none 0 0, .int .i64 0, .int .i64 0, .int .i64 0, .slice none 0 0, .int .i64 0, .int .i64 0, .int .i64 0, .int .i64 0, .slice none 0 0] 58))) (fun g hg=>(htb g hg).symm)
      replace S:=row_setRow_other (g:=w4.heap.size) (cs':=cs2) (row_alloc S (.cells #[.int .i64 0, .int .i64 0, .int .i64 0, .int .i64 0, .int .i64 0, .int .i64 0, .int .i64 0, .int .i64 0, .int .i64 0, .int .i64 0, .int .i64 0, .slice none 0 0, .int .i64 0, .int .i64 0, .int .i64 0, .int .i64 0, .slice none 0 0, .int .i64 0, .int .i64 0, .int .i64 0, .int .i64 0, .int .i64 0, .slice none 0 0, .int .i64 0, .int .i64 0, .int .i64 0, .int .i64 0, .int .i64 0, .int .i64 0, .slice none 0 0, .int .i64 0, .int .i64 0, .int .i64 0, .int .i64 0, .int .i64 0, .slice none 0 0, .int .i64 0, .int .i64 0, .int .i64 0, .slice none 0 0, .int .i64 0, .slice none 0 0, .bool false, .int .i64 0, .int .i64 0, .int .i64 0, .slice none 0 0, .slice none 0 0, .int .i64 0, .int .i64 0, .int .i64 0, .slice none 0 0, .int .i64 0, .int .i64 0, .int .i64 0, .int .i64 0, .slice none 0 0] 58)) (by omega)
      replace R:=row_setRow_other (g:=w4.heap.size) (cs':=cs2) (row_alloc R (.cells #[.int .i64 0, .int .i64 0, .int .i64 0, .int .i64 0, .int .i64 0, .int .i64 0, .int .i64 0, .int .i64 0, .int .i64 0, .int .i64 0, .int .i64 0, .slice none 0 0, .int .i64 0, .int .i64 0, .int .i64 0, .int .i64 0, .slice none 0 0, .int .i64 0, .int .i64 0, .int .i64 0, .int .i64 0, .int .i64 0, .slice none 0 0, .int .i64 0, .int .i64 0, .int .i64 0, .int .i64 0, .int .i64 0, .int .i64 0, .slice none 0 0, .int .i64 0, .int .i64 0, .int .i64 0, .int .i64 0, .int .i64 0, .slice none 0 0, .int .i64 0, .int .i64 0, .int .i64 0, .slice none 0 0, .int .i64 0, .slice none 0 0, .bool false, .int .i64 0, .int .i64 0, .int .i64 0, .slice none 0 0, .slice none 0 0, .int .i64 0, .int .i64 0, .int .i64 0, .slice none 0 0, .int .i64 0, .int .i64 0, .int .i64 0, .int .i64 0, .slice none 0 0] 58)) (by omega)
      replace B:=row_setRow_other (g:=w4.heap.size) (cs':=cs2) (row_alloc B (.cells #[.int .i64 0, .int .i64 0, .int .i64 0, .int .i64 0, .int .i64 0, .int .i64 0, .int .i64 0, .int .i64 0, .int .i64 0, .int .i64 0, .int .i64 0, .slice none 0 0, .int .i64 0, .int .i64 0, .int .i64 0, .int .i64 0, .slice none 0 0, .int .i64 0, .int .i64 0, .int .i64 0, .int .i64 0, .int .i64 0, .slice none 0 0, .int .i64 0, .int .i64 0, .int .i64 0, .int .i64 0, .int .i64 0, .int .i64 0, .slice none 0 0, .int .i64 0, .int .i64 0, .int .i64 0, .int .i64 0, .int .i64 0, .slice none 0 0, .int .i64 0, .int .i64 0, .int .i64 0, .slice none 0 0, .int .i64 0, .slice none 0 0, .bool false, .int .i64 0, .int .i64 0, .int .i64 0, .slice none 0 0, .slice none 0 0, .int .i64 0, .int .i64 0, .int .i64 0, .slice none 0 0, .int .i64 0, .int .i64 0, .int .i64 0, .int .i64 0, .slice none 0 0] 58)) (by omega)
      replace OW:=orow_keep (OW.alloc (.cells #[.int .i64 0, .int .i64 0, .int .i64 0, .int .i64 0, .int .i64 0, .int .i64 0, .int .i64 0, .int .i64 0, .int .i64 0, .int .i64 0, .int .i64 0, .slice none 0 0, .int .i64 0, .int .i64 0, .int .i64 0, .int .i64 0, .slice none 0 0, .int .i64 0, .int .i64 0, .int .i64 0, .int .i64 0, .int .i64 0, .slice none 0 0, .int .i64 0, .int .i64 0, .int .i64 0, .int .i64 0, .int .i64 0, .int .i64 0, .slice none 0 0, .int .i64 0, .int .i64 0, .int .i64 0, .int .i64 0, .int .i64 0, .slice none 0 0, .int .i64 0, .int .i64 0, .int .i64 0, .slice none 0 0, .int .i64 0, .slice none 0 0, .bool false, .int .i64 0, .int .i64 0, .int .i64 0, .slice none 0 0, .slice none 0 0, .int .i64 0, .int .i64 0, .int .i64 0, .slice none 0 0, .int .i64 0, .int .i64 0, .int .i64 0, .int .i64 0, .slice none 0 0] 58)) (fun g e=>heap_setRow_other _ w4.heap.size cs2 g (fun x=>by have:=xW g e;omega))
      replace o:=below_setRow (g:=w4.heap.size) (o.alloc o.size (.cells #[.int .i64 0, .int .i64 0, .int .i64 0, .int .i64 0, .int .i64 0, .int .i64 0, .int .i64 0, .int .i64 0, .int .i64 0, .int .i64 0, .int .i64 0, .slice none 0 0, .int .i64 0, .int .i64 0, .int .i64 0, .int .i64 0, .slice none 0 0, .int .i64 0, .int .i64 0, .int .i64 0, .int .i64 0, .int .i64 0, .slice none 0 0, .int .i64 0, .int .i64 0, .int .i64 0, .int .i64 0, .int .i64 0, .int .i64 0, .slice none 0 0, .int .i64 0, .int .i64 0, .int .i64 0, .int .i64 0, .int .i64 0, .slice none 0 0, .int .i64 0, .int .i64 0, .int .i64 0, .slice none 0 0, .int .i64 0, .slice none 0 0, .bool false, .int .i64 0, .int .i64 0, .int .i64 0, .slice none 0 0, .slice none 0 0, .int .i64 0, .int .i64 0, .int .i64 0, .slice none 0 0, .int .i64 0, .int .i64 0, .int .i64 0, .int .i64 0, .slice none 0 0] 58)) o.size cs2
      obtain ⟨w6,hw6⟩:∃ x,x=(w4.alloc (.cells #[.int .i64 0, .int .i64 0, .int .i64 0, .int .i64 0, .int .i64 0, .int .i64 0, .int .i64 0, .int .i64 0, .int .i64 0, .int .i64 0, .int .i64 0, .slice none 0 0, .int .i64 0, .int .i64 0, .int .i64 0, .int .i64 0, .slice none 0 0, .int .i64 0, .int .i64 0, .int .i64 0, .int .i64 0, .int .i64 0, .slice none 0 0, .int .i64 0, .int .i64 0, .int .i64 0, .int .i64 0, .int .i64 0, .int .i64 0, .slice none 0 0, .int .i64 0, .int .i64 0, .int .i64 0, .int .i64 0, .int .i64 0, .slice none 0 0, .int .i64 0, .int .i64 0, .int .i64 0, .slice none 0 0, .int .i64 0, .slice none 0 0, .bool false, .int .i64 0, .int .i64 0, .int .i64 0, .slice none 0 0, .slice none 0 0, .int .i64 0, .int .i64 0, .int .i64 0, .slice none 0 0, .int .i64 0, .int .i64 0, .int .i64 0, .int .i64 0, .slice none 0 0] 58)).setRow w4.heap.size cs2:=⟨_,rfl⟩
      rw [← hw6] at T S R B OW in3 o ⊢
      clear hw6 TZ hb3
      generalize w4.heap.size=tb at T xS xR xB xW htb ⊢
      refine wp_region_phase 5 (fun w'=>Row w' tb 58 cs2∧Row w' ib 90 #[.int .i64 tk, .int .i64 vk]) (by kernel_rfl) (by kernel_rfl) (by kernel_rfl) (by kernel_rfl) (by kernel_rfl) (fun HOK=>?_)
      have HS:=(⟨row_drew T,row_drew B⟩:Row w6.drew tb 58 cs2∧Row w6.drew ib 90 #[.int .i64 tk, .int .i64 vk])
      (refine hw_take HOK (i:=0) (.agg cs2) rfl (by decide) (by kernel_rfl) (by kernel_rfl) (by exact fun _ _ _ h=>h) (Or.inl ⟨by rfl,fun w' hS=>exec_lsyn hS.1 hs2 _ rfl rfl⟩) HS ?_;try simp only [put9])
      (refine hw_take HOK (i:=1) ?_ rfl (by decide) (by kernel_rfl) (by kernel_rfl) (by exact fun _ _ _ h=>h) (Or.inl ⟨by rfl,fun w' hS=>?_⟩) HS ?_;rotate_left;(go_simp;try with_reducible rfl);simp only [put9])
      (refine hw_take HOK (i:=2) ?_ rfl (by decide) (by kernel_rfl) (by kernel_rfl) (by exact fun _ _ _ h=>h) (Or.inl ⟨by rfl,fun w' hS=>?_⟩) HS ?_;rotate_left;(obtain ⟨B0,B1,Bf0,Bf1⟩:=row_two hS.2;go_simp;try with_reducible rfl);simp only [put9])
      replace T:Row w6.drew tb 58 cs2:=T
      replace B:Row w6.drew ib 90 #[.int .i64 tk, .int .i64 vk]:=B
      replace S:Row w6.drew sb 58 (csf lk tk A2 m2 c2):=S
      replace R:Row w6.drew (w.heap.size+1) 58 #[.int .i64 0, .int .i64 0, .int .i64 0, .int .i64 0, .int .i64 0, .int .i64 0, .int .i64 0, .int .i64 0, .int .i64 0, .int .i64 0, .int .i64 0, .slice none 0 0, .int .i64 0, .int .i64 0, .int .i64 0, .int .i64 0, .slice none 0 0, .int .i64 0, .int .i64 0, .int .i64 0, .int .i64 0, .int .i64 0, .slice none 0 0, .int .i64 0, .int .i64 0, .int .i64 0, .int .i64 0, .int .i64 0, .int .i64 0, .slice none 0 0, .int .i64 0, .int .i64 0, .int .i64 0, .int .i64 0, .int .i64 0, .slice none 0 0, .int .i64 0, .int .i64 0, .int .i64 0, .slice none 0 0, .int .i64 0, .slice none 0 0, .bool false, .int .i64 0, .int .i64 0, .int .i64 0, .slice none 0 0, .slice none 0 0, .int .i64 0, .int .i64 0, .int .i64 0, .slice none 0 0, .int .i64 0, .int .i64 0, .int .i64 0, .int .i64 0, .slice none 0 0]:=R
      replace OW:w6.drew.ownsRow w.heap.size 90 2 u9 k (icells lk):=OW
      replace in3:=IO2.keep (w':=w6.drew) in3 (Nat.le_refl _) (fun _ _=>rfl)
      replace o:=o.drew
      clear HS
      generalize w6.drew=w7 at *
      have RA:Reads (w7.alloc (.cells #[.int .i64 tk, .int .i64 vk] 90)) (w7.alloc (.cells #[.int .i64 tk, .int .i64 vk] 90)).heap.size 2 (some ⟨w7.heap.size,0,none⟩) 1 #[.int .i64 tk, .int .i64 vk].toList:=(own_new (w:=w7) (e:=90) (size:=2) (n:=1) (cs:=#[.int .i64 tk, .int .i64 vk]) rfl (by unfold maxLen;omega) (by first | (simp;done) | omega | decide)).reads
      have z7:=o.size
      replace T:=row_alloc T (.cells #[.int .i64 tk, .int .i64 vk] 90)
      replace B:=row_alloc B (.cells #[.int .i64 tk, .int .i64 vk] 90)
      replace S:=row_alloc S (.cells #[.int .i64 tk, .int .i64 vk] 90)
      replace R:=row_alloc R (.cells #[.int .i64 tk, .int .i64 vk] 90)
      replace OW:=OW.alloc (.cells #[.int .i64 tk, .int .i64 vk] 90)
      replace in3:=IO2.below in3 ((Below.refl _ _).alloc (Nat.le_refl _) (.cells #[.int .i64 tk, .int .i64 vk] 90))
      replace o:=o.alloc o.size (.cells #[.int .i64 tk, .int .i64 vk] 90)
      refine hw_one (i:=3) rfl (by decide) (by kernel_rfl) (fun K hK=>?_)
      go_simp
      refine hK _ (w7.alloc (.cells #[.int .i64 tk, .int .i64 vk] 90)) ⟨T,B⟩ ?_
      clear hK K
      generalize w7.alloc (.cells #[.int .i64 tk, .int .i64 vk] 90)=w8 at T B S R OW in3 o RA ⊢
      generalize w7.heap.size=ga at RA ⊢
      try simp only [put9]
      have nS:=orow_ne_row OW S (by decide)
      have nT:=orow_ne_row OW T (by decide)
      have nR:=orow_ne_row OW R (by decide)
      have nB:u9.ownBlock≠some ib:=fun e=>by have:=zW ib e;omega
      have hb4:=IO2.blk in3
      have frC:∀ g,TB A3 m3 y3 g→g≠sb∧g≠w.heap.size+1∧u9.ownBlock≠some g:=fun g hg=>⟨(frB g hg).1,(frB g hg).2.1,(frB g hg).2.2.2⟩
      have z8:=o.size
      have z9:=row_lt S
      replace frC:=Lib.hid frC
      clear frB htb zS zR zW xS xR xB xW
      refine hw_one (i:=4) rfl (by decide) (by kernel_rfl) (fun K hK=>?_)
      refine step_append_any w8 rfl _ _ 22 rfl w.heap.size 90 ii (.agg #[.int .i64 0, .int .i64 0]) 2 16 Tryz.underlying22 hii iz0 iz1 iz2 rfl (by decide) u9 k (icells lk) rfl OW w8.heap.size (some ⟨ga,0,none⟩) 1 1 #[.int .i64 tk, .int .i64 vk].toList rfl RA (by simp [Value.oneCell']) (by unfold maxLen;omega) (by omega) z8 ?_
      intro v6 w9 own6 hg6 hat6
      replace T:=row_grown T hg6 nT
      replace B:=row_grown B hg6 nB
      replace S:=row_grown S hg6 nS
      replace R:=row_grown R hg6 nR
      have in4:=IO2.keep in3 hg6.size (fun g hg=>hg6.block _ (hb4 g hg) (fun x=>(frC.out g hg).2.2 x.symm))
      replace o:=below_grown o hg6 (fun b e=>(OW.lt b e).1) o.size
      refine hK _ _ ⟨T,B⟩ ?_
      clear hK K
      try simp only [put9]
      refine hw_done (by kernel_rfl) ?_
      try simp only [List.drop_succ_cons,List.drop_zero]
      clear HOK
      have O4:=(IO2.keep (w':=w9.setRow sb cs2) in4 (by rw [size_setRow];exact Nat.le_refl _) (fun g hg=>heap_setRow_other w9 sb cs2 g (fun x=>(frC.out g hg).1 x)))
      have fW:v6.ownBlock≠some sb∧(∀ g,TB A3 m3 y3 g→v6.ownBlock≠some g):=by
        rcases hat6 with h | h<;>rw [h]
        · exact ⟨nS,fun g hg=>(frC.out g hg).2.2⟩
        · exact ⟨fun x=>by have:=Option.some.inj x;omega,fun g hg x=>by have:=Option.some.inj x;have:=hb4 g hg;omega⟩
      go_wp2_with (with_reducible refine wpList_ssyn S s1 hs2 o2 rfl _ _ rfl rfl rfl ?_)
      go_roundw
      case rel =>
        refine ⟨k+1,A3,m3,c3,y3,by omega,by go_num,rfl,?_,?_,row_setRow_other R (by omega),?_,Lib.hid (fun g hg=>⟨(frC.out g hg).1,(frC.out g hg).2.1,fW.2 g hg⟩),below_setRow o z1 cs2⟩
        · rw [eT.out,icells_append]
          exact orow_keep own6 (fun g e=>heap_setRow_other w9 sb cs2 g (fun x=>fW.1 (x ▸ e)))
        · rw [eT.out,eN.out,hcs2.out]
          exact row_setRow S
        · rw [eT.out,eN.out]
          exact O4
      case measure=>simp [intOf];omega
    · have i1:¬ (k:Int)<(n:Int):=by omega
      obtain rfl:k=n:=by omega
      have hn2:l.take k=l:=List.take_of_length_le (by rw [HL.out];exact Nat.le_refl _)
      rw [hn2] at OW S in1
      have hs0:=HK.out.size l (nowK l k) A m c
      have h1:=HK.out.one l (nowK l k) A m c
      have IO0:=HK.out.inok l (nowK l k)
      have hlk:l.length=k:=HL.out
      have nWR:=orow_ne_row OW R (by decide)
      generalize hcs0:csf l (nowK l k) A m c=cs0 at S hs0 h1
      go_wp2_with (first | (with_reducible refine wpList_lsyn S hs0 rfl _ rfl rfl ?_) | (with_reducible refine wpList_ssyn R rfl hs0 h1 rfl _ _ rfl rfl rfl ?_))
      have R9:=row_setRow (cs:=cs0) R
      refine bodyPost_ret (v := .tuple #[.agg cs0,u9, .bool true]) ?_ rfl ?_
      · exact results_syn3 (p:=4) (q:=5) (r:=6) rfl _ R9 hs0 rfl
      · subst hlk
        refine ⟨A,m,c,y0,u9,by rw [hcs0],IO0.setr _ in1 (fun g hg=>(fr.out g hg).2.1.symm),orow_keep OW (fun g e=>heap_setRow_other wr (w.heap.size+1) cs0 g (fun x=>nWR (x ▸ e))),below_setRow o (by omega) _⟩
end Go.Proofs.YtdipoojjlddohaaGreat
end
