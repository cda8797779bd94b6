/- What the law TopExact needs, joined of its texts by a program (slim2.py); part 21. -/
import Derived.Test.YtdipoojjlddohaaGreatZTopExact1
import Derived.Test.YtdipoojjlddohaaGreatZTopExact2
import Derived.Test.YtdipoojjlddohaaGreatZTopExact4
import Derived.Test.YtdipoojjlddohaaGreatZTopExact9
import Derived.Test.YtdipoojjlddohaaGreatZTopExact14
import Derived.Test.YtdipoojjlddohaaGreatZTopExact17
set_option linter.unusedVariables false
set_option linter.unusedSimpArgs false
set_option linter.unusedSectionVars false
set_option linter.unnecessarySimpa false
section
/- A stream is played into a synopsis of any kind that takes every item: the top's run, walked. -/
namespace Go.Proofs.YtdipoojjlddohaaGreat
open Go.RowKit
def nowK (l:List Itm) (k:Nat):Int:=if k=0 then 0 else (itmAt l (k-1)).t
theorem orow_ne_row {w:World} {base size n b:Nat} {e t:TypeId} {v:Value} {xs:List Value} {cs:Array Value} (h:w.ownsRow base e size v n xs) (h2:Row w b t cs) (hne:e≠t):v.ownBlock≠some b:=by
  rcases h.2 with ⟨rfl,_⟩ | ⟨g,cap,cur,rfl,_,hg,_⟩
  · simp [Value.ownBlock]
  · intro he
    have e9:g=b:=Option.some.inj he
    subst e9
    unfold Row at h2
    rw [hg] at h2
    simp at h2
    exact hne h2.2
structure KindOK (cfg:Array Value) (IN:List Itm→Int→Option Addr→Nat→Nat→World→Prop) (csf:List Itm→Int→Option Addr→Nat→Nat→Array Value) (okv:Int→Prop) (N:Nat):Prop where
  inok:∀ ad now,InOK (IN ad now)
  size:∀ ad now A m c,(csf ad now A m c).size=57
  one:∀ ad now A m c,(csf ad now A m c).all (·.oneCell')=true
  new:∀ w,Calls Tryz.prog 37 #[.agg cfg, .int .i64 0] w (GRet (IN [] 0) (csf [] 0) 0 (fun _=>False) w)
  adv:∀ ad now tt A m c w,IN ad now A m c w→now≤tt→tt≤16777216→Calls Tryz.prog 21 #[.agg (csf ad now A m c), .int .i64 tt] w (GRet (IN ad tt) (csf ad tt) 0 (fun b=>0<m∧∃ a,A=some a∧a.block=b) w)
  add:∀ ad now v A m c w,IN ad now A m c w→ad.length<N→okv v→Calls Tryz.prog 38 #[.agg (csf ad now A m c), .int .i64 v, .slice none 0 0] w (GRet (IN (ad ++ [⟨now,v⟩]) now) (csf (ad ++ [⟨now,v⟩]) now) 0 (fun b=>0<m∧∃ a,A=some a∧a.block=b) w)
def RunRet (IN:List Itm→Int→Option Addr→Nat→Nat→World→Prop) (csf:List Itm→Int→Option Addr→Nat→Nat→Array Value) (l:List Itm) (w:World) (e:Ending) (w':World):Prop :=
  ∃ (A:Option Addr) (m c:Nat) (v:Value),e = .returned (.tuple #[.agg (csf l (nowK l l.length) A m c),v, .bool true])∧IN l (nowK l l.length) A m c w'∧w'.ownsRow w.heap.size 90 2 v l.length (icells l)∧Below w.heap.size w w'
set_option maxRecDepth 100000 in
set_option maxHeartbeats 8000000 in
theorem prun (x0 x1 x2 x3 x4 x5 x6 x7:Value) (IN:List Itm→Int→Option Addr→Nat→Nat→World→Prop) (csf:List Itm→Int→Option Addr→Nat→Nat→Array Value) (okv:Int→Prop) (N:Nat) (HK:RowKit.Hid (KindOK #[x0,x1,x2,x3,x4,x5,x6,x7] IN csf okv N)) (A0:Option Addr) (n c0:Nat) (l:List Itm) (w:World) (hin:Reads w w.heap.size 2 A0 n (icells l)) (hn:n≤100000) (hN:n≤N)
    (hT:∀ i,i<n→nowK l i≤(itmAt l i).t∧(itmAt l i).t≤16777216∧okv (itmAt l i).v):Calls Tryz.prog 11 #[.agg #[x0,x1,x2,x3,x4,x5,x6,x7], .slice A0 n c0] w (RunRet IN csf l w):=by
  obtain ⟨ii,hii,iz0,iz1,iz2⟩:=info_parts info_itm
  have HR:=Lib.hid hin
  have HL:=Lib.hid hin.itm_len
  have HT:=Lib.hid hT
  clear hin hT
  go_enter Tryz.func11,Tryz.ntmps11
  go_upto_region 1 with (fail)
  have X:Row ((w.alloc (.cells #[x0,x1,x2,x3,x4,x5,x6,x7] 27)).alloc (.cells #[.int .i64 0, .int .i64 0, .int .i64 0, .int .i64 0, .int .i64 0, .int .i64 0, .int .i64 0, .int .i64 0, .int .i64 0, .int .i64 0, .int .i64 0, .slice none 0 0, .int .i64 0, .int .i64 0, .int .i64 0, .int .i64 0, .slice none 0 0, .int .i64 0, .int .i64 0, .int .i64 0, .int .i64 0, .int .i64 0, .slice none 0 0, .int .i64 0, .int .i64 0, .int .i64 0, .int .i64 0, .int .i64 0, .int .i64 0, .slice none 0 0, .int .i64 0, .int .i64 0, .int .i64 0, .int .i64 0, .int .i64 0, .slice none 0 0, .int .i64 0, .int .i64 0, .int .i64 0, .slice none 0 0, .int .i64 0, .slice none 0 0, .bool false, .int .i64 0, .int .i64 0, .int .i64 0, .slice none 0 0, .slice none 0 0, .int .i64 0, .int .i64 0, .int .i64 0, .slice none 0 0, .int .i64 0, .int .i64 0, .int .i64 0, .int .i64 0, .slice none 0 0] 58)) (w.heap.size) 27 #[x0,x1,x2,x3,x4,x5,x6,x7]:=row_alloc (row_new rfl) _
  have R:Row ((w.alloc (.cells #[x0,x1,x2,x3,x4,x5,x6,x7] 27)).alloc (.cells #[.int .i64 0, .int .i64 0, .int .i64 0, .int .i64 0, .int .i64 0, .int .i64 0, .int .i64 0, .int .i64 0, .int .i64 0, .int .i64 0, .int .i64 0, .slice none 0 0, .int .i64 0, .int .i64 0, .int .i64 0, .int .i64 0, .slice none 0 0, .int .i64 0, .int .i64 0, .int .i64 0, .int .i64 0, .int .i64 0, .slice none 0 0, .int .i64 0, .int .i64 0, .int .i64 0, .int .i64 0, .int .i64 0, .int .i64 0, .slice none 0 0, .int .i64 0, .int .i64 0, .int .i64 0, .int .i64 0, .int .i64 0, .slice none 0 0, .int .i64 0, .int .i64 0, .int .i64 0, .slice none 0 0, .int .i64 0, .slice none 0 0, .bool false, .int .i64 0, .int .i64 0, .int .i64 0, .slice none 0 0, .slice none 0 0, .int .i64 0, .int .i64 0, .int .i64 0, .slice none 0 0, .int .i64 0, .int .i64 0, .int .i64 0, .int .i64 0, .slice none 0 0] 58)) (w.heap.size+1) 58 #[.int .i64 0, .int .i64 0, .int .i64 0, .int .i64 0, .int .i64 0, .int .i64 0, .int .i64 0, .int .i64 0, .int .i64 0, .int .i64 0, .int .i64 0, .slice none 0 0, .int .i64 0, .int .i64 0, .int .i64 0, .int .i64 0, .slice none 0 0, .int .i64 0, .int .i64 0, .int .i64 0, .int .i64 0, .int .i64 0, .slice none 0 0, .int .i64 0, .int .i64 0, .int .i64 0, .int .i64 0, .int .i64 0, .int .i64 0, .slice none 0 0, .int .i64 0, .int .i64 0, .int .i64 0, .int .i64 0, .int .i64 0, .slice none 0 0, .int .i64 0, .int .i64 0, .int .i64 0, .slice none 0 0, .int .i64 0, .slice none 0 0, .bool false, .int .i64 0, .int .i64 0, .int .i64 0, .slice none 0 0, .slice none 0 0, .int .i64 0, .int .i64 0, .int .i64 0, .slice none 0 0, .int .i64 0, .int .i64 0, .int .i64 0, .int .i64 0, .slice none 0 0]:=row_new (by simp)
  have o:Below w.heap.size w ((w.alloc (.cells #[x0,x1,x2,x3,x4,x5,x6,x7] 27)).alloc (.cells #[.int .i64 0, .int .i64 0, .int .i64 0, .int .i64 0, .int .i64 0, .int .i64 0, .int .i64 0, .int .i64 0, .int .i64 0, .int .i64 0, .int .i64 0, .slice none 0 0, .int .i64 0, .int .i64 0, .int .i64 0, .int .i64 0, .slice none 0 0, .int .i64 0, .int .i64 0, .int .i64 0, .int .i64 0, .int .i64 0, .slice none 0 0, .int .i64 0, .int .i64 0, .int .i64 0, .int .i64 0, .int .i64 0, .int .i64 0, .slice none 0 0, .int .i64 0, .int .i64 0, .int .i64 0, .int .i64 0, .int .i64 0, .slice none 0 0, .int .i64 0, .int .i64 0, .int .i64 0, .slice none 0 0, .int .i64 0, .slice none 0 0, .bool false, .int .i64 0, .int .i64 0, .int .i64 0, .slice none 0 0, .slice none 0 0, .int .i64 0, .int .i64 0, .int .i64 0, .slice none 0 0, .int .i64 0, .int .i64 0, .int .i64 0, .int .i64 0, .slice none 0 0] 58)):=by (repeat (first | exact Below.refl _ _ | refine Below.setCell ?_ (by (try simp)<;>omega) _ | refine Below.alloc ?_ (by (try simp)<;>omega) _ | refine Below.drew ?_ | refine Below.trans ?_ (Below.mono (by assumption) (by (try simp)<;>omega))))
  obtain ⟨w1,hw1⟩:∃ x,x=((w.alloc (.cells #[x0,x1,x2,x3,x4,x5,x6,x7] 27)).alloc (.cells #[.int .i64 0, .int .i64 0, .int .i64 0, .int .i64 0, .int .i64 0, .int .i64 0, .int .i64 0, .int .i64 0, .int .i64 0, .int .i64 0, .int .i64 0, .slice none 0 0, .int .i64 0, .int .i64 0, .int .i64 0, .int .i64 0, .slice none 0 0, .int .i64 0, .int .i64 0, .int .i64 0, .int .i64 0, .int .i64 0, .slice none 0 0, .int .i64 0, .int .i64 0, .int .i64 0, .int .i64 0, .int .i64 0, .int .i64 0, .slice none 0 0, .int .i64 0, .int .i64 0, .int .i64 0, .int .i64 0, .int .i64 0, .slice none 0 0, .int .i64 0, .int .i64 0, .int .i64 0, .slice none 0 0, .int .i64 0, .slice none 0 0, .bool false, .int .i64 0, .int .i64 0, .int .i64 0, .slice none 0 0, .slice none 0 0, .int .i64 0, .int .i64 0, .int .i64 0, .slice none 0 0, .int .i64 0, .int .i64 0, .int .i64 0, .int .i64 0, .slice none 0 0] 58)):=⟨_,rfl⟩
  rw [← hw1] at X R o ⊢
  clear hw1
  obtain ⟨X0,X1,X2,X3,X4,X5,X6,X7,Xf0,Xf1,Xf2,Xf3,Xf4,Xf5,Xf6,Xf7⟩:=row_eight X
  go_wp2_with fail
  refine (HK.out.new _).mono ?_
  rintro e w2 ⟨A1,m1,c1,rfl,in1,hb,fr0⟩
  have zr0:=row_lt R
  replace R:=row_call R hb
  replace o:=o.trans (hb.mono o.size)
  clear hb X X0 Xf0 X1 Xf1 X2 Xf2 X3 Xf3 X4 Xf4 X5 Xf5 X6 Xf6 X7 Xf7
  have hs1:=HK.out.size [] 0 A1 m1 c1
  have h1:=HK.out.one [] 0 A1 m1 c1
  have IOA:=HK.out.inok [] 0
  generalize hcs1:csf [] 0 A1 m1 c1=cs1 at hs1 h1 ⊢
  have SZ:Row (w2.alloc (.cells #[.int .i64 0, .int .i64 0, .int .i64 0, .int .i64 0, .int .i64 0, .int .i64 0, .int .i64 0, .int .i64 0, .int .i64 0, .int .i64 0, .int .i64 0, .slice none 0 0, .int .i64 0, .int .i64 0, .int .i64 0, .int .i64 0, .slice none 0 0, .int .i64 0, .int .i64 0, .int .i64 0, .int .i64 0, .int .i64 0, .slice none 0 0, .int .i64 0, .int .i64 0, .int .i64 0, .int .i64 0, .int .i64 0, .int .i64 0, .slice none 0 0, .int .i64 0, .int .i64 0, .int .i64 0, .int .i64 0, .int .i64 0, .slice none 0 0, .int .i64 0, .int .i64 0, .int .i64 0, .slice none 0 0, .int .i64 0, .slice none 0 0, .bool false, .int .i64 0, .int .i64 0, .int .i64 0, .slice none 0 0, .slice none 0 0, .int .i64 0, .int .i64 0, .int .i64 0, .slice none 0 0, .int .i64 0, .int .i64 0, .int .i64 0, .int .i64 0, .slice none 0 0] 58)) w2.heap.size 58 #[.int .i64 0, .int .i64 0, .int .i64 0, .int .i64 0, .int .i64 0, .int .i64 0, .int .i64 0, .int .i64 0, .int .i64 0, .int .i64 0, .int .i64 0, .slice none 0 0, .int .i64 0, .int .i64 0, .int .i64 0, .int .i64 0, .slice none 0 0, .int .i64 0, .int .i64 0, .int .i64 0, .int .i64 0, .int .i64 0, .slice none 0 0, .int .i64 0, .int .i64 0, .int .i64 0, .int .i64 0, .int .i64 0, .int .i64 0, .slice none 0 0, .int .i64 0, .int .i64 0, .int .i64 0, .int .i64 0, .int .i64 0, .slice none 0 0, .int .i64 0, .int .i64 0, .int .i64 0, .slice none 0 0, .int .i64 0, .slice none 0 0, .bool false, .int .i64 0, .int .i64 0, .int .i64 0, .slice none 0 0, .slice none 0 0, .int .i64 0, .int .i64 0, .int .i64 0, .slice none 0 0, .int .i64 0, .int .i64 0, .int .i64 0, .int .i64 0, .slice none 0 0]:=row_new rfl
  go_upto_region 2 with (with_reducible refine wpList_ssyn SZ rfl hs1 h1 rfl _ _ rfl rfl rfl ?_)
  have S:=row_setRow (cs:=cs1) SZ
  have zr:=row_lt R
  have z1:=o.size
  have b1:=IOA.blk in1
  replace in1:=IOA.setr (g:=w2.heap.size) cs1 (IOA.below in1 ((Below.refl _ _).alloc (Nat.le_refl _) (.cells #[.int .i64 0, .int .i64 0, .int .i64 0, .int .i64 0, .int .i64 0, .int .i64 0, .int .i64 0, .int .i64 0, .int .i64 0, .int .i64 0, .int .i64 0, .slice none 0 0, .int .i64 0, .int .i64 0, .int .i64 0, .int .i64 0, .slice none 0 0, .int .i64 0, .int .i64 0, .int .i64 0, .int .i64 0, .int .i64 0, .slice none 0 0, .int .i64 0, .int .i64 0, .int .i64 0, .int .i64 0, .int .i64 0, .int .i64 0, .slice none 0 0, .int .i64 0, .int .i64 0, .int .i64 0, .int .i64 0, .int .i64 0, .slice none 0 0, .int .i64 0, .int .i64 0, .int .i64 0, .slice none 0 0, .int .i64 0, .slice none 0 0, .bool false, .int .i64 0, .int .i64 0, .int .i64 0, .slice none 0 0, .slice none 0 0, .int .i64 0, .int .i64 0, .int .i64 0, .slice none 0 0, .int .i64 0, .int .i64 0, .int .i64 0, .int .i64 0, .slice none 0 0] 58))) (fun hm a e=>by have:=b1 hm a e;omega)
  have fr1:0<m1→∀ a,A1=some a→a.block≠w2.heap.size∧a.block≠w.heap.size+1:=fun hm a e=>by
    have:=b1 hm a e
    rcases fr0 hm a e with h | h
    · exact ⟨by omega,by omega⟩
    · exact h.elim
  replace R:=row_setRow_other (g:=w2.heap.size) (cs':=cs1) (row_alloc R (.cells #[.int .i64 0, .int .i64 0, .int .i64 0, .int .i64 0, .int .i64 0, .int .i64 0, .int .i64 0, .int .i64 0, .int .i64 0, .int .i64 0, .int .i64 0, .slice none 0 0, .int .i64 0, .int .i64 0, .int .i64 0, .int .i64 0, .slice none 0 0, .int .i64 0, .int .i64 0, .int .i64 0, .int .i64 0, .int .i64 0, .slice none 0 0, .int .i64 0, .int .i64 0, .int .i64 0, .int .i64 0, .int .i64 0, .int .i64 0, .slice none 0 0, .int .i64 0, .int .i64 0, .int .i64 0, .int .i64 0, .int .i64 0, .slice none 0 0, .int .i64 0, .int .i64 0, .int .i64 0, .slice none 0 0, .int .i64 0, .slice none 0 0, .bool false, .int .i64 0, .int .i64 0, .int .i64 0, .slice none 0 0, .slice none 0 0, .int .i64 0, .int .i64 0, .int .i64 0, .slice none 0 0, .int .i64 0, .int .i64 0, .int .i64 0, .int .i64 0, .slice none 0 0] 58)) (by omega)
  replace o:=below_setRow (g:=w2.heap.size) (o.alloc o.size (.cells #[.int .i64 0, .int .i64 0, .int .i64 0, .int .i64 0, .int .i64 0, .int .i64 0, .int .i64 0, .int .i64 0, .int .i64 0, .int .i64 0, .int .i64 0, .slice none 0 0, .int .i64 0, .int .i64 0, .int .i64 0, .int .i64 0, .slice none 0 0, .int .i64 0, .int .i64 0, .int .i64 0, .int .i64 0, .int .i64 0, .slice none 0 0, .int .i64 0, .int .i64 0, .int .i64 0, .int .i64 0, .int .i64 0, .int .i64 0, .slice none 0 0, .int .i64 0, .int .i64 0, .int .i64 0, .int .i64 0, .int .i64 0, .slice none 0 0, .int .i64 0, .int .i64 0, .int .i64 0, .slice none 0 0, .int .i64 0, .slice none 0 0, .bool false, .int .i64 0, .int .i64 0, .int .i64 0, .slice none 0 0, .slice none 0 0, .int .i64 0, .int .i64 0, .int .i64 0, .slice none 0 0, .int .i64 0, .int .i64 0, .int .i64 0, .int .i64 0, .slice none 0 0] 58)) o.size cs1
  obtain ⟨w3,hw3⟩:∃ x,x=(w2.alloc (.cells #[.int .i64 0, .int .i64 0, .int .i64 0, .int .i64 0, .int .i64 0, .int .i64 0, .int .i64 0, .int .i64 0, .int .i64 0, .int .i64 0, .int .i64 0, .slice none 0 0, .int .i64 0, .int .i64 0, .int .i64 0, .int .i64 0, .slice none 0 0, .int .i64 0, .int .i64 0, .int .i64 0, .int .i64 0, .int .i64 0, .slice none 0 0, .int .i64 0, .int .i64 0, .int .i64 0, .int .i64 0, .int .i64 0, .int .i64 0, .slice none 0 0, .int .i64 0, .int .i64 0, .int .i64 0, .int .i64 0, .int .i64 0, .slice none 0 0, .int .i64 0, .int .i64 0, .int .i64 0, .slice none 0 0, .int .i64 0, .slice none 0 0, .bool false, .int .i64 0, .int .i64 0, .int .i64 0, .slice none 0 0, .slice none 0 0, .int .i64 0, .int .i64 0, .int .i64 0, .slice none 0 0, .int .i64 0, .int .i64 0, .int .i64 0, .int .i64 0, .slice none 0 0] 58)).setRow w2.heap.size cs1:=⟨_,rfl⟩
  rw [← hw3] at S R in1 o ⊢
  clear hw3 SZ h1 b1
  generalize w2.heap.size=sb at S z1 zr fr1 ⊢
  rw [← hcs1] at S
  clear hcs1 hs1
  go_wp2
  go_loopw [8,9,11,12,13,21] (fun u8 u9 _ _ _ u21 wr=>∃ (k:Nat) (A:Option Addr) (m c:Nat),k≤n∧u21 = .int .i64 (k:Nat)∧u8 = .int .i64 0∧wr.ownsRow w.heap.size 90 2 u9 k (icells (l.take k))∧Row wr sb 58 (csf (l.take k) (nowK l k) A m c)∧Row wr (w.heap.size+1) 58 #[.int .i64 0, .int .i64 0, .int .i64 0, .int .i64 0, .int .i64 0, .int .i64 0, .int .i64 0, .int .i64 0, .int .i64 0, .int .i64 0, .int .i64 0, .slice none 0 0, .int .i64 0, .int .i64 0, .int .i64 0, .int .i64 0, .slice none 0 0, .int .i64 0, .int .i64 0, .int .i64 0, .int .i64 0, .int .i64 0, .slice none 0 0, .int .i64 0, .int .i64 0, .int .i64 0, .int .i64 0, .int .i64 0, .int .i64 0, .slice none 0 0, .int .i64 0, .int .i64 0, .int .i64 0, .int .i64 0, .int .i64 0, .slice none 0 0, .int .i64 0, .int .i64 0, .int .i64 0, .slice none 0 0, .int .i64 0, .slice none 0 0, .bool false, .int .i64 0, .int .i64 0, .int .i64 0, .slice none 0 0, .slice none 0 0, .int .i64 0, .int .i64 0, .int .i64 0, .slice none 0 0, .int .i64 0, .int .i64 0, .int .i64 0, .int .i64 0, .slice none 0 0]∧IN (l.take k) (nowK l k) A m c wr∧RowKit.Hid (0<m→∀ a,A=some a→a.block≠sb∧a.block≠w.heap.size+1∧u9.ownBlock≠some a.block)∧Below w.heap.size w wr) (fun _ _ _ _ _ u21 _=>n-(intOf u21).toNat)
  case atStart=>exact ⟨0,A1,m1,c1,Nat.zero_le _,rfl,rfl,World.ownsRow_nil _ _ _ _,S,R,in1,Lib.hid (fun hm a e=>⟨(fr1 hm a e).1,(fr1 hm a e).2,by simp [Value.ownBlock]⟩),o⟩
  case round =>
    clear S R in1 fr1 o
    obtain ⟨k,A,m,c,hk,rfl,rfl,OW,S,R,in1,fr,o⟩:=hrel
    by_cases hlt:k<n
    · obtain ⟨ad,rfl,hadb,hi0⟩:=HR.out.itm hlt
      obtain ⟨c0',c1'⟩:=hi0.below o (by rw [block_of_add];exact hadb)
      obtain ⟨t1,t2,t3⟩:=HT.out k hlt
      have kl:k<l.length:=by rw [HL.out];exact hlt
      have eT:l.take (k+1)=l.take k ++ [itmAt l k]:=by rw [List.take_succ_eq_append_getElem kl,itm_eq kl]
      have eN:nowK l (k+1)=(itmAt l k).t:=by unfold nowK;rw [if_neg (by omega)];rfl
      have ln:(l.take k).length<N:=by rw [List.length_take];omega
      obtain ⟨⟨tk,vk⟩,hx⟩:∃ x,itmAt l k=x:=⟨_,rfl⟩
      rw [hx] at c0' c1' t1 t2 t3 eT eN
      dsimp only at c0' c1' t1 t2 t3 eN
      have PA:=HK.out.adv (l.take k) (nowK l k) tk A m c
      have PD:=fun A m c w=>HK.out.add (l.take k) tk vk A m c w
      have hs0:=HK.out.size (l.take k) (nowK l k) A m c
      have IO0:=HK.out.inok (l.take k) (nowK l k)
      have IO1:=HK.out.inok (l.take k) tk
      have IO2:=HK.out.inok (l.take k ++ [⟨tk,vk⟩]) tk
      have hb0:=IO0.blk in1
      have S1:=HK.out.size (l.take k) tk
      have O1:=HK.out.one (l.take k) tk
      have S2:=HK.out.size (l.take k ++ [⟨tk,vk⟩]) tk
      have O2:=HK.out.one (l.take k ++ [⟨tk,vk⟩]) tk
      generalize csf (l.take k) (nowK l k) A m c=cs0 at S PA hs0
      replace PA:=Lib.hid (fun w' (h:IN (l.take k) (nowK l k) A m c w')=>PA w' h t1 t2)
      replace PD:=Lib.hid (fun A m c w (h:IN (l.take k) tk A m c w)=>PD A m c w h ln t3)
      replace S1:=Lib.hid S1
      replace O1:=Lib.hid O1
      replace S2:=Lib.hid S2
      replace O2:=Lib.hid O2
      replace eT:=Lib.hid eT
      replace eN:=Lib.hid eN
      have i1:(k:Int)<(n:Int):=by omega
      have i2:(0:Int)≤(k:Int):=by omega
      have zo:=o.size
      clear hi0 t1 t2 t3 kl ln hx
      generalize nowK l k=nw at *
      generalize l.take k=lk at *
      go_upto_region 6 with (fail)
      have B:Row (wr.alloc (.cells #[.int .i64 tk, .int .i64 vk] 90)) wr.heap.size 90 #[.int .i64 tk, .int .i64 vk]:=row_new rfl
      have zS:=row_lt S
      have zR:=row_lt R
      have zW:=fun g (e:u9.ownBlock=some g)=>(OW.lt g e).2
      have hbi:0<m→∀ a,A=some a→a.block≠wr.heap.size:=fun hm a e=>by have:=hb0 hm a e;omega
      replace S:=row_alloc S (.cells #[.int .i64 tk, .int .i64 vk] 90)
      replace R:=row_alloc R (.cells #[.int .i64 tk, .int .i64 vk] 90)
      replace in1:=IO0.below in1 ((Below.refl _ _).alloc (Nat.le_refl _) (.cells #[.int .i64 tk, .int .i64 vk] 90))
      replace OW:=OW.alloc (.cells #[.int .i64 tk, .int .i64 vk] 90)
      replace o:=o.alloc o.size (.cells #[.int .i64 tk, .int .i64 vk] 90)
      obtain ⟨w1,hw1⟩:∃ x,x=wr.alloc (.cells #[.int .i64 tk, .int .i64 vk] 90):=⟨_,rfl⟩
      rw [← hw1] at B S R in1 OW o ⊢
      clear hw1 c0' c1' hb0
      generalize wr.heap.size=ib at B zS zR zW hbi ⊢
      obtain ⟨B0,B1,_,_⟩:=row_two B
      go_wp2_with (with_reducible refine wpList_lsyn S hs0 rfl _ rfl rfl ?_)
      refine (PA.out _ in1).mono ?_
      rintro e w2 ⟨A2,m2,c2,rfl,in2,hb,fr2⟩
      have yS:=row_lt S
      have yR:=row_lt R
      have yB:=row_lt B
      have yW:=fun g (e:u9.ownBlock=some g)=>(OW.lt g e).2
      have frA:0<m2→∀ a,A2=some a→a.block≠sb∧a.block≠w.heap.size+1∧a.block≠ib∧u9.ownBlock≠some a.block:=fun hm a e=>by
        rcases fr2 hm a e with h | ⟨h0,a',ea,h⟩
        · exact ⟨by omega,by omega,by omega,fun x=>by have:=yW _ x;omega⟩
        · obtain ⟨f1,f2,f3⟩:=fr.out h0 a' ea
          rw [← h]
          exact ⟨f1,f2,hbi h0 a' ea,f3⟩
      replace S:=row_call S hb
      replace R:=row_call R hb
      replace B:=row_call B hb
      replace OW:=orow_keep OW (fun g e=>hb.block g (OW.lt g e).2)
      replace o:=o.trans (hb.mono o.size)
      have nWS:=orow_ne_row OW S (by decide)
      have s1:=S1.out A2 m2 c2
      have o1:=O1.out A2 m2 c2
      generalize hcs1:csf lk tk A2 m2 c2=cs1 at s1 o1 ⊢
      replace hcs1:=Lib.hid hcs1
      go_upto_region 8 with (with_reducible refine wpList_ssyn S hs0 s1 o1 rfl _ _ rfl rfl rfl ?_)
      clear B0 B1 hb yS yR yB yW fr2 PA fr hbi
      replace S:=row_setRow (cs:=cs1) S
      replace R:=row_setRow_other (g:=sb) (cs':=cs1) R (by omega)
      replace B:=row_setRow_other (g:=sb) (cs':=cs1) B (by omega)
      replace OW:=orow_keep OW (fun g e=>heap_setRow_other w2 sb cs1 g (fun x=>nWS (x ▸ e)))
      replace in2:=IO1.setr (g:=sb) cs1 in2 (fun hm a e=>(frA hm a e).1.symm)
      replace o:=below_setRow (g:=sb) o z1 cs1
      obtain ⟨w3,hw3⟩:∃ x,x=w2.setRow sb cs1:=⟨_,rfl⟩
      rw [← hw3] at S R B OW in2 o ⊢
      clear hw3
      obtain ⟨B0,B1,_,_⟩:=row_two B
      rw [← hcs1.out] at S s1
      clear hcs1
      go_wp2_with (with_reducible refine wpList_lsyn S s1 rfl _ rfl rfl ?_)
      refine (PD.out _ _ _ _ in2).mono ?_
      rintro e w4 ⟨A3,m3,c3,rfl,in3,hb,fr3⟩
      have yS:=row_lt S
      have yR:=row_lt R
      have yB:=row_lt B
      have yW:=fun g (e:u9.ownBlock=some g)=>(OW.lt g e).2
      have frB:0<m3→∀ a,A3=some a→a.block≠sb∧a.block≠w.heap.size+1∧a.block≠ib∧u9.ownBlock≠some a.block:=fun hm a e=>by
        rcases fr3 hm a e with h | ⟨h0,a',ea,h⟩
        · exact ⟨by omega,by omega,by omega,fun x=>by have:=yW _ x;omega⟩
        · rw [← h]
          exact frA h0 a' ea
      replace S:=row_call S hb
      replace R:=row_call R hb
      replace B:=row_call B hb
      replace OW:=orow_keep OW (fun g e=>hb.block g (OW.lt g e).2)
      replace o:=o.trans (hb.mono o.size)
      have xS:=row_lt S
      have xR:=row_lt R
      have xB:=row_lt B
      have xW:=fun g (e:u9.ownBlock=some g)=>(OW.lt g e).2
      have hs2:=S2.out A3 m3 c3
      have o2:=O2.out A3 m3 c3
      generalize hcs2:csf (lk ++ [⟨tk,vk⟩]) tk A3 m3 c3=cs2 at hs2 o2 ⊢
      replace hcs2:=Lib.hid hcs2
      have TZ:Row (w4.alloc (.cells #[.int .i64 0, .int .i64 0, .int .i64 0, .int .i64 0, .int .i64 0, .int .i64 0, .int .i64 0, .int .i64 0, .int .i64 0, .int .i64 0, .int .i64 0, .slice none 0 0, .int .i64 0, .int .i64 0, .int .i64 0, .int .i64 0, .slice none 0 0, .int .i64 0, .int .i64 0, .int .i64 0, .int .i64 0, .int .i64 0, .slice none 0 0, .int .i64 0, .int .i64 0, .int .i64 0, .int .i64 0, .int .i64 0, .int .i64 0, .slice none 0 0, .int .i64 0, .int .i64 0, .int .i64 0, .int .i64 0, .int .i64 0, .slice none 0 0, .int .i64 0, .int .i64 0, .int .i64 0, .slice none 0 0, .int .i64 0, .slice none 0 0, .bool false, .int .i64 0, .int .i64 0, .int .i64 0, .slice none 0 0, .slice none 0 0, .int .i64 0, .int .i64 0, .int .i64 0, .slice none 0 0, .int .i64 0, .int .i64 0, .int .i64 0, .int .i64 0, .slice none 0 0] 58)) w4.heap.size 58 #[.int .i64 0, .int .i64 0, .int .i64 0, .int .i64 0, .int .i64 0, .int .i64 0, .int .i64 0, .int .i64 0, .int .i64 0, .int .i64 0, .int .i64 0, .slice none 0 0, .int .i64 0, .int .i64 0, .int .i64 0, .int .i64 0, .slice none 0 0, .int .i64 0, .int .i64 0, .int .i64 0, .int .i64 0, .int .i64 0, .slice none 0 0, .int .i64 0, .int .i64 0, .int .i64 0, .int .i64 0, .int .i64 0, .int .i64 0, .slice none 0 0, .int .i64 0, .int .i64 0, .int .i64 0, .int .i64 0, .int .i64 0, .slice none 0 0, .int .i64 0, .int .i64 0, .int .i64 0, .slice none 0 0, .int .i64 0, .slice none 0 0, .bool false, .int .i64 0, .int .i64 0, .int .i64 0, .slice none 0 0, .slice none 0 0, .int .i64 0, .int .i64 0, .int .i64 0, .slice none 0 0, .int .i64 0, .int .i64 0, .int .i64 0, .int .i64 0, .slice none 0 0]:=row_new rfl
      go_upto_region 14 with (with_reducible refine wpList_ssyn TZ rfl hs2 o2 rfl _ _ rfl rfl rfl ?_)
      clear B0 B1 hb yS yR yB yW fr3 PD frA
      have T:=row_setRow (cs:=cs2) TZ
      have hb3:=IO2.blk in3
      have htb:0<m3→∀ a,A3=some a→a.block≠w4.heap.size:=fun hm a e=>by have:=hb3 hm a e;omega
      replace in3:=IO2.setr (g:=w4.heap.size) cs2 (IO2.below in3 ((Below.refl _ _).alloc (Nat.le_refl _) (.cells #[.int .i64 0, .int .i64 0, .int .i64 0, .int .i64 0, .int .i64 0, .int .i64 0, .int .i64 0, .int .i64 0, .int .i64 0, .int .i64 0, .int .i64 0, .slice none 0 0, .int .i64 0, .int .i64 0, .int .i64 0, .int .i64 0, .slice none 0 0, .int .i64 0, .int .i64 0, .int .i64 0, .int .i64 0, .int .i64 0, .slice none 0 0, .int .i64 0, .int .i64 0, .int .i64 0, .int .i64 0, .int .i64 0, .int .i64 0, .slice none 0 0, .int .i64 0, .int .i64 0, .int .i64 0, .int .i64 0, .int .i64 0, .slice none 0 0, .int .i64 0, .int .i64 0, .int .i64 0, .slice none 0 0, .int .i64 0, .slice none 0 0, .bool false, .int .i64 0, .int .i64 0, .int .i64 0, .slice none 0 0, .slice none 0 0, .int .i64 0, .int .i64 0, .int .i64 0, .slice none 0 0, .int .i64 0, .int .i64 0, .int .i64 0, .int .i64 0, .slice none 0 0] 58))) (fun hm a e=>(htb hm a e).symm)
      replace S:=row_setRow_other (g:=w4.heap.size) (cs':=cs2) (row_alloc S (.cells #[.int .i64 0, .int .i64 0, .int .i64 0, .int .i64 0, .int .i64 0, .int .i64 0, .int .i64 0, .int .i64 0, .int .i64 0, .int .i64 0, .int .i64 0, .slice none 0 0, .int .i64 0, .int .i64 0, .int .i64 0, .int .i64 0, .slice none 0 0, .int .i64 0, .int .i64 0, .int .i64 0, .int .i64 0, .int .i64 0, .slice none 0 0, .int .i64 0, .int .i64 0, .int .i64 0, .int .i64 0, .int .i64 0, .int .i64 0, .slice none 0 0, .int .i64 0, .int .i64 0, .int .i64 0, .int .i64 0, .int .i64 0, .slice none 0 0, .int .i64 0, .int .i64 0, .int .i64 0, .slice none 0 0, .int .i64 0, .slice none 0 0, .bool false, .int .i64 0, .int .i64 0, .int .i64 0, .slice none 0 0, .slice none 0 0, .int .i64 0, .int .i64 0, .int .i64 0, .slice none 0 0, .int .i64 0, .int .i64 0, .int .i64 0, .int .i64 0, .slice none 0 0] 58)) (by omega)
      replace R:=row_setRow_other (g:=w4.heap.size) (cs':=cs2) (row_alloc R (.cells #[.int .i64 0, .int .i64 0, .int .i64 0, .int .i64 0, .int .i64 0, .int .i64 0, .int .i64 0, .int .i64 0, .int .i64 0, .int .i64 0, .int .i64 0, .slice none 0 0, .int .i64 0, .int .i64 0, .int .i64 0, .int .i64 0, .slice none 0 0, .int .i64 0, .int .i64 0, .int .i64 0, .int .i64 0, .int .i64 0, .slice none 0 0, .int .i64 0, .int .i64 0, .int .i64 0, .int .i64 0, .int .i64 0, .int .i64 0, .slice none 0 0, .int .i64 0, .int .i64 0, .int .i64 0, .int .i64 0, .int .i64 0, .slice none 0 0, .int .i64 0, .int .i64 0, .int .i64 0, .slice none 0 0, .int .i64 0, .slice none 0 0, .bool false, .int .i64 0, .int .i64 0, .int .i64 0, .slice none 0 0, .slice none 0 0, .int .i64 0, .int .i64 0, .int .i64 0, .slice none 0 0, .int .i64 0, .int .i64 0, .int .i64 0, .int .i64 0, .slice none 0 0] 58)) (by omega)
      replace B:=row_setRow_other (g:=w4.heap.size) (cs':=cs2) (row_alloc B (.cells #[.int .i64 0, .int .i64 0, .int .i64 0, .int .i64 0, .int .i64 0, .int .i64 0, .int .i64 0, .int .i64 0, .int .i64 0, .int .i64 0, .int .i64 0, .slice none 0 0, .int .i64 0, .int .i64 0, .int .i64 0, .int .i64 0, .slice none 0 0, .int .i64 0, .int .i64 0, .int .i64 0, .int .i64 0, .int .i64 0, .slice none 0 0, .int .i64 0, .int .i64 0, .int .i64 0, .int .i64 0, .int .i64 0, .int .i64 0, .slice none 0 0, .int .i64 0, .int .i64 0, .int .i64 0, .int .i64 0, .int .i64 0, .slice none 0 0, .int .i64 0, .int .i64 0, .int .i64 0, .slice none 0 0, .int .i64 0, .slice none 0 0, .bool false, .int .i64 0, .int .i64 0, .int .i64 0, .slice none 0 0, .slice none 0 0, .int .i64 0, .int .i64 0, .int .i64 0, .slice none 0 0, .int .i64 0, .int .i64 0, .int .i64 0, .int .i64 0, .slice none 0 0] 58)) (by omega)
      replace OW:=orow_keep (OW.alloc (.cells #[.int .i64 0, .int .i64 0, .int .i64 0, .int .i64 0, .int .i64 0, .int .i64 0, .int .i64 0, .int .i64 0, .int .i64 0, .int .i64 0, .int .i64 0, .slice none 0 0, .int .i64 0, .int .i64 0, .int .i64 0, .int .i64 0, .slice none 0 0, .int .i64 0, .int .i64 0, .int .i64 0, .int .i64 0, .int .i64 0, .slice none 0 0, .int .i64 0, .int .i64 0, .int .i64 0, .int .i64 0, .int .i64 0, .int .i64 0, .slice none 0 0, .int .i64 0, .int .i64 0, .int .i64 0, .int .i64 0, .int .i64 0, .slice none 0 0, .int .i64 0, .int .i64 0, .int .i64 0, .slice none 0 0, .int .i64 0, .slice none 0 0, .bool false, .int .i64 0, .int .i64 0, .int .i64 0, .slice none 0 0, .slice none 0 0, .int .i64 0, .int .i64 0, .int .i64 0, .slice none 0 0, .int .i64 0, .int .i64 0, .int .i64 0, .int .i64 0, .slice none 0 0] 58)) (fun g e=>heap_setRow_other _ w4.heap.size cs2 g (fun x=>by have:=xW g e;omega))
      replace o:=below_setRow (g:=w4.heap.size) (o.alloc o.size (.cells #[.int .i64 0, .int .i64 0, .int .i64 0, .int .i64 0, .int .i64 0, .int .i64 0, .int .i64 0, .int .i64 0, .int .i64 0, .int .i64 0, .int .i64 0, .slice none 0 0, .int .i64 0, .int .i64 0, .int .i64 0, .int .i64 0, .slice none 0 0, .int .i64 0, .int .i64 0, .int .i64 0, .int .i64 0, .int .i64 0, .slice none 0 0, .int .i64 0, .int .i64 0, .int .i64 0, .int .i64 0, .int .i64 0, .int .i64 0, .slice none 0 0, .int .i64 0, .int .i64 0, .int .i64 0, .int .i64 0, .int .i64 0, .slice none 0 0, .int .i64 0, .int .i64 0, .int .i64 0, .slice none 0 0, .int .i64 0, .slice none 0 0, .bool false, .int .i64 0, .int .i64 0, .int .i64 0, .slice none 0 0, .slice none 0 0, .int .i64 0, .int .i64 0, .int .i64 0, .slice none 0 0, .int .i64 0, .int .i64 0, .int .i64 0, .int .i64 0, .slice none 0 0] 58)) o.size cs2
      obtain ⟨w6,hw6⟩:∃ x,x=(w4.alloc (.cells #[.int .i64 0, .int .i64 0, .int .i64 0, .int .i64 0, .int .i64 0, .int .i64 0, .int .i64 0, .int .i64 0, .int .i64 0, .int .i64 0, .int .i64 0, .slice none 0 0, .int .i64 0, .int .i64 0, .int .i64 0, .int .i64 0, .slice none 0 0, .int .i64 0, .int .i64 0, .int .i64 0, .int .i64 0, .int .i64 0, .slice none 0 0, .int .i64 0, .int .i64 0, .int .i64 0, .int .i64 0, .int .i64 0, .int .i64 0, .slice none 0 0, .int .i64 0, .int .i64 0, .int .i64 0, .int .i64 0, .int .i64 0, .slice none 0 0, .int .i64 0, .int .i64 0, .int .i64 0, .slice none 0 0, .int .i64 0, .slice none 0 0, .bool false, .int .i64 0, .int .i64 0, .int .i64 0, .slice none 0 0, .slice none 0 0, .int .i64 0, .int .i64 0, .int .i64 0, .slice none 0 0, .int .i64 0, .int .i64 0, .int .i64 0, .int .i64 0, .slice none 0 0] 58)).setRow w4.heap.size cs2:=⟨_,rfl⟩
      rw [← hw6] at T S R B OW in3 o ⊢
      clear hw6 TZ hb3
      generalize w4.heap.size=tb at T xS xR xB xW htb ⊢
      refine wp_region_phase 5 (fun w'=>Row w' tb 58 cs2∧Row w' ib 90 #[.int .i64 tk, .int .i64 vk]) (by kernel_rfl) (by kernel_rfl) (by kernel_rfl) (by kernel_rfl) (by kernel_rfl) (fun HOK=>?_)
      have HS:=(⟨row_drew T,row_drew B⟩:Row w6.drew tb 58 cs2∧Row w6.drew ib 90 #[.int .i64 tk, .int .i64 vk])
      (refine hw_take HOK (i:=0) (.agg cs2) rfl (by decide) (by kernel_rfl) (by kernel_rfl) (by exact fun _ _ _ h=>h) (Or.inl ⟨by rfl,fun w' hS=>exec_lsyn hS.1 hs2 _ rfl rfl⟩) HS ?_;try simp only [put9])
      (refine hw_take HOK (i:=1) ?_ rfl (by decide) (by kernel_rfl) (by kernel_rfl) (by exact fun _ _ _ h=>h) (Or.inl ⟨by rfl,fun w' hS=>?_⟩) HS ?_;rotate_left;(go_simp;try with_reducible rfl);simp only [put9])
      (refine hw_take HOK (i:=2) ?_ rfl (by decide) (by kernel_rfl) (by kernel_rfl) (by exact fun _ _ _ h=>h) (Or.inl ⟨by rfl,fun w' hS=>?_⟩) HS ?_;rotate_left;(obtain ⟨B0,B1,Bf0,Bf1⟩:=row_two hS.2;go_simp;try with_reducible rfl);simp only [put9])
      replace T:Row w6.drew tb 58 cs2:=T
      replace B:Row w6.drew ib 90 #[.int .i64 tk, .int .i64 vk]:=B
      replace S:Row w6.drew sb 58 (csf lk tk A2 m2 c2):=S
      replace R:Row w6.drew (w.heap.size+1) 58 #[.int .i64 0, .int .i64 0, .int .i64 0, .int .i64 0, .int .i64 0, .int .i64 0, .int .i64 0, .int .i64 0, .int .i64 0, .int .i64 0, .int .i64 0, .slice none 0 0, .int .i64 0, .int .i64 0, .int .i64 0, .int .i64 0, .slice none 0 0, .int .i64 0, .int .i64 0, .int .i64 0, .int .i64 0, .int .i64 0, .slice none 0 0, .int .i64 0, .int .i64 0, .int .i64 0, .int .i64 0, .int .i64 0, .int .i64 0, .slice none 0 0, .int .i64 0, .int .i64 0, .int .i64 0, .int .i64 0, .int .i64 0, .slice none 0 0, .int .i64 0, .int .i64 0, .int .i64 0, .slice none 0 0, .int .i64 0, .slice none 0 0, .bool false, .int .i64 0, .int .i64 0, .int .i64 0, .slice none 0 0, .slice none 0 0, .int .i64 0, .int .i64 0, .int .i64 0, .slice none 0 0, .int .i64 0, .int .i64 0, .int .i64 0, .int .i64 0, .slice none 0 0]:=R
      replace OW:w6.drew.ownsRow w.heap.size 90 2 u9 k (icells lk):=OW
      replace in3:=IO2.keep (w':=w6.drew) in3 (Nat.le_refl _) (fun _ _ _=>rfl)
      replace o:=o.drew
      clear HS
      generalize w6.drew=w7 at *
      have RA:Reads (w7.alloc (.cells #[.int .i64 tk, .int .i64 vk] 90)) (w7.alloc (.cells #[.int .i64 tk, .int .i64 vk] 90)).heap.size 2 (some ⟨w7.heap.size,0,none⟩) 1 #[.int .i64 tk, .int .i64 vk].toList:=(own_new (w:=w7) (e:=90) (size:=2) (n:=1) (cs:=#[.int .i64 tk, .int .i64 vk]) rfl (by unfold maxLen;omega) (by first | (simp;done) | omega | decide)).reads
      have z7:=o.size
      replace T:=row_alloc T (.cells #[.int .i64 tk, .int .i64 vk] 90)
      replace B:=row_alloc B (.cells #[.int .i64 tk, .int .i64 vk] 90)
      replace S:=row_alloc S (.cells #[.int .i64 tk, .int .i64 vk] 90)
      replace R:=row_alloc R (.cells #[.int .i64 tk, .int .i64 vk] 90)
      replace OW:=OW.alloc (.cells #[.int .i64 tk, .int .i64 vk] 90)
      replace in3:=IO2.below in3 ((Below.refl _ _).alloc (Nat.le_refl _) (.cells #[.int .i64 tk, .int .i64 vk] 90))
      replace o:=o.alloc o.size (.cells #[.int .i64 tk, .int .i64 vk] 90)
      refine hw_one (i:=3) rfl (by decide) (by kernel_rfl) (fun K hK=>?_)
      go_simp
      refine hK _ (w7.alloc (.cells #[.int .i64 tk, .int .i64 vk] 90)) ⟨T,B⟩ ?_
      clear hK K
      generalize w7.alloc (.cells #[.int .i64 tk, .int .i64 vk] 90)=w8 at T B S R OW in3 o RA ⊢
      generalize w7.heap.size=ga at RA ⊢
      try simp only [put9]
      have nS:=orow_ne_row OW S (by decide)
      have nT:=orow_ne_row OW T (by decide)
      have nR:=orow_ne_row OW R (by decide)
      have nB:u9.ownBlock≠some ib:=fun e=>by have:=zW ib e;omega
      have hb4:=IO2.blk in3
      have frC:0<m3→∀ a,A3=some a→a.block≠sb∧a.block≠w.heap.size+1∧u9.ownBlock≠some a.block:=fun hm a e=>⟨(frB hm a e).1,(frB hm a e).2.1,(frB hm a e).2.2.2⟩
      have z8:=o.size
      have z9:=row_lt S
      replace frC:=Lib.hid frC
      clear frB htb zS zR zW xS xR xB xW
      refine hw_one (i:=4) rfl (by decide) (by kernel_rfl) (fun K hK=>?_)
      refine step_append_any w8 rfl _ _ 22 rfl w.heap.size 90 ii (.agg #[.int .i64 0, .int .i64 0]) 2 16 Tryz.underlying22 hii iz0 iz1 iz2 rfl (by decide) u9 k (icells lk) rfl OW w8.heap.size (some ⟨ga,0,none⟩) 1 1 #[.int .i64 tk, .int .i64 vk].toList rfl RA (by simp [Value.oneCell']) (by unfold maxLen;omega) (by omega) z8 ?_
      intro v6 w9 own6 hg6 hat6
      replace T:=row_grown T hg6 nT
      replace B:=row_grown B hg6 nB
      replace S:=row_grown S hg6 nS
      replace R:=row_grown R hg6 nR
      have in4:=IO2.keep in3 hg6.size (fun hm a e=>hg6.block _ (hb4 hm a e) (fun x=>(frC.out hm a e).2.2 x.symm))
      replace o:=below_grown o hg6 (fun b e=>(OW.lt b e).1) o.size
      refine hK _ _ ⟨T,B⟩ ?_
      clear hK K
      try simp only [put9]
      refine hw_done (by kernel_rfl) ?_
      try simp only [List.drop_succ_cons,List.drop_zero]
      clear HOK
      have O4:=(IO2.keep (w':=w9.setRow sb cs2) in4 (by rw [size_setRow];exact Nat.le_refl _) (fun hm a e=>heap_setRow_other w9 sb cs2 a.block (fun x=>(frC.out hm a e).1 x)))
      have fW:v6.ownBlock≠some sb∧(0<m3→∀ a,A3=some a→v6.ownBlock≠some a.block):=by
        rcases hat6 with h | h<;>rw [h]
        · exact ⟨nS,fun hm a e=>(frC.out hm a e).2.2⟩
        · exact ⟨fun x=>by have:=Option.some.inj x;omega,fun hm a e x=>by have:=Option.some.inj x;have:=hb4 hm a e;omega⟩
      go_wp2_with (with_reducible refine wpList_ssyn S s1 hs2 o2 rfl _ _ rfl rfl rfl ?_)
      go_roundw
      case rel =>
        refine ⟨k+1,A3,m3,c3,by omega,by go_num,rfl,?_,?_,row_setRow_other R (by omega),?_,Lib.hid (fun hm a e=>⟨(frC.out hm a e).1,(frC.out hm a e).2.1,fW.2 hm a e⟩),below_setRow o z1 cs2⟩
        · rw [eT.out,icells_append]
          exact orow_keep own6 (fun g e=>heap_setRow_other w9 sb cs2 g (fun x=>fW.1 (x ▸ e)))
        · rw [eT.out,eN.out,hcs2.out]
          exact row_setRow S
        · rw [eT.out,eN.out]
          exact O4
      case measure=>simp [intOf];omega
    · have i1:¬ (k:Int)<(n:Int):=by omega
      obtain rfl:k=n:=by omega
      have hn2:l.take k=l:=List.take_of_length_le (by rw [HL.out];exact Nat.le_refl _)
      rw [hn2] at OW S in1
      have hs0:=HK.out.size l (nowK l k) A m c
      have h1:=HK.out.one l (nowK l k) A m c
      have IO0:=HK.out.inok l (nowK l k)
      have hlk:l.length=k:=HL.out
      have nWR:=orow_ne_row OW R (by decide)
      generalize hcs0:csf l (nowK l k) A m c=cs0 at S hs0 h1
      go_wp2_with (first | (with_reducible refine wpList_lsyn S hs0 rfl _ rfl rfl ?_) | (with_reducible refine wpList_ssyn R rfl hs0 h1 rfl _ _ rfl rfl rfl ?_))
      have R9:=row_setRow (cs:=cs0) R
      refine bodyPost_ret (v := .tuple #[.agg cs0,u9, .bool true]) ?_ rfl ?_
      · exact results_syn3 (p:=4) (q:=5) (r:=6) rfl _ R9 hs0 rfl
      · subst hlk
        refine ⟨A,m,c,u9,by rw [hcs0],IO0.setr _ in1 (fun hm a e=>(fr.out hm a e).2.1.symm),orow_keep OW (fun g e=>heap_setRow_other wr (w.heap.size+1) cs0 g (fun x=>nWR (x ▸ e))),below_setRow o (by omega) _⟩
end Go.Proofs.YtdipoojjlddohaaGreat
end
section
/- Plain facts on products of signed numbers: no program is in sight. -/
namespace Go.Proofs.YtdipoojjlddohaaGreat
open Go.RowKit
def icmp (p q:Int):Int:=if p<q then -1 else if p=q then 0 else 1
def pabs (a b:Int):Nat:=a.natAbs*b.natAbs
def sneg (a b:Int):Bool:=decide (a<0) != decide (b<0)
def pneg (a b:Int):Bool:=sneg a b && !decide (pabs a b=0)
def isign (a:Int):Int:=if a<0 then -1 else if 0<a then 1 else 0
theorem i64_abs {a:Int} (h : -9223372036854775808≤a∧a≤9223372036854775807):a.natAbs<18446744073709551616:=by omega
theorem pabs_eq (a b:Int):pabs a b=(a*b).natAbs:=(Int.natAbs_mul a b).symm
theorem pneg_eq (a b:Int):pneg a b=decide (a*b<0):=by
  have hz:pabs a b=0↔a=0∨b=0:=by
    unfold pabs
    rw [Nat.mul_eq_zero]
    omega
  unfold pneg sneg
  rcases Int.lt_trichotomy a 0 with h | h | h<;>rcases Int.lt_trichotomy b 0 with k | k | k
  · have:=Int.mul_pos_of_neg_of_neg h k
    simp [h,k];omega
  · subst k;simp [h,hz]
  · have:=Int.mul_neg_of_neg_of_pos h k
    have n0:¬ b<0:=by omega
    have:¬ (pabs a b=0):=by rw [hz];omega
    simp [h,n0,this];omega
  · subst h;simp [k,hz]
  · subst h;subst k;simp
  · subst h;simp [hz]<;>omega
  · have:=Int.mul_neg_of_pos_of_neg h k
    have n0:¬ a<0:=by omega
    have:¬ (pabs a b=0):=by rw [hz];omega
    simp [k,n0,this];omega
  · subst k;simp [hz]<;>omega
  · have:=Int.mul_pos h k
    have n0:¬ a<0:=by omega
    have n1:¬ b<0:=by omega
    simp [n0,n1];omega
def pcrossV (m n:Bool) (x y:Nat):Int:=if m then (if n then cmp y x else -1) else (if n then 1 else cmp x y)
theorem cross_is (a b c d:Int):pcrossV (pneg a b) (pneg c d) (pabs a b) (pabs c d)=icmp (a*b) (c*d):=by
  rw [pneg_eq,pneg_eq,pabs_eq,pabs_eq]
  generalize a*b=p
  generalize c*d=q
  unfold pcrossV icmp cmp
  by_cases h:p<0<;>by_cases k:q<0<;>simp only [h,k,decide_true,decide_false,if_true,if_false,Bool.false_eq_true]<;>repeat (first | omega | split)
def rcrossV (p q:Int) (x y:Nat):Int:=if p<q then -1 else if q<p then 1 else p*cmp x y
end Go.Proofs.YtdipoojjlddohaaGreat
end
