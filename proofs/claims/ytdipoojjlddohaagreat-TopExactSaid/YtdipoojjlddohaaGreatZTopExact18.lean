/- What the law TopExact needs, joined of its texts by a program (slim2.py); part 18. -/
import Derived.Test.YtdipoojjlddohaaGreatZTopExact1
import Derived.Test.YtdipoojjlddohaaGreatZTopExact12
import Derived.Test.YtdipoojjlddohaaGreatZTopExact14
import Derived.Test.YtdipoojjlddohaaGreatZTopExact17
set_option linter.unusedVariables false
set_option linter.unusedSimpArgs false
set_option linter.unusedSectionVars false
set_option linter.unnecessarySimpa false
section
/- The deque of a window: what it keeps of the items, and that its first element is the extreme of the live ones; plain. -/
namespace Go.Proofs.YtdipoojjlddohaaGreat
def exKey (g:Bool) (v:Int):Int:=if g then v else -v
def exR (g:Bool) (a b:Itm):Prop:=a.t<b.t∧exKey g b.v<exKey g a.v
structure DQ (g:Bool) (its:List Itm) (now wd:Int) (l:List Itm):Prop where
  sub:∀ y∈l,y∈its
  liv:∀ y∈l,now-wd<y.t
  cov:∀ x∈its,now-wd<x.t→∃ y∈l,x.t≤y.t∧exKey g x.v≤exKey g y.v
  ord:l.Pairwise (exR g)
  rng:∀ x∈its,(0≤x.t∧x.t≤now) ∧ -4096≤x.v∧x.v≤4096
theorem DQ.nil (g:Bool) (now wd:Int):DQ g [] now wd []:=⟨by simp,by simp,by simp,List.Pairwise.nil,by simp⟩
theorem DQ.tick {g:Bool} {its l:List Itm} {now wd tt9:Int} (h:DQ g its now wd l) (hto:now≤tt9) (j:Nat) (hj:∀ y∈l.take j,y.t≤tt9-wd) (hl:∀ y∈l.drop j,tt9-wd<y.t):DQ g its tt9 wd (l.drop j):=by
  refine ⟨fun y hy=>h.sub y (List.mem_of_mem_drop hy),hl,fun x hx hxl=>?_,?_,fun x hx=>?_⟩
  · obtain ⟨y,hy,h1,h2⟩:=h.cov x hx (by omega)
    refine ⟨y,?_,h1,h2⟩
    rw [← List.take_append_drop j l] at hy
    rcases List.mem_append.1 hy with hy | hy
    · have:=hj y hy
      omega
    · exact hy
  · have:=h.ord
    rw [← List.take_append_drop j l] at this
    exact (List.pairwise_append.1 this).2.1
  · have:=h.rng x hx
    omega
theorem DQ.add {g:Bool} {its l:List Itm} {now wd v:Int} (h:DQ g its now wd l) (h0:0≤now) (hw:1≤wd) (hv : -4096≤v∧v≤4096) (j:Nat) (hj:∀ y∈l.drop j,exKey g y.v≤exKey g v) (hl:∀ y∈l.take j,exKey g v<exKey g y.v) :
    ((∀ y∈l.take j,y.t<now)→DQ g (its ++ [⟨now,v⟩]) now wd (l.take j ++ [⟨now,v⟩]))∧((∃ y∈l.take j,y.t=now)→DQ g (its ++ [⟨now,v⟩]) now wd (l.take j)):=by
  have hord:=h.ord
  rw [← List.take_append_drop j l] at hord
  have hot:=(List.pairwise_append.1 hord).1
  have hrng:∀ x∈its ++ [(⟨now,v⟩:Itm)],(0≤x.t∧x.t≤now) ∧ -4096≤x.v∧x.v≤4096:=fun x hx=>by
    rcases List.mem_append.1 hx with hx | hx
    · exact h.rng x hx
    · obtain rfl:x=⟨now,v⟩:=by simpa using hx
      exact ⟨⟨h0,Int.le_refl _⟩,hv⟩
  -- an item of the old list is covered by the front, or by the new one
  have hc:∀ x∈its,now-wd<x.t→(∃ y∈l.take j,x.t≤y.t∧exKey g x.v≤exKey g y.v)∨(x.t≤now∧exKey g x.v≤exKey g v):=fun x hx hxl=>by
    obtain ⟨y,hy,h1,h2⟩:=h.cov x hx hxl
    rw [← List.take_append_drop j l] at hy
    rcases List.mem_append.1 hy with hy | hy
    · exact .inl ⟨y,hy,h1,h2⟩
    · have:=hj y hy
      exact .inr ⟨(h.rng x hx).1.2,by omega⟩
  constructor
  · intro hlt
    refine ⟨fun y hy=>?_,fun y hy=>?_,fun x hx hxl=>?_,?_,hrng⟩
    · rcases List.mem_append.1 hy with hy | hy
      · exact List.mem_append_left _ (h.sub y (List.mem_of_mem_take hy))
      · exact List.mem_append_right _ hy
    · rcases List.mem_append.1 hy with hy | hy
      · exact h.liv y (List.mem_of_mem_take hy)
      · obtain rfl:y=⟨now,v⟩:=by simpa using hy
        show now-wd<now
        omega
    · rcases List.mem_append.1 hx with hx | hx
      · rcases hc x hx hxl with ⟨y,hy,h1,h2⟩ | ⟨h1,h2⟩
        · exact ⟨y,List.mem_append_left _ hy,h1,h2⟩
        · exact ⟨⟨now,v⟩,by simp,h1,h2⟩
      · obtain rfl:x=⟨now,v⟩:=by simpa using hx
        exact ⟨⟨now,v⟩,by simp,Int.le_refl _,Int.le_refl _⟩
    · refine List.pairwise_append.2 ⟨hot,by simp,fun a ha b hb=>?_⟩
      obtain rfl:b=⟨now,v⟩:=by simpa using hb
      exact ⟨hlt a ha,hl a ha⟩
  · rintro ⟨z,hz,hzt⟩
    refine ⟨fun y hy=>List.mem_append_left _ (h.sub y (List.mem_of_mem_take hy)),fun y hy=>h.liv y (List.mem_of_mem_take hy),fun x hx hxl=>?_,hot,hrng⟩
    have hzk:=hl z hz
    rcases List.mem_append.1 hx with hx | hx
    · rcases hc x hx hxl with ⟨y,hy,h1,h2⟩ | ⟨h1,h2⟩
      · exact ⟨y,hy,h1,h2⟩
      · exact ⟨z,hz,by omega,by omega⟩
    · obtain rfl:x=⟨now,v⟩:=by simpa using hx
      exact ⟨z,hz,by show now≤z.t;omega,by show exKey g v≤_;omega⟩
theorem DQ.ask {g:Bool} {its:List Itm} {now wd:Int} {y:Itm} {l:List Itm} (h:DQ g its now wd (y :: l)):y∈liveI now wd its∧∀ x∈liveI now wd its,exKey g x.v≤exKey g y.v:=by
  have hy:=h.sub y (by simp)
  refine ⟨List.mem_filter.2 ⟨hy,decide_eq_true ⟨h.liv y (by simp),(h.rng y hy).1.2⟩⟩,fun x hx=>?_⟩
  obtain ⟨hx,hd⟩:=List.mem_filter.1 hx
  have hd:=of_decide_eq_true hd
  obtain ⟨z,hz,_,h2⟩:=h.cov x hx hd.1
  rcases List.mem_cons.1 hz with rfl | hz
  · exact h2
  · have:=(List.pairwise_cons.1 h.ord).1 z hz
    have:=this.2
    omega
theorem DQ.none {g:Bool} {its:List Itm} {now wd:Int} (h:DQ g its now wd []):liveI now wd its=[]:=by
  unfold liveI
  rw [List.filter_eq_nil_iff]
  intro x hx hd
  obtain ⟨z,hz,_⟩:=h.cov x hx (of_decide_eq_true hd).1
  cases hz
theorem exR_len {g:Bool}:∀ (l:List Itm) (lo hi:Int),l.Pairwise (exR g)→(∀ y∈l,lo<y.t∧y.t≤hi)→(l.length:Int)≤max (hi-lo) 0
  | [],lo,hi,_,_=>by simp;omega
  | y :: l,lo,hi,h,hb=>by
    have hy:=hb y (by simp)
    have:=exR_len l y.t hi (List.pairwise_cons.1 h).2 (fun z hz=>⟨((List.pairwise_cons.1 h).1 z hz).1,(hb z (List.mem_cons_of_mem _ hz)).2⟩)
    simp only [List.length_cons]
    omega
theorem DQ.len {g:Bool} {its l:List Itm} {now wd:Int} (h:DQ g its now wd l) (hw:0≤wd):(l.length:Int)≤wd:=by
  have:=exR_len l (now-wd) now h.ord (fun y hy=>⟨h.liv y hy,(h.rng y (h.sub y hy)).1.2⟩)
  omega
end Go.Proofs.YtdipoojjlddohaaGreat
end
section
/- The deque of a window in memory; beats, good, New, Validate, walked. -/
namespace Go.Proofs.YtdipoojjlddohaaGreat
open Go.RowKit
structure DIn (A:Option Addr) (m c:Nat) (l:List Itm) (w:World):Prop where
  reads:Reads w w.heap.size 2 A m (icells l)
  mc:m≤c
  cB:c≤maxLen
theorem DIn.below {A:Option Addr} {m c:Nat} {l:List Itm} {w w':World} (h:DIn A m c l w) (hb:Below w.heap.size w w'):DIn A m c l w':=⟨(h.reads.below hb).more hb.size,h.mc,h.cB⟩
theorem DIn.len {A:Option Addr} {m c:Nat} {l:List Itm} {w:World} (h:DIn A m c l w):l.length=m:=h.reads.itm_len
theorem DIn.nil {w:World}:DIn none 0 0 [] w:=⟨by simpa [icells] using Reads.none_,Nat.le_refl _,Nat.zero_le _⟩
theorem DIn.of_own {g m c:Nat} {l:List Itm} {w:World} (h:Own w 90 2 g m c (icells l)):DIn (some ⟨g,0,none⟩) m c l w:=⟨h.reads,h.cap.1,h.cap.2⟩
theorem DIn.none_at {A:Option Addr} {c:Nat} {w:World} (hc:c≤maxLen):DIn A 0 c [] w:=⟨⟨rfl,fun h=>by omega⟩,Nat.zero_le _,hc⟩
theorem DIn.tail {ad:Addr} {m c:Nat} {a:Itm} {l:List Itm} {w:World} (h:DIn (some ad) m c (a :: l) w):DIn (some ⟨ad.block,ad.off+2,none⟩) (m-1) (c-1) l w:=by
  rw [← addr_lit ad 2 (by decide)]
  have hl:=h.len
  simp at hl
  refine ⟨⟨by have:=h.reads.1;rw [icells_cons] at this;simp at this;omega,fun hn=>?_⟩,by have:=h.mc;omega,by have:=h.cB;omega⟩
  obtain ⟨ad',e',hb,hc⟩:=h.reads.2 (by omega)
  obtain rfl:ad=ad':=by injection e'
  refine ⟨_,rfl,by rw [block_of_add];exact hb,fun j u hu=>?_⟩
  rw [add_of_add]
  exact hc (2+j) u (by rw [icells_cons,show 2+j=j+1+1 by omega];simpa using hu)
theorem DIn.cut {A:Option Addr} {m c:Nat} {l:List Itm} {w:World} (h:DIn A m c l w) {k:Nat} (hk:k≤m):DIn A k c (l.take k) w:=by
  have hl:=h.len
  refine ⟨⟨by rw [icells_len,List.length_take];omega,fun hn=>?_⟩,by have:=h.mc;omega,h.cB⟩
  obtain ⟨ad,e,hb,hc⟩:=h.reads.2 (by omega)
  refine ⟨ad,e,hb,fun j u hu=>hc j u ?_⟩
  have e2:icells l=icells (l.take k) ++ icells (l.drop k):=by rw [← icells_append,List.take_append_drop]
  rw [e2,List.getElem?_append_left (by rcases Nat.lt_or_ge j (icells (l.take k)).length with q | q;exact q;rw [List.getElem?_eq_none q] at hu;cases hu)]
  exact hu
theorem inOK_it (P:List Itm→Prop):InOK (fun A m c w=>∃ l,DIn A m c l w∧P l) :=
  ⟨fun ⟨l,h,hp⟩ hb=>⟨l,h.below hb,hp⟩,
   fun u ⟨l,h,hp⟩ hne=>⟨l,⟨reads_keep0 h.reads (size_setCell _ _) (fun h0 a e=>Below.heap_setCell _ _ u a.block (fun x=>hne h0 a e x.symm)),h.mc,h.cB⟩,hp⟩,
   fun cs ⟨l,h,hp⟩ hne=>⟨l,⟨reads_keep0 h.reads (size_setRow _ _ _) (fun h0 a e=>heap_setRow_other _ _ cs a.block (fun x=>hne h0 a e x.symm)),h.mc,h.cB⟩,hp⟩,
   fun ⟨l,h,_⟩ hn a e=>reads_blk h.reads hn a e,
   fun ⟨l,h,hp⟩ hs hk=>⟨l,⟨reads_keep1 h.reads hs hk,h.mc,h.cB⟩,hp⟩⟩
structure DqS (g:Bool) (wd cap now:Int) (l:List Itm):Prop where
  good:1≤wd∧wd≤1048576∧1≤cap∧cap≤65536∧0≤now∧now≤16777216
  len:(l.length:Int)≤cap
  live:∀ y∈l,(now-wd<y.t∧0≤y.t∧y.t≤now) ∧ -4096≤y.v∧y.v≤4096
  ord:l.Pairwise (exR g)
theorem DQ.valid {g:Bool} {wd cap now:Int} {its l:List Itm} (h:DQ g its now wd l) (hg:1≤wd∧wd≤1048576∧1≤cap∧cap≤65536∧0≤now∧now≤16777216) (hc:wd≤cap):DqS g wd cap now l :=
  ⟨hg,by have:=h.len (by omega);omega,fun y hy=>by
    have:=h.rng y (h.sub y hy)
    exact ⟨⟨h.liv y hy,this.1.1,this.1.2⟩,this.2⟩,h.ord⟩
theorem itm_at_mem {l:List Itm} {i:Nat} (h:i<l.length):itmAt l i∈l:=by rw [← itm_eq h];exact List.getElem_mem _
theorem DqS.two {g:Bool} {wd cap now:Int} {l:List Itm} (h:DqS g wd cap now l) {i j:Nat} (hij:i<j) (hj:j<l.length):exR g (itmAt l i) (itmAt l j):=by
  have:=List.pairwise_iff_getElem.1 h.ord i j (by omega) hj hij
  rwa [itm_eq hj,itm_eq (show i<l.length by omega)] at this
theorem pbeats_t (a b:Int) (w:World):Calls Tryz.prog 220 #[.bool true, .int .i64 a, .int .i64 b] w fun e w'=>e = .returned (.bool (decide (b≤a)))∧w'=w:=by
  go_enter Tryz.func220,Tryz.ntmps220
  go_wp2_with fail
  go_ret
  exact ⟨by first | rfl | exact ret_bool (by simp;omega) | exact ret_bool (by simp [*]),rfl⟩
theorem pbeats_f (a b:Int) (w:World):Calls Tryz.prog 220 #[.bool false, .int .i64 a, .int .i64 b] w fun e w'=>e = .returned (.bool (decide (a≤b)))∧w'=w:=by
  go_enter Tryz.func220,Tryz.ntmps220
  go_wp2_with fail
  go_ret
  exact ⟨by first | rfl | exact ret_bool (by simp;omega) | exact ret_bool (by simp [*]),rfl⟩
theorem pbeats (g:Bool) (a b:Int) (w:World):Calls Tryz.prog 220 #[.bool g, .int .i64 a, .int .i64 b] w fun e w'=>e = .returned (.bool (decide (exKey g b≤exKey g a)))∧w'=w:=by
  cases g
  · have e:decide (exKey false b≤exKey false a)=decide (a≤b):=by unfold exKey;simp
    rw [e]
    exact pbeats_f a b w
  · exact pbeats_t a b w
theorem pexgood (wd cap now:Int) (w:World) (h:1≤wd∧wd≤1048576∧1≤cap∧cap≤65536∧0≤now∧now≤16777216):Calls Tryz.prog 207 #[.int .i64 wd, .int .i64 cap, .int .i64 now] w fun e w'=>e = .returned (.bool true)∧w'=w:=by
  obtain ⟨g0,g1,g2,g3,g4,g5⟩:=h
  go_enter Tryz.func207,Tryz.ntmps207
  go_wp2_with fail
  go_ret
  exact ⟨by first | rfl | exact ret_bool (by simp;omega) | exact ret_bool (by simp [*]),rfl⟩
set_option maxRecDepth 100000 in
theorem pexnew (g:Bool) (wd cap now:Int) (w:World) (h:1≤wd∧wd≤1048576∧1≤cap∧cap≤65536∧0≤now∧now≤16777216):Calls Tryz.prog 116 #[.bool g, .int .i64 wd, .int .i64 cap, .int .i64 now] w fun e w'=>e = .returned (.tuple #[.agg #[.bool g, .int .i64 wd, .int .i64 cap, .int .i64 now, .slice none 0 0], .int .i64 0])∧Below w.heap.size w w':=by
  have PG:=Lib.hid (fun w=>pexgood wd cap now w h)
  clear h
  go_enter Tryz.func116,Tryz.ntmps116
  go_upto_region 1 with (fail)
  have R:Row (w.alloc (.cells #[.bool false, .int .i64 0, .int .i64 0, .int .i64 0, .slice none 0 0] 47)) w.heap.size 47 #[.bool false, .int .i64 0, .int .i64 0, .int .i64 0, .slice none 0 0]:=row_new rfl
  have o:Below w.heap.size w (w.alloc (.cells #[.bool false, .int .i64 0, .int .i64 0, .int .i64 0, .slice none 0 0] 47)):=by (repeat (first | exact Below.refl _ _ | refine Below.setCell ?_ (by (try simp)<;>omega) _ | refine Below.alloc ?_ (by (try simp)<;>omega) _ | refine Below.drew ?_ | refine Below.trans ?_ (Below.mono (by assumption) (by (try simp)<;>omega))))
  generalize w.alloc (.cells #[.bool false, .int .i64 0, .int .i64 0, .int .i64 0, .slice none 0 0] 47)=w1 at R o ⊢
  go_upto_region 3 with (go_at_call 207;with_reducible refine (PG.out _).mono ?_;rintro e w9 ⟨rfl,h9⟩;obtain rfl:=h9.symm)
  obtain ⟨R0,R1,R2,R3,R4,Rf0,Rf1,Rf2,Rf3,Rf4⟩:=row_five R
  go_wp2
  have Sr0:=row_set R 0 (.bool g)
  have Sr1:=row_set Sr0 1 (.int .i64 wd)
  have Sr2:=row_set Sr1 2 (.int .i64 cap)
  have Sr3:=row_set Sr2 3 (.int .i64 now)
  have Sr4:=row_set Sr3 4 (.slice none 0 0)
  have o90:=o.setCell (p:=⟨w.heap.size,0,none⟩) (Nat.le_refl _) (.bool g)
  have o91:=o90.setCell (p:=⟨w.heap.size,1,none⟩) (Nat.le_refl _) (.int .i64 wd)
  have o92:=o91.setCell (p:=⟨w.heap.size,2,none⟩) (Nat.le_refl _) (.int .i64 cap)
  have o93:=o92.setCell (p:=⟨w.heap.size,3,none⟩) (Nat.le_refl _) (.int .i64 now)
  have o94:=o93.setCell (p:=⟨w.heap.size,4,none⟩) (Nat.le_refl _) (.slice none 0 0)
  obtain ⟨S0,S1,S2,S3,S4,_,_,_,_,_⟩:=row_five Sr4
  exact bodyPost_ret (v := .tuple #[.agg #[.bool g, .int .i64 wd, .int .i64 cap, .int .i64 now, .slice none 0 0], .int .i64 0]) (by simp [results,Tryz.results116,go_sem,S0,S1,S2,S3,S4]) rfl ⟨rfl,o94⟩
set_option maxRecDepth 100000 in
set_option maxHeartbeats 4000000 in
theorem pexval (A:Option Addr) (m c:Nat) (l:List Itm) (g:Bool) (wd cap now:Int) (w:World) (hin:DIn A m c l w) (hs:DqS g wd cap now l):Calls Tryz.prog 144 #[.agg #[.bool g, .int .i64 wd, .int .i64 cap, .int .i64 now, .slice A m c]] w fun e w'=>e = .returned (.int .i64 0)∧Below w.heap.size w w':=by
  have HS:=Lib.hid hs
  have hlN:=Lib.hid hin.len
  have hG:=hs.good
  obtain ⟨g0,g1,g2,g3,g4,g5⟩:=hs.good
  have hm:(m:Int)≤cap:=by have:=hin.len;have:=hs.len;omega
  have hm1:¬ cap<(m:Int):=by omega
  have PG:=Lib.hid (fun w=>pexgood wd cap now w hG)
  have HR:=Lib.hid hin
  clear hs hin hG
  go_enter Tryz.func144,Tryz.ntmps144
  go_upto_region 1 with (fail)
  have X:Row (w.alloc (.cells #[.bool g, .int .i64 wd, .int .i64 cap, .int .i64 now, .slice A m c] 47)) w.heap.size 47 #[.bool g, .int .i64 wd, .int .i64 cap, .int .i64 now, .slice A m c]:=row_new rfl
  have o:Below w.heap.size w (w.alloc (.cells #[.bool g, .int .i64 wd, .int .i64 cap, .int .i64 now, .slice A m c] 47)):=by (repeat (first | exact Below.refl _ _ | refine Below.setCell ?_ (by (try simp)<;>omega) _ | refine Below.alloc ?_ (by (try simp)<;>omega) _ | refine Below.drew ?_ | refine Below.trans ?_ (Below.mono (by assumption) (by (try simp)<;>omega))))
  generalize (w.alloc (.cells #[.bool g, .int .i64 wd, .int .i64 cap, .int .i64 now, .slice A m c] 47))=w1 at X o ⊢
  obtain ⟨X0,X1,X2,X3,X4,Xf0,Xf1,Xf2,Xf3,Xf4⟩:=row_five X
  go_upto_region 3 with (go_at_call 207;with_reducible refine (PG.out _).mono ?_;rintro e w9 ⟨rfl,h9⟩;obtain rfl:=h9.symm)
  clear PG
  go_wp2
  go_loopw [3,4,24] (fun u3 u4 i wr=>∃ j:Nat,j≤m∧i = .int .i64 (j:Nat)∧Row wr w.heap.size 47 #[.bool g, .int .i64 wd, .int .i64 cap, .int .i64 now, .slice A m c]∧Below w.heap.size w wr) (fun _ _ i _=>m-(intOf i).toNat)
  case atStart=>exact ⟨0,Nat.zero_le _,rfl,X,o⟩
  case round =>
    clear X o X0 Xf0 X1 Xf1 X2 Xf2 X3 Xf3 X4 Xf4
    obtain ⟨j,hj,rfl,X,o⟩:=hrel
    by_cases hlt:j<m
    · obtain ⟨ad,rfl,hadb,hi0⟩:=HR.out.reads.itm hlt
      obtain ⟨c0,c1⟩:=hi0.below o (by rw [block_of_add];exact hadb)
      have jl:j<l.length:=by rw [hlN.out];exact hlt
      have lB:=HS.out.live _ (itm_at_mem jl)
      have PL:=fun w=>plive now wd (itmAt l j).t w (by omega) (by omega) (by omega) (by omega) lB.1.2.1 lB.1.2.2
      rw [decide_eq_true lB.1.1] at PL
      replace PL:=Lib.hid PL
      have TWO:=Lib.hid (fun p (hp:p<j)=>HS.out.two hp jl)
      obtain ⟨y,hy⟩:∃ y,itmAt l j=y:=⟨_,rfl⟩
      rw [hy] at c0 c1 lB PL TWO
      obtain ⟨tj,vj⟩:=y
      dsimp only at c0 c1 lB PL
      clear hy
      have v1:¬ vj < -4096:=by omega
      have v2:¬ 4096<vj:=by omega
      have i1:(j:Int)<(m:Int):=by omega
      have i2:(0:Int)≤(j:Int):=by omega
      have z0:=o.size
      clear hi0 jl lB
      obtain ⟨X0,X1,X2,X3,X4,Xf0,Xf1,Xf2,Xf3,Xf4⟩:=row_five X
      go_upto_region 6 with (fail)
      have B:Row (wr.alloc (.cells #[.int .i64 tj, .int .i64 vj] 90)) wr.heap.size 90 #[.int .i64 tj, .int .i64 vj]:=row_new rfl
      replace X:=row_alloc X (.cells #[.int .i64 tj, .int .i64 vj] 90)
      replace o:=o.alloc o.size (.cells #[.int .i64 tj, .int .i64 vj] 90)
      clear c0 c1 X0 Xf0 X1 Xf1 X2 Xf2 X3 Xf3 X4 Xf4
      generalize wr.alloc (.cells #[.int .i64 tj, .int .i64 vj] 90)=w5 at X B o ⊢
      generalize wr.heap.size=bb at B ⊢
      obtain ⟨X0,X1,X2,X3,X4,Xf0,Xf1,Xf2,Xf3,Xf4⟩:=row_five X
      obtain ⟨B0,B1,_,_⟩:=row_two B
      go_upto_region 8 with (go_at_call 137;with_reducible refine (PL.out _).mono ?_;rintro e w9 ⟨rfl,h9⟩;obtain rfl:=h9.symm)
      clear PL X0 Xf0 X1 Xf1 X2 Xf2 X3 Xf3 X4 Xf4 B0 B1
      by_cases j0:j=0
      · have jp:¬ (0:Int)<(j:Int):=by omega
        have jpn:¬ 0<j:=by omega
        clear TWO j0
        refine wp_region_free0 [0,1,2,3,4,5,6,7,8,9,10,11,12,13,14,15,16,17,18,19,20,21,22,23,24,25,26] [] [0,1,2,3,4,5,6,7,8,9,10,11,12,13,14,15,16,17,18,19,20,21,22,23,24,25,26] 27 (fun w'=>Below w5.heap.size w5 w') (by kernel_rfl) (by kernel_rfl) (fun _ _ d _ _ h=>by cases d<;>exact h) ?_ ?_
        · exact (Below.refl _ _).drew
        (refine plan_pure ?_ rfl rfl (fun w'=>?_) ?_;rotate_left;(go_simp;try with_reducible rfl);simp only [put9])
        (refine plan_pure ?_ rfl rfl (fun w'=>?_) ?_;rotate_left;(go_simp;try with_reducible rfl);simp only [put9])
        (refine plan_pure ?_ rfl rfl (fun w'=>?_) ?_;rotate_left;(go_simp;try with_reducible rfl);simp only [put9])
        revert jp;intro jp
        refine plan_not rfl rfl ?_
        simp only [put9]
        refine plan_not rfl rfl ?_
        simp only [put9]
        refine plan_not rfl rfl ?_
        simp only [put9]
        refine plan_not rfl rfl ?_
        simp only [put9]
        refine plan_not rfl rfl ?_
        simp only [put9]
        refine plan_not rfl rfl ?_
        simp only [put9]
        refine plan_not rfl rfl ?_
        simp only [put9]
        refine plan_not rfl rfl ?_
        simp only [put9]
        refine plan_not rfl rfl ?_
        simp only [put9]
        refine plan_not rfl rfl ?_
        simp only [put9]
        refine plan_not rfl rfl ?_
        simp only [put9]
        refine plan_not rfl rfl ?_
        simp only [put9]
        refine plan_not rfl rfl ?_
        simp only [put9]
        refine plan_not rfl rfl ?_
        simp only [put9]
        refine plan_not rfl rfl ?_
        simp only [put9]
        refine plan_not rfl rfl ?_
        simp only [put9]
        refine plan_not rfl rfl ?_
        simp only [put9]
        refine plan_not rfl rfl ?_
        simp only [put9]
        refine plan_not rfl rfl ?_
        simp only [put9]
        refine plan_not rfl rfl ?_
        simp only [put9]
        refine plan_not rfl rfl ?_
        simp only [put9]
        refine plan_not rfl rfl ?_
        simp only [put9]
        refine plan_not rfl rfl ?_
        simp only [put9]
        refine plan_not rfl rfl ?_
        simp only [put9]
        refine plan_nil ?_
        intro w7 L7
        simp only [List.drop_succ_cons,List.drop_zero]
        try simp only [put9]
        replace X:=row_call X L7
        replace o:=o.trans (L7.mono o.size)
        clear L7 B
        go_wp2
        go_roundw
        case rel=>exact ⟨j+1,by omega,by go_num,X,o⟩
        case measure=>simp [intOf];omega
      · have jp:(0:Int)<(j:Int):=by omega
        have jpn:0<j:=by omega
        obtain ⟨p,hp⟩:∃ p:Nat,j=p+1:=⟨j-1,by omega⟩
        obtain ⟨ad',ea,_,ht1⟩:=HR.out.reads.itm (i:=p) (by omega)
        obtain rfl:ad=ad':=by injection ea
        obtain ⟨e1,e2⟩:=TWO.out p (by omega)
        obtain ⟨x,hx⟩:∃ x,itmAt l p=x:=⟨_,rfl⟩
        rw [hx] at ht1 e1 e2
        obtain ⟨tp,vp⟩:=x
        dsimp only at e1 e2
        have e3:¬ tj≤tp:=by omega
        have PB:=fun w=>pbeats g vj vp w
        rw [decide_eq_false (show ¬ exKey g vp≤exKey g vj by omega)] at PB
        replace PB:=Lib.hid PB
        have HP:=Lib.hid (fun w' (hb:Below w5.heap.size w5 w')=>ht1.below (o.trans (hb.mono o.size)) (by rw [block_of_add];exact hadb))
        have wj:IntKind.i64.wrap ((j:Int)-1)=(p:Int):=by rw [IntWalk.i64_in _ (by omega)];omega
        have p1:(p:Int)<(m:Int):=by omega
        have p0:(0:Int)≤(p:Int):=by omega
        clear TWO j0 ea ht1 e1 e2 hp hx
        refine wp_region_free0 [0,1,2,3,4,5,6,7,8,9,10,11,12,13,14,15,16,17,18,19,20,21,22,23,24,25,26] [] [0,1,2,3,4,5,6,7,8,9,10,11,12,13,14,15,16,17,18,19,20,21,22,23,24,25,26] 27 (fun w'=>Below w5.heap.size w5 w') (by kernel_rfl) (by kernel_rfl) (fun _ _ d _ _ h=>by cases d<;>exact h) ?_ ?_
        · exact (Below.refl _ _).drew
        (refine plan_pure ?_ rfl rfl (fun w'=>?_) ?_;rotate_left;(go_simp;try with_reducible rfl);simp only [put9])
        (refine plan_pure ?_ rfl rfl (fun w'=>?_) ?_;rotate_left;(go_simp;try with_reducible rfl);simp only [put9])
        (refine plan_pure ?_ rfl rfl (fun w'=>?_) ?_;rotate_left;(go_simp;try with_reducible rfl);simp only [put9])
        revert jp;intro jp
        (refine plan_pure ?_ rfl rfl (fun w'=>?_) ?_;rotate_left;(go_simp;try with_reducible rfl);simp only [put9])
        (refine plan_val ?_ rfl rfl rfl (fun w' hS=>?_) ?_;rotate_left;(obtain ⟨X0,X1,X2,X3,X4,Xf0,Xf1,Xf2,Xf3,Xf4⟩:=row_five (row_call X hS);obtain ⟨B0,B1,Bf0,Bf1⟩:=row_two (row_call B hS);obtain ⟨p0,p1⟩:=HP.out _ hS;go_simp;try with_reducible rfl);simp only [put9])
        (refine plan_pure ?_ rfl rfl (fun w'=>?_) ?_;rotate_left;(go_simp;try with_reducible rfl);simp only [put9])
        (refine plan_pure ?_ rfl rfl (fun w'=>?_) ?_;rotate_left;(go_simp;try with_reducible rfl);simp only [put9])
        (refine plan_pure ?_ rfl rfl (fun w'=>?_) ?_;rotate_left;(go_simp;try with_reducible rfl);simp only [put9])
        (refine plan_pure ?_ rfl rfl (fun w'=>?_) ?_;rotate_left;(go_simp;try with_reducible rfl);simp only [put9])
        (refine plan_val ?_ rfl rfl rfl (fun w' hS=>?_) ?_;rotate_left;(obtain ⟨X0,X1,X2,X3,X4,Xf0,Xf1,Xf2,Xf3,Xf4⟩:=row_five (row_call X hS);obtain ⟨B0,B1,Bf0,Bf1⟩:=row_two (row_call B hS);obtain ⟨p0,p1⟩:=HP.out _ hS;go_simp;try with_reducible rfl);simp only [put9])
        (refine plan_pure ?_ rfl rfl (fun w'=>?_) ?_;rotate_left;(go_simp;try with_reducible rfl);simp only [put9])
        (refine plan_val ?_ rfl rfl rfl (fun w' hS=>?_) ?_;rotate_left;(obtain ⟨X0,X1,X2,X3,X4,Xf0,Xf1,Xf2,Xf3,Xf4⟩:=row_five (row_call X hS);obtain ⟨B0,B1,Bf0,Bf1⟩:=row_two (row_call B hS);obtain ⟨p0,p1⟩:=HP.out _ hS;go_simp;try with_reducible rfl);simp only [put9])
        (refine plan_pure ?_ rfl rfl (fun w'=>?_) ?_;rotate_left;(go_simp;try with_reducible rfl);simp only [put9])
        (refine plan_pure ?_ rfl rfl (fun w'=>?_) ?_;rotate_left;(go_simp;try with_reducible rfl);simp only [put9])
        (refine plan_pure ?_ rfl rfl (fun w'=>?_) ?_;rotate_left;(go_simp;try with_reducible rfl);simp only [put9])
        (refine plan_val ?_ rfl rfl rfl (fun w' hS=>?_) ?_;rotate_left;(obtain ⟨X0,X1,X2,X3,X4,Xf0,Xf1,Xf2,Xf3,Xf4⟩:=row_five (row_call X hS);obtain ⟨B0,B1,Bf0,Bf1⟩:=row_two (row_call B hS);obtain ⟨p0,p1⟩:=HP.out _ hS;go_simp;try with_reducible rfl);simp only [put9])
        (refine plan_pure ?_ rfl rfl (fun w'=>?_) ?_;rotate_left;(go_simp;try with_reducible rfl);simp only [put9])
        (refine plan_val ?_ rfl rfl rfl (fun w' hS=>?_) ?_;rotate_left;(obtain ⟨X0,X1,X2,X3,X4,Xf0,Xf1,Xf2,Xf3,Xf4⟩:=row_five (row_call X hS);obtain ⟨B0,B1,Bf0,Bf1⟩:=row_two (row_call B hS);obtain ⟨p0,p1⟩:=HP.out _ hS;go_simp;try with_reducible rfl);simp only [put9])
        (refine plan_pure ?_ rfl rfl (fun w'=>?_) ?_;rotate_left;(go_simp;try with_reducible rfl);simp only [put9])
        (refine plan_val ?_ rfl rfl rfl (fun w' hS=>?_) ?_;rotate_left;(obtain ⟨X0,X1,X2,X3,X4,Xf0,Xf1,Xf2,Xf3,Xf4⟩:=row_five (row_call X hS);obtain ⟨B0,B1,Bf0,Bf1⟩:=row_two (row_call B hS);obtain ⟨p0,p1⟩:=HP.out _ hS;go_simp;try with_reducible rfl);simp only [put9])
        (refine plan_pure ?_ rfl rfl (fun w'=>?_) ?_;rotate_left;(go_simp;try with_reducible rfl);simp only [put9])
        (refine plan_pure ?_ rfl rfl (fun w'=>?_) ?_;rotate_left;(go_simp;try with_reducible rfl);simp only [put9])
        (refine plan_pure ?_ rfl rfl (fun w'=>?_) ?_;rotate_left;(go_simp;try with_reducible rfl);simp only [put9])
        (refine plan_pure ?_ rfl rfl (fun w'=>?_) ?_;rotate_left;(go_simp;try with_reducible rfl);simp only [put9])
        (refine plan_val ?_ rfl rfl rfl (fun w' hS=>?_) ?_;rotate_left;(obtain ⟨X0,X1,X2,X3,X4,Xf0,Xf1,Xf2,Xf3,Xf4⟩:=row_five (row_call X hS);obtain ⟨B0,B1,Bf0,Bf1⟩:=row_two (row_call B hS);obtain ⟨p0,p1⟩:=HP.out _ hS;go_simp;try with_reducible rfl);simp only [put9])
        refine plan_call (.bool false) 220 #[.bool g, .int .i64 vj, .int .i64 vp] rfl rfl rfl (fun _ _ h hb=>h.trans (hb.mono h.size)) (fun w' hS=>by obtain ⟨X0,X1,X2,X3,X4,Xf0,Xf1,Xf2,Xf3,Xf4⟩:=row_five (row_call X hS);obtain ⟨B0,B1,Bf0,Bf1⟩:=row_two (row_call B hS);obtain ⟨p0,p1⟩:=HP.out _ hS;go_simp) (fun w' hS=>(PB.out w').mono (fun e w'' h=>⟨h.1,by rw [h.2];exact Below.refl _ _⟩)) ?_
        simp only [put9]
        (refine plan_pure ?_ rfl rfl (fun w'=>?_) ?_;rotate_left;(go_simp;try with_reducible rfl);simp only [put9])
        refine plan_nil ?_
        intro w7 L7
        simp only [List.drop_succ_cons,List.drop_zero]
        try simp only [put9]
        replace X:=row_call X L7
        replace o:=o.trans (L7.mono o.size)
        clear L7 B
        go_wp2
        go_roundw
        case rel=>exact ⟨j+1,by omega,by go_num,X,o⟩
        case measure=>simp [intOf];omega
    · have i1:¬ (j:Int)<(m:Int):=by omega
      obtain ⟨X0,X1,X2,X3,X4,Xf0,Xf1,Xf2,Xf3,Xf4⟩:=row_five X
      go_wp2
      go_ret
      exact ⟨rfl,o⟩
end Go.Proofs.YtdipoojjlddohaaGreat
end
