/- What the law TopSummaries needs, joined of its texts by a program (slim2.py); part 30. -/
import Derived.Test.YtdipoojjlddohaaGreatZTopSummaries1
import Derived.Test.YtdipoojjlddohaaGreatZTopSummaries2
import Derived.Test.YtdipoojjlddohaaGreatZTopSummaries4
import Derived.Test.YtdipoojjlddohaaGreatZTopSummaries7
import Derived.Test.YtdipoojjlddohaaGreatZTopSummaries11
import Derived.Test.YtdipoojjlddohaaGreatZTopSummaries14
import Derived.Test.YtdipoojjlddohaaGreatZTopSummaries27
import Derived.Test.YtdipoojjlddohaaGreatZTopSummaries29
set_option linter.unusedVariables false
set_option linter.unusedSimpArgs false
set_option linter.unusedSectionVars false
set_option linter.unnecessarySimpa false
section
/- Blocks of exact summaries in memory; plain, Total, single, Allowed, Valid, walked. -/
namespace Go.Proofs.YtdipoojjlddohaaGreat
open Go.RowKit
def bqc (b:Bq):List Value:=[.int .i64 b.t, .int .i64 b.last, .int .i64 (b.lv:Nat), .int .i64 (b.vs.length:Nat), .slice b.A b.vs.length b.c]
def qcells (l:List Bq):List Value:=l.flatMap bqc
theorem qcells_cons (x:Bq) (l:List Bq):qcells (x :: l)=bqc x ++ qcells l:=rfl
theorem qcells_append (a b:List Bq):qcells (a ++ b)=qcells a ++ qcells b:=by unfold qcells;rw [List.flatMap_append]
theorem qcells_len:∀ l:List Bq,(qcells l).length=l.length*5
  | []=>rfl
  | x :: l=>by rw [qcells_cons,List.length_append,qcells_len l,List.length_cons];show 5+l.length*5=_;omega
theorem qcells_at:∀ (l:List Bq) (i:Nat),i<l.length→∀ k,k<5→(qcells l)[i*5+k]?=(bqc (bqAt l i))[k]?
  | [],i,h,_,_=>absurd h (by simp)
  | x :: l,0,_,k,hk=>by rw [qcells_cons,Nat.zero_mul,Nat.zero_add,List.getElem?_append_left (by exact hk)];rfl
  | x :: l,i+1,h,k,hk=>by
    rw [qcells_cons,List.getElem?_append_right (by show 5≤(i+1)*5+k;omega),show (i+1)*5+k-(bqc x).length=i*5+k by show (i+1)*5+k-5=_;omega]
    exact qcells_at l i (by simpa using h) k hk
theorem qcells_take (l:List Bq) (k:Nat):(qcells l).take (k*5)=qcells (l.take k):=by
  rcases Nat.lt_or_ge k l.length with h | h
  · have e:qcells l=qcells (l.take k) ++ qcells (l.drop k):=by rw [← qcells_append,List.take_append_drop]
    rw [e,List.take_append_of_le_length (by rw [qcells_len,List.length_take];omega),List.take_of_length_le (by rw [qcells_len,List.length_take];omega)]
  · rw [List.take_of_length_le (by rw [qcells_len];omega),List.take_of_length_le h]
theorem qcells_drop (l:List Bq) (k:Nat):(qcells l).drop (k*5)=qcells (l.drop k):=by
  rcases Nat.lt_or_ge k l.length with h | h
  · have e:qcells l=qcells (l.take k) ++ qcells (l.drop k):=by rw [← qcells_append,List.take_append_drop]
    rw [e,List.drop_append_of_le_length (by rw [qcells_len,List.length_take];omega),List.drop_of_length_le (by rw [qcells_len,List.length_take];omega),List.nil_append]
  · rw [List.drop_of_length_le (by rw [qcells_len];omega),List.drop_of_length_le h]
    rfl
theorem qcells_one (l:List Bq):∀ u∈qcells l,u.oneCell'=true:=by
  intro u hu
  unfold qcells at hu
  obtain ⟨x,_,hx⟩:=List.mem_flatMap.1 hu
  simp [bqc] at hx
  rcases hx with rfl | rfl | rfl | rfl | rfl<;>rfl
def BqCells (w:World) (a:Addr) (b:Bq):Prop:=w.cell? a=some (.int .i64 b.t)∧w.cell? ⟨a.block,a.off+1,none⟩=some (.int .i64 b.last)∧w.cell? ⟨a.block,a.off+2,none⟩=some (.int .i64 (b.lv:Nat))∧w.cell? ⟨a.block,a.off+3,none⟩=some (.int .i64 (b.vs.length:Nat))∧w.cell? ⟨a.block,a.off+4,none⟩=some (.slice b.A b.vs.length b.c)
section
variable {w w':World} {B m c:Nat} {A:Option Addr} {l:List Bq}
theorem BqCells.below {a:Addr} {b:Bq} (h:BqCells w a b) (hb:Below B w w') (hlt:a.block<B):BqCells w' a b :=
  ⟨(hb.cell hlt).trans h.1,(hb.cell (p:=⟨a.block,a.off+1,none⟩) hlt).trans h.2.1,(hb.cell (p:=⟨a.block,a.off+2,none⟩) hlt).trans h.2.2.1,(hb.cell (p:=⟨a.block,a.off+3,none⟩) hlt).trans h.2.2.2.1,(hb.cell (p:=⟨a.block,a.off+4,none⟩) hlt).trans h.2.2.2.2⟩
theorem Reads.bq_len (h:Reads w B 5 A m (qcells l)):l.length=m:=by have:=h.1;rw [qcells_len] at this;omega
theorem Reads.bq {i:Nat} (h:Reads w B 5 A m (qcells l)) (hi:i<m):∃ ad,A=some ad∧ad.block<B∧BqCells w (ad.add (i*5)) (bqAt l i):=by
  obtain ⟨ad,e,hb,hc⟩:=h.2 (by omega)
  have ht:=qcells_at l i (by rw [h.bq_len];exact hi)
  refine ⟨ad,e,hb,hc _ _ (ht 0 (by decide)),?_,?_,?_,?_⟩
  all_goals
    rw [← add_lit1 _ _ (by decide),add_of_add]
  · exact hc _ _ (ht 1 (by decide))
  · exact hc _ _ (ht 2 (by decide))
  · exact hc _ _ (ht 3 (by decide))
  · exact hc _ _ (ht 4 (by decide))
structure QIn (A:Option Addr) (m c:Nat) (l:List Bq) (w:World):Prop where
  reads:Reads w w.heap.size 5 A m (qcells l)
  ent:∀ b∈l,RkIn b.A b.vs.length b.c b.vs w
  mc:m≤c
  cB:c≤maxLen
theorem QIn.below (h:QIn A m c l w) (hb:Below w.heap.size w w'):QIn A m c l w':=⟨(h.reads.below hb).more hb.size,fun b hm=>(h.ent b hm).below hb,h.mc,h.cB⟩
theorem QIn.len (h:QIn A m c l w):l.length=m:=h.reads.bq_len
def QB (A:Option Addr) (m:Nat) (l:List Bq) (g:Nat):Prop:=(0<m∧∃ a,A=some a∧a.block=g)∨∃ b∈l,∃ a,b.A=some a∧a.block=g
theorem QIn.keep (h:QIn A m c l w) (hs:w.heap.size≤w'.heap.size) (hk:∀ g,QB A m l g→w'.heap[g]?=w.heap[g]?):QIn A m c l w' :=
  ⟨reads_keep1 h.reads hs (fun h0 a e=>hk _ (.inl ⟨h0,a,e,rfl⟩)),fun b hb=>(h.ent b hb).keep hs (fun a e=>hk _ (.inr ⟨b,hb,a,e,rfl⟩)),h.mc,h.cB⟩
theorem QIn.lt (h:QIn A m c l w) {g:Nat} (hg:QB A m l g):g<w.heap.size:=by
  rcases hg with ⟨h0,a,e,rfl⟩ | ⟨b,hb,a,e,rfl⟩
  · exact reads_blk h.reads h0 a e
  · obtain ⟨ad,e2,h2⟩:=(h.ent b hb).ptr
    rw [e] at e2
    cases e2
    exact h2
theorem QIn.setc (h:QIn A m c l w) {p:Addr} (hne:∀ g,QB A m l g→p.block≠g) (u:Value):QIn A m c l (w.setCell p u):=h.keep (by rw [size_setCell];exact Nat.le_refl _) (fun g hg=>Below.heap_setCell _ _ u g (fun x=>hne g hg x.symm))
theorem QIn.nil:QIn none 0 0 [] w:=⟨by simpa [qcells] using Reads.none_,(by simp),Nat.le_refl _,Nat.zero_le _⟩
end
theorem info_bq:(Tryz.prog.info? 190).map (fun i=>(i.zero,i.size,i.bytes))=some (some (.agg #[.int .i64 0, .int .i64 0, .int .i64 0, .int .i64 0, .slice none 0 0]),5,56):=by kernel_rfl
set_option maxHeartbeats 4000000 in
theorem pqplain (A:Option Addr) (m c:Nat) (l:List Bq) (w:World) (hin:QIn A m c l w) (hm:m≤1000000):Calls Tryz.prog 262 #[.slice A m c] w fun e w'=>∃ v,e = .returned v∧w'.ownsRow w.heap.size 318 2 v m (bcells (bqs l))∧Below w.heap.size w w':=by
  obtain ⟨ib,hib,iz0,iz1,iz2⟩:=info_parts info_bk
  have HIB:=Lib.hid hib
  clear hib
  have HR:=Lib.hid hin.reads
  have hln:=Lib.hid hin.len
  clear hin
  go_enter Tryz.func262,Tryz.ntmps262
  go_wp2
  go_loopw [3,5,8] (fun u3 _ i wr=>∃ j:Nat,j≤m∧i = .int .i64 (j:Nat)∧wr.ownsRow w.heap.size 318 2 u3 j (bcells (bqs (l.take j)))∧Below w.heap.size w wr) (fun _ _ i _=>m-(intOf i).toNat)
  case atStart=>exact ⟨0,Nat.zero_le _,rfl,World.ownsRow_nil _ _ _ _,Below.refl _ _⟩
  case round =>
    obtain ⟨j,hj,rfl,R,o⟩:=hrel
    by_cases hlt:j<m
    · obtain ⟨ad,rfl,hadb,hi0⟩:=HR.out.bq hlt
      have hi0:=hi0.below o (by rw [block_of_add];exact hadb)
      have jl:j<l.length:=by rw [hln.out];exact hlt
      have HT:RowKit.Hid (bqs (l.take (j+1))=bqs (l.take j) ++ [(bqAt l j).bk]):=Lib.hid (by rw [take_bq jl,bqs_append];rfl)
      obtain ⟨⟨tj,lj,vj,us,Aj,cj⟩,hx⟩:∃ x,x=bqAt l j:=⟨_,rfl⟩
      rw [← hx] at hi0 HT
      unfold BqCells at hi0
      dsimp only [Bq.bk] at hi0 HT
      generalize us.length=nj at hi0
      obtain ⟨c0,c1,c2,c3,c4⟩:=hi0
      have i1:(j:Int)<(m:Int):=by omega
      have i2:(0:Int)≤(j:Int):=by omega
      clear jl hx
      go_upto_region 5 with (fail)
      have R:=R.alloc (.cells #[.int .i64 tj, .int .i64 lj, .int .i64 (vj:Nat), .int .i64 (nj:Nat), .slice Aj nj cj] 190)
      have B:Row (wr.alloc (.cells #[.int .i64 tj, .int .i64 lj, .int .i64 (vj:Nat), .int .i64 (nj:Nat), .slice Aj nj cj] 190)) wr.heap.size 190 #[.int .i64 tj, .int .i64 lj, .int .i64 (vj:Nat), .int .i64 (nj:Nat), .slice Aj nj cj]:=row_new rfl
      replace o:=o.alloc o.size (.cells #[.int .i64 tj, .int .i64 lj, .int .i64 (vj:Nat), .int .i64 (nj:Nat), .slice Aj nj cj] 190)
      clear c0 c1 c2 c3 c4
      generalize wr.alloc (.cells #[.int .i64 tj, .int .i64 lj, .int .i64 (vj:Nat), .int .i64 (nj:Nat), .slice Aj nj cj] 190)=w5 at  B o R ⊢
      generalize wr.heap.size=bb at B ⊢
      obtain ⟨B0,B1,B2,B3,B4,Bf0,Bf1,Bf2,Bf3,Bf4⟩:=row_five B
      go_wp2_with (at_builtin;refine wpList_push rfl _ _ 30 rfl 318 ib (.agg #[.int .i64 0, .int .i64 0]) 2 16 Tryz.underlying30 HIB.out iz0 iz1 iz2 rfl (by decide) w.heap.size u3 j (bcells (bqs (l.take j))) rfl R #[.int .i64 tj, .int .i64 (vj:Nat)] rfl rfl (by simp [Value.oneCell']) (by unfold maxLen;omega) (by omega) o.size ?_;intro g1 c9 w1 own1 hg1 hat1 hgr1)
      go_roundw
      case rel=>exact ⟨j+1,by omega,by go_num,by rw [HT.out,bcells_append];exact own1.row hg1,below_grown (o.alloc o.size (.cells #[.int .i64 tj, .int .i64 (vj:Nat)] 318)) hgr1 (fun q e=>(R.lt q e).1) (by have:=o.size;simp;omega)⟩
      case measure=>simp [intOf];omega
    · have i1:¬ (j:Int)<(m:Int):=by omega
      obtain rfl:j=m:=by omega
      rw [List.take_of_length_le (by rw [hln.out];exact Nat.le_refl _)] at R
      go_wp2
      go_ret
      exact ⟨_,rfl,R,o⟩
theorem pqtotal (A:Option Addr) (m c:Nat) (l:List Bq) (w:World) (hin:QIn A m c l w) (hm:m≤1000000) (hv:∀ b∈l,b.lv≤30) (hT:btot (bqs l)≤1073741824):Calls Tryz.prog 224 #[.slice A m c] w fun e w'=>e = .returned (.int .i64 (btot (bqs l):Nat))∧Below w.heap.size w w':=by
  have PP:=Lib.hid (pqplain A m c l w hin hm)
  have PT:=Lib.hid (fun A' m' c' w' (h:BIn A' m' c' (bqs l) w')=>pbtotal A' m' c' (bqs l) w' h (fun b hb=>by
    obtain ⟨x,hx,rfl⟩:=List.mem_map.1 hb
    exact hv x hx) hT)
  clear hin
  go_enter Tryz.func224,Tryz.ntmps224
  go_wp2_with fail
  refine PP.out.mono ?_
  rintro e w1 ⟨v,rfl,R,o⟩
  obtain ⟨A1,c1,rfl,rd1,q1,q2,_⟩:=orow_forms R
  have B1:BIn A1 m c1 (bqs l) w1:=⟨rd1,q1,q2⟩
  clear R rd1
  go_wp2_with fail
  refine (PT.out _ _ _ _ B1).mono ?_
  rintro e w2 ⟨rfl,hb⟩
  replace o:=o.trans (hb.mono o.size)
  go_wp2
  go_ret
  exact ⟨rfl,o⟩
theorem pqsingle (v:Int) (w:World):Calls Tryz.prog 263 #[.int .i64 v] w (RkRet [v] w):=by
  unfold RkRet
  go_enter Tryz.func263,Tryz.ntmps263
  go_upto_region 1 with (fail)
  have R:Row (w.alloc (.cells #[.int .i64 0, .slice none 0 0] 188)) (w.heap.size) 188 #[.int .i64 0, .slice none 0 0]:=row_new rfl
  have o:Below w.heap.size w (w.alloc (.cells #[.int .i64 0, .slice none 0 0] 188)):=by (repeat (first | exact Below.refl _ _ | refine Below.setCell ?_ (by (try simp)<;>omega) _ | refine Below.alloc ?_ (by (try simp)<;>omega) _ | refine Below.drew ?_ | refine Below.trans ?_ (Below.mono (by assumption) (by (try simp)<;>omega))))
  generalize (w.alloc (.cells #[.int .i64 0, .slice none 0 0] 188))=w1 at R o ⊢
  have zr:=row_lt R
  obtain ⟨R0,R1,Rf0,Rf1⟩:=row_two R
  go_wp2
  clear R0 R1 Rf0 Rf1
  have Sr0:=row_set R 0 (.int .i64 1)
  have Sr1:=row_set Sr0 1 (.slice (some ⟨w1.heap.size,0,none⟩) 1 1)
  have o90:=o.setCell (p:=⟨w.heap.size,0,none⟩) (Nat.le_refl _) (.int .i64 1)
  have o91:=o90.setCell (p:=⟨w.heap.size,1,none⟩) (Nat.le_refl _) (.slice (some ⟨w1.heap.size,0,none⟩) 1 1)
  replace R:=row_alloc Sr1 (.cells #[.int .i64 v, .int .i64 1, .int .i64 1] 242)
  replace o:=o91.alloc (by simp;exact o.size) (.cells #[.int .i64 v, .int .i64 1, .int .i64 1] 242)
  have own:Own (((w1.setCell ⟨w.heap.size,0,none⟩ (.int .i64 1)).setCell ⟨w.heap.size,1,none⟩ (.slice (some ⟨w1.heap.size,0,none⟩) 1 1)).alloc (.cells #[.int .i64 v, .int .i64 1, .int .i64 1] 242)) 242 3 w1.heap.size 1 1 (rcells 0 [v]):=own_new (w:=((w1.setCell ⟨w.heap.size,0,none⟩ (.int .i64 1)).setCell ⟨w.heap.size,1,none⟩ (.slice (some ⟨w1.heap.size,0,none⟩) 1 1))) (e:=242) (size:=3) (n:=1) (cs:=#[.int .i64 v, .int .i64 1, .int .i64 1]) (by simp) (by unfold maxLen;omega) rfl
  generalize ((w1.setCell ⟨w.heap.size,0,none⟩ (.int .i64 1)).setCell ⟨w.heap.size,1,none⟩ (.slice (some ⟨w1.heap.size,0,none⟩) 1 1)).alloc (.cells #[.int .i64 v, .int .i64 1, .int .i64 1] 242)=w2 at R o own ⊢
  generalize w1.heap.size=g at R own zr ⊢
  obtain ⟨S0,S1,_,_⟩:=row_two R
  exact bodyPost_ret (v := .agg #[.int .i64 1, .slice (some ⟨g,0,none⟩) 1 1]) (by simp [results,Tryz.results263,go_sem,S0,S1]) rfl ⟨g,1,rfl,RkIn.of_own own (List.pairwise_singleton _ _) (Nat.le_refl _) (by show 1≤100000;decide),by omega,o⟩
theorem pqallowed (lv b:Nat) (w:World) (h1:lv≤30) (b1:1≤b) (b2:b≤65536) (h:2 ^ lv≤b+1):Calls Tryz.prog 272 #[.int .i64 (lv:Nat), .int .i64 (b:Nat)] w fun e w'=>e = .returned (.int .i64 0)∧w'=w:=by
  have q1:¬ (lv:Int)<0:=by omega
  have q2:¬ (30:Int)<(lv:Int):=by omega
  have q3:¬ (b:Int)<1:=by omega
  have q4:¬ (65536:Int)<(b:Int):=by omega
  have wb:IntKind.i64.wrap ((b:Int)+1)=(b:Int)+1:=IntWalk.i64_in _ (by omega)
  have H:=Lib.hid (fun l (hl:l≤lv)=>Nat.le_trans (Nat.pow_le_pow_right (n:=2) (by decide) hl) h)
  clear h
  go_enter Tryz.func272,Tryz.ntmps272
  go_wp2
  go_loopw [5,6,7,8,9] (fun u5 u6 _ _ _ wr=>∃ l:Nat,l≤lv+1∧u6 = .int .i64 (l:Nat)∧u5 = .int .i64 0∧wr=w) (fun _ u6 _ _ _ _=>lv+1-(intOf u6).toNat)
  case atStart=>exact ⟨0,Nat.zero_le _,rfl,rfl,by trivial⟩
  case round =>
    obtain ⟨l,hl,rfl,rfl,rfl⟩:=hrel
    by_cases hlt:l≤lv
    · have i1:(l:Int)≤(lv:Int):=by omega
      have i2:(0:Int)≤(l:Int):=by omega
      have i3:¬ (b:Int)+1<RowKit.wrap64 (2 ^ l):=by
        have e:((2:Int) ^ l)=((2 ^ l:Nat):Int):=by simp
        have:=H.out l hlt
        rw [e]
        generalize 2 ^ l=p at this ⊢
        rw [IntWalk.wrap64_in _ (by omega)]
        omega
      go_wp2
      go_roundw
      case rel=>exact ⟨l+1,by omega,by go_num,rfl,by trivial⟩
      case measure=>simp [intOf];omega
    · have i1:¬ (l:Int)≤(lv:Int):=by omega
      go_wp2
      go_ret
      exact ⟨rfl,rfl⟩
end Go.Proofs.YtdipoojjlddohaaGreat
end
section
/- Blocks of exact summaries: which lists are valid, walked. -/
namespace Go.Proofs.YtdipoojjlddohaaGreat
open Go.RowKit
set_option maxRecDepth 100000 in
set_option maxHeartbeats 8000000 in
theorem pqvalid (A:Option Addr) (m c:Nat) (l:List Bq) (k sz:Nat) (w:World) (hin:QIn A m c l w) (hv:BV k (bqs l)) (ho:∀ b∈l,BqOK sz b) (hk:1≤k∧k≤128) (s1:1≤sz) (s2:sz≤65536) (hm:m≤1000000):Calls Tryz.prog 237 #[.slice A m c, .int .i64 (k:Nat), .int .i64 (sz:Nat)] w fun e w'=>e = .returned (.bool true)∧Below w.heap.size w w':=by
  have PP:=Lib.hid (pqplain A m c l w hin hm)
  have PV:=Lib.hid (fun A' c' w' (h:BIn A' m c' (bqs l) w')=>pbvalidL A' m c' (bqs l) k w' h hv hk hm)
  have HR:=Lib.hid hin
  have hln:=Lib.hid hin.len
  have HO:=Lib.hid ho
  have HLV:=Lib.hid (fun b (hb:b∈l)=>hv.lev b.bk (List.mem_map_of_mem hb))
  have q1:¬ (sz:Int)<1:=by omega
  have q2:¬ (65536:Int)<(sz:Int):=by omega
  have wb:IntKind.i64.wrap ((sz:Int)+1)=(sz:Int)+1:=IntWalk.i64_in _ (by omega)
  clear hin ho hv
  go_enter Tryz.func237,Tryz.ntmps237
  go_wp2_with fail
  refine PP.out.mono ?_
  rintro e w1 ⟨v,rfl,R,o⟩
  obtain ⟨A1,c1,rfl,rd1,x1,x2,_⟩:=orow_forms R
  have B1:BIn A1 m c1 (bqs l) w1:=⟨rd1,x1,x2⟩
  clear R rd1 PP
  go_wp2_with fail
  refine (PV.out _ _ _ B1).mono ?_
  rintro e w2 ⟨rfl,hb⟩
  replace o:=o.trans (hb.mono o.size)
  clear hb B1 PV x1 x2
  go_wp2
  go_loopw [8,9,10,11,27] (fun _ _ _ _ i wr=>∃ j:Nat,j≤m∧i = .int .i64 (j:Nat)∧Below w.heap.size w wr) (fun _ _ _ _ i _=>m-(intOf i).toNat)
  case atStart=>exact ⟨0,Nat.zero_le _,rfl,o⟩
  case round =>
    clear o
    obtain ⟨j,hj,rfl,o⟩:=hrel
    by_cases hlt:j<m
    · obtain ⟨ad,rfl,hadb,hi0⟩:=HR.out.reads.bq hlt
      have jl:j<l.length:=by rw [hln.out];exact hlt
      have hO:=HO.out _ (bq_mem jl)
      have hE:=HR.out.ent _ (bq_mem jl)
      have hlv:=HLV.out _ (bq_mem jl)
      have hi0:=hi0.below o (by rw [block_of_add];exact hadb)
      obtain ⟨⟨tj,lj,vj,us,Aj,cj⟩,hx⟩:∃ x,x=bqAt l j:=⟨_,rfl⟩
      rw [← hx] at hi0 hO hE hlv
      unfold BqCells at hi0
      obtain ⟨o1,o2,o3,o4,o5⟩:=hO
      have oe:=o2.ends o4
      dsimp only [Bq.bk] at hi0 hE hlv o1 o2 o3 o4 o5 oe
      have hnl:=hE.len
      have h0r:=o3 _ (vat_mem (show 0<us.length by have:=hE.mB;omega))
      have h9r:=o3 _ (vat_mem (show us.length-1<us.length by have:=hE.mB;omega))
      obtain ⟨nj,hnj⟩:∃ x,x=us.length:=⟨_,rfl⟩
      rw [← hnj] at hi0 hE o1 oe h9r hnl
      have PA:=Lib.hid (fun w=>pqallowed vj sz w hlv s1 s2 o5)
      have PR:=Lib.hid (fun w' (hb:Below w.heap.size w w')=>prkval Aj nj cj us w' (hE.below hb))
      have PG:=Lib.hid (fun w' (hb:Below w.heap.size w w')=>prkgap Aj nj cj us w' (hE.below hb))
      obtain ⟨n1,n2⟩:=hE.mB
      have hcj:=hE.mc
      have t1:((nj:Int) != IntKind.i64.wrap (2 ^ min (IntKind.u64.wrap (vj:Int)).toNat 64))=false:=by
        have e:((2:Int) ^ vj)=((2 ^ vj:Nat):Int):=by simp
        rw [IntWalk.u64_in _ (by omega),show min (vj:Int).toNat 64=vj by omega,e,← o1,IntWalk.i64_in _ (by omega)]
        simp
      have t2:¬ (sz:Int)+1<(nj:Int):=by omega
      obtain ⟨p,hp⟩:∃ p:Nat,nj=p+1:=⟨nj-1,by omega⟩
      obtain ⟨aj,rfl,hab,he0⟩:=hE.reads.rk (i:=0) (by omega)
      obtain ⟨_,ea,_,he9⟩:=hE.reads.rk (i:=p) (by omega)
      obtain rfl:aj=_:=by injection ea
      clear ea
      rw [show nj-1=p by omega] at h9r oe
      have HE0:=Lib.hid (fun w' (hb:Below w.heap.size w w')=>(he0.below hb (by rw [block_of_add];exact hab)).1)
      have HE9:=Lib.hid (fun w' (hb:Below w.heap.size w w')=>(he9.below hb (by rw [block_of_add];exact hab)).1)
      generalize us.getD 0 0=va at h0r oe HE0
      generalize us.getD p 0=vb at h9r oe HE9
      have wp:IntKind.i64.wrap ((nj:Int)-1)=(p:Int):=by rw [IntWalk.i64_in _ (by omega)];omega
      have y1:¬ va < -4096:=by omega
      have y2:¬ 4096<vb:=by omega
      have y3:¬ lj<va:=by omega
      have y4:¬ vb<lj:=by omega
      have p0:(0:Int)≤(p:Int):=by omega
      have p1:(p:Int)<(nj:Int):=by omega
      have p2:(0:Int)<(nj:Int):=by omega
      obtain ⟨c0,c1,c2,c3,c4⟩:=hi0
      have i1:(j:Int)<(m:Int):=by omega
      have i2:(0:Int)≤(j:Int):=by omega
      have v0:(0:Int)≤(vj:Int):=by omega
      replace hp:=Lib.hid hp
      clear hx jl o1 o2 o3 o4 o5 oe h0r h9r hnj hE he0 he9 hnl
      go_upto_region 6 with (fail)
      have B:Row (wr.alloc (.cells #[.int .i64 tj, .int .i64 lj, .int .i64 (vj:Nat), .int .i64 (nj:Nat), .slice (some aj) nj cj] 190)) wr.heap.size 190 #[.int .i64 tj, .int .i64 lj, .int .i64 (vj:Nat), .int .i64 (nj:Nat), .slice (some aj) nj cj]:=row_new rfl
      replace o:=o.alloc o.size (.cells #[.int .i64 tj, .int .i64 lj, .int .i64 (vj:Nat), .int .i64 (nj:Nat), .slice (some aj) nj cj] 190)
      clear c0 c1 c2 c3 c4
      generalize wr.alloc (.cells #[.int .i64 tj, .int .i64 lj, .int .i64 (vj:Nat), .int .i64 (nj:Nat), .slice (some aj) nj cj] 190)=w5 at B o ⊢
      generalize wr.heap.size=bb at B ⊢
      obtain ⟨B0,B1,B2,B3,B4,Bf0,Bf1,Bf2,Bf3,Bf4⟩:=row_five B
      have C:Row (w5.alloc (.cells #[.int .i64 (nj:Nat), .slice (some aj) nj cj] 188)) w5.heap.size 188 #[.int .i64 (nj:Nat), .slice (some aj) nj cj]:=row_new rfl
      replace B:=row_alloc B (.cells #[.int .i64 (nj:Nat), .slice (some aj) nj cj] 188)
      go_upto_region 7 with (fail)
      replace o:=o.alloc o.size (.cells #[.int .i64 (nj:Nat), .slice (some aj) nj cj] 188)
      clear B0 B1 B2 B3 B4 Bf0 Bf1 Bf2 Bf3 Bf4
      generalize w5.alloc (.cells #[.int .i64 (nj:Nat), .slice (some aj) nj cj] 188)=w6 at B C o ⊢
      generalize w5.heap.size=cb at C ⊢
      refine wp_region_free0 [0,1,2,3,4,5,6,7,8,9,10,11,12,13,14,15,16,17,18,19,20,21,22,23,24,25,26,27,28] [] [0,1,2,3,4,5,6,7,8,9,10,11,12,13,14,15,16,17,18,19,20,21,22,23,24,25,26,27,28] 29 (fun w'=>Below w6.heap.size w6 w') (by kernel_rfl) (by kernel_rfl) (fun _ _ d _ _ h=>by cases d<;>exact h) ?_ ?_
      · exact (Below.refl _ _).drew
      (refine plan_val ?_ rfl rfl rfl (fun w' hS=>?_) ?_;rotate_left;(obtain ⟨B0,B1,B2,B3,B4,Bf0,Bf1,Bf2,Bf3,Bf4⟩:=row_five (row_call B hS);obtain ⟨C0,C1,Cf0,Cf1⟩:=row_two (row_call C hS);go_simp;try with_reducible rfl);simp only [put9])
      refine plan_call (.int .i64 0) 270 #[.agg #[.int .i64 (nj:Nat), .slice (some aj) nj cj]] rfl rfl rfl (fun _ _ h hb=>h.trans (hb.mono h.size)) (fun w' hS=>by obtain ⟨B0,B1,B2,B3,B4,Bf0,Bf1,Bf2,Bf3,Bf4⟩:=row_five (row_call B hS);obtain ⟨C0,C1,Cf0,Cf1⟩:=row_two (row_call C hS);go_simp) (fun w' hS=>PR.out _ (o.trans (hS.mono o.size))) ?_
      simp only [put9]
      (refine plan_pure ?_ rfl rfl (fun w'=>?_) ?_;rotate_left;(go_simp;try with_reducible rfl);simp only [put9])
      (refine plan_pure ?_ rfl rfl (fun w'=>?_) ?_;rotate_left;(go_simp;try with_reducible rfl);simp only [put9])
      (refine plan_pure ?_ rfl rfl (fun w'=>?_) ?_;rotate_left;(go_simp;try with_reducible rfl);simp only [put9])
      (refine plan_val ?_ rfl rfl rfl (fun w' hS=>?_) ?_;rotate_left;(obtain ⟨B0,B1,B2,B3,B4,Bf0,Bf1,Bf2,Bf3,Bf4⟩:=row_five (row_call B hS);obtain ⟨C0,C1,Cf0,Cf1⟩:=row_two (row_call C hS);go_simp;try with_reducible rfl);simp only [put9])
      (refine plan_pure ?_ rfl rfl (fun w'=>?_) ?_;rotate_left;(go_simp;try with_reducible rfl);simp only [put9])
      (refine plan_val ?_ rfl rfl rfl (fun w' hS=>?_) ?_;rotate_left;(obtain ⟨B0,B1,B2,B3,B4,Bf0,Bf1,Bf2,Bf3,Bf4⟩:=row_five (row_call B hS);obtain ⟨C0,C1,Cf0,Cf1⟩:=row_two (row_call C hS);go_simp;try with_reducible rfl);simp only [put9])
      (refine plan_pure ?_ rfl rfl (fun w'=>?_) ?_;rotate_left;(go_simp;try with_reducible rfl);simp only [put9])
      (refine plan_pure ?_ rfl rfl (fun w'=>?_) ?_;rotate_left;(go_simp;try with_reducible rfl);simp only [put9])
      (refine plan_pure ?_ rfl rfl (fun w'=>?_) ?_;rotate_left;(go_simp;try with_reducible rfl);simp only [put9])
      (refine plan_pure ?_ rfl rfl (fun w'=>?_) ?_;rotate_left;(go_simp;try with_reducible rfl);simp only [put9])
      (refine plan_pure ?_ rfl rfl (fun w'=>?_) ?_;rotate_left;(go_simp;try with_reducible rfl);simp only [put9])
      (refine plan_pure ?_ rfl rfl (fun w'=>?_) ?_;rotate_left;(go_simp;try with_reducible rfl);simp only [put9])
      (refine plan_val ?_ rfl rfl rfl (fun w' hS=>?_) ?_;rotate_left;(obtain ⟨B0,B1,B2,B3,B4,Bf0,Bf1,Bf2,Bf3,Bf4⟩:=row_five (row_call B hS);obtain ⟨C0,C1,Cf0,Cf1⟩:=row_two (row_call C hS);go_simp;try with_reducible rfl);simp only [put9])
      (refine plan_val ?_ rfl rfl rfl (fun w' hS=>?_) ?_;rotate_left;(obtain ⟨B0,B1,B2,B3,B4,Bf0,Bf1,Bf2,Bf3,Bf4⟩:=row_five (row_call B hS);obtain ⟨C0,C1,Cf0,Cf1⟩:=row_two (row_call C hS);go_simp;try with_reducible rfl);simp only [put9])
      (refine plan_pure ?_ rfl rfl (fun w'=>?_) ?_;rotate_left;(go_simp;try with_reducible rfl);simp only [put9])
      (refine plan_pure ?_ rfl rfl (fun w'=>?_) ?_;rotate_left;(go_simp;try with_reducible rfl);simp only [put9])
      (refine plan_pure ?_ rfl rfl (fun w'=>?_) ?_;rotate_left;(go_simp;try with_reducible rfl);simp only [put9])
      (refine plan_pure ?_ rfl rfl (fun w'=>?_) ?_;rotate_left;(go_simp;try with_reducible rfl);simp only [put9])
      (refine plan_pure ?_ rfl rfl (fun w'=>?_) ?_;rotate_left;(go_simp;try with_reducible rfl);simp only [put9])
      (refine plan_val ?_ rfl rfl rfl (fun w' hS=>?_) ?_;rotate_left;(obtain ⟨B0,B1,B2,B3,B4,Bf0,Bf1,Bf2,Bf3,Bf4⟩:=row_five (row_call B hS);obtain ⟨C0,C1,Cf0,Cf1⟩:=row_two (row_call C hS);go_simp;try with_reducible rfl);simp only [put9])
      refine plan_call (.int .i64 1) 271 #[.agg #[.int .i64 (nj:Nat), .slice (some aj) nj cj]] rfl rfl rfl (fun _ _ h hb=>h.trans (hb.mono h.size)) (fun w' hS=>by obtain ⟨B0,B1,B2,B3,B4,Bf0,Bf1,Bf2,Bf3,Bf4⟩:=row_five (row_call B hS);obtain ⟨C0,C1,Cf0,Cf1⟩:=row_two (row_call C hS);go_simp) (fun w' hS=>PG.out _ (o.trans (hS.mono o.size))) ?_
      simp only [put9]
      (refine plan_pure ?_ rfl rfl (fun w'=>?_) ?_;rotate_left;(go_simp;try with_reducible rfl);simp only [put9])
      (refine plan_pure ?_ rfl rfl (fun w'=>?_) ?_;rotate_left;(go_simp;try with_reducible rfl);simp only [put9])
      (refine plan_val ?_ rfl rfl rfl (fun w' hS=>?_) ?_;rotate_left;(obtain ⟨B0,B1,B2,B3,B4,Bf0,Bf1,Bf2,Bf3,Bf4⟩:=row_five (row_call B hS);obtain ⟨C0,C1,Cf0,Cf1⟩:=row_two (row_call C hS);go_simp;try with_reducible rfl);simp only [put9])
      (refine plan_pure ?_ rfl rfl (fun w'=>?_) ?_;rotate_left;(go_simp;try with_reducible rfl);simp only [put9])
      refine plan_call (.int .i64 0) 272 #[.int .i64 (vj:Nat), .int .i64 (sz:Nat)] rfl rfl rfl (fun _ _ h hb=>h.trans (hb.mono h.size)) (fun w' hS=>by obtain ⟨B0,B1,B2,B3,B4,Bf0,Bf1,Bf2,Bf3,Bf4⟩:=row_five (row_call B hS);obtain ⟨C0,C1,Cf0,Cf1⟩:=row_two (row_call C hS);go_simp) (fun w' hS=>(PA.out w').mono (fun e w'' h=>⟨h.1,by rw [h.2];exact Below.refl _ _⟩)) ?_
      simp only [put9]
      (refine plan_pure ?_ rfl rfl (fun w'=>?_) ?_;rotate_left;(go_simp;try with_reducible rfl);simp only [put9])
      refine plan_nil ?_
      intro w8 L4
      simp only [List.drop_succ_cons,List.drop_zero]
      try simp only [put9]
      replace B:=row_call B L4
      replace C:=row_call C L4
      replace o:=o.trans (L4.mono o.size)
      clear L4
      obtain ⟨B0,B1,B2,B3,B4,Bf0,Bf1,Bf2,Bf3,Bf4⟩:=row_five B
      obtain ⟨C0,C1,Cf0,Cf1⟩:=row_two C
      go_upto_region 9 with (fail)
      clear B0 B1 B2 B3 B4 Bf0 Bf1 Bf2 Bf3 Bf4 C0 C1 Cf0 Cf1 t1 t2 PR PG PA
      have e0:w8.cell? aj=some (.int .i64 va):=HE0.out _ o
      have e9:=HE9.out _ o
      obtain ⟨C0,C1,Cf0,Cf1⟩:=row_two C
      go_region
      replace B:=row_drew B
      replace o:=o.drew
      clear e0 e9 C C0 C1 Cf0 Cf1
      generalize w8.drew=w4 at B o ⊢
      obtain ⟨B0,B1,B2,B3,B4,Bf0,Bf1,Bf2,Bf3,Bf4⟩:=row_five B
      go_wp2
      go_roundw
      case rel=>exact ⟨j+1,by omega,by go_num,o⟩
      case measure=>simp [intOf];omega
    · have i1:¬ (j:Int)<(m:Int):=by omega
      go_wp2
      go_ret
      exact ⟨rfl,o⟩
end Go.Proofs.YtdipoojjlddohaaGreat
end
section
/- Blocks of exact summaries: expiry, walked. -/
namespace Go.Proofs.YtdipoojjlddohaaGreat
open Go.RowKit
theorem qreads_tail {w:World} {B m:Nat} {ad:Addr} {a:Bq} {l:List Bq} (h:Reads w B 5 (some ad) m (qcells (a :: l))):Reads w B 5 (some ⟨ad.block,ad.off+5,none⟩) (m-1) (qcells l):=by
  rw [← addr_lit ad 5 (by decide)]
  refine ⟨by have:=h.1;rw [qcells_cons,List.length_append] at this;have e:(bqc a).length=5:=rfl;rw [qcells_len] at *;omega,fun hn=>?_⟩
  obtain ⟨ad',e',hb,hc⟩:=h.2 (by omega)
  obtain rfl:ad=ad':=by injection e'
  refine ⟨_,rfl,by rw [block_of_add];exact hb,fun j u hu=>?_⟩
  rw [add_of_add]
  refine hc (5+j) u ?_
  rw [qcells_cons,List.getElem?_append_right (by show 5≤5+j;omega),show 5+j-(bqc a).length=j by show 5+j-5=j;omega]
  exact hu
theorem lit_add (b o k:Nat):(⟨b,o,none⟩:Addr).add k=⟨b,o+k,none⟩:=by
  unfold Addr.add
  split
  · subst_vars;rfl
  · rfl
theorem qreads_none {w:World} {B:Nat} {A:Option Addr}:Reads w B 5 A 0 (qcells []):=⟨rfl,fun h=>absurd h (by omega)⟩
set_option maxRecDepth 100000 in
set_option maxHeartbeats 4000000 in
theorem pqexpire (A:Option Addr) (m c:Nat) (l:List Bq) (fst:Int) (w:World) (hin:QIn A m c l w) (ho:(bqs l).Pairwise ordR) (hm:m≤1000000):Calls Tryz.prog 162 #[.slice A m c, .int .i64 fst] w fun e w'=>∃ (g c2 j m':Nat),e = .returned (.slice (some ⟨g,0,none⟩) m' c2)∧QIn (some ⟨g,0,none⟩) m' c2 (l.drop j) w'∧(∀ b∈l.take j,b.t<fst)∧(∀ b∈l.drop j,fst≤b.t)∧w.heap.size≤g∧Below w.heap.size w w':=by
  obtain ⟨iq,hiq,jz0,jz1,jz2⟩:=info_parts info_bq
  have HIQ:=Lib.hid hiq
  clear hiq
  have HO:RowKit.Hid (l.Pairwise fun a b=>a.t≤b.t):=Lib.hid (by
    unfold bqs at ho
    rw [List.pairwise_map] at ho
    exact ho.imp (fun h=>h.1))
  have hln:=Lib.hid hin.len
  have HE:=Lib.hid hin.ent
  have hmc:=hin.mc
  have hcB:=hin.cB
  have HRD:=Lib.hid hin.reads
  clear ho hin
  go_enter Tryz.func162,Tryz.ntmps162
  go_wp2
  go_loopw [0] (fun s wr=>∃ (A':Option Addr) (m' c' j:Nat),s = .slice A' m' c'∧RowKit.Hid (Reads w w.heap.size 5 A' m' (qcells (l.drop j)))∧m'≤c'∧c'≤maxLen∧m'+j=m∧RowKit.Hid (∀ b∈l.take j,b.t<fst)∧w=wr) (fun s _=>lenE s)
  case atStart=>exact ⟨A,m,c,0,rfl,HRD,hmc,hcB,rfl,Lib.hid (by simp),rfl⟩
  case round =>
    clear hmc hcB HRD
    obtain ⟨A',m',c',j,rfl,HI,hcm,hcB,hmj,HD,rfl⟩:=hrel
    by_cases m0:m'=0
    · have i0:¬ (0:Int)<(m':Int):=by omega
      have i1:¬ 0<m':=by omega
      have HF:RowKit.Hid (∀ b∈l.drop j,fst≤b.t):=Lib.hid (fun b hb=>by
        rw [List.drop_of_length_le (by rw [hln.out];omega)] at hb
        cases hb)
      clear m0
      go_wp2_with (at_builtin;refine wpList_clone rfl _ _ 54 rfl 190 iq (.agg #[.int .i64 0, .int .i64 0, .int .i64 0, .int .i64 0, .slice none 0 0]) 5 56 Tryz.underlying54 HIQ.out jz0 jz1 jz2 rfl (by decide) rfl w.heap.size A' m' c' (qcells (l.drop j)) rfl HI.out (Nat.le_refl _) (qcells_one _) (by unfold maxLen;omega) (by omega) ?_;intro g c2 w4 own4 hg4 hb4 hz4)
      go_ret
      exact ⟨g,c2,j,m',rfl,⟨own4.reads,fun b hb=>(HE.out b (List.mem_of_mem_drop hb)).below hb4,own4.cap.1,own4.cap.2⟩,HD.out,HF.out,hg4,hb4⟩
    · have i0:(0:Int)<(m':Int):=by omega
      have i1:0<m':=by omega
      obtain ⟨ad,rfl,hadb,hi0⟩:=HI.out.bq (i:=0) (by omega)
      have hjl:j<l.length:=by rw [hln.out];omega
      have hd:=drop_bq hjl
      rw [hd] at hi0
      have c0:w.cell? ad=some (.int .i64 (bqAt l j).t):=hi0.1
      clear hi0
      by_cases hlt:(bqAt l j).t<fst
      · have HD2:RowKit.Hid (∀ b∈l.take (j+1),b.t<fst):=Lib.hid (fun b hb=>by
          rw [take_bq hjl] at hb
          rcases List.mem_append.1 hb with hb | hb
          · exact HD.out b hb
          · rw [List.mem_singleton.1 hb];exact hlt)
        generalize (bqAt l j).t=tj at c0 hlt
        have i2:(1:Int)≤(m':Int):=by omega
        have i3:(m':Int)≤(c':Int):=by omega
        have i4:(1:Int)≤(c':Int):=by omega
        by_cases c1:c'=1
        · subst c1
          obtain rfl:m'=1:=by omega
          have HI2:RowKit.Hid (Reads w w.heap.size 5 (some ad) 0 (qcells (l.drop (j+1)))):=Lib.hid (by
            rw [List.drop_of_length_le (by rw [hln.out];omega)]
            exact qreads_none)
          clear HD HI m0 i0 i1 i2 i3 i4 hcm hcB
          go_wp2
          go_roundw
          case rel=>exact ⟨some ad,0,0,j+1,rfl,HI2,by omega,by unfold maxLen;omega,by omega,HD2,by trivial⟩
          case measure=>simp [lenE]
        · have HI2:RowKit.Hid (Reads w w.heap.size 5 (some ⟨ad.block,ad.off+5,none⟩) (m'-1) (qcells (l.drop (j+1)))):=Lib.hid (by
            have:=HI.out
            rw [hd] at this
            exact qreads_tail this)
          have c1':((c':Int) == 1)=false:=by simp;omega
          clear HD HI m0
          go_wp2
          go_roundw
          case rel=>exact ⟨_,m'-1,c'-1,j+1,rfl,HI2,by omega,by unfold maxLen at *;omega,by omega,HD2,by trivial⟩
          case measure=>simp [lenE];omega
      · have HF:RowKit.Hid (∀ b∈l.drop j,fst≤b.t):=Lib.hid (fun b hb=>by
          rw [hd] at hb
          have ho:=HO.out
          rw [← List.take_append_drop j l,hd] at ho
          have ho:=(List.pairwise_cons.1 (List.pairwise_append.1 ho).2.1).1
          rcases List.mem_cons.1 hb with rfl | hb
          · omega
          · have:=ho b hb
            omega)
        generalize (bqAt l j).t=tj at c0 hlt
        clear m0
        go_wp2_with (at_builtin;refine wpList_clone rfl _ _ 54 rfl 190 iq (.agg #[.int .i64 0, .int .i64 0, .int .i64 0, .int .i64 0, .slice none 0 0]) 5 56 Tryz.underlying54 HIQ.out jz0 jz1 jz2 rfl (by decide) rfl w.heap.size (some ad) m' c' (qcells (l.drop j)) rfl HI.out (Nat.le_refl _) (qcells_one _) (by unfold maxLen;omega) (by omega) ?_;intro g c2 w4 own4 hg4 hb4 hz4)
        go_ret
        exact ⟨g,c2,j,m',rfl,⟨own4.reads,fun b hb=>(HE.out b (List.mem_of_mem_drop hb)).below hb4,own4.cap.1,own4.cap.2⟩,HD.out,HF.out,hg4,hb4⟩
end Go.Proofs.YtdipoojjlddohaaGreat
end
section
/- A stream is played into a synopsis of any kind that takes every item: the top's run, walked. -/
namespace Go.Proofs.YtdipoojjlddohaaGreat
open Go.RowKit
def nowK (l:List Itm) (k:Nat):Int:=if k=0 then 0 else (itmAt l (k-1)).t
theorem orow_ne_row {w:World} {base size n b:Nat} {e t:TypeId} {v:Value} {xs:List Value} {cs:Array Value} (h:w.ownsRow base e size v n xs) (h2:Row w b t cs) (hne:e≠t):v.ownBlock≠some b:=by
  rcases h.2 with ⟨rfl,_⟩ | ⟨g,cap,cur,rfl,_,hg,_⟩
  · simp [Value.ownBlock]
  · intro he
    have e9:g=b:=Option.some.inj he
    subst e9
    unfold Row at h2
    rw [hg] at h2
    simp at h2
    exact hne h2.2
structure KindOK (cfg:Array Value) (IN:List Itm→Int→Option Addr→Nat→Nat→World→Prop) (csf:List Itm→Int→Option Addr→Nat→Nat→Array Value) (okv:Int→Prop) (N:Nat):Prop where
  inok:∀ ad now,InOK (IN ad now)
  size:∀ ad now A m c,(csf ad now A m c).size=57
  one:∀ ad now A m c,(csf ad now A m c).all (·.oneCell')=true
  new:∀ w,Calls Tryz.prog 37 #[.agg cfg, .int .i64 0] w (GRet (IN [] 0) (csf [] 0) 0 (fun _=>False) w)
  adv:∀ ad now tt A m c w,IN ad now A m c w→now≤tt→tt≤16777216→Calls Tryz.prog 21 #[.agg (csf ad now A m c), .int .i64 tt] w (GRet (IN ad tt) (csf ad tt) 0 (fun b=>0<m∧∃ a,A=some a∧a.block=b) w)
  add:∀ ad now v A m c w,IN ad now A m c w→ad.length<N→okv v→Calls Tryz.prog 38 #[.agg (csf ad now A m c), .int .i64 v, .slice none 0 0] w (GRet (IN (ad ++ [⟨now,v⟩]) now) (csf (ad ++ [⟨now,v⟩]) now) 0 (fun b=>0<m∧∃ a,A=some a∧a.block=b) w)
def RunRet (IN:List Itm→Int→Option Addr→Nat→Nat→World→Prop) (csf:List Itm→Int→Option Addr→Nat→Nat→Array Value) (l:List Itm) (w:World) (e:Ending) (w':World):Prop :=
  ∃ (A:Option Addr) (m c:Nat) (v:Value),e = .returned (.tuple #[.agg (csf l (nowK l l.length) A m c),v, .bool true])∧IN l (nowK l l.length) A m c w'∧w'.ownsRow w.heap.size 90 2 v l.length (icells l)∧Below w.heap.size w w'
end Go.Proofs.YtdipoojjlddohaaGreat
end
