/- What the law TopSummaries needs, joined of its texts by a program (slim2.py); part 29. -/
import Derived.Test.YtdipoojjlddohaaGreatZTopSummaries1
import Derived.Test.YtdipoojjlddohaaGreatZTopSummaries12
import Derived.Test.YtdipoojjlddohaaGreatZTopSummaries14
import Derived.Test.YtdipoojjlddohaaGreatZTopSummaries28
set_option linter.unusedVariables false
set_option linter.unusedSimpArgs false
set_option linter.unusedSectionVars false
set_option linter.unnecessarySimpa false
section
/- Exact rank summaries and blocks in memory; which are valid, walked. -/
namespace Go.Proofs.YtdipoojjlddohaaGreat
open Go.RowKit
def rcells (k:Nat):List Int→List Value
  | []=>[]
  | v :: l => .int .i64 v :: .int .i64 ((k+1:Nat):Int) :: .int .i64 ((k+1:Nat):Int) :: rcells (k+1) l
theorem rcells_len:∀ (l:List Int) (k:Nat),(rcells k l).length=l.length*3
  | [],_=>rfl
  | v :: l,k=>by
    rw [rcells,List.length_cons,List.length_cons,List.length_cons,rcells_len l,List.length_cons]
    omega
theorem rcells_append:∀ (a b:List Int) (k:Nat),rcells k (a ++ b)=rcells k a ++ rcells (k+a.length) b
  | [],b,k=>rfl
  | v :: a,b,k=>by
    rw [List.cons_append,rcells,rcells,rcells_append a b,List.length_cons,show k+1+a.length=k+(a.length+1) by omega]
    rfl
theorem rcells_at:∀ (l:List Int) (k i:Nat),i<l.length→(rcells k l)[i*3]?=some (.int .i64 (l.getD i 0))∧(rcells k l)[i*3+1]?=some (.int .i64 ((k+i+1:Nat):Int))∧(rcells k l)[i*3+2]?=some (.int .i64 ((k+i+1:Nat):Int))
  | [],_,i,h=>absurd h (by simp)
  | v :: l,k,0,_=>⟨rfl,rfl,rfl⟩
  | v :: l,k,i+1,h=>by
    have ih:=rcells_at l (k+1) i (by simpa using h)
    rw [rcells,show (i+1)*3=i*3+1+1+1 by omega,show i*3+1+1+1+1=(i*3+1)+1+1+1 by omega,show i*3+1+1+1+2=(i*3+2)+1+1+1 by omega]
    simp only [List.getElem?_cons_succ,List.getD_cons_succ]
    rw [show k+(i+1)+1=k+1+i+1 by omega]
    exact ih
theorem rcells_one:∀ (l:List Int) (k:Nat),∀ u∈rcells k l,u.oneCell'=true
  | [],_,u,h=>by cases h
  | v :: l,k,u,h=>by
    rw [rcells] at h
    rcases List.mem_cons.1 h with rfl | h
    · rfl
    rcases List.mem_cons.1 h with rfl | h
    · rfl
    rcases List.mem_cons.1 h with rfl | h
    · rfl
    exact rcells_one l _ u h
def RkCells (w:World) (a:Addr) (v:Int) (i:Nat):Prop:=w.cell? a=some (.int .i64 v)∧w.cell? ⟨a.block,a.off+1,none⟩=some (.int .i64 ((i+1:Nat):Int))∧w.cell? ⟨a.block,a.off+2,none⟩=some (.int .i64 ((i+1:Nat):Int))
theorem add_lit1 (a:Addr) (j:Nat) (h:j≠0):a.add j=⟨a.block,a.off+j,none⟩:=by unfold Addr.add;rw [if_neg h]
section
variable {w w':World} {B m c:Nat} {A:Option Addr} {vs:List Int}
theorem RkCells.below {a:Addr} {v:Int} {i:Nat} (h:RkCells w a v i) (hb:Below B w w') (hlt:a.block<B):RkCells w' a v i :=
  ⟨(hb.cell hlt).trans h.1,(hb.cell (p:=⟨a.block,a.off+1,none⟩) hlt).trans h.2.1,(hb.cell (p:=⟨a.block,a.off+2,none⟩) hlt).trans h.2.2⟩
theorem Reads.rk_len (h:Reads w B 3 A m (rcells 0 vs)):vs.length=m:=by have:=h.1;rw [rcells_len] at this;omega
theorem Reads.rk {i:Nat} (h:Reads w B 3 A m (rcells 0 vs)) (hi:i<m):∃ ad,A=some ad∧ad.block<B∧RkCells w (ad.add (i*3)) (vs.getD i 0) i:=by
  obtain ⟨ad,e,hb,hc⟩:=h.2 (by omega)
  have ht:=rcells_at vs 0 i (by rw [h.rk_len];exact hi)
  rw [Nat.zero_add] at ht
  refine ⟨ad,e,hb,hc _ _ ht.1,?_,?_⟩
  · rw [← add_lit1 _ 1 (by decide),add_of_add]
    exact hc _ _ ht.2.1
  · rw [← add_lit1 _ 2 (by decide),add_of_add]
    exact hc _ _ ht.2.2
structure RkIn (A:Option Addr) (m c:Nat) (vs:List Int) (w:World):Prop where
  reads:Reads w w.heap.size 3 A m (rcells 0 vs)
  srt:Srt vs
  mc:m≤c
  cB:c≤maxLen
  mB:1≤m∧m≤100000
theorem RkIn.below (h:RkIn A m c vs w) (hb:Below w.heap.size w w'):RkIn A m c vs w':=⟨(h.reads.below hb).more hb.size,h.srt,h.mc,h.cB,h.mB⟩
theorem RkIn.len (h:RkIn A m c vs w):vs.length=m:=h.reads.rk_len
theorem RkIn.keep (h:RkIn A m c vs w) (hs:w.heap.size≤w'.heap.size) (hk:∀ a,A=some a→w'.heap[a.block]?=w.heap[a.block]?):RkIn A m c vs w':=⟨reads_keep1 h.reads hs (fun _=>hk),h.srt,h.mc,h.cB,h.mB⟩
theorem RkIn.setc (h:RkIn A m c vs w) {p:Addr} (hne:∀ a,A=some a→p.block≠a.block) (u:Value):RkIn A m c vs (w.setCell p u):=h.keep (by rw [size_setCell];exact Nat.le_refl _) (fun a e=>Below.heap_setCell _ _ u a.block (fun x=>hne a e x.symm))
theorem RkIn.ptr (h:RkIn A m c vs w):∃ ad,A=some ad∧ad.block<w.heap.size:=by
  obtain ⟨ad,e,hb,_⟩:=h.reads.rk (i:=0) (by have:=h.mB;omega)
  exact ⟨ad,e,hb⟩
theorem RkIn.of_own {g:Nat} (h:Own w 242 3 g m c (rcells 0 vs)) (hs:Srt vs) (h1:1≤m) (h2:m≤100000):RkIn (some ⟨g,0,none⟩) m c vs w:=⟨h.reads,hs,h.cap.1,h.cap.2,h1,h2⟩
end
theorem step_clone {P:Program} {w1:World} {ops:Array Oper} {o:Oper} {a:Act} {K:Act→World→Prop} {Q:Exit→Act→World→Prop} {E:Prop} (hgd:o.guard=none) (s x:Operand) (t:TypeId)
    (ho:o.op = .call { callee := .builtin .append,args:=#[s,x],argTypes:=#[t,t] })
    (e:TypeId) (i:TypeInfo) (z:Value) (size bytes:Nat) (ht:P.underlying t=some (.slice e)) (hi:P.info? e=some i) (hz:i.zero=some z)
    (hsize:i.size=size) (hby:i.bytes=bytes) (hzs:z.cells.size=size) (hsz:0<size)
    (hs:a.eval s = .slice (some ⟨w1.heap.size,0,none⟩) 0 0)
    (B:Nat) (A:Option Addr) (m c:Nat) (news:List Value) (hx:a.eval x = .slice A m c) (hr:Reads w1 B size A m news) (hB:B≤w1.heap.size) (h1:∀ u∈news,u.oneCell'=true)
    (h63:m≤maxLen) (hbytes:m*bytes≤140737488355328)
    (h:∀ g c' w',Own w' e size g m c' news→w1.heap.size≤g→Below w1.heap.size w1 w'→K (a.put o.dst (.slice (some ⟨g,0,none⟩) m c')) w') :
    if Region.wanted o (yielded ops a.tmps)=true then Oper.wp P o a (w1.alloc (.cells #[] e)) K Q else E:=by
  refine step_append_any (w1.alloc (.cells #[] e)) hgd s x t ho w1.heap.size e i z size bytes ht hi hz hsize hby hzs hsz (.slice (some ⟨w1.heap.size,0,none⟩) 0 0) 0 [] hs
    ((own_new (n:=0) rfl (by unfold maxLen;omega) (by simp)).row (Nat.le_refl _)) B A m c news hx (hr.alloc hB _) h1 (by omega) (by simpa using hbytes) (by simp) ?_
  intro v' w' hown hg hat
  rw [Nat.zero_add,List.nil_append] at hown
  have hv:∃ g c',v' = .slice (some ⟨g,0,none⟩) m c':=by
    rcases hown.2 with ⟨hv,_⟩ | ⟨g,c',cur,hv,_⟩
    · subst hv
      simp [Value.ownBlock] at hat
    · exact ⟨g,c',hv⟩
  obtain ⟨g,c',rfl⟩:=hv
  obtain ⟨ho',hbg⟩:=own_of_row hown
  exact h g c' w' ho' hbg (below_grown ((Below.refl _ _).alloc (Nat.le_refl _) _) hg (fun k hk=>by simp [Value.ownBlock] at hk;omega) (by simp))
theorem info_en:(Tryz.prog.info? 242).map (fun i=>(i.zero,i.size,i.bytes))=some (some (.agg #[.int .i64 0, .int .i64 0, .int .i64 0]),3,24):=by kernel_rfl
set_option maxRecDepth 100000 in
set_option maxHeartbeats 4000000 in
theorem prkval (A:Option Addr) (m c:Nat) (vs:List Int) (w:World) (hin:RkIn A m c vs w):Calls Tryz.prog 270 #[.agg #[.int .i64 (m:Nat), .slice A m c]] w fun e w'=>e = .returned (.int .i64 0)∧Below w.heap.size w w':=by
  obtain ⟨ad,rfl,hadb,_⟩:=hin.reads.rk (i:=0) (by have:=hin.mB;omega)
  have HR:=Lib.hid hin.reads
  have HS:=Lib.hid hin.srt
  have hln:=Lib.hid hin.len
  obtain ⟨h1,h2⟩:=hin.mB
  have hmc:=hin.mc
  have j0:¬ (m:Int)<0:=by omega
  have j1:¬ (1099511627776:Int)<(m:Int):=by omega
  have j2:((m:Int) == 0)=false:=by simp;omega
  clear hin
  go_enter Tryz.func270,Tryz.ntmps270
  go_upto_region 1 with (fail)
  have X:Row (w.alloc (.cells #[.int .i64 (m:Nat), .slice (some ad) m c] 188)) w.heap.size 188 #[.int .i64 (m:Nat), .slice (some ad) m c]:=row_new rfl
  have o:Below w.heap.size w (w.alloc (.cells #[.int .i64 (m:Nat), .slice (some ad) m c] 188)):=by (repeat (first | exact Below.refl _ _ | refine Below.setCell ?_ (by (try simp)<;>omega) _ | refine Below.alloc ?_ (by (try simp)<;>omega) _ | refine Below.drew ?_ | refine Below.trans ?_ (Below.mono (by assumption) (by (try simp)<;>omega))))
  generalize (w.alloc (.cells #[.int .i64 (m:Nat), .slice (some ad) m c] 188))=w1 at X o ⊢
  obtain ⟨X0,X1,Xf0,Xf1⟩:=row_two X
  go_wp2
  clear X0 X1 Xf0 Xf1
  go_loopw [4,5,6,29] (fun _ _ _ i wr=>∃ j:Nat,j≤m∧i = .int .i64 (j:Nat)∧Row wr w.heap.size 188 #[.int .i64 (m:Nat), .slice (some ad) m c]∧Below w.heap.size w wr) (fun _ _ _ i _=>m-(intOf i).toNat)
  case atStart=>exact ⟨0,Nat.zero_le _,rfl,X,o⟩
  case round =>
    clear X o
    obtain ⟨j,hj,rfl,X,o⟩:=hrel
    by_cases hlt:j<m
    · obtain ⟨_,ea,_,hi0⟩:=HR.out.rk hlt
      obtain rfl:ad=_:=by injection ea
      clear ea
      have jl:j<vs.length:=by rw [hln.out];exact hlt
      have HQ:=Lib.hid (fun p (hp:p≤j)=>HS.out.at hp jl)
      obtain ⟨c0,c1,c2⟩:=hi0.below o (by rw [block_of_add];exact hadb)
      generalize hvj:vs.getD j 0=vj at c0 HQ
      have i1:(j:Int)<(m:Int):=by omega
      have i2:(0:Int)≤(j:Int):=by omega
      have i3:¬ ((j+1:Nat):Int)<1:=by omega
      have i4:¬ (m:Int)<((j+1:Nat):Int):=by omega
      have z0:=o.size
      obtain ⟨jn,hjn⟩:∃ x,x=((j+1:Nat):Int):=⟨_,rfl⟩
      rw [← hjn] at c1 c2 i3 i4
      have EX:=Lib.hid hjn
      clear hjn
      clear hi0 jl hvj
      obtain ⟨X0,X1,Xf0,Xf1⟩:=row_two X
      go_upto_region 7 with (fail)
      have B:Row (wr.alloc (.cells #[.int .i64 vj, .int .i64 jn, .int .i64 jn] 242)) wr.heap.size 242 #[.int .i64 vj, .int .i64 jn, .int .i64 jn]:=row_new rfl
      replace X:=row_alloc X (.cells #[.int .i64 vj, .int .i64 jn, .int .i64 jn] 242)
      replace o:=o.alloc o.size (.cells #[.int .i64 vj, .int .i64 jn, .int .i64 jn] 242)
      clear c0 c1 c2 X0 X1 Xf0 Xf1
      generalize wr.alloc (.cells #[.int .i64 vj, .int .i64 jn, .int .i64 jn] 242)=w5 at X B o ⊢
      generalize wr.heap.size=bb at B ⊢
      obtain ⟨X0,X1,Xf0,Xf1⟩:=row_two X
      obtain ⟨B0,B1,B2,_,_,_⟩:=row_three B
      have i5:¬ jn<jn:=by omega
      go_upto_region 9 with (fail)
      by_cases j9:j=0
      · have jp:¬ (0:Int)<(j:Int):=by omega
        have jpn:¬ 0<j:=by omega
        clear j9
        go_wp2
        go_roundw
        case rel=>exact ⟨j+1,by omega,by go_num,X,o⟩
        case measure=>simp [intOf];omega
      · have jp:(0:Int)<(j:Int):=by omega
        have jpn:0<j:=by omega
        obtain ⟨p,hp⟩:∃ p:Nat,j=p+1:=⟨j-1,by omega⟩
        obtain ⟨_,ea,_,hi0⟩:=HR.out.rk (i:=p) (by omega)
        obtain rfl:ad=_:=by injection ea
        clear ea
        obtain ⟨c0,c1,c2⟩:=hi0.below o (by rw [block_of_add];exact hadb)
        have e1:=HQ.out p (by omega)
        have e4:=EX.out
        generalize vs.getD p 0=vp at c0 e1
        have e3:¬ vj<vp:=by omega
        have e5:¬ jn≤((p+1:Nat):Int):=by omega
        generalize ((p+1:Nat):Int)=pn at c1 c2 e5
        have wj:IntKind.i64.wrap ((j:Int)-1)=(p:Int):=by rw [IntWalk.i64_in _ (by omega)];omega
        have p1:(p:Int)<(m:Int):=by omega
        have p0:(0:Int)≤(p:Int):=by omega
        have z1:=o.size
        clear j9 hi0 e4 HQ
        replace hp:=Lib.hid hp
        go_upto_region 11 with (fail)
        have C:Row (w5.alloc (.cells #[.int .i64 vp, .int .i64 pn, .int .i64 pn] 242)) w5.heap.size 242 #[.int .i64 vp, .int .i64 pn, .int .i64 pn]:=row_new rfl
        replace X:=row_alloc X (.cells #[.int .i64 vp, .int .i64 pn, .int .i64 pn] 242)
        replace B:=row_alloc B (.cells #[.int .i64 vp, .int .i64 pn, .int .i64 pn] 242)
        replace o:=o.alloc o.size (.cells #[.int .i64 vp, .int .i64 pn, .int .i64 pn] 242)
        clear c0 c1 c2 B0 B1 B2 X0 X1 Xf0 Xf1
        generalize w5.alloc (.cells #[.int .i64 vp, .int .i64 pn, .int .i64 pn] 242)=w6 at X B C o ⊢
        generalize w5.heap.size=cb at C ⊢
        obtain ⟨B0,B1,B2,_,_,_⟩:=row_three B
        obtain ⟨C0,C1,C2,_,_,_⟩:=row_three C
        go_wp2
        go_roundw
        case rel=>exact ⟨j+1,by omega,by go_num,X,o⟩
        case measure=>simp [intOf];omega
    · have i1:¬ (j:Int)<(m:Int):=by omega
      obtain rfl:j=m:=by omega
      have jp:(0:Int)<(j:Int):=by omega
      have jpn:0<j:=by omega
      obtain ⟨p,hp⟩:∃ p:Nat,j=p+1:=⟨j-1,by omega⟩
      have e0:((p+1:Nat):Int)=(j:Int):=by omega
      obtain ⟨_,ea,_,hi0⟩:=HR.out.rk (i:=p) (by omega)
      obtain rfl:ad=_:=by injection ea
      clear ea
      obtain ⟨_,ea,_,hi1⟩:=HR.out.rk (i:=0) (by omega)
      obtain rfl:ad=_:=by injection ea
      clear ea
      obtain ⟨_,c1,_⟩:=hi0.below o (by rw [block_of_add];exact hadb)
      obtain ⟨_,_,d2⟩:=hi1.below o (by rw [block_of_add];exact hadb)
      rw [e0] at c1
      replace d2:wr.cell? ⟨ad.block,ad.off+2,none⟩=some (.int .i64 1):=d2
      have wj:IntKind.i64.wrap ((j:Int)-1)=(p:Int):=by rw [IntWalk.i64_in _ (by omega)];omega
      have p1:(p:Int)<(j:Int):=by omega
      have p0:(0:Int)≤(p:Int):=by omega
      clear hi0 hi1 e0
      replace hp:=Lib.hid hp
      obtain ⟨X0,X1,Xf0,Xf1⟩:=row_two X
      go_upto_region 14 with (fail)
      refine wp_region_quiet_lit (by as_aux_lemma=>kernel_rfl) (by as_aux_lemma=>kernel_rfl) ?_
      repeat (go_big_quiet_step (fail))
      refine wpQuiet_nil ?_
      intro _ hw'
      obtain ⟨nq,hw''⟩:=hw'
      subst hw''
      replace X:Row (wr.drewN nq) (w.heap.size) 188 #[.int .i64 (j:Nat), .slice (some ad) j c]:=X
      replace o:=o.trans (⟨rfl,rfl,rfl,Nat.le_refl _,fun _ _=>rfl⟩:Below _ wr (wr.drewN nq))
      generalize wr.drewN nq=w7 at X  o ⊢
      go_wp2
      go_ret
      exact ⟨rfl,o⟩
set_option maxRecDepth 100000 in
set_option maxHeartbeats 4000000 in
theorem prkgap (A:Option Addr) (m c:Nat) (vs:List Int) (w:World) (hin:RkIn A m c vs w):Calls Tryz.prog 271 #[.agg #[.int .i64 (m:Nat), .slice A m c]] w fun e w'=>e = .returned (.int .i64 1)∧Below w.heap.size w w':=by
  have PV:=Lib.hid (fun w' (hb:Below w.heap.size w w')=>prkval A m c vs w' (hin.below hb))
  obtain ⟨ad,rfl,hadb,_⟩:=hin.reads.rk (i:=0) (by have:=hin.mB;omega)
  have HR:=Lib.hid hin.reads
  obtain ⟨h1,h2⟩:=hin.mB
  have hmc:=hin.mc
  have j2:((m:Int) == 0)=false:=by simp;omega
  clear hin
  go_enter Tryz.func271,Tryz.ntmps271
  go_upto_region 1 with (fail)
  have X:Row (w.alloc (.cells #[.int .i64 (m:Nat), .slice (some ad) m c] 188)) w.heap.size 188 #[.int .i64 (m:Nat), .slice (some ad) m c]:=row_new rfl
  have o:Below w.heap.size w (w.alloc (.cells #[.int .i64 (m:Nat), .slice (some ad) m c] 188)):=by (repeat (first | exact Below.refl _ _ | refine Below.setCell ?_ (by (try simp)<;>omega) _ | refine Below.alloc ?_ (by (try simp)<;>omega) _ | refine Below.drew ?_ | refine Below.trans ?_ (Below.mono (by assumption) (by (try simp)<;>omega))))
  generalize (w.alloc (.cells #[.int .i64 (m:Nat), .slice (some ad) m c] 188))=w1 at X o ⊢
  obtain ⟨X0,X1,Xf0,Xf1⟩:=row_two X
  go_wp2_with fail
  refine (PV.out _ o).mono ?_
  rintro e w2 ⟨rfl,hb⟩
  replace X:=row_call X hb
  replace o:=o.trans (hb.mono o.size)
  clear hb PV X0 X1 Xf0 Xf1
  obtain ⟨X0,X1,Xf0,Xf1⟩:=row_two X
  go_upto_block 0 with (fail)
  clear X0 X1 Xf0 Xf1
  go_wp2
  go_loopw [3,4] (fun u3 u4 wr=>∃ j:Nat,1≤j∧j≤m∧u3 = .int .i64 1∧u4 = .int .i64 (j:Nat)∧Row wr w.heap.size 188 #[.int .i64 (m:Nat), .slice (some ad) m c]∧Below w.heap.size w wr) (fun _ i _=>m-(intOf i).toNat)
  case atStart=>exact ⟨1,Nat.le_refl _,h1,rfl,rfl,X,o⟩
  case round =>
    clear X o
    obtain ⟨j,hj1,hj,rfl,rfl,X,o⟩:=hrel
    obtain ⟨X0,X1,Xf0,Xf1⟩:=row_two X
    by_cases hlt:j<m
    · obtain ⟨p,hp⟩:∃ p:Nat,j=p+1:=⟨j-1,by omega⟩
      obtain ⟨_,ea,_,hi0⟩:=HR.out.rk hlt
      obtain rfl:ad=_:=by injection ea
      clear ea
      obtain ⟨_,ea,_,hi1⟩:=HR.out.rk (i:=p) (by omega)
      obtain rfl:ad=_:=by injection ea
      clear ea
      obtain ⟨_,_,c2⟩:=hi0.below o (by rw [block_of_add];exact hadb)
      obtain ⟨_,d1,_⟩:=hi1.below o (by rw [block_of_add];exact hadb)
      have wj:IntKind.i64.wrap ((j:Int)-1)=(p:Int):=by rw [IntWalk.i64_in _ (by omega)];omega
      have wg:IntKind.i64.wrap (((j+1:Nat):Int)-((p+1:Nat):Int))=1:=by rw [IntWalk.i64_in _ (by omega)];omega
      have i1:(j:Int)<(m:Int):=by omega
      have i2:(0:Int)≤(j:Int):=by omega
      have p1:(p:Int)<(m:Int):=by omega
      have p0:(0:Int)≤(p:Int):=by omega
      generalize ((j+1:Nat):Int)=jn at c2 wg
      generalize ((p+1:Nat):Int)=pn at d1 wg
      clear hi0 hi1
      replace hp:=Lib.hid hp
      go_upto_region 7 with (fail)
      refine wp_region_quiet_lit (by as_aux_lemma=>kernel_rfl) (by as_aux_lemma=>kernel_rfl) ?_
      repeat (go_big_quiet_step (fail))
      refine wpQuiet_nil ?_
      intro _ hw'
      obtain ⟨nq,hw''⟩:=hw'
      subst hw''
      replace X:Row (wr.drewN nq) (w.heap.size) 188 #[.int .i64 (m:Nat), .slice (some ad) m c]:=X
      replace o:=o.trans (⟨rfl,rfl,rfl,Nat.le_refl _,fun _ _=>rfl⟩:Below _ wr (wr.drewN nq))
      generalize wr.drewN nq=w5 at X  o ⊢
      go_wp2
      go_roundw
      case rel=>exact ⟨j+1,by omega,by omega,rfl,by go_num,X,o⟩
      case measure=>simp [intOf];omega
    · have i1:¬ (j:Int)<(m:Int):=by omega
      go_wp2
      go_ret
      exact ⟨rfl,o⟩
def RkRet (vs:List Int) (w:World) (e:Ending) (w':World):Prop:=∃ (g c:Nat),e = .returned (.agg #[.int .i64 (vs.length:Nat), .slice (some ⟨g,0,none⟩) vs.length c])∧RkIn (some ⟨g,0,none⟩) vs.length c vs w'∧w.heap.size≤g∧Below w.heap.size w w'
set_option maxRecDepth 100000 in
set_option maxHeartbeats 4000000 in
theorem prkcopied (A:Option Addr) (m c:Nat) (vs:List Int) (w:World) (hin:RkIn A m c vs w):Calls Tryz.prog 298 #[.agg #[.int .i64 (m:Nat), .slice A m c]] w (RkRet vs w):=by
  obtain ⟨ie,hie,iz0,iz1,iz2⟩:=info_parts info_en
  obtain rfl:=hin.len
  obtain ⟨ad,rfl,hadb,_⟩:=hin.reads.rk (i:=0) (by have:=hin.mB;omega)
  have HR:=Lib.hid hin.reads
  have HSR:=Lib.hid hin.srt
  have HM:=Lib.hid hin.mB
  clear hin
  obtain ⟨m,hm⟩:∃ m,vs.length=m:=⟨_,rfl⟩
  unfold RkRet
  rw [hm] at HR HM ⊢
  obtain ⟨h1,h2⟩:=HM.out
  replace hm:=Lib.hid hm
  go_enter Tryz.func298,Tryz.ntmps298
  go_upto_region 1 with (fail)
  have X:Row ((w.alloc (.cells #[.int .i64 (m:Nat), .slice (some ad) m c] 188)).alloc (.cells #[.int .i64 0, .slice none 0 0] 188)) w.heap.size 188 #[.int .i64 (m:Nat), .slice (some ad) m c]:=row_alloc (row_new rfl) _
  have R:Row ((w.alloc (.cells #[.int .i64 (m:Nat), .slice (some ad) m c] 188)).alloc (.cells #[.int .i64 0, .slice none 0 0] 188)) (w.heap.size+1) 188 #[.int .i64 0, .slice none 0 0]:=row_new (by simp)
  have o:Below w.heap.size w ((w.alloc (.cells #[.int .i64 (m:Nat), .slice (some ad) m c] 188)).alloc (.cells #[.int .i64 0, .slice none 0 0] 188)):=by (repeat (first | exact Below.refl _ _ | refine Below.setCell ?_ (by (try simp)<;>omega) _ | refine Below.alloc ?_ (by (try simp)<;>omega) _ | refine Below.drew ?_ | refine Below.trans ?_ (Below.mono (by assumption) (by (try simp)<;>omega))))
  generalize ((w.alloc (.cells #[.int .i64 (m:Nat), .slice (some ad) m c] 188)).alloc (.cells #[.int .i64 0, .slice none 0 0] 188))=w1 at X R o ⊢
  refine wp_region_phase 7 (fun w'=>Row w' w.heap.size 188 #[.int .i64 (m:Nat), .slice (some ad) m c]∧Row w' (w.heap.size+1) 188 #[.int .i64 0, .slice none 0 0]∧Below w.heap.size w w') (by kernel_rfl) (by kernel_rfl) (by kernel_rfl) (by kernel_rfl) (by kernel_rfl) (fun HOK=>?_)
  have HS:=(⟨row_drew X,row_drew R,o.drew⟩:Row w1.drew w.heap.size 188 #[.int .i64 (m:Nat), .slice (some ad) m c]∧Row w1.drew (w.heap.size+1) 188 #[.int .i64 0, .slice none 0 0]∧Below w.heap.size w w1.drew)
  (refine hw_take HOK (i:=0) ?_ rfl (by decide) (by kernel_rfl) (by kernel_rfl) (by exact fun _ _ _ h=>h) (Or.inl ⟨by rfl,fun w' hS=>?_⟩) HS ?_;rotate_left;(go_simp;try with_reducible rfl);simp only [put9])
  (refine hw_take HOK (i:=1) ?_ rfl (by decide) (by kernel_rfl) (by kernel_rfl) (by exact fun _ _ _ h=>h) (Or.inl ⟨by rfl,fun w' hS=>?_⟩) HS ?_;rotate_left;(obtain ⟨Y0,Y1,Yf0,Yf1⟩:=row_two hS.1;go_simp;try with_reducible rfl);simp only [put9])
  (refine hw_take HOK (i:=3) ?_ rfl (by decide) (by kernel_rfl) (by kernel_rfl) (by exact fun _ _ _ h=>h) (Or.inl ⟨by rfl,fun w' hS=>?_⟩) HS ?_;rotate_left;(go_simp;try with_reducible rfl);simp only [put9])
  (refine hw_take HOK (i:=4) ?_ rfl (by decide) (by kernel_rfl) (by kernel_rfl) (by exact fun _ _ _ h=>h) (Or.inl ⟨by rfl,fun w' hS=>?_⟩) HS ?_;rotate_left;(obtain ⟨Y0,Y1,Yf0,Yf1⟩:=row_two hS.1;go_simp;try with_reducible rfl);simp only [put9])
  clear X R
  have o1:=o.drew
  refine hw_one (i:=2) rfl (by decide) (by kernel_rfl) (fun K hK=>?_)
  go_simp
  refine hK _ _ ⟨row_alloc HS.1 _,row_alloc HS.2.1 _,HS.2.2.alloc HS.2.2.size _⟩ ?_
  clear hK K
  try simp only [put9]
  have RD:=HR.out.below HS.2.2
  obtain ⟨X,R,o⟩:=HS
  refine hw_one (i:=5) rfl (by decide) (by kernel_rfl) (fun K hK=>?_)
  refine step_clone (w1:=w1.drew) rfl _ _ 186 rfl 242 ie (.agg #[.int .i64 0, .int .i64 0, .int .i64 0]) 3 24 Tryz.underlying186 hie iz0 iz1 iz2 rfl (by decide) rfl w.heap.size (some ad) m c (rcells 0 vs) rfl RD o.size (rcells_one _ _) (by unfold maxLen;omega) (by omega) ?_
  intro g c2 w3 own3 hg3 hb3
  have zr:=row_lt R
  replace X:=row_call X hb3
  replace R:=row_call R hb3
  have z:=o.size
  replace o:=o.trans (hb3.mono o.size)
  refine hK _ _ ⟨X,R,o⟩ ?_
  clear hK K
  try simp only [put9]
  have HS:=(⟨X,R,o⟩:Row w3 w.heap.size 188 #[.int .i64 (m:Nat), .slice (some ad) m c]∧Row w3 (w.heap.size+1) 188 #[.int .i64 0, .slice none 0 0]∧Below w.heap.size w w3)
  (refine hw_take HOK (i:=6) ?_ rfl (by decide) (by kernel_rfl) (by kernel_rfl) (by exact fun _ _ _ h=>h) (Or.inl ⟨by rfl,fun w' hS=>?_⟩) HS ?_;rotate_left;(go_simp;try with_reducible rfl);simp only [put9])
  refine hw_done (by kernel_rfl) ?_
  try simp only [List.drop_succ_cons,List.drop_zero]
  clear HOK X HS HR RD
  obtain ⟨R0,R1,Rf0,Rf1⟩:=row_two R
  go_wp2
  have Sr0:=row_set R 0 (.int .i64 (m:Nat))
  have Sr1:=row_set Sr0 1 (.slice (some ⟨g,0,none⟩) m c2)
  have own90:=own3.other (p:=⟨w.heap.size+1,0,none⟩) (by show g≠w.heap.size+1;have:=hg3;simp at this;omega) (.int .i64 (m:Nat))
  have own91:=own90.other (p:=⟨w.heap.size+1,1,none⟩) (by show g≠w.heap.size+1;have:=hg3;simp at this;omega) (.slice (some ⟨g,0,none⟩) m c2)
  have o90:=o.setCell (p:=⟨w.heap.size+1,0,none⟩) (by show w.heap.size≤w.heap.size+1;omega) (.int .i64 (m:Nat))
  have o91:=o90.setCell (p:=⟨w.heap.size+1,1,none⟩) (by show w.heap.size≤w.heap.size+1;omega) (.slice (some ⟨g,0,none⟩) m c2)
  obtain ⟨S0,S1,_,_⟩:=row_two Sr1
  exact bodyPost_ret (v := .agg #[.int .i64 (m:Nat), .slice (some ⟨g,0,none⟩) m c2]) (by simp [results,Tryz.results298,go_sem,S0,S1]) rfl ⟨g,c2,rfl,RkIn.of_own own91 HSR.out h1 h2,by have:=hg3;simp at this;omega,o91⟩
set_option maxRecDepth 100000 in
set_option maxHeartbeats 4000000 in
theorem prkbetween (v:Int) (a:Nat) (A:Option Addr) (m c:Nat) (ys:List Int) (i:Nat) (w:World) (hin:RkIn A m c ys w) (hi:i≤m) (ha:a≤1000000):Calls Tryz.prog 299 #[.agg #[.int .i64 v, .int .i64 ((a+1:Nat):Int), .int .i64 ((a+1:Nat):Int)], .slice A m c, .int .i64 (i:Nat), .int .i64 (m:Nat)] w fun e w'=>e = .returned (.agg #[.int .i64 v, .int .i64 (((a+i)+1:Nat):Int), .int .i64 (((a+i)+1:Nat):Int)])∧Below w.heap.size w w':=by
  have HR:=Lib.hid hin.reads
  have hmB:=hin.mB
  have hmc:=hin.mc
  have w2:IntKind.i64.wrap (((i+1:Nat):Int)-1)=(i:Int):=by rw [IntWalk.i64_in _ (by omega)];omega
  have w3:IntKind.i64.wrap (((a+1:Nat):Int)+(i:Int))=((a+i+1:Nat):Int):=by rw [IntWalk.i64_in _ (by omega)];omega
  have w1:∀ p,i=p+1→IntKind.i64.wrap (((a+1:Nat):Int)+((p+1:Nat):Int))=((a+i+1:Nat):Int):=fun p hp=>by rw [IntWalk.i64_in _ (by omega)];omega
  have w0:i=0→((a+i+1:Nat):Int)=((a+1:Nat):Int):=fun h=>by omega
  generalize ((a+i+1:Nat):Int)=sv at w3 w1 w0 ⊢
  generalize ((a+1:Nat):Int)=av at w3 w1 w0 ⊢
  replace w1:=Lib.hid w1
  replace w0:=Lib.hid w0
  clear hin
  go_enter Tryz.func299,Tryz.ntmps299
  go_upto_region 1 with (fail)
  have E:Row ((w.alloc (.cells #[.int .i64 v, .int .i64 av, .int .i64 av] 242)).alloc (.cells #[.int .i64 0, .int .i64 0, .int .i64 0] 242)) (w.heap.size) 242 #[.int .i64 v, .int .i64 av, .int .i64 av]:=row_alloc (row_new rfl) _
  have R:Row ((w.alloc (.cells #[.int .i64 v, .int .i64 av, .int .i64 av] 242)).alloc (.cells #[.int .i64 0, .int .i64 0, .int .i64 0] 242)) (w.heap.size+1) 242 #[.int .i64 0, .int .i64 0, .int .i64 0]:=row_new (by simp)
  have o:Below w.heap.size w ((w.alloc (.cells #[.int .i64 v, .int .i64 av, .int .i64 av] 242)).alloc (.cells #[.int .i64 0, .int .i64 0, .int .i64 0] 242)):=by (repeat (first | exact Below.refl _ _ | refine Below.setCell ?_ (by (try simp)<;>omega) _ | refine Below.alloc ?_ (by (try simp)<;>omega) _ | refine Below.drew ?_ | refine Below.trans ?_ (Below.mono (by assumption) (by (try simp)<;>omega))))
  generalize ((w.alloc (.cells #[.int .i64 v, .int .i64 av, .int .i64 av] 242)).alloc (.cells #[.int .i64 0, .int .i64 0, .int .i64 0] 242))=w4 at E R o ⊢
  by_cases hz:i=0
  · have j0:¬ (0:Int)<(i:Int):=by omega
    obtain rfl:sv=av:=w0.out hz
    go_upto_region 3 with (fail)
    clear hz j0
    by_cases hl:i<m
    · have q1:(i:Int)<(m:Int):=by omega
      obtain ⟨ad,rfl,hadb,hi0⟩:=HR.out.rk hl
      have hi0:∀ w',Below w4.heap.size w4 w'→w'.cell? ⟨(ad.add (i*3)).block,(ad.add (i*3)).off+2,none⟩=some (.int .i64 ((i+1:Nat):Int)):=fun w' hb=>(RkCells.below hi0 (o.trans (hb.mono o.size)) (by rw [block_of_add];exact hadb)).2.2
      generalize ((i+1:Nat):Int)=ix at hi0 w2
      have HP:=Lib.hid hi0
      have q0:(0:Int)≤(i:Int):=by omega
      clear hi0 hl
      go_upto_region 4 with (fail)
      refine wp_region_free0 [0,1,2,3,4,5,6,7,8,9] [] [0,1,2,3,4,5,6,7,8,9] 10 (fun w'=>Below w4.heap.size w4 w') (by kernel_rfl) (by kernel_rfl) (fun _ _ d _ _ h=>by cases d<;>exact h) ?_ ?_
      · exact (Below.refl _ _).drew
      (refine plan_pure ?_ rfl rfl (fun w'=>?_) ?_;rotate_left;(go_simp;try with_reducible rfl);simp only [put9])
      (refine plan_val ?_ rfl rfl rfl (fun w' hS=>?_) ?_;rotate_left;(obtain ⟨E0,E1,E2,Ef0,Ef1,Ef2⟩:=row_three (row_call E hS);have p2:=HP.out _ hS;go_simp;try with_reducible rfl);simp only [put9])
      (refine plan_pure ?_ rfl rfl (fun w'=>?_) ?_;rotate_left;(go_simp;try with_reducible rfl);simp only [put9])
      (refine plan_pure ?_ rfl rfl (fun w'=>?_) ?_;rotate_left;(go_simp;try with_reducible rfl);simp only [put9])
      (refine plan_pure ?_ rfl rfl (fun w'=>?_) ?_;rotate_left;(go_simp;try with_reducible rfl);simp only [put9])
      (refine plan_pure ?_ rfl rfl (fun w'=>?_) ?_;rotate_left;(go_simp;try with_reducible rfl);simp only [put9])
      (refine plan_val ?_ rfl rfl rfl (fun w' hS=>?_) ?_;rotate_left;(obtain ⟨E0,E1,E2,Ef0,Ef1,Ef2⟩:=row_three (row_call E hS);have p2:=HP.out _ hS;go_simp;try with_reducible rfl);simp only [put9])
      (refine plan_pure ?_ rfl rfl (fun w'=>?_) ?_;rotate_left;(go_simp;try with_reducible rfl);simp only [put9])
      (refine plan_pure ?_ rfl rfl (fun w'=>?_) ?_;rotate_left;(go_simp;try with_reducible rfl);simp only [put9])
      (refine plan_pure ?_ rfl rfl (fun w'=>?_) ?_;rotate_left;(go_simp;try with_reducible rfl);simp only [put9])
      refine plan_nil ?_
      intro w5 L5
      simp only [List.drop_succ_cons,List.drop_zero]
      try simp only [put9]
      replace E:=row_call E L5
      replace R:=row_call R L5
      replace o:=o.trans (L5.mono o.size)
      clear L5
      clear HP
      obtain ⟨E0,E1,E2,Ef0,Ef1,Ef2⟩:=row_three E
      go_upto_region 6 with (fail)
      clear E0 Ef0 E1 Ef1 E2 Ef2
      replace E:=row_set E 2 (.int .i64 sv)
      replace E:Row (w5.setCell ⟨w.heap.size,2,none⟩ (.int .i64 sv)) (w.heap.size) 242 #[.int .i64 v, .int .i64 sv, .int .i64 sv]:=E
      replace R:=row_other (p:=⟨w.heap.size,2,none⟩) R (by show w.heap.size+1≠w.heap.size;omega) (.int .i64 sv)
      replace o:=o.setCell (p:=⟨w.heap.size,2,none⟩) (Nat.le_refl _) (.int .i64 sv)
      generalize w5.setCell ⟨w.heap.size,2,none⟩ (.int .i64 sv)=w7 at E R o ⊢
      obtain ⟨E0,E1,E2,Ef0,Ef1,Ef2⟩:=row_three E
      obtain ⟨R0,R1,R2,Rf0,Rf1,Rf2⟩:=row_three R
      go_wp2
      have Sr0:=row_set R 0 (.int .i64 v)
      have Sr1:=row_set Sr0 1 (.int .i64 sv)
      have Sr2:=row_set Sr1 2 (.int .i64 sv)
      have o90:=o.setCell (p:=⟨w.heap.size+1,0,none⟩) (by show w.heap.size≤w.heap.size+1;omega) (.int .i64 v)
      have o91:=o90.setCell (p:=⟨w.heap.size+1,1,none⟩) (by show w.heap.size≤w.heap.size+1;omega) (.int .i64 sv)
      have o92:=o91.setCell (p:=⟨w.heap.size+1,2,none⟩) (by show w.heap.size≤w.heap.size+1;omega) (.int .i64 sv)
      obtain ⟨S0,S1,S2,_,_,_⟩:=row_three Sr2
      exact bodyPost_ret (v := .agg #[.int .i64 v, .int .i64 sv, .int .i64 sv]) (by simp [results,Tryz.results299,go_sem,S0,S1,S2]) rfl ⟨rfl,o92⟩
    · have q1:¬ (i:Int)<(m:Int):=by omega
      obtain rfl:i=m:=by omega
      obtain ⟨E0,E1,E2,Ef0,Ef1,Ef2⟩:=row_three E
      clear hl
      go_upto_region 5 with (fail)
      clear E0 Ef0 E1 Ef1 E2 Ef2
      obtain ⟨E0,E1,E2,Ef0,Ef1,Ef2⟩:=row_three E
      go_upto_region 6 with (fail)
      clear E0 Ef0 E1 Ef1 E2 Ef2
      replace E:=row_set E 2 (.int .i64 sv)
      replace E:Row (w4.setCell ⟨w.heap.size,2,none⟩ (.int .i64 sv)) (w.heap.size) 242 #[.int .i64 v, .int .i64 sv, .int .i64 sv]:=E
      replace R:=row_other (p:=⟨w.heap.size,2,none⟩) R (by show w.heap.size+1≠w.heap.size;omega) (.int .i64 sv)
      replace o:=o.setCell (p:=⟨w.heap.size,2,none⟩) (Nat.le_refl _) (.int .i64 sv)
      generalize w4.setCell ⟨w.heap.size,2,none⟩ (.int .i64 sv)=w7 at E R o ⊢
      obtain ⟨E0,E1,E2,Ef0,Ef1,Ef2⟩:=row_three E
      obtain ⟨R0,R1,R2,Rf0,Rf1,Rf2⟩:=row_three R
      go_wp2
      have Sr0:=row_set R 0 (.int .i64 v)
      have Sr1:=row_set Sr0 1 (.int .i64 sv)
      have Sr2:=row_set Sr1 2 (.int .i64 sv)
      have o90:=o.setCell (p:=⟨w.heap.size+1,0,none⟩) (by show w.heap.size≤w.heap.size+1;omega) (.int .i64 v)
      have o91:=o90.setCell (p:=⟨w.heap.size+1,1,none⟩) (by show w.heap.size≤w.heap.size+1;omega) (.int .i64 sv)
      have o92:=o91.setCell (p:=⟨w.heap.size+1,2,none⟩) (by show w.heap.size≤w.heap.size+1;omega) (.int .i64 sv)
      obtain ⟨S0,S1,S2,_,_,_⟩:=row_three Sr2
      exact bodyPost_ret (v := .agg #[.int .i64 v, .int .i64 sv, .int .i64 sv]) (by simp [results,Tryz.results299,go_sem,S0,S1,S2]) rfl ⟨rfl,o92⟩
  · have j0:(0:Int)<(i:Int):=by omega
    obtain ⟨p,hp⟩:∃ p:Nat,i=p+1:=⟨i-1,by omega⟩
    have wp1:=w1.out p hp
    obtain ⟨ad,rfl,hadb,hi0⟩:=HR.out.rk (i:=p) (by omega)
    unfold RkCells at hi0
    have hi0:∀ w',Below w4.heap.size w4 w'→w'.cell? ⟨(ad.add (p*3)).block,(ad.add (p*3)).off+1,none⟩=some (.int .i64 ((p+1:Nat):Int)):=fun w' hb=>(RkCells.below hi0 (o.trans (hb.mono o.size)) (by rw [block_of_add];exact hadb)).2.1
    generalize ((p+1:Nat):Int)=pn at hi0 wp1
    have HP:=Lib.hid hi0
    clear hi0
    have wj:IntKind.i64.wrap ((i:Int)-1)=(p:Int):=by rw [IntWalk.i64_in _ (by omega)];omega
    have p1:(p:Int)<(m:Int):=by omega
    have p0:(0:Int)≤(p:Int):=by omega
    replace hp:=Lib.hid hp
    clear hz
    go_upto_region 2 with (fail)
    refine wp_region_free0 [0,1,2,3,4,5,6,7,8,9] [] [0,1,2,3,4,5,6,7,8,9] 10 (fun w'=>Below w4.heap.size w4 w') (by kernel_rfl) (by kernel_rfl) (fun _ _ d _ _ h=>by cases d<;>exact h) ?_ ?_
    · exact (Below.refl _ _).drew
    (refine plan_pure ?_ rfl rfl (fun w'=>?_) ?_;rotate_left;(go_simp;try with_reducible rfl);simp only [put9])
    (refine plan_val ?_ rfl rfl rfl (fun w' hS=>?_) ?_;rotate_left;(obtain ⟨E0,E1,E2,Ef0,Ef1,Ef2⟩:=row_three (row_call E hS);have p9:=HP.out _ hS;go_simp;try with_reducible rfl);simp only [put9])
    (refine plan_pure ?_ rfl rfl (fun w'=>?_) ?_;rotate_left;(go_simp;try with_reducible rfl);simp only [put9])
    (refine plan_pure ?_ rfl rfl (fun w'=>?_) ?_;rotate_left;(go_simp;try with_reducible rfl);simp only [put9])
    (refine plan_pure ?_ rfl rfl (fun w'=>?_) ?_;rotate_left;(go_simp;try with_reducible rfl);simp only [put9])
    (refine plan_pure ?_ rfl rfl (fun w'=>?_) ?_;rotate_left;(go_simp;try with_reducible rfl);simp only [put9])
    (refine plan_pure ?_ rfl rfl (fun w'=>?_) ?_;rotate_left;(go_simp;try with_reducible rfl);simp only [put9])
    (refine plan_val ?_ rfl rfl rfl (fun w' hS=>?_) ?_;rotate_left;(obtain ⟨E0,E1,E2,Ef0,Ef1,Ef2⟩:=row_three (row_call E hS);have p9:=HP.out _ hS;go_simp;try with_reducible rfl);simp only [put9])
    (refine plan_pure ?_ rfl rfl (fun w'=>?_) ?_;rotate_left;(go_simp;try with_reducible rfl);simp only [put9])
    (refine plan_pure ?_ rfl rfl (fun w'=>?_) ?_;rotate_left;(go_simp;try with_reducible rfl);simp only [put9])
    refine plan_nil ?_
    intro w5 L5
    simp only [List.drop_succ_cons,List.drop_zero]
    try simp only [put9]
    replace E:=row_call E L5
    replace R:=row_call R L5
    replace o:=o.trans (L5.mono o.size)
    clear L5
    clear HP
    obtain ⟨E0,E1,E2,Ef0,Ef1,Ef2⟩:=row_three E
    go_upto_region 3 with (fail)
    clear E0 Ef0 E1 Ef1 E2 Ef2
    replace E:=row_set E 1 (.int .i64 sv)
    replace E:Row (w5.setCell ⟨w.heap.size,1,none⟩ (.int .i64 sv)) (w.heap.size) 242 #[.int .i64 v, .int .i64 sv, .int .i64 av]:=E
    replace R:=row_other (p:=⟨w.heap.size,1,none⟩) R (by show w.heap.size+1≠w.heap.size;omega) (.int .i64 sv)
    replace o:=o.setCell (p:=⟨w.heap.size,1,none⟩) (Nat.le_refl _) (.int .i64 sv)
    generalize w5.setCell ⟨w.heap.size,1,none⟩ (.int .i64 sv)=w6 at E R o ⊢
    by_cases hl:i<m
    · have q1:(i:Int)<(m:Int):=by omega
      obtain ⟨_,ea,_,hi0⟩:=HR.out.rk hl
      obtain rfl:ad=_:=by injection ea
      clear ea
      have hi0:∀ w',Below w6.heap.size w6 w'→w'.cell? ⟨(ad.add (i*3)).block,(ad.add (i*3)).off+2,none⟩=some (.int .i64 ((i+1:Nat):Int)):=fun w' hb=>(RkCells.below hi0 (o.trans (hb.mono o.size)) (by rw [block_of_add];exact hadb)).2.2
      generalize ((i+1:Nat):Int)=ix at hi0 w2
      have HP:=Lib.hid hi0
      have q0:(0:Int)≤(i:Int):=by omega
      clear hi0 hl
      go_upto_region 4 with (fail)
      refine wp_region_free0 [0,1,2,3,4,5,6,7,8,9] [] [0,1,2,3,4,5,6,7,8,9] 10 (fun w'=>Below w6.heap.size w6 w') (by kernel_rfl) (by kernel_rfl) (fun _ _ d _ _ h=>by cases d<;>exact h) ?_ ?_
      · exact (Below.refl _ _).drew
      (refine plan_pure ?_ rfl rfl (fun w'=>?_) ?_;rotate_left;(go_simp;try with_reducible rfl);simp only [put9])
      (refine plan_val ?_ rfl rfl rfl (fun w' hS=>?_) ?_;rotate_left;(obtain ⟨E0,E1,E2,Ef0,Ef1,Ef2⟩:=row_three (row_call E hS);have p2:=HP.out _ hS;go_simp;try with_reducible rfl);simp only [put9])
      (refine plan_pure ?_ rfl rfl (fun w'=>?_) ?_;rotate_left;(go_simp;try with_reducible rfl);simp only [put9])
      (refine plan_pure ?_ rfl rfl (fun w'=>?_) ?_;rotate_left;(go_simp;try with_reducible rfl);simp only [put9])
      (refine plan_pure ?_ rfl rfl (fun w'=>?_) ?_;rotate_left;(go_simp;try with_reducible rfl);simp only [put9])
      (refine plan_pure ?_ rfl rfl (fun w'=>?_) ?_;rotate_left;(go_simp;try with_reducible rfl);simp only [put9])
      (refine plan_val ?_ rfl rfl rfl (fun w' hS=>?_) ?_;rotate_left;(obtain ⟨E0,E1,E2,Ef0,Ef1,Ef2⟩:=row_three (row_call E hS);have p2:=HP.out _ hS;go_simp;try with_reducible rfl);simp only [put9])
      (refine plan_pure ?_ rfl rfl (fun w'=>?_) ?_;rotate_left;(go_simp;try with_reducible rfl);simp only [put9])
      (refine plan_pure ?_ rfl rfl (fun w'=>?_) ?_;rotate_left;(go_simp;try with_reducible rfl);simp only [put9])
      (refine plan_pure ?_ rfl rfl (fun w'=>?_) ?_;rotate_left;(go_simp;try with_reducible rfl);simp only [put9])
      refine plan_nil ?_
      intro w5 L5
      simp only [List.drop_succ_cons,List.drop_zero]
      try simp only [put9]
      replace E:=row_call E L5
      replace R:=row_call R L5
      replace o:=o.trans (L5.mono o.size)
      clear L5
      clear HP
      obtain ⟨E0,E1,E2,Ef0,Ef1,Ef2⟩:=row_three E
      go_upto_region 6 with (fail)
      clear E0 Ef0 E1 Ef1 E2 Ef2
      replace E:=row_set E 2 (.int .i64 sv)
      replace E:Row (w5.setCell ⟨w.heap.size,2,none⟩ (.int .i64 sv)) (w.heap.size) 242 #[.int .i64 v, .int .i64 sv, .int .i64 sv]:=E
      replace R:=row_other (p:=⟨w.heap.size,2,none⟩) R (by show w.heap.size+1≠w.heap.size;omega) (.int .i64 sv)
      replace o:=o.setCell (p:=⟨w.heap.size,2,none⟩) (Nat.le_refl _) (.int .i64 sv)
      generalize w5.setCell ⟨w.heap.size,2,none⟩ (.int .i64 sv)=w7 at E R o ⊢
      obtain ⟨E0,E1,E2,Ef0,Ef1,Ef2⟩:=row_three E
      obtain ⟨R0,R1,R2,Rf0,Rf1,Rf2⟩:=row_three R
      go_wp2
      have Sr0:=row_set R 0 (.int .i64 v)
      have Sr1:=row_set Sr0 1 (.int .i64 sv)
      have Sr2:=row_set Sr1 2 (.int .i64 sv)
      have o90:=o.setCell (p:=⟨w.heap.size+1,0,none⟩) (by show w.heap.size≤w.heap.size+1;omega) (.int .i64 v)
      have o91:=o90.setCell (p:=⟨w.heap.size+1,1,none⟩) (by show w.heap.size≤w.heap.size+1;omega) (.int .i64 sv)
      have o92:=o91.setCell (p:=⟨w.heap.size+1,2,none⟩) (by show w.heap.size≤w.heap.size+1;omega) (.int .i64 sv)
      obtain ⟨S0,S1,S2,_,_,_⟩:=row_three Sr2
      exact bodyPost_ret (v := .agg #[.int .i64 v, .int .i64 sv, .int .i64 sv]) (by simp [results,Tryz.results299,go_sem,S0,S1,S2]) rfl ⟨rfl,o92⟩
    · have q1:¬ (i:Int)<(m:Int):=by omega
      obtain rfl:i=m:=by omega
      obtain ⟨E0,E1,E2,Ef0,Ef1,Ef2⟩:=row_three E
      clear hl
      go_upto_region 5 with (fail)
      clear E0 Ef0 E1 Ef1 E2 Ef2
      obtain ⟨E0,E1,E2,Ef0,Ef1,Ef2⟩:=row_three E
      go_upto_region 6 with (fail)
      clear E0 Ef0 E1 Ef1 E2 Ef2
      replace E:=row_set E 2 (.int .i64 sv)
      replace E:Row (w6.setCell ⟨w.heap.size,2,none⟩ (.int .i64 sv)) (w.heap.size) 242 #[.int .i64 v, .int .i64 sv, .int .i64 sv]:=E
      replace R:=row_other (p:=⟨w.heap.size,2,none⟩) R (by show w.heap.size+1≠w.heap.size;omega) (.int .i64 sv)
      replace o:=o.setCell (p:=⟨w.heap.size,2,none⟩) (Nat.le_refl _) (.int .i64 sv)
      generalize w6.setCell ⟨w.heap.size,2,none⟩ (.int .i64 sv)=w7 at E R o ⊢
      obtain ⟨E0,E1,E2,Ef0,Ef1,Ef2⟩:=row_three E
      obtain ⟨R0,R1,R2,Rf0,Rf1,Rf2⟩:=row_three R
      go_wp2
      have Sr0:=row_set R 0 (.int .i64 v)
      have Sr1:=row_set Sr0 1 (.int .i64 sv)
      have Sr2:=row_set Sr1 2 (.int .i64 sv)
      have o90:=o.setCell (p:=⟨w.heap.size+1,0,none⟩) (by show w.heap.size≤w.heap.size+1;omega) (.int .i64 v)
      have o91:=o90.setCell (p:=⟨w.heap.size+1,1,none⟩) (by show w.heap.size≤w.heap.size+1;omega) (.int .i64 sv)
      have o92:=o91.setCell (p:=⟨w.heap.size+1,2,none⟩) (by show w.heap.size≤w.heap.size+1;omega) (.int .i64 sv)
      obtain ⟨S0,S1,S2,_,_,_⟩:=row_three Sr2
      exact bodyPost_ret (v := .agg #[.int .i64 v, .int .i64 sv, .int .i64 sv]) (by simp [results,Tryz.results299,go_sem,S0,S1,S2]) rfl ⟨rfl,o92⟩
def RkRet2 (vs:List Int) (w:World) (e:Ending) (w':World):Prop:=∃ (g c:Nat),e = .returned (.tuple #[.agg #[.int .i64 (vs.length:Nat), .slice (some ⟨g,0,none⟩) vs.length c], .int .i64 0])∧RkIn (some ⟨g,0,none⟩) vs.length c vs w'∧w.heap.size≤g∧Below w.heap.size w w'
set_option maxRecDepth 100000 in
set_option maxHeartbeats 4000000 in
theorem prkprune (A:Option Addr) (m c:Nat) (vs:List Int) (b:Nat) (w:World) (hin:RkIn A m c vs w) (b1:1≤b) (b2:b≤65536) (hb:m≤b+1):Calls Tryz.prog 265 #[.agg #[.int .i64 (m:Nat), .slice A m c], .int .i64 (b:Nat)] w (RkRet2 vs w):=by
  have PV:=Lib.hid (fun w' (hb:Below w.heap.size w w')=>prkval A m c vs w' (hin.below hb))
  have PC:=Lib.hid (fun w' (hb:Below w.heap.size w w')=>prkcopied A m c vs w' (hin.below hb))
  have hl:=hin.len
  obtain ⟨h1,h2⟩:=hin.mB
  obtain ⟨ad,rfl,hadb,_⟩:=hin.reads.rk (i:=0) (by omega)
  unfold RkRet at PC
  unfold RkRet2
  rw [hl] at PC ⊢
  have q1:¬ (b:Int)<1:=by omega
  have q2:¬ (65536:Int)<(b:Int):=by omega
  have q3:(m:Int)≤(b:Int)+1:=by omega
  have wb:IntKind.i64.wrap ((b:Int)+1)=(b:Int)+1:=IntWalk.i64_in _ (by omega)
  clear hin hl
  go_enter Tryz.func265,Tryz.ntmps265
  go_upto_region 1 with (fail)
  have X:Row ((w.alloc (.cells #[.int .i64 (m:Nat), .slice (some ad) m c] 188)).alloc (.cells #[.int .i64 0, .slice none 0 0] 188)) (w.heap.size) 188 #[.int .i64 (m:Nat), .slice (some ad) m c]:=row_alloc (row_new rfl) _
  have R:Row ((w.alloc (.cells #[.int .i64 (m:Nat), .slice (some ad) m c] 188)).alloc (.cells #[.int .i64 0, .slice none 0 0] 188)) (w.heap.size+1) 188 #[.int .i64 0, .slice none 0 0]:=row_new (by simp)
  have o:Below w.heap.size w ((w.alloc (.cells #[.int .i64 (m:Nat), .slice (some ad) m c] 188)).alloc (.cells #[.int .i64 0, .slice none 0 0] 188)):=by (repeat (first | exact Below.refl _ _ | refine Below.setCell ?_ (by (try simp)<;>omega) _ | refine Below.alloc ?_ (by (try simp)<;>omega) _ | refine Below.drew ?_ | refine Below.trans ?_ (Below.mono (by assumption) (by (try simp)<;>omega))))
  generalize ((w.alloc (.cells #[.int .i64 (m:Nat), .slice (some ad) m c] 188)).alloc (.cells #[.int .i64 0, .slice none 0 0] 188))=w1 at X R o ⊢
  obtain ⟨X0,X1,Xf0,Xf1⟩:=row_two X
  go_wp2_with fail
  refine (PV.out _ o).mono ?_
  rintro e w2 ⟨rfl,hb'⟩
  replace X:=row_call X hb'
  replace R:=row_call R hb'
  replace o:=o.trans (hb'.mono o.size)
  clear hb' PV X0 X1 Xf0 Xf1
  obtain ⟨X0,X1,Xf0,Xf1⟩:=row_two X
  go_wp2_with fail
  refine (PC.out _ o).mono ?_
  rintro e w3 ⟨g,c2,rfl,in3,hg3,hb'⟩
  have zr:=row_lt R
  replace R:=row_call R hb'
  replace o:=o.trans (hb'.mono o.size)
  clear hb' PC X X0 X1 Xf0 Xf1
  obtain ⟨R0,R1,Rf0,Rf1⟩:=row_two R
  go_wp2
  have Sr0:=row_set R 0 (.int .i64 (m:Nat))
  have Sr1:=row_set Sr0 1 (.slice (some ⟨g,0,none⟩) m c2)
  have in90:=in3.setc (p:=⟨w.heap.size+1,0,none⟩) (fun a e=>by cases e;show w.heap.size+1≠g;omega) (.int .i64 (m:Nat))
  have in91:=in90.setc (p:=⟨w.heap.size+1,1,none⟩) (fun a e=>by cases e;show w.heap.size+1≠g;omega) (.slice (some ⟨g,0,none⟩) m c2)
  have o90:=o.setCell (p:=⟨w.heap.size+1,0,none⟩) (by show w.heap.size≤w.heap.size+1;omega) (.int .i64 (m:Nat))
  have o91:=o90.setCell (p:=⟨w.heap.size+1,1,none⟩) (by show w.heap.size≤w.heap.size+1;omega) (.slice (some ⟨g,0,none⟩) m c2)
  obtain ⟨S0,S1,_,_⟩:=row_two Sr1
  exact bodyPost_ret (v := .tuple #[.agg #[.int .i64 (m:Nat), .slice (some ⟨g,0,none⟩) m c2], .int .i64 0]) (by simp [results,Tryz.results265,go_sem,S0,S1]) rfl ⟨g,c2,rfl,in91,by omega,o91⟩
end Go.Proofs.YtdipoojjlddohaaGreat
end
