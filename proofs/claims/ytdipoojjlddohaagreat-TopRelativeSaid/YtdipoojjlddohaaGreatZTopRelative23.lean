/- What the law TopRelative needs, joined of its texts by a program (slim2.py); part 23. -/
import Derived.Test.YtdipoojjlddohaaGreatZTopRelative1
import Derived.Test.YtdipoojjlddohaaGreatZTopRelative4
import Derived.Test.YtdipoojjlddohaaGreatZTopRelative22
set_option linter.unusedVariables false
set_option linter.unusedSimpArgs false
set_option linter.unusedSectionVars false
set_option linter.unnecessarySimpa false
set_option maxRecDepth 100000
namespace Go.Proofs.YtdipoojjlddohaaGreat
open MC
open MT
open Go.RowKit
theorem MIn.blk {A:Option Addr} {m c:Nat} {l:List Mk} {w:World} (h:MIn A m c l w) (hm:0<m) (a:Addr) (e:A=some a):a.block<w.heap.size:=by
  obtain ⟨ad,e',hb,_⟩:=h.reads.2 hm;rw [e'] at e;cases e;exact hb
theorem MIn.keep0 {A:Option Addr} {m c:Nat} {l:List Mk} {w w':World} (h:MIn A m c l w) (hs:w.heap.size<=w'.heap.size) (hk:0<m->∀ a,A=some a->w'.heap[a.block]?=w.heap[a.block]?):MIn A m c l w':=by
  refine ⟨⟨h.reads.1,fun hn=>?_⟩,h.mB,h.mc,h.cB⟩;obtain ⟨ad,e,hb,hc⟩:=h.reads.2 hn;exact ⟨ad,e,Nat.lt_of_lt_of_le hb hs,fun j u hu=>(World.cell?_of_block (by rw [block_of_add];exact hk hn ad e)).trans (hc j u hu)⟩
theorem pclk_yes (now tt:Int) (w:World) (n0:0<=now) (n1:now<=16777216) (h1:now<=tt) (h2:tt<=16777216):Calls Tryz.prog 157 #[now,tt] w (Rd (.tuple #[tt,()]) w):=by
  have PT:=Lib.hid (fun w=>ptick_2 now w n0 n1);clear n0 n1;go_enter Tryz.func157,Tryz.ntmps157;go_wp2_with (go_at_call 230;with_reducible refine (PT.out _).mono ?_;rintro e w9 ⟨rfl,h9⟩;obtain rfl:=h9.symm)
  go_ret2
  exact ⟨rfl,rfl⟩
theorem pclk_no1 (now tt:Int) (w:World) (n0:0<=now) (n1:now<=16777216) (h1:tt<now):Calls Tryz.prog 157 #[now,tt] w (Rd (.tuple #[(), .int .i64 3]) w):=by
  have PT:=Lib.hid (fun w=>ptick_2 now w n0 n1);clear n0 n1;go_enter Tryz.func157,Tryz.ntmps157;go_wp2_with (go_at_call 230;with_reducible refine (PT.out _).mono ?_;rintro e w9 ⟨rfl,h9⟩;obtain rfl:=h9.symm)
  go_ret2
  exact ⟨rfl,rfl⟩
theorem pclk_no2 (now tt:Int) (w:World) (n0:0<=now) (n1:now<=16777216) (h0:now<=tt) (h1:16777216<tt):Calls Tryz.prog 157 #[now,tt] w (Rd (.tuple #[(), .int .i64 3]) w):=by
  have PT:=Lib.hid (fun w=>ptick_2 now w n0 n1);clear n0 n1;go_enter Tryz.func157,Tryz.ntmps157;go_wp2_with (go_at_call 230;with_reducible refine (PT.out _).mono ?_;rintro e w9 ⟨rfl,h9⟩;obtain rfl:=h9.symm)
  go_ret2
  exact ⟨rfl,rfl⟩
theorem pclk (now tt:Int) (w:World) (n0:0<=now) (n1:now<=16777216):Calls Tryz.prog 157 #[now,tt] w (Rd (.tuple #[.int .i64 (if tt<now∨16777216<tt then 0 else tt), .int .i64 (if tt<now∨16777216<tt then 3 else 0)]) w):=by
  by_cases h1:tt<now
  · rw [if_pos (.inl h1),if_pos (.inl h1)];exact pclk_no1 now tt w n0 n1 h1
  · by_cases h2:16777216<tt
    · rw [if_pos (.inr h2),if_pos (.inr h2)];exact pclk_no2 now tt w n0 n1 (by omega) h2
    · rw [if_neg (by omega),if_neg (by omega)];exact pclk_yes now tt w n0 n1 (by omega) (by omega)
theorem smTick_c {agg wd k cap now seq tt:Int} {l:List Mk} (h:smvalE agg wd k cap now seq l=0) (h1:¬ (tt<now∨16777216<tt)):smTick agg wd k cap now seq l tt=⟨agg,wd,k,cap,tt,seq,dropM tt wd l,0⟩:=by
  unfold smTick;rw [if_pos h,if_neg h1]
set_option maxRecDepth 100000 in
set_option maxHeartbeats 4000000 in
theorem psmtick_c (A:Option Addr) (m c:Nat) (l:List Mk) (agg wd k cap now seq:Int) (tt:Int) (w:World) (hin:MIn A m c l w) (sB:I64 seq) (hmm:m<=100000) (hv:smvalE agg wd k cap now seq l=0) (hto:¬ (tt<now∨16777216<tt)):Calls Tryz.prog 67 #[.agg (J1 agg wd k cap now seq (.slice A m c)),tt] w fun e w'=>SmRet A (smTick agg wd k cap now seq l tt) w e w':=by
  rw [smTick_c hv hto];obtain ⟨⟨_,d0,d1,_,_,_,_,n0,n1⟩,hMV,_⟩:=of_smvalE hv
  have HT:=Lib.hid (show ∀ x∈l,0<=x.t/\x.t<=tt from fun x hx=>by
    have:=(mvalid_iff.1 hMV).2.one x hx;have h5:=this.2.2.2.2.1;have h6:=this.2.2.2.2.2.1
    omega)
  have PC:=fun w=>pclk now tt w n0 n1;simp only [if_neg hto] at PC;replace PC:=Lib.hid PC;have HR:=Lib.hid hin;have HFB:=Lib.hid (fun h a e=>hin.blk h a e);have P:=fun w' (hb:Below w w w')=>pvalS A m c l agg wd k cap now seq w' (hin.below hb) sB;rw [hv] at P;replace P:=Lib.hid P;have t0:0<=tt:=by omega
  have t1:tt<=16777216:=by omega
  clear hv hin sB hto hMV;go_enter Tryz.func67,Tryz.ntmps67;go_upto_region 7 with (first | (go_at_call 136;with_reducible refine (P.out _ bel9).mono ?_;rintro e w1 ⟨rfl,hb1⟩;have hz1:=hb1.size;(try simp at hz1);have o1:Below w w w1:=bel9;have q1_0:w.heap.size<w1.heap.size:=(by omega);have r1_0:Row w1 (w.heap.size) 37 (J1 agg wd k cap now seq (.slice A m c)):=row_call row9 hb1;obtain ⟨c1_0a,c1_0b,c1_0c,c1_0d,c1_0e,c1_0f,c1_0g,f1_0a,f1_0b,f1_0c,f1_0d,f1_0e,f1_0f,f1_0g⟩:=row_seven r1_0;have q1_1:w.heap.size+1<w1.heap.size:=(by omega);have r1_1:Row w1 (w.heap.size+1) 37 J39:=row_call row9 hb1;obtain ⟨c1_1a,c1_1b,c1_1c,c1_1d,c1_1e,c1_1f,c1_1g,f1_1a,f1_1b,f1_1c,f1_1d,f1_1e,f1_1f,f1_1g⟩:=row_seven r1_1) | (go_at_call 157;with_reducible refine (PC.out _).mono ?_;rintro e w9 ⟨rfl,h9⟩;obtain rfl:=h9.symm))
  clear P PC c1_0a c1_0b c1_0c c1_0d c1_0e c1_0f c1_0g f1_0a f1_0b f1_0c f1_0d f1_0e f1_0f f1_0g c1_1a c1_1b c1_1c c1_1d c1_1e c1_1f c1_1g f1_1a f1_1b f1_1c f1_1d f1_1e f1_1f f1_1g;obtain ⟨X0,X1,X2,X3,X4,X5,X6,Xf0,Xf1,Xf2,Xf3,Xf4,Xf5,Xf6⟩:=row_seven r1_0;have KR:=Lib.hid r1_0;clear r1_0;go_upto_region 8 with (fail)
  have X:Row (w1.setCell ⟨w,4,none⟩ (.int .i64 tt)) (w.heap.size) 37 (J1 agg wd k cap tt seq (.slice A m c)):=row_set KR.out 4 _;have R:Row (w1.setCell ⟨w,4,none⟩ (.int .i64 tt)) (w.heap.size+1) 37 J39:=row_other (p:=⟨w,4,none⟩) r1_1 (by show w.heap.size+1≠w.heap.size;omega) _;have o:Below w w (w1.setCell ⟨w,4,none⟩ (.int .i64 tt)):=o1.setCell (p:=⟨w,4,none⟩) (Nat.le_refl _) _;generalize w1.setCell ⟨w,4,none⟩ (.int .i64 tt)=w3 at X R o |-
  clear X0 X1 X2 X3 X4 X5 X6 Xf0 Xf1 Xf2 Xf3 Xf4 Xf5 Xf6 KR o1 r1_1;obtain ⟨X0,X1,X2,X3,X4,X5,X6,Xf0,Xf1,Xf2,Xf3,Xf4,Xf5,Xf6⟩:=row_seven X;go_wp2_with fail;refine (pmdrop A m c l tt wd w3 (HR.out.below o) (by omega) t0 t1 d0 d1 HT.out).mono ?_;rintro e w4 ⟨A5,m5,c5,rfl,inA,hb4,fr4⟩;have z3:=row_lt R;clear X0 X1 X2 X3 X4 X5 X6 Xf0 Xf1 Xf2 Xf3 Xf4 Xf5 Xf6;replace X:=row_call X hb4;replace R:=row_call R hb4;have z4:=hb4.size;have o3:=o.size;replace o:=o.trans (hb4.mono o.size);have IN:=Lib.hid inA
  have XB0:=Lib.hid (show 0<m5->∀ a,A5=some a->a.block≠w.heap.size/\a.block≠w.heap.size+1 from fun h a e=>by
    rcases fr4 a e with g | ⟨b,eb,g⟩
    · omega
    · have hl:=inA.len
      have hm0:0<m:=by
        rcases Nat.eq_zero_or_pos m with h0 | h0
        · exfalso;have h1:=HR.out.len;have h2:l=[]:=List.eq_nil_of_length_eq_zero (by omega);rw [h2,dropM_nil] at hl;simp at hl;omega
        · exact h0
      have:=HFB.out hm0 b eb
      omega)
  have FR:=Lib.hid (show ∀ a,A5=some a->(w.heap.size<=a.block/\a.block<w4.heap.size)∨∃ b,A=some b/\a.block=b.block from fun a e=>by
    rcases fr4 a e with g | g
    · exact .inl (by omega)
    · exact .inr g)
  clear hb4 inA fr4;obtain ⟨X0,X1,X2,X3,X4,X5,X6,Xf0,Xf1,Xf2,Xf3,Xf4,Xf5,Xf6⟩:=row_seven X;obtain ⟨R0,R1,R2,R3,R4,R5,R6,Rf0,Rf1,Rf2,Rf3,Rf4,Rf5,Rf6⟩:=row_seven R;have XR:=Lib.hid X;have RR:=Lib.hid R;clear X R;go_upto_region 9 with (fail)
  have X:Row (w4.setCell ⟨w,6,none⟩ (.slice A5 m5 c5)) (w.heap.size) 37 (J1 agg wd k cap tt seq (.slice A5 m5 c5)):=(row_set XR.out 6 (.slice A5 m5 c5))
  have R:Row (w4.setCell ⟨w,6,none⟩ (.slice A5 m5 c5)) (w.heap.size+1) 37 J39:=(row_other (p:=⟨w,6,none⟩) RR.out (by show w.heap.size+1≠w.heap.size;omega) (.slice A5 m5 c5))
  have o6:Below w w (w4.setCell ⟨w,6,none⟩ (.slice A5 m5 c5)):=(Below.setCell (p:=⟨w,6,none⟩) o (Nat.le_refl _) (.slice A5 m5 c5))
  have hkp6:∀ b',b'≠w.heap.size->((w4.setCell ⟨w,6,none⟩ (.slice A5 m5 c5))).heap[b']?=w4.heap[b']?:=fun b' h'=>((Below.heap_setCell _ ⟨w,6,none⟩ (.slice A5 m5 c5) b' h').trans rfl)
  have hs6:w4.heap.size<=((w4.setCell ⟨w,6,none⟩ (.slice A5 m5 c5))).heap.size:=by simp only [size_setCell];exact Nat.le_refl _
  have IN6:=Lib.hid (IN.out.keep0 hs6 (fun h a e=>hkp6 a.block (XB0.out h a e).1));clear hkp6;generalize (w4.setCell ⟨w,6,none⟩ (.slice A5 m5 c5))=w6 at X R o6 hs6 IN6 |-
  clear X0 X1 X2 X3 X4 X5 X6 Xf0 Xf1 Xf2 Xf3 Xf4 Xf5 Xf6 R0 R1 R2 R3 R4 R5 R6 Rf0 Rf1 Rf2 Rf3 Rf4 Rf5 Rf6 XR RR IN o;obtain ⟨X0,X1,X2,X3,X4,X5,X6,Xf0,Xf1,Xf2,Xf3,Xf4,Xf5,Xf6⟩:=row_seven X;obtain ⟨R0,R1,R2,R3,R4,R5,R6,Rf0,Rf1,Rf2,Rf3,Rf4,Rf5,Rf6⟩:=row_seven R;go_wp2;have hbge:w.heap.size<=w.heap.size+1:=by omega
  have hkp:∀ b',b'≠w.heap.size+1->((((((((w6.setCell ⟨w.heap.size+1,0,none⟩ (.int .i64 agg)).setCell ⟨w.heap.size+1,1,none⟩ (.int .i64 wd)).setCell ⟨w.heap.size+1,2,none⟩ (.int .i64 k)).setCell ⟨w.heap.size+1,3,none⟩ (.int .i64 cap)).setCell ⟨w.heap.size+1,4,none⟩ (.int .i64 tt)).setCell ⟨w.heap.size+1,5,none⟩ (.int .i64 seq)).setCell ⟨w.heap.size+1,6,none⟩ (.slice A5 m5 c5))).heap[b']?=w6.heap[b']?:=fun b' h'=>((Below.heap_setCell _ ⟨w.heap.size+1,6,none⟩ (.slice A5 m5 c5) b' h').trans ((Below.heap_setCell _ ⟨w.heap.size+1,5,none⟩ (.int .i64 seq) b' h').trans ((Below.heap_setCell _ ⟨w.heap.size+1,4,none⟩ (.int .i64 tt) b' h').trans ((Below.heap_setCell _ ⟨w.heap.size+1,3,none⟩ (.int .i64 cap) b' h').trans ((Below.heap_setCell _ ⟨w.heap.size+1,2,none⟩ (.int .i64 k) b' h').trans ((Below.heap_setCell _ ⟨w.heap.size+1,1,none⟩ (.int .i64 wd) b' h').trans ((Below.heap_setCell _ ⟨w.heap.size+1,0,none⟩ (.int .i64 agg) b' h').trans rfl)))))))
  have hksz:w6.heap.size<=((((((((w6.setCell ⟨w.heap.size+1,0,none⟩ (.int .i64 agg)).setCell ⟨w.heap.size+1,1,none⟩ (.int .i64 wd)).setCell ⟨w.heap.size+1,2,none⟩ (.int .i64 k)).setCell ⟨w.heap.size+1,3,none⟩ (.int .i64 cap)).setCell ⟨w.heap.size+1,4,none⟩ (.int .i64 tt)).setCell ⟨w.heap.size+1,5,none⟩ (.int .i64 seq)).setCell ⟨w.heap.size+1,6,none⟩ (.slice A5 m5 c5))).heap.size:=by simp only [size_setCell];exact Nat.le_refl _
  have R9:Row (((((((w6.setCell ⟨w.heap.size+1,0,none⟩ (.int .i64 agg)).setCell ⟨w.heap.size+1,1,none⟩ (.int .i64 wd)).setCell ⟨w.heap.size+1,2,none⟩ (.int .i64 k)).setCell ⟨w.heap.size+1,3,none⟩ (.int .i64 cap)).setCell ⟨w.heap.size+1,4,none⟩ (.int .i64 tt)).setCell ⟨w.heap.size+1,5,none⟩ (.int .i64 seq)).setCell ⟨w.heap.size+1,6,none⟩ (.slice A5 m5 c5)) (w.heap.size+1) 37 (J1 agg wd k cap tt seq (.slice A5 m5 c5)):=(row_set (row_set (row_set (row_set (row_set (row_set (row_set R 0 (.int .i64 agg)) 1 (.int .i64 wd)) 2 (.int .i64 k)) 3 (.int .i64 cap)) 4 (.int .i64 tt)) 5 (.int .i64 seq)) 6 (.slice A5 m5 c5))
  have o9:Below w w (((((((w6.setCell ⟨w.heap.size+1,0,none⟩ (.int .i64 agg)).setCell ⟨w.heap.size+1,1,none⟩ (.int .i64 wd)).setCell ⟨w.heap.size+1,2,none⟩ (.int .i64 k)).setCell ⟨w.heap.size+1,3,none⟩ (.int .i64 cap)).setCell ⟨w.heap.size+1,4,none⟩ (.int .i64 tt)).setCell ⟨w.heap.size+1,5,none⟩ (.int .i64 seq)).setCell ⟨w.heap.size+1,6,none⟩ (.slice A5 m5 c5)):=(Below.setCell (p:=⟨w.heap.size+1,6,none⟩) (Below.setCell (p:=⟨w.heap.size+1,5,none⟩) (Below.setCell (p:=⟨w.heap.size+1,4,none⟩) (Below.setCell (p:=⟨w.heap.size+1,3,none⟩) (Below.setCell (p:=⟨w.heap.size+1,2,none⟩) (Below.setCell (p:=⟨w.heap.size+1,1,none⟩) (Below.setCell (p:=⟨w.heap.size+1,0,none⟩) o6 hbge (.int .i64 agg)) hbge (.int .i64 wd)) hbge (.int .i64 k)) hbge (.int .i64 cap)) hbge (.int .i64 tt)) hbge (.int .i64 seq)) hbge (.slice A5 m5 c5))
  generalize (((((((w6.setCell ⟨w.heap.size+1,0,none⟩ (.int .i64 agg)).setCell ⟨w.heap.size+1,1,none⟩ (.int .i64 wd)).setCell ⟨w.heap.size+1,2,none⟩ (.int .i64 k)).setCell ⟨w.heap.size+1,3,none⟩ (.int .i64 cap)).setCell ⟨w.heap.size+1,4,none⟩ (.int .i64 tt)).setCell ⟨w.heap.size+1,5,none⟩ (.int .i64 seq)).setCell ⟨w.heap.size+1,6,none⟩ (.slice A5 m5 c5))=w9 at R9 o9 hkp hksz |-
  obtain ⟨N0,N1,N2,N3,N4,N5,N6,Nf0,Nf1,Nf2,Nf3,Nf4,Nf5,Nf6⟩:=row_seven R9;exact bodyPost_ret (v := .tuple #[.agg (J1 agg wd k cap tt seq (.slice A5 m5 c5)),()]) (by simp [results,Tryz.results67,go_sem,List.getElem?_toArray,N0,N1,N2,N3,N4,N5,N6]) rfl (smret_ok (IN6.out.keep0 hksz (fun h a e=>hkp a.block (XB0.out h a e).2)) o9 (fun a e=>(FR.out a e).imp (fun g=>⟨g.1,by omega⟩) (fun g=>g)))
section
variable {P:Program} {ops:Array Oper} {md:Region.Mode} {S:World->Prop} {Q:Exit->Act->World->Prop} {n g:Nat} {tail:List Oper}
def HeadW (P:Program) (md:Region.Mode) (ops:Array Oper) (S:World->Prop) (Q:Exit->Act->World->Prop) (n g:Nat) (tail:List Oper):Nat->Array Bool->Act->World->Prop
  | 0,listed,a,w=>Region.seqB md ops g n listed=true/\wpList P ops Q tail a w
  | f+1,listed,a,w=>Region.ready md ops listed≠[]/\∀ i∈Region.ready md ops listed,i<n/\wpOp P ops Q i (fun a' w'=>S w'/\HeadW P md ops S Q n g tail f (listed.setIfInBounds i true) a' w') a w
theorem headW_any (hg:tail.length=g) (ht:∀ j,tail[j]?=ops[n+j]?):∀ (f:Nat) (listed:Array Bool) (a:Act) (w:World),HeadW P md ops S Q n g tail f listed a w->wpAny P md ops Q (f+g) listed a w
  | 0,listed,a,w,h=>by
    rw [Nat.zero_add];subst hg;exact wpAny_of_seq tail n listed a w ht h.1 h.2
  | f+1,listed,a,w,h=>by
    rw [show f+1+g=(f+g)+1 from by omega];exact ⟨fun h0=>absurd h0 h.1,fun i hi=>wpOp_mono (fun a' w' h'=>headW_any hg ht f _ a' w' h'.2) (h.2 i hi).2⟩
structure PhaseOK (md:Region.Mode) (ops:Array Oper) (n:Nat):Prop where
  sel:Region.noSelect ops=true
  sink:Region.sinkB md ops n=true
  chain:Region.chainB md ops n=true
  lt:n<ops.size
theorem headW_first (ok:PhaseOK md ops n) {i:Nat} {oi:Oper} {v:Value} (hi:ops[i]?=some oi) (hin:i<n) (hQ:∀ c a w,Q (.panic c) (a.put oi.dst v) w->Q (.panic c) a w) :
    ∀ (f:Nat) (listed:Array Bool) (a:Act) (w:World),HeadInv md ops n listed ->
      (∀ j oj,ops[j]?=some oj->j≠i->listed.getD j true=false->(∀ e∈oj.after,Region.binds md e=true->e.on≠i)->oi.apart ops oj=true) ->
      i∈Region.ready md ops listed->YieldsIf P ops S oi v a->S w->HeadW P md ops S Q n g tail f (listed.setIfInBounds i true) (a.put oi.dst v) w->HeadW P md ops S Q n g tail (f+1) listed a w:=by
  have hsel:=Region.noSelect_spec ok.sel;intro f
  induction f with
  | zero =>
    intro listed a w inv _ hr hy hS H;refine ⟨fun h0=>by rw [h0] at hr;exact absurd hr (by simp),fun j hj=>?_⟩;have hjn:j<n:=Nat.lt_of_not_le fun hle=>tail_waits ok.sink ok.chain ok.lt inv _ i rfl hin (mem_ready.1 hr).1 j hle hj;by_cases hji:j=i
    · subst hji;exact ⟨hjn,hy.wpOp hi hS ⟨hS,H⟩⟩
    · exact absurd (seqB_ready H.1 j (ready_mono hj hji)) (by omega)
  | succ f ih =>
    intro listed a w inv hfree hr hy hS H;refine ⟨fun h0=>by rw [h0] at hr;exact absurd hr (by simp),fun j hj=>?_⟩;have hun:=(mem_ready.1 hr).1;have hjn:j<n:=Nat.lt_of_not_le fun hle=>tail_waits ok.sink ok.chain ok.lt inv _ i rfl hin hun j hle hj;by_cases hji:j=i
    · subst hji;exact ⟨hjn,hy.wpOp hi hS ⟨hS,H⟩⟩
    · have h1:=(H.2 j (ready_mono hj hji)).2;obtain ⟨hjun,oj,hoj,hall⟩:=mem_ready.1 hj
      have hnot:∀ e∈oj.after,Region.binds md e=true->e.on≠i:=fun e he hb heq=>by
        have h1:=hall e he hb;rw [heq,getD_both hun] at h1;cases h1
      have h2:=wpOp_putIf hoj (hfree j oj hoj hji hjun hnot) (fun cs b=>hsel i oi cs b hi) (fun cs b=>hsel j oj cs b hoj) hQ hy h1;refine ⟨hjn,wpOp_mono (fun a' w' h3=>⟨h3.2.1,ih (listed.setIfInBounds j true) a' w' (inv.set hj hjn) (fun k ok' hk hki hku hno=>?_) (ready_mono hr (Ne.symm hji)) h3.1 h3.2.1 ?_⟩) h2⟩
      · refine hfree k ok' hk hki ?_ hno;by_cases hjk:j=k
        · subst hjk;exact hjun
        · rw [getD_set_ne true hjk] at hku;exact hku
      · rw [Array.setIfInBounds_comm _ _ hji];exact h3.2.2
def HW (P:Program) (md:Region.Mode) (ops:Array Oper) (S:World->Prop) (Q:Exit->Act->World->Prop) (n g:Nat) (tail:List Oper) (f:Nat) (listed:Array Bool) (a:Act) (w:World):Prop :=
  HeadInv md ops n listed->HeadW P md ops S Q n g tail f listed a w
variable {f:Nat} {listed:Array Bool} {a:Act} {w:World}
theorem hw_take (ok:PhaseOK md ops n) {i:Nat} {oi:Oper} (v:Value) (hi:ops[i]?=some oi) (hin:i<n) (hf:Region.free md ops listed i=true) (hr:(Region.ready md ops listed).contains i=true)
    (hQ:∀ c a w,Q (.panic c) (a.put oi.dst v) w->Q (.panic c) a w) (hy:YieldsIf P ops S oi v a) (hS:S w) (h:HW P md ops S Q n g tail f (listed.setIfInBounds i true) (a.put oi.dst v) w):HW P md ops S Q n g tail (f+1) listed a w:=fun inv =>
  have hr':i∈Region.ready md ops listed:=by simpa using hr
  headW_first ok hi hin hQ f listed a w inv (Region.free_spec hi hf) hr' hy hS (h (inv.set hr' hin))
theorem hw_one {i:Nat} {oi:Oper} (hi:ops[i]?=some oi) (hin:i<n) (hr:Region.ready md ops listed=[i])
    (h:∀ K:Act->World->Prop,(∀ a' w',S w'->HW P md ops S Q n g tail f (listed.setIfInBounds i true) a' w'->K a' w')->if Region.wanted oi (yielded ops a.tmps)=true then Oper.wp P oi a w K Q else K (a.put oi.dst undef) w):HW P md ops S Q n g tail (f+1) listed a w:=fun inv=>by
  refine ⟨by rw [hr];simp,fun j hj=>?_⟩;have hj':=hj;rw [hr] at hj;obtain rfl:j=i:=by simpa using hj
  refine ⟨hin,?_⟩;have:=h (fun a' w'=>S w'/\HeadW P md ops S Q n g tail f (listed.setIfInBounds j true) a' w') (fun a' w' hS hh=>⟨hS,hh (inv.set hj' hin)⟩);unfold wpOp;simp only [hi];split at this
  · rename_i hw;simp only [hw,if_true];exact .inl this
  · rename_i hw;simp only [hw];exact this
theorem hw_two {i j:Nat} {oi oj:Oper} (hi:ops[i]?=some oi) (hj:ops[j]?=some oj) (hin:i<n) (hjn:j<n) (hr:Region.ready md ops listed=[i,j])
    (h:∀ K:Act->World->Prop,(∀ a' w',S w'->HW P md ops S Q n g tail f (listed.setIfInBounds i true) a' w'->K a' w')->if Region.wanted oi (yielded ops a.tmps)=true then Oper.wp P oi a w K Q else K (a.put oi.dst undef) w)
    (h':∀ K:Act->World->Prop,(∀ a' w',S w'->HW P md ops S Q n g tail f (listed.setIfInBounds j true) a' w'->K a' w')->if Region.wanted oj (yielded ops a.tmps)=true then Oper.wp P oj a w K Q else K (a.put oj.dst undef) w):HW P md ops S Q n g tail (f+1) listed a w:=fun inv=>by
  refine ⟨by rw [hr];simp,fun k hk=>?_⟩;have hk':=hk;rw [hr] at hk;have hk:k=i∨k=j:=by simpa using hk
  rcases hk with rfl | rfl
  · refine ⟨hin,?_⟩;have:=h (fun a' w'=>S w'/\HeadW P md ops S Q n g tail f (listed.setIfInBounds k true) a' w') (fun a' w' hS hh=>⟨hS,hh (inv.set hk' hin)⟩);unfold wpOp;simp only [hi];split at this
    · rename_i hw;simp only [hw,if_true];exact .inl this
    · rename_i hw;simp only [hw];exact this
  · refine ⟨hjn,?_⟩;have:=h' (fun a' w'=>S w'/\HeadW P md ops S Q n g tail f (listed.setIfInBounds k true) a' w') (fun a' w' hS hh=>⟨hS,hh (inv.set hk' hjn)⟩);unfold wpOp;simp only [hj];split at this
    · rename_i hw;simp only [hw,if_true];exact .inl this
    · rename_i hw;simp only [hw];exact this
theorem hw_done (hB:Region.seqB md ops g n listed=true) (h:wpList P ops Q tail a w):HW P md ops S Q n g tail 0 listed a w:=fun _=>⟨hB,h⟩
theorem wp_region_phase {id:Nat} {l:List Oper} (n:Nat) (S:World->Prop) (hm:P.follows .mixedOrders=true) (hsel:Region.noSelect l.toArray=true) (hs:Region.sinkB .any l.toArray n=true) (hc:Region.chainB .any l.toArray n=true) (hn:decide (n<l.toArray.size)=true)
    (h:PhaseOK .any l.toArray n->HW P .any l.toArray S Q n (l.drop n).length (l.drop n) n (Array.replicate l.toArray.size false) a w.drew):(Code.region id l.toArray true).wp P Q a w:=by
  have hn:=of_decide_eq_true hn;refine wp_region_any hm ?_
  have inv0:HeadInv .any l.toArray n (Array.replicate l.toArray.size false) :=
    ⟨by simp,fun j oj _ hl=>(by rw [getD_replicate_false] at hl;cases hl),fun t _ ht=>getD_in (by simpa using ht) (getD_replicate_false _ _)⟩
  have H:=headW_any (P:=P) (S:=S) (Q:=Q) (md := .any) (ops:=l.toArray) (n:=n) (tail:=l.drop n) rfl (fun j=>by simp [List.getElem?_drop]) n _ a _ (h ⟨hsel,hs,hc,hn⟩ inv0)
  have e:n+(l.drop n).length=l.toArray.size:=by
    have:n<l.length:=by simpa using hn
    simp;omega
  rw [e] at H;exact H
end
theorem hwt {P:Program} {ops:Array Oper} {md:Region.Mode} {S:World->Prop} {Q:Exit->Act->World->Prop} {n g:Nat} {tail:List Oper} {f:Nat} {listed:Array Bool} {a:Act} {w:World} (ok:PhaseOK md ops n) (i:Nat) {oi:Oper} {v:Value} (hS:S w) (hi:ops[i]?=some oi) (h:∀ w,S w->(execOp a.eval oi).run P w = .ok (.value v) w) (k:HW P md ops S Q n g tail f (listed.setIfInBounds i true) (a.put oi.dst v) w) (hg:Region.wanted oi (yielded ops a.tmps)=true:=by rfl) (hin:i<n:=by decide) (hf:Region.free md ops listed i=true:=by kernel_rfl) (hr:(Region.ready md ops listed).contains i=true:=by kernel_rfl) (hQ:∀ c a w,Q (.panic c) (a.put oi.dst v) w->Q (.panic c) a w:=by exact fun _ _ _ h=>h):HW P md ops S Q n g tail (f+1) listed a w:=hw_take ok v hi hin hf hr hQ (Or.inl ⟨hg,h⟩) hS k
end Go.Proofs.YtdipoojjlddohaaGreat
