/- What the law TopSummaries needs, joined of its texts by a program (slim2.py); part 32. -/
import Derived.Test.YtdipoojjlddohaaGreatZTopSummaries1
import Derived.Test.YtdipoojjlddohaaGreatZTopSummaries4
import Derived.Test.YtdipoojjlddohaaGreatZTopSummaries30
import Derived.Test.YtdipoojjlddohaaGreatZTopSummaries31
set_option linter.unusedVariables false
set_option linter.unusedSimpArgs false
set_option linter.unusedSectionVars false
set_option linter.unnecessarySimpa false
section
/- Blocks of exact summaries: an item more, walked. -/
namespace Go.Proofs.YtdipoojjlddohaaGreat
open Go.RowKit
structure QEnt (l:List Bq) (B g:Nat) (cur:List Bq) (w:World):Prop where
  ent:∀ b∈cur,RkIn b.A b.vs.length b.c b.vs w
  ne:∀ b∈cur,∀ a,b.A=some a→a.block≠g
  fr:∀ b∈cur,∀ a,b.A=some a→B≤a.block∨∃ b0∈l,∃ a0,b0.A=some a0∧a0.block=a.block
section
variable {l cur:List Bq} {B g:Nat} {w w':World}
theorem QEnt.lt (h:QEnt l B g cur w) {b:Bq} (hb:b∈cur) {a:Addr} (e:b.A=some a):a.block<w.heap.size:=by
  obtain ⟨ad,e2,h2⟩:=(h.ent b hb).ptr
  rw [e] at e2
  cases e2
  exact h2
theorem QEnt.keep (h:QEnt l B g cur w) (hs:w.heap.size≤w'.heap.size) (hk:∀ b∈cur,∀ a,b.A=some a→w'.heap[a.block]?=w.heap[a.block]?):QEnt l B g cur w' :=
  ⟨fun b hb=>(h.ent b hb).keep hs (hk b hb),h.ne,h.fr⟩
theorem QEnt.call (h:QEnt l B g cur w) (hb:Below w.heap.size w w'):QEnt l B g cur w':=h.keep hb.size (fun _ hm _ e=>hb.block _ (h.lt hm e))
theorem QEnt.setg (h:QEnt l B g cur w) (i:Nat) (u:Value):QEnt l B g cur (w.setCell ⟨g,i,none⟩ u):=h.keep (by rw [size_setCell];exact Nat.le_refl _) (fun b hb a e=>Below.heap_setCell _ _ u a.block (fun x=>h.ne b hb a e x))
theorem QEnt.setb (h:QEnt l B g cur w) {p:Addr} (hne:∀ b∈cur,∀ a,b.A=some a→a.block≠p.block) (u:Value):QEnt l B g cur (w.setCell p u):=h.keep (by rw [size_setCell];exact Nat.le_refl _) (fun b hb a e=>Below.heap_setCell _ _ u a.block (fun x=>hne b hb a e x))
theorem QEnt.next {b g':Nat} {m:Bq} (h:QEnt l B g cur w) (hm:RkIn m.A m.vs.length m.c m.vs w) (hne:∀ a,m.A=some a→a.block≠g') (hfr:∀ a,m.A=some a→B≤a.block) (hg:∀ x∈cur,∀ a,x.A=some a→a.block≠g'):QEnt l B g' (cur.take b ++ m :: cur.drop (b+2)) w:=by
  have hc:∀ x∈cur.take b ++ m :: cur.drop (b+2),x∈cur∨x=m:=fun x hx=>by
    rcases List.mem_append.1 hx with hx | hx
    · exact .inl (List.mem_of_mem_take hx)
    · rcases List.mem_cons.1 hx with rfl | hx
      · exact .inr rfl
      · exact .inl (List.mem_of_mem_drop hx)
  refine ⟨fun x hx=>?_,fun x hx a e=>?_,fun x hx a e=>?_⟩
  · rcases hc x hx with hx | rfl
    · exact h.ent x hx
    · exact hm
  · rcases hc x hx with hx | rfl
    · exact hg x hx a e
    · exact hne a e
  · rcases hc x hx with hx | rfl
    · exact h.fr x hx a e
    · exact .inl (hfr a e)
theorem bqcells_own {n c:Nat} (h:Own w 190 5 g n c (qcells cur)) {i:Nat} (hi:i<n):BqCells w ⟨g,i*5,none⟩ (bqAt cur i):=by
  have hl:=h.len
  rw [qcells_len] at hl
  have ht:=qcells_at cur i (by omega)
  exact ⟨(h.cell (j:=i*5) (by omega)).trans (ht 0 (by decide)),(h.cell (j:=i*5+1) (by omega)).trans (ht 1 (by decide)),(h.cell (j:=i*5+2) (by omega)).trans (ht 2 (by decide)),(h.cell (j:=i*5+3) (by omega)).trans (ht 3 (by decide)),(h.cell (j:=i*5+4) (by omega)).trans (ht 4 (by decide))⟩
theorem own_bqlen {n c:Nat} (h:Own w 190 5 g n c (qcells cur)):cur.length=n:=by
  have hl:=h.len
  rw [qcells_len] at hl
  omega
theorem qcells_set (l:List Bq) (i:Nat) (h:i<l.length) (x:Bq):(((((qcells l).set (i*5) (.int .i64 x.t)).set (i*5+1) (.int .i64 x.last)).set (i*5+2) (.int .i64 (x.lv:Nat))).set (i*5+3) (.int .i64 (x.vs.length:Nat))).set (i*5+4) (.slice x.A x.vs.length x.c)=qcells (l.set i x):=by
  induction l generalizing i with
  | nil=>simp at h
  | cons y l ih =>
    cases i with
    | zero=>rfl
    | succ i =>
      have:=ih i (by simpa using h)
      rw [List.set_cons_succ,qcells_cons,qcells_cons,← this,show (i+1)*5=i*5+1+1+1+1+1 by omega]
      rfl
theorem set_cutq {b:Nat} {m:Bq} (h:b+2≤cur.length):(cur.set b m).take (b+1) ++ (cur.set b m).drop (b+2)=cur.take b ++ m :: cur.drop (b+2):=by
  rw [List.drop_set_of_lt (by omega),List.set_eq_take_append_cons_drop,if_pos (by omega),List.take_append,List.take_of_length_le (by rw [List.length_take];omega)]
  rw [List.length_take,Nat.min_eq_left (by omega),show b+1-b=1 by omega,List.take_succ_cons,List.take_zero,List.append_assoc]
  rfl
theorem readsq_drop {n c j:Nat} (h:Own w 190 5 g n c (qcells cur)) (hj:j≤n):Reads w w.heap.size 5 (some ⟨g,j*5,none⟩) (n-j) (qcells (cur.drop j)):=by
  have hl:=h.len
  rw [← qcells_drop]
  refine ⟨by rw [List.length_drop,hl,Nat.sub_mul],fun hn=>⟨_,rfl,h.lt,fun i u hu=>?_⟩⟩
  rw [List.getElem?_drop] at hu
  have hi:j*5+i<n*5:=by
    have:=(List.getElem?_eq_some_iff.1 hu).1
    omega
  rw [lit_add,h.cell hi]
  exact hu
end
def QInsRet (sz k:Nat) (A:Option Addr) (m:Nat) (l:List Bq) (t v:Int) (w:World) (e:Ending) (w':World):Prop :=
  ∃ (g n c:Nat) (l':List Bq),e = .returned (.slice (some ⟨g,0,none⟩) n c)∧QIn (some ⟨g,0,none⟩) n c l' w'∧InsQ sz k l t v l'∧(∀ h,QB (some ⟨g,0,none⟩) n l' h→w.heap.size≤h∨QB A m l h)∧Below w.heap.size w w'
theorem QInsRet.mk' {sz k:Nat} {A:Option Addr} {m:Nat} {l cur:List Bq} {t v:Int} {w w':World} {g n c:Nat} (own:Own w' 190 5 g n c (qcells cur)) (hg:w.heap.size≤g) (he:QEnt l w.heap.size g cur w') (hi:InsQ sz k l t v cur) (hb:Below w.heap.size w w'):QInsRet sz k A m l t v w (.returned (.slice (some ⟨g,0,none⟩) n c)) w' :=
  ⟨g,n,c,cur,rfl,⟨own.reads,he.ent,own.cap.1,own.cap.2⟩,hi,fun h hq=>by
    rcases hq with ⟨_,a,e,rfl⟩ | ⟨b,hb,a,e,rfl⟩
    · cases e
      exact .inl hg
    · rcases he.fr b hb a e with h | ⟨b0,h0,a0,e0,h1⟩
      · exact .inl h
      · exact .inr (.inr ⟨b0,h0,a0,e0,h1⟩),hb⟩
set_option maxRecDepth 100000 in
set_option maxHeartbeats 8000000 in
theorem pqinsert (A:Option Addr) (m c:Nat) (l:List Bq) (k sz:Nat) (t v:Int) (w:World) (hin:QIn A m c l w) (hv:BV k (bqs l)) (ho:∀ b∈l,BqOK sz b) (k1:1≤k) (k2:k≤128) (s1:1≤sz) (s2:sz≤65536) (hm:m≤100000) (t0:0≤t) (t1:t≤16777216) (v0 : -4096≤v) (v1:v≤4096) (ht:∀ b∈l,b.t≤t) (hT:btot (bqs l)+1≤100000) (hs:∀ x,k*(2 ^ x-1)+2 ^ x≤btot (bqs l)+1→2 ^ x≤sz+1):Calls Tryz.prog 225 #[.slice A m c, .int .i64 (k:Nat), .int .i64 (sz:Nat), .int .i64 t, .int .i64 v] w (QInsRet sz k A m l t v w):=by
  obtain ⟨iq,hiq,jz0,jz1,jz2⟩:=info_parts info_bq
  have HIQ:=Lib.hid hiq
  clear hiq
  have PV:=Lib.hid (pqvalid A m c l k sz w hin hv ho ⟨k1,k2⟩ s1 s2 (by omega))
  have PT:=Lib.hid (fun w' (hb:Below w.heap.size w w')=>pqtotal A m c l w' (hin.below hb) (by omega) (fun b hb=>hv.lev b.bk (List.mem_map_of_mem hb)) (by omega))
  have PS:=Lib.hid (fun w=>pqsingle v w)
  have HQ:=Lib.hid hin
  have hln:=Lib.hid hin.len
  have HSZ:=Lib.hid hs
  have ST:=Lib.hid (fun A1 c1=>InsQR.start (A:=A1) (c:=c1) hv ho ⟨t0,t1⟩ ⟨v0,v1⟩ ht)
  have hmc:=hin.mc
  have hcB:=hin.cB
  have HT:=Lib.hid ht
  have q1:¬ t<0:=by omega
  have q2:¬ 16777216<t:=by omega
  have q3:¬ v < -4096:=by omega
  have q4:¬ 4096<v:=by omega
  have HTT:=Lib.hid hT
  obtain ⟨N,hN⟩:∃ N,N=btot (bqs l):=⟨_,rfl⟩
  rw [← hN] at PT
  have q5:decide ((1073741824:Int)≤(N:Int))=false:=decide_eq_false (by omega)
  clear hin hv ho ht hs hT hN t0 t1 v0 v1
  go_enter Tryz.func225,Tryz.ntmps225
  go_wp2_with fail
  refine PV.out.mono ?_
  rintro e w1 ⟨rfl,o⟩
  clear PV
  by_cases m0:m=0
  · subst m0
    go_wp2_with fail
    refine (PT.out _ o).mono ?_
    rintro e w2 ⟨rfl,hb⟩
    replace o:=o.trans (hb.mono o.size)
    clear hb PT
    go_wp2_with (at_builtin;refine wpList_clone rfl _ _ 54 rfl 190 iq (.agg #[.int .i64 0, .int .i64 0, .int .i64 0, .int .i64 0, .slice none 0 0]) 5 56 Tryz.underlying54 HIQ.out jz0 jz1 jz2 rfl (by decide) rfl w.heap.size A 0 c (qcells l) rfl (HQ.out.reads.below o) o.size (qcells_one _) (by unfold maxLen;omega) (by omega) ?_;intro g4 c4 w4 own4 hg4 hb4 hz4)
    have zo4:=o.size
    replace o:=o.trans (hb4.mono o.size)
    clear hb4 hz4
    go_wp2_with fail
    refine (PS.out _).mono ?_
    rintro e w5 ⟨g1,c1,rfl,in1,hg1,hb5⟩
    have zg4:=own4.lt
    replace own4:=own4.call hb5
    have ne41:g1≠g4:=by omega
    have zo5:=o.size
    replace o:=o.trans (hb5.mono o.size)
    have hg4':w.heap.size≤g4:=by omega
    have hg1':w.heap.size≤g1:=by omega
    have lt1:g1<w5.heap.size:=by
      obtain ⟨a,e,h⟩:=in1.ptr
      cases e
      exact h
    replace in1:RkIn (some ⟨g1,0,none⟩) 1 c1 [v] w5:=in1
    clear hb5 PS
    go_upto_region 4 with (at_builtin;refine wpList_push rfl _ _ 54 rfl 190 iq (.agg #[.int .i64 0, .int .i64 0, .int .i64 0, .int .i64 0, .slice none 0 0]) 5 56 Tryz.underlying54 HIQ.out jz0 jz1 jz2 rfl (by decide) w.heap.size (.slice (some ⟨g4,0,none⟩) 0 c4) 0 (qcells l) rfl (own4.row hg4') #[.int .i64 t, .int .i64 v, .int .i64 0, .int .i64 1, .slice (some ⟨g1,0,none⟩) 1 c1] rfl rfl (by intro u hu;simp at hu;rcases hu with rfl | rfl | rfl | rfl | rfl<;>rfl) (by unfold maxLen;omega) (by omega) o.size ?_;intro g c9 w6 own hbg hat6 hgr6)
    replace own:Own w6 190 5 g (0+1) c9 (qcells (l ++ [⟨t,v,0,[v],some ⟨g1,0,none⟩,c1⟩])):=by rw [qcells_append];exact own
    have zo5':=o.size
    replace o:=below_grown (o.alloc o.size (.cells #[.int .i64 t, .int .i64 v, .int .i64 0, .int .i64 1, .slice (some ⟨g1,0,none⟩) 1 c1] 190)) hgr6 (fun q e=>by have e9:g4=q:=Option.some.inj e;omega) (by simp;omega)
    have ngg:g=g4∨g=w5.heap.size+1:=by
      rcases hat6 with h | h
      · exact .inl (Option.some.inj h).symm
      · exact .inr h
    have HE:=Lib.hid (show QEnt l w.heap.size g (l ++ [⟨t,v,0,[v],some ⟨g1,0,none⟩,c1⟩]) w6 by
      refine ⟨fun b hb=>?_,fun b hb a e=>?_,fun b hb a e=>?_⟩
      · rcases List.mem_append.1 hb with hb | hb
        · exact (HQ.out.ent b hb).below o
        · rw [List.mem_singleton.1 hb]
          exact (in1.below ((Below.refl _ _).alloc (Nat.le_refl _) (.cells #[.int .i64 t, .int .i64 v, .int .i64 0, .int .i64 1, .slice (some ⟨g1,0,none⟩) 1 c1] 190))).keep hgr6.size (fun a e=>hgr6.block _ (by cases e;simp;omega) (fun x=>by cases e;exact ne41 (Option.some.inj x)))
      · rcases List.mem_append.1 hb with hb | hb
        · obtain ⟨a',e',h⟩:=(HQ.out.ent b hb).ptr
          rw [e] at e'
          cases e'
          omega
        · rw [List.mem_singleton.1 hb] at e
          cases e
          show g1≠g
          omega
      · rcases List.mem_append.1 hb with hb | hb
        · exact .inr ⟨b,hb,a,e,rfl⟩
        · rw [List.mem_singleton.1 hb] at e
          cases e
          exact .inl hg1')
    have HJ:=Lib.hid (ST.out (some ⟨g1,0,none⟩) c1)
    clear own4 in1 hat6 hgr6 ngg lt1 ne41 zg4 ST
    go_upto_block 0 with (fail)
    go_wp2
    go_loopw [11,12,13,14,15,16,17,18] (fun u11 u12 u13 _ _ _ _ _ wr=>∃ (g c' nn:Nat) (cur:List Bq) (e L:Nat),u11 = .slice (some ⟨g,0,none⟩) nn c'∧u12 = .int .i64 (e:Nat)∧u13 = .int .i64 (L:Nat)∧Own wr 190 5 g nn c' (qcells cur)∧w.heap.size≤g∧RowKit.Hid (QEnt l w.heap.size g cur wr)∧RowKit.Hid (InsQR sz k l t v cur e L)∧Below w.heap.size w wr) (fun u11 _ _ _ _ _ _ _ _=>lenE u11)
    case atStart=>exact ⟨g,c9,0+1,_,l.length+1,0,rfl,by rw [hln.out];go_num,rfl,own,hbg,HE,HJ,o⟩
    case round =>
      clear own hbg HE HJ o
      obtain ⟨g,c',nn,cur,e,L,rfl,rfl,rfl,own,hbg,HE,HJ,o⟩:=hrel
      have hnn:=own_bqlen own
      have hel:=HJ.out.el
      rw [hnn] at hel
      have hcl:cur.length≤100000:=by have:=tot_len (bqs cur);have:=HJ.out.r.tot;have:=HTT.out;rw [bqs_len] at *;omega
      go_wp2
      go_loopw [14] (fun u14 wi=>∃ b:Nat,b≤e∧u14 = .int .i64 (b:Nat)∧RowKit.Hid (∀ i,b≤i→i<e→(bqAt cur i).lv=L)∧wi=wr) (fun u14 _=>(intOf u14).toNat)
      case atStart=>exact ⟨e,Nat.le_refl _,rfl,Lib.hid (fun i h1 h2=>by omega),rfl⟩
      case round =>
        obtain ⟨b,hbe,rfl,HB,rfl⟩:=hrel
        by_cases b0:b=0
        · have j0:¬ (0:Int)<(b:Int):=by omega
          have j1:¬ 0<b:=by omega
          have H2:RowKit.Hid (b=0∨(bqAt cur (b-1)).lv≠L):=Lib.hid (.inl b0)
          clear b0
          by_cases hc:e-b<k+2
          · have hc':(e:Int)-(b:Int)<(k:Int)+2:=by omega
            have HF:=Lib.hid (HJ.out.done hbe HB.out H2.out hc (by have:=HTT.out;omega))
            clear HB
            go_wp2
            go_ret
            exact QInsRet.mk' own hbg HE.out HF.out o
          · have hc':¬ (e:Int)-(b:Int)<(k:Int)+2:=by omega
            have b1:b<cur.length:=by rw [hnn];omega
            have b2:b+1<cur.length:=by rw [hnn];omega
            have HS:=fun A c=>HJ.out.step (A:=A) (c:=c) k1 hbe HB.out H2.out hc HSZ.out
            have hsz:=(HS none 0).2
            have L1:=HB.out b (Nat.le_refl _) (by omega)
            have L2:=HB.out (b+1) (by omega) (by omega)
            have LB:L≤1073741824:=by
              have h1:=tot_mem (bk_mem (l:=bqs cur) (i:=b) (by rw [bqs_len];exact b1))
              rw [bqs_at b1] at h1
              have h1:2 ^ (bqAt cur b).lv≤btot (bqs cur):=h1
              have h2:=two_pow_le (x:=(bqAt cur b).lv) (by have:=HJ.out.r.tot;have:=HTT.out;omega)
              omega
            have wL:IntKind.i64.wrap ((L:Int)+1)=((L+1:Nat):Int):=by rw [IntWalk.i64_in _ (by omega)];omega
            have hla:=HJ.out.ok _ (bq_mem b1)
            have hlb:=HJ.out.ok _ (bq_mem b2)
            have ea:=HE.out.ent _ (bq_mem b1)
            have eb:=HE.out.ent _ (bq_mem b2)
            have qa:=bqcells_own own (i:=b) (by omega)
            have qb:=bqcells_own own (i:=b+1) (by omega)
            have l0:(b:Int)<(nn:Int):=by omega
            have l1:(b:Int)+1<(nn:Int):=by omega
            have l2:(b:Int)+2≤(nn:Int):=by omega
            have z0:(0:Int)≤(b:Int):=by omega
            have z1:(0:Int)≤(b:Int)+1:=by omega
            have z2:(0:Int)≤(b:Int)+2:=by omega
            have cc:=own.cap.1
            have l3:(b:Int)+1≤(c':Int):=by omega
            have l4:(nn:Int)≤(c':Int):=by omega
            have y1:IntKind.i64.wrap ((b:Int)+1)=(b:Int)+1:=IntWalk.i64_in _ (by omega)
            have y2:IntKind.i64.wrap ((b:Int)+2)=(b:Int)+2:=IntWalk.i64_in _ (by omega)
            have y3:((b:Int)+1).toNat=b+1:=by omega
            have y4:((b:Int)+2).toNat=b+2:=by omega
            obtain ⟨⟨ta,la,va,ua,Aa,ca⟩,hxa⟩:∃ x,x=bqAt cur b:=⟨_,rfl⟩
            obtain ⟨⟨tb,lb,vb,ub,Ab,cb⟩,hxb⟩:∃ x,x=bqAt cur (b+1):=⟨_,rfl⟩
            rw [← hxa] at ea qa hla L1 HS
            rw [← hxb] at eb qb hlb L2 HS
            have la1:=hla.len
            have lb1:=hlb.len
            unfold BqCells at qa qb
            dsimp only at ea eb qa qb L1 L2 la1 lb1 HS
            obtain rfl:L=va:=L1.symm
            obtain rfl:L=vb:=L2.symm
            have hpw:2 ^ (L+1)=2 ^ L+2 ^ L:=by rw [Nat.pow_succ];omega
            have hms:ua.length+ub.length≤sz+1:=by rw [la1,lb1];omega
            have hmL:(mgI ua ub).length=ua.length+ub.length:=mgI_len _ _
            obtain ⟨aa,rfl,haa⟩:=ea.ptr
            obtain ⟨ab,rfl,hab⟩:=eb.ptr
            have PM:=Lib.hid (fun w1 (hb:Below wr.heap.size wr w1)=>prkmerge _ _ _ _ _ _ _ _ w1 (ea.below hb) (eb.below hb) (by omega))
            unfold RkRet2 at PM
            obtain ⟨na,hna⟩:∃ x,x=ua.length:=⟨_,rfl⟩
            obtain ⟨nb,hnb⟩:∃ x,x=ub.length:=⟨_,rfl⟩
            rw [← hna] at qa PM
            rw [← hnb] at qb PM
            obtain ⟨nm,hnm⟩:∃ x,x=(mgI ua ub).length:=⟨_,rfl⟩
            rw [← hnm] at PM
            have hnms:nm≤sz+1:=by rw [hnm,hmL];exact hms
            generalize mgI ua ub=um at HS PM hnm
            replace HS:=Lib.hid HS
            replace hnm:=Lib.hid hnm
            have HW:=Lib.hid (fun w1 (hb:Below wr.heap.size wr w1)=>own.below hb own.lt)
            have QP:∀ w1,Below wr.heap.size wr w1→_:=fun w1 hb=>And.intro (BqCells.below (w':=w1) (b:=⟨ta,la,L,List.replicate na 0,some aa,ca⟩) (a:=⟨g,b*5,none⟩) (by unfold BqCells;dsimp only;rw [List.length_replicate];exact qa) hb own.lt) (BqCells.below (w':=w1) (b:=⟨tb,lb,L,List.replicate nb 0,some ab,cb⟩) (a:=⟨g,(b+1)*5,none⟩) (by unfold BqCells;dsimp only;rw [List.length_replicate];exact qb) hb own.lt)
            unfold BqCells at QP
            dsimp only at QP
            rw [List.length_replicate,List.length_replicate] at QP
            replace QP:=Lib.hid QP
            clear qa qb ea eb hla hlb la1 lb1 hms hmL hna hnb hxa hxb L1 L2
            go_upto_region 12 with (fail)
            refine wp_region_phase 12 (fun w'=>Below wr.heap.size wr w') (by kernel_rfl) (by kernel_rfl) (by kernel_rfl) (by kernel_rfl) (by kernel_rfl) (fun HOK=>?_)
            have HS:=((Below.refl _ _).drew:Below wr.heap.size wr wr.drew)
            (refine hw_take HOK (i:=0) ?_ rfl (by decide) (by kernel_rfl) (by kernel_rfl) (by exact fun _ _ _ h=>h) (Or.inl ⟨by rfl,fun w' hS=>?_⟩) HS ?_;rotate_left;(go_simp;try with_reducible rfl);simp only [put9])
            (refine hw_take HOK (i:=1) ?_ rfl (by decide) (by kernel_rfl) (by kernel_rfl) (by exact fun _ _ _ h=>h) (Or.inl ⟨by rfl,fun w' hS=>?_⟩) HS ?_;rotate_left;(go_simp;try with_reducible rfl);simp only [put9])
            (refine hw_take HOK (i:=2) ?_ rfl (by decide) (by kernel_rfl) (by kernel_rfl) (by exact fun _ _ _ h=>h) (Or.inl ⟨by rfl,fun w' hS=>?_⟩) HS ?_;rotate_left;(go_simp;try with_reducible rfl);simp only [put9])
            (refine hw_take HOK (i:=3) ?_ rfl (by decide) (by kernel_rfl) (by kernel_rfl) (by exact fun _ _ _ h=>h) (Or.inl ⟨by rfl,fun w' hS=>?_⟩) HS ?_;rotate_left;(obtain ⟨⟨p0,p1,p2,p3,p4⟩,⟨q0,q1,q2,q3,q4⟩⟩:=QP.out _ hS;go_simp;try with_reducible rfl);simp only [put9])
            (refine hw_take HOK (i:=4) ?_ rfl (by decide) (by kernel_rfl) (by kernel_rfl) (by exact fun _ _ _ h=>h) (Or.inl ⟨by rfl,fun w' hS=>?_⟩) HS ?_;rotate_left;(go_simp;try with_reducible rfl);simp only [put9])
            (refine hw_take HOK (i:=5) ?_ rfl (by decide) (by kernel_rfl) (by kernel_rfl) (by exact fun _ _ _ h=>h) (Or.inl ⟨by rfl,fun w' hS=>?_⟩) HS ?_;rotate_left;(go_simp;try with_reducible rfl);simp only [put9])
            (refine hw_take HOK (i:=6) ?_ rfl (by decide) (by kernel_rfl) (by kernel_rfl) (by exact fun _ _ _ h=>h) (Or.inl ⟨by rfl,fun w' hS=>?_⟩) HS ?_;rotate_left;(go_simp;try with_reducible rfl);simp only [put9])
            (refine hw_take HOK (i:=7) ?_ rfl (by decide) (by kernel_rfl) (by kernel_rfl) (by exact fun _ _ _ h=>h) (Or.inl ⟨by rfl,fun w' hS=>?_⟩) HS ?_;rotate_left;(go_simp;try with_reducible rfl);simp only [put9])
            (refine hw_take HOK (i:=8) ?_ rfl (by decide) (by kernel_rfl) (by kernel_rfl) (by exact fun _ _ _ h=>h) (Or.inl ⟨by rfl,fun w' hS=>?_⟩) HS ?_;rotate_left;(obtain ⟨⟨p0,p1,p2,p3,p4⟩,⟨q0,q1,q2,q3,q4⟩⟩:=QP.out _ hS;go_simp;try with_reducible rfl);simp only [put9])
            refine hw_news (f:=1) (fun x o hx=>hx.alloc hx.size o) [⟨9,15,190,#[.int .i64 0, .int .i64 0, .int .i64 0, .int .i64 0, .slice none 0 0]⟩,⟨10,16,190,#[.int .i64 0, .int .i64 0, .int .i64 0, .int .i64 0, .slice none 0 0]⟩] _ _ _ (by kernel_rfl) (List.forall_mem_cons.2 ⟨⟨⟨_,_,rfl,rfl,rfl,fun ρ w'=>by go_simp⟩,rfl,by decide⟩,List.forall_mem_cons.2 ⟨⟨⟨_,_,rfl,rfl,rfl,fun ρ w'=>by go_simp⟩,rfl,by decide⟩,fun _ h=>by cases h⟩⟩) (by decide) HS ?_
            intro bs w1 HS2 hN
            obtain ⟨xa,xb,rfl⟩:∃ xa xb,bs=[xa,xb]:=by
              match bs,hN.len with
              | [xa,xb],_=>exact ⟨_,_,rfl⟩
            have nd:=hN.nodup
            simp only [List.nodup_cons,List.mem_cons,List.not_mem_nil,or_false,not_or] at nd
            have nxy:xa≠xb:=nd.1
            have XA:Row w1 xa 190 #[.int .i64 0, .int .i64 0, .int .i64 0, .int .i64 0, .slice none 0 0]:=hN.rows 0 _ _ rfl rfl
            have XC:Row w1 xb 190 #[.int .i64 0, .int .i64 0, .int .i64 0, .int .i64 0, .slice none 0 0]:=hN.rows 1 _ _ rfl rfl
            have gea:wr.heap.size≤xa:=hN.ge xa (by simp)
            have geb:wr.heap.size≤xb:=hN.ge xb (by simp)
            have zow:=o.size
            have zgl:=own.lt
            have HLT:=Lib.hid (fun x (hx:x∈cur) a e=>HE.out.lt hx (a:=a) e)
            clear HS hN nd HW QP
            simp only [putAll,setAll,List.foldl]
            try simp only [put9]
            refine hw_one (i:=11) rfl (by decide) (by kernel_rfl) (fun K hK=>?_)
            obtain ⟨X0,X1,X2,X3,X4,Xf0,Xf1,Xf2,Xf3,Xf4⟩:=row_five XA
            go_simp
            clear X0 Xf0 X1 Xf1 X2 Xf2 X3 Xf3 X4 Xf4
            replace XA:=row_set XA 0 (.int .i64 ta)
            replace XC:=row_other (p:=⟨xa,0,none⟩) XC (nxy.symm) (.int .i64 ta)
            replace HS2:=HS2.setCell (p:=⟨xa,0,none⟩) gea (.int .i64 ta)
            replace XA:=row_set XA 1 (.int .i64 la)
            replace XC:=row_other (p:=⟨xa,1,none⟩) XC (nxy.symm) (.int .i64 la)
            replace HS2:=HS2.setCell (p:=⟨xa,1,none⟩) gea (.int .i64 la)
            replace XA:=row_set XA 2 (.int .i64 (L:Nat))
            replace XC:=row_other (p:=⟨xa,2,none⟩) XC (nxy.symm) (.int .i64 (L:Nat))
            replace HS2:=HS2.setCell (p:=⟨xa,2,none⟩) gea (.int .i64 (L:Nat))
            replace XA:=row_set XA 3 (.int .i64 (na:Nat))
            replace XC:=row_other (p:=⟨xa,3,none⟩) XC (nxy.symm) (.int .i64 (na:Nat))
            replace HS2:=HS2.setCell (p:=⟨xa,3,none⟩) gea (.int .i64 (na:Nat))
            replace XA:=row_set XA 4 (.slice (some aa) na ca)
            replace XC:=row_other (p:=⟨xa,4,none⟩) XC (nxy.symm) (.slice (some aa) na ca)
            replace HS2:=HS2.setCell (p:=⟨xa,4,none⟩) gea (.slice (some aa) na ca)
            replace XA:Row (((((w1.setCell ⟨xa,0,none⟩ (.int .i64 ta)).setCell ⟨xa,1,none⟩ (.int .i64 la)).setCell ⟨xa,2,none⟩ (.int .i64 (L:Nat))).setCell ⟨xa,3,none⟩ (.int .i64 (na:Nat))).setCell ⟨xa,4,none⟩ (.slice (some aa) na ca)) xa 190 #[.int .i64 ta, .int .i64 la, .int .i64 (L:Nat), .int .i64 (na:Nat), .slice (some aa) na ca]:=XA
            refine hK _ _ HS2 ?_
            clear hK K
            generalize (((((w1.setCell ⟨xa,0,none⟩ (.int .i64 ta)).setCell ⟨xa,1,none⟩ (.int .i64 la)).setCell ⟨xa,2,none⟩ (.int .i64 (L:Nat))).setCell ⟨xa,3,none⟩ (.int .i64 (na:Nat))).setCell ⟨xa,4,none⟩ (.slice (some aa) na ca))=w2 at XA XC HS2 ⊢
            try simp only [put9]
            refine hw_done (by kernel_rfl) ?_
            try simp only [List.drop_succ_cons,List.drop_zero]
            clear HOK
            obtain ⟨X0,X1,X2,X3,X4,Xf0,Xf1,Xf2,Xf3,Xf4⟩:=row_five XC
            go_upto_region 13 with (fail)
            clear X0 Xf0 X1 Xf1 X2 Xf2 X3 Xf3 X4 Xf4
            replace XC:=row_set XC 0 (.int .i64 tb)
            replace XA:=row_other (p:=⟨xb,0,none⟩) XA (nxy) (.int .i64 tb)
            replace HS2:=HS2.setCell (p:=⟨xb,0,none⟩) geb (.int .i64 tb)
            replace XC:=row_set XC 1 (.int .i64 lb)
            replace XA:=row_other (p:=⟨xb,1,none⟩) XA (nxy) (.int .i64 lb)
            replace HS2:=HS2.setCell (p:=⟨xb,1,none⟩) geb (.int .i64 lb)
            replace XC:=row_set XC 2 (.int .i64 (L:Nat))
            replace XA:=row_other (p:=⟨xb,2,none⟩) XA (nxy) (.int .i64 (L:Nat))
            replace HS2:=HS2.setCell (p:=⟨xb,2,none⟩) geb (.int .i64 (L:Nat))
            replace XC:=row_set XC 3 (.int .i64 (nb:Nat))
            replace XA:=row_other (p:=⟨xb,3,none⟩) XA (nxy) (.int .i64 (nb:Nat))
            replace HS2:=HS2.setCell (p:=⟨xb,3,none⟩) geb (.int .i64 (nb:Nat))
            replace XC:=row_set XC 4 (.slice (some ab) nb cb)
            replace XA:=row_other (p:=⟨xb,4,none⟩) XA (nxy) (.slice (some ab) nb cb)
            replace HS2:=HS2.setCell (p:=⟨xb,4,none⟩) geb (.slice (some ab) nb cb)
            replace XC:Row (((((w2.setCell ⟨xb,0,none⟩ (.int .i64 tb)).setCell ⟨xb,1,none⟩ (.int .i64 lb)).setCell ⟨xb,2,none⟩ (.int .i64 (L:Nat))).setCell ⟨xb,3,none⟩ (.int .i64 (nb:Nat))).setCell ⟨xb,4,none⟩ (.slice (some ab) nb cb)) xb 190 #[.int .i64 tb, .int .i64 lb, .int .i64 (L:Nat), .int .i64 (nb:Nat), .slice (some ab) nb cb]:=XC
            have HS4:=HS2
            clear HS2
            generalize (((((w2.setCell ⟨xb,0,none⟩ (.int .i64 tb)).setCell ⟨xb,1,none⟩ (.int .i64 lb)).setCell ⟨xb,2,none⟩ (.int .i64 (L:Nat))).setCell ⟨xb,3,none⟩ (.int .i64 (nb:Nat))).setCell ⟨xb,4,none⟩ (.slice (some ab) nb cb))=w3 at XA XC HS4 ⊢
            replace own:=own.call HS4
            replace HE:=Lib.hid (HE.out.call HS4)
            replace o:=o.trans (HS4.mono o.size)
            have hz4:=HS4.size
            obtain ⟨X0,X1,X2,X3,X4,Xf0,Xf1,Xf2,Xf3,Xf4⟩:=row_five XA
            obtain ⟨Y0,Y1,Y2,Y3,Y4,Yf0,Yf1,Yf2,Yf3,Yf4⟩:=row_five XC
            go_wp2_with fail
            refine (PM.out _ HS4).mono ?_
            rintro e w4 ⟨gm,cm,rfl,inm,hgm,hb4⟩
            clear XA X0 Xf0 Y0 Yf0 X1 Xf1 Y1 Yf1 X2 Xf2 Y2 Yf2 X3 Xf3 Y3 Yf3 X4 Xf4 Y4 Yf4
            have zXC:=row_lt XC
            replace XC:=row_call XC hb4
            replace own:=own.call hb4
            replace HE:=Lib.hid (HE.out.call hb4)
            have zo3:=o.size
            have zo4:=own.lt
            replace o:=o.trans (hb4.mono o.size)
            have hz5:=hb4.size
            clear hb4 HS4 PM
            go_upto_region 14 with (fail)
            have RR:Row (w4.alloc (.cells #[.int .i64 (nm:Nat), .slice (some ⟨gm,0,none⟩) nm cm] 188)) w4.heap.size 188 #[.int .i64 (nm:Nat), .slice (some ⟨gm,0,none⟩) nm cm]:=row_new rfl
            have zxc4:=row_lt XC
            replace XC:=row_alloc XC (.cells #[.int .i64 (nm:Nat), .slice (some ⟨gm,0,none⟩) nm cm] 188)
            replace own:=own.alloc (.cells #[.int .i64 (nm:Nat), .slice (some ⟨gm,0,none⟩) nm cm] 188)
            replace HE:=Lib.hid (HE.out.call ((Below.refl _ _).alloc (Nat.le_refl _) (.cells #[.int .i64 (nm:Nat), .slice (some ⟨gm,0,none⟩) nm cm] 188)))
            replace inm:=inm.below ((Below.refl _ _).alloc (Nat.le_refl _) (.cells #[.int .i64 (nm:Nat), .slice (some ⟨gm,0,none⟩) nm cm] 188))
            have zo4':=o.size
            replace o:=o.alloc o.size (.cells #[.int .i64 (nm:Nat), .slice (some ⟨gm,0,none⟩) nm cm] 188)
            have pP:=prkprune _ _ _ _ sz (w4.alloc (.cells #[.int .i64 (nm:Nat), .slice (some ⟨gm,0,none⟩) nm cm] 188)) inm s1 s2 hnms
            unfold RkRet2 at pP
            rw [← hnm.out] at pP
            generalize w4.alloc (.cells #[.int .i64 (nm:Nat), .slice (some ⟨gm,0,none⟩) nm cm] 188)=w5 at XC own HE inm o RR pP ⊢
            generalize w4.heap.size=rb at RR zxc4 zo4' zo4 hz5 ⊢
            replace pP:=Lib.hid pP
            obtain ⟨R0,R1,Rf0,Rf1⟩:=row_two RR
            have zrr:=row_lt RR
            go_wp2_with fail
            refine pP.out.mono ?_
            rintro e w6 ⟨gp,cp,rfl,inp,hgp,hb6⟩
            clear R0 R1 Rf0 Rf1 inm pP
            replace XC:=row_call XC hb6
            replace RR:=row_call RR hb6
            replace own:=own.call hb6
            replace HE:=Lib.hid (HE.out.call hb6)
            have zo5:=o.size
            replace o:=o.trans (hb6.mono o.size)
            have hz6:=hb6.size
            clear hb6
            obtain ⟨R0,R1,Rf0,Rf1⟩:=row_two RR
            go_upto_region 15 with (fail)
            clear R0 R1 Rf0 Rf1
            have nrb:∀ x∈cur,∀ a,x.A=some a→a.block≠rb:=fun x hx a e=>by have:=HLT.out x hx a e;omega
            have npr:gp≠rb:=by omega
            have ngr:g≠rb:=by omega
            have nxr:xb≠rb:=by omega
            replace HE:=Lib.hid ((HE.out.setb (p:=⟨rb,0,none⟩) nrb (.int .i64 (nm:Nat))).setb (p:=⟨rb,1,none⟩) nrb (.slice (some ⟨gp,0,none⟩) nm cp))
            replace RR:Row ((w6.setCell ⟨rb,0,none⟩ (.int .i64 (nm:Nat))).setCell ⟨rb,1,none⟩ (.slice (some ⟨gp,0,none⟩) nm cp)) rb 188 #[.int .i64 (nm:Nat), .slice (some ⟨gp,0,none⟩) nm cp]:=row_set (row_set RR 0 (.int .i64 (nm:Nat))) 1 (.slice (some ⟨gp,0,none⟩) nm cp)
            replace XC:=row_other (p:=⟨rb,1,none⟩) (row_other (p:=⟨rb,0,none⟩) XC nxr (.int .i64 (nm:Nat))) nxr (.slice (some ⟨gp,0,none⟩) nm cp)
            replace own:=(own.other (p:=⟨rb,0,none⟩) ngr (.int .i64 (nm:Nat))).other (p:=⟨rb,1,none⟩) ngr (.slice (some ⟨gp,0,none⟩) nm cp)
            replace inp:=(inp.setc (p:=⟨rb,0,none⟩) (fun a e=>by cases e;exact npr.symm) (.int .i64 (nm:Nat))).setc (p:=⟨rb,1,none⟩) (fun a e=>by cases e;exact npr.symm) (.slice (some ⟨gp,0,none⟩) nm cp)
            replace o:=(o.setCell (p:=⟨rb,0,none⟩) (by show w.heap.size≤rb;omega) (.int .i64 (nm:Nat))).setCell (p:=⟨rb,1,none⟩) (by show w.heap.size≤rb;omega) (.slice (some ⟨gp,0,none⟩) nm cp)
            generalize (w6.setCell ⟨rb,0,none⟩ (.int .i64 (nm:Nat))).setCell ⟨rb,1,none⟩ (.slice (some ⟨gp,0,none⟩) nm cp)=w7 at XC RR own HE inp o ⊢
            obtain ⟨R0,R1,Rf0,Rf1⟩:=row_two RR
            obtain ⟨X0,X1,X2,X3,X4,Xf0,Xf1,Xf2,Xf3,Xf4⟩:=row_five XC
            obtain ⟨p0,p1,p2,p3,p4⟩:=bqcells_own own (i:=b) (by omega)
            have f0:=own.free (b*5)
            have f1:=own.free (b*5+1)
            have f2:=own.free (b*5+2)
            have f3:=own.free (b*5+3)
            have f4:=own.free (b*5+4)
            have ngp:gp≠g:=by omega
            go_upto_region 16 with (fail)
            clear R0 R1 Rf0 Rf1 RR XC p0 p1 p2 p3 p4 f0 f1 f2 f3 f4 X0 Xf0 X1 Xf1 X2 Xf2 X3 Xf3 X4 Xf4
            replace own:=((((own.set (b*5) (.int .i64 tb)).set (b*5+1) (.int .i64 lb)).set (b*5+2) (.int .i64 ((L:Int)+1))).set (b*5+3) (.int .i64 (nm:Nat))).set (b*5+4) (.slice (some ⟨gp,0,none⟩) nm cp)
            replace HE:=Lib.hid (((((HE.out.setg (b*5) (.int .i64 tb)).setg (b*5+1) (.int .i64 lb)).setg (b*5+2) (.int .i64 ((L:Int)+1))).setg (b*5+3) (.int .i64 (nm:Nat))).setg (b*5+4) (.slice (some ⟨gp,0,none⟩) nm cp))
            replace inp:=((((inp.setc (p:=⟨g,b*5,none⟩) (fun a e=>by cases e;exact ngp.symm) (.int .i64 tb)).setc (p:=⟨g,b*5+1,none⟩) (fun a e=>by cases e;exact ngp.symm) (.int .i64 lb)).setc (p:=⟨g,b*5+2,none⟩) (fun a e=>by cases e;exact ngp.symm) (.int .i64 ((L:Int)+1))).setc (p:=⟨g,b*5+3,none⟩) (fun a e=>by cases e;exact ngp.symm) (.int .i64 (nm:Nat))).setc (p:=⟨g,b*5+4,none⟩) (fun a e=>by cases e;exact ngp.symm) (.slice (some ⟨gp,0,none⟩) nm cp)
            replace o:=((((o.setCell (p:=⟨g,b*5,none⟩) hbg (.int .i64 tb)).setCell (p:=⟨g,b*5+1,none⟩) hbg (.int .i64 lb)).setCell (p:=⟨g,b*5+2,none⟩) hbg (.int .i64 ((L:Int)+1))).setCell (p:=⟨g,b*5+3,none⟩) hbg (.int .i64 (nm:Nat))).setCell (p:=⟨g,b*5+4,none⟩) hbg (.slice (some ⟨gp,0,none⟩) nm cp)
            have hbs:=qcells_set cur b b1 ⟨tb,lb,L+1,um,some ⟨gp,0,none⟩,cp⟩
            dsimp only at hbs
            rw [← hnm.out,show ((L+1:Nat):Int)=(L:Int)+1 by omega] at hbs
            rw [hbs] at own
            generalize (((((w7.setCell ⟨g,b*5,none⟩ (.int .i64 tb)).setCell ⟨g,b*5+1,none⟩ (.int .i64 lb)).setCell ⟨g,b*5+2,none⟩ (.int .i64 ((L:Int)+1))).setCell ⟨g,b*5+3,none⟩ (.int .i64 (nm:Nat))).setCell ⟨g,b*5+4,none⟩ (.slice (some ⟨gp,0,none⟩) nm cp))=w8 at own HE inp o ⊢
            have hsc:=set_cutq (cur:=cur) (b:=b) (m:=⟨tb,lb,L+1,um,some ⟨gp,0,none⟩,cp⟩) (by omega)
            have HJ3:=Lib.hid (HS.out (some ⟨gp,0,none⟩) cp).1
            have hzz:=own.lt
            have inpl:gp<w8.heap.size:=by
              obtain ⟨a,e,h⟩:=inp.ptr
              cases e
              exact h
            clear hbs HS HB HJ
            generalize hAD:(if c'=b+2 then some (⟨g,0,none⟩:Addr) else some ⟨g,(b+2)*5,none⟩)=AD
            refine wp_region_free0 [0,1,2,4,5,6,3,7] [] [0,1,2,3,4,5,6,7] 8 (fun w'=>Below w8.heap.size w8 w') (by kernel_rfl) (by kernel_rfl) (fun _ _ d _ _ h=>by cases d<;>exact h) ?_ ?_
            · exact (Below.refl _ _).drew
            (refine plan_pure ?_ rfl rfl (fun w'=>?_) ?_;rotate_left;(go_simp;try with_reducible rfl);simp only [put9])
            (refine plan_pure ?_ rfl rfl (fun w'=>?_) ?_;rotate_left;(go_simp;try with_reducible rfl);simp only [put9])
            (refine plan_pure ?_ rfl rfl (fun w'=>?_) ?_;rotate_left;(go_simp;try with_reducible rfl);simp only [put9])
            (refine plan_pure ?_ rfl rfl (fun w'=>?_) ?_;rotate_left;(go_simp;try with_reducible rfl);simp only [put9])
            (refine plan_pure ?_ rfl rfl (fun w'=>?_) ?_;rotate_left;(go_simp;try with_reducible rfl);simp only [put9])
            (refine plan_pure ?_ rfl rfl (fun w'=>?_) ?_;rotate_left;(go_simp;try with_reducible rfl);simp only [put9])
            (refine plan_pure ?_ rfl rfl (fun w'=>?_) ?_;rotate_left;(go_simp;try with_reducible rfl);simp only [put9])
            (refine plan_pure ?_ rfl rfl (fun w'=>?_) ?_;rotate_left;(go_simp;try with_reducible rfl);simp only [put9])
            refine plan_nil ?_
            intro w9 L9
            simp only [List.drop_succ_cons,List.drop_zero]
            try simp only [put9]
            replace own:=own.call L9
            replace HE:=Lib.hid (HE.out.call L9)
            replace inp:=inp.below L9
            have zo9:=o.size
            replace o:=o.trans (L9.mono o.size)
            have hz9:=L9.size
            clear L9
            generalize cur.set b ⟨tb,lb,L+1,um,some ⟨gp,0,none⟩,cp⟩=cS at own hsc
            have OC:=(own.cut (k:=b+1) (by omega)).row hbg
            rw [qcells_take] at OC
            have RD:Reads w9 w9.heap.size 5 AD (nn-(b+2)) (qcells (cS.drop (b+2))):=by
              have RD:=readsq_drop own (j:=b+2) (by omega)
              by_cases hcb:c'=b+2
              · exact ⟨RD.1,fun hn=>by have:=own.cap.1;omega⟩
              · rw [if_neg hcb] at hAD
                rw [← hAD]
                exact RD
            have zs:=o.size
            go_upto_region 17 with (at_builtin;refine wpList_append_any _ rfl _ _ 54 rfl w.heap.size 190 iq (.agg #[.int .i64 0, .int .i64 0, .int .i64 0, .int .i64 0, .slice none 0 0]) 5 56 Tryz.underlying54 HIQ.out jz0 jz1 jz2 rfl (by decide) (.slice (some ⟨g,0,none⟩) (b+1) c') (b+1) (qcells (cS.take (b+1))) rfl OC w9.heap.size AD (nn-(b+2)) (c'-(b+2)) (qcells (cS.drop (b+2))) rfl RD (qcells_one _) (by unfold maxLen;omega) (by omega) (by omega) ?_;intro v6 w10 own6 hg6 hat6)
            rw [← qcells_append,hsc,show b+1+(nn-(b+2))=nn-1 by omega] at own6
            replace o:=below_grown o hg6 (fun q hq=>by have e9:g=q:=Option.some.inj hq;omega) (by omega)
            obtain ⟨g6,c6,rfl,own7,hb6⟩:=orow_pos own6 (by omega)
            have h66:g6=g∨g6=w9.heap.size:=by
              rcases hat6 with h | h
              · exact .inl (Option.some.inj h)
              · exact .inr (Option.some.inj h)
            have HE3:=Lib.hid ((HE.out.keep hg6.size (fun x hx a e=>hg6.block _ (HE.out.lt hx e) (fun y=>HE.out.ne x hx a e (Option.some.inj y)))).next (b:=b) (g':=g6) (m:=⟨tb,lb,L+1,um,some ⟨gp,0,none⟩,cp⟩) (by
              have h9:=inp.keep hg6.size (fun a e=>hg6.block _ (by cases e;show gp<_;omega) (fun y=>by cases e;exact ngp (Option.some.inj y)))
              rw [hnm.out] at h9
              exact h9) (fun a e=>by cases e;show gp≠g6;omega) (fun a e=>by cases e;show w.heap.size≤gp;omega) (fun x hx a e=>by
              have h1:=HE.out.ne x hx a e
              have h2:=HE.out.lt hx e
              rcases h66 with h | h
              · rw [h];exact h1
              · omega))
            clear own6 own OC RD hsc hg6 hat6 inp HE
            go_wp2
            go_roundw
            case rel=>exact ⟨g6,c6,nn-1,_,b+1,L+1,rfl,by go_num,by go_num,own7,hb6,HE3,HJ3,o⟩
            case measure=>simp [lenE];omega
        · have j0:(0:Int)<(b:Int):=by omega
          have j1:0<b:=by omega
          obtain ⟨p,hp⟩:∃ p:Nat,b=p+1:=⟨b-1,by omega⟩
          have wj:IntKind.i64.wrap ((b:Int)-1)=(p:Int):=by rw [IntWalk.i64_in _ (by omega)];omega
          have y1:(p:Int)<(nn:Int):=by omega
          have y0:(0:Int)≤(p:Int):=by omega
          have pc:=(bqcells_own own (i:=p) (by omega)).2.2.1
          have hpb:b-1=p:=by omega
          clear b0
          by_cases hlv:(bqAt cur p).lv=L
          · have HB2:RowKit.Hid (∀ i,p≤i→i<e→(bqAt cur i).lv=L):=Lib.hid (fun i h1 h2=>by
              by_cases hi:i=p
              · rw [hi];exact hlv
              · exact HB.out i (by omega) h2)
            rw [hlv] at pc
            have lq:((L:Int) == (L:Int))=true:=by simp
            have hpe:p≤e:=by omega
            have hpl:p<b:=by omega
            clear hlv HB hp hpb
            go_wp2
            go_roundw
            case rel=>exact ⟨p,hpe,by go_num,HB2,by trivial⟩
            case measure=>simp [intOf];omega
          · have H2:RowKit.Hid (b=0∨(bqAt cur (b-1)).lv≠L):=Lib.hid (.inr (by rw [hpb];exact hlv))
            have lq:(((bqAt cur p).lv:Int) == (L:Int))=false:=by simp;omega
            generalize (bqAt cur p).lv=lp at pc lq
            clear hlv hp hpb
            by_cases hc:e-b<k+2
            · have hc':(e:Int)-(b:Int)<(k:Int)+2:=by omega
              have HF:=Lib.hid (HJ.out.done hbe HB.out H2.out hc (by have:=HTT.out;omega))
              clear HB
              go_wp2
              go_ret
              exact QInsRet.mk' own hbg HE.out HF.out o
            · have hc':¬ (e:Int)-(b:Int)<(k:Int)+2:=by omega
              have b1:b<cur.length:=by rw [hnn];omega
              have b2:b+1<cur.length:=by rw [hnn];omega
              have HS:=fun A c=>HJ.out.step (A:=A) (c:=c) k1 hbe HB.out H2.out hc HSZ.out
              have hsz:=(HS none 0).2
              have L1:=HB.out b (Nat.le_refl _) (by omega)
              have L2:=HB.out (b+1) (by omega) (by omega)
              have LB:L≤1073741824:=by
                have h1:=tot_mem (bk_mem (l:=bqs cur) (i:=b) (by rw [bqs_len];exact b1))
                rw [bqs_at b1] at h1
                have h1:2 ^ (bqAt cur b).lv≤btot (bqs cur):=h1
                have h2:=two_pow_le (x:=(bqAt cur b).lv) (by have:=HJ.out.r.tot;have:=HTT.out;omega)
                omega
              have wL:IntKind.i64.wrap ((L:Int)+1)=((L+1:Nat):Int):=by rw [IntWalk.i64_in _ (by omega)];omega
              have hla:=HJ.out.ok _ (bq_mem b1)
              have hlb:=HJ.out.ok _ (bq_mem b2)
              have ea:=HE.out.ent _ (bq_mem b1)
              have eb:=HE.out.ent _ (bq_mem b2)
              have qa:=bqcells_own own (i:=b) (by omega)
              have qb:=bqcells_own own (i:=b+1) (by omega)
              have l0:(b:Int)<(nn:Int):=by omega
              have l1:(b:Int)+1<(nn:Int):=by omega
              have l2:(b:Int)+2≤(nn:Int):=by omega
              have z0:(0:Int)≤(b:Int):=by omega
              have z1:(0:Int)≤(b:Int)+1:=by omega
              have z2:(0:Int)≤(b:Int)+2:=by omega
              have cc:=own.cap.1
              have l3:(b:Int)+1≤(c':Int):=by omega
              have l4:(nn:Int)≤(c':Int):=by omega
              have y1:IntKind.i64.wrap ((b:Int)+1)=(b:Int)+1:=IntWalk.i64_in _ (by omega)
              have y2:IntKind.i64.wrap ((b:Int)+2)=(b:Int)+2:=IntWalk.i64_in _ (by omega)
              have y3:((b:Int)+1).toNat=b+1:=by omega
              have y4:((b:Int)+2).toNat=b+2:=by omega
              obtain ⟨⟨ta,la,va,ua,Aa,ca⟩,hxa⟩:∃ x,x=bqAt cur b:=⟨_,rfl⟩
              obtain ⟨⟨tb,lb,vb,ub,Ab,cb⟩,hxb⟩:∃ x,x=bqAt cur (b+1):=⟨_,rfl⟩
              rw [← hxa] at ea qa hla L1 HS
              rw [← hxb] at eb qb hlb L2 HS
              have la1:=hla.len
              have lb1:=hlb.len
              unfold BqCells at qa qb
              dsimp only at ea eb qa qb L1 L2 la1 lb1 HS
              obtain rfl:L=va:=L1.symm
              obtain rfl:L=vb:=L2.symm
              have hpw:2 ^ (L+1)=2 ^ L+2 ^ L:=by rw [Nat.pow_succ];omega
              have hms:ua.length+ub.length≤sz+1:=by rw [la1,lb1];omega
              have hmL:(mgI ua ub).length=ua.length+ub.length:=mgI_len _ _
              obtain ⟨aa,rfl,haa⟩:=ea.ptr
              obtain ⟨ab,rfl,hab⟩:=eb.ptr
              have PM:=Lib.hid (fun w1 (hb:Below wr.heap.size wr w1)=>prkmerge _ _ _ _ _ _ _ _ w1 (ea.below hb) (eb.below hb) (by omega))
              unfold RkRet2 at PM
              obtain ⟨na,hna⟩:∃ x,x=ua.length:=⟨_,rfl⟩
              obtain ⟨nb,hnb⟩:∃ x,x=ub.length:=⟨_,rfl⟩
              rw [← hna] at qa PM
              rw [← hnb] at qb PM
              obtain ⟨nm,hnm⟩:∃ x,x=(mgI ua ub).length:=⟨_,rfl⟩
              rw [← hnm] at PM
              have hnms:nm≤sz+1:=by rw [hnm,hmL];exact hms
              generalize mgI ua ub=um at HS PM hnm
              replace HS:=Lib.hid HS
              replace hnm:=Lib.hid hnm
              have HW:=Lib.hid (fun w1 (hb:Below wr.heap.size wr w1)=>own.below hb own.lt)
              have QP:∀ w1,Below wr.heap.size wr w1→_:=fun w1 hb=>And.intro (BqCells.below (w':=w1) (b:=⟨ta,la,L,List.replicate na 0,some aa,ca⟩) (a:=⟨g,b*5,none⟩) (by unfold BqCells;dsimp only;rw [List.length_replicate];exact qa) hb own.lt) (BqCells.below (w':=w1) (b:=⟨tb,lb,L,List.replicate nb 0,some ab,cb⟩) (a:=⟨g,(b+1)*5,none⟩) (by unfold BqCells;dsimp only;rw [List.length_replicate];exact qb) hb own.lt)
              unfold BqCells at QP
              dsimp only at QP
              rw [List.length_replicate,List.length_replicate] at QP
              replace QP:=Lib.hid QP
              clear qa qb ea eb hla hlb la1 lb1 hms hmL hna hnb hxa hxb L1 L2
              go_upto_region 12 with (fail)
              refine wp_region_phase 12 (fun w'=>Below wr.heap.size wr w') (by kernel_rfl) (by kernel_rfl) (by kernel_rfl) (by kernel_rfl) (by kernel_rfl) (fun HOK=>?_)
              have HS:=((Below.refl _ _).drew:Below wr.heap.size wr wr.drew)
              (refine hw_take HOK (i:=0) ?_ rfl (by decide) (by kernel_rfl) (by kernel_rfl) (by exact fun _ _ _ h=>h) (Or.inl ⟨by rfl,fun w' hS=>?_⟩) HS ?_;rotate_left;(go_simp;try with_reducible rfl);simp only [put9])
              (refine hw_take HOK (i:=1) ?_ rfl (by decide) (by kernel_rfl) (by kernel_rfl) (by exact fun _ _ _ h=>h) (Or.inl ⟨by rfl,fun w' hS=>?_⟩) HS ?_;rotate_left;(go_simp;try with_reducible rfl);simp only [put9])
              (refine hw_take HOK (i:=2) ?_ rfl (by decide) (by kernel_rfl) (by kernel_rfl) (by exact fun _ _ _ h=>h) (Or.inl ⟨by rfl,fun w' hS=>?_⟩) HS ?_;rotate_left;(go_simp;try with_reducible rfl);simp only [put9])
              (refine hw_take HOK (i:=3) ?_ rfl (by decide) (by kernel_rfl) (by kernel_rfl) (by exact fun _ _ _ h=>h) (Or.inl ⟨by rfl,fun w' hS=>?_⟩) HS ?_;rotate_left;(obtain ⟨⟨p0,p1,p2,p3,p4⟩,⟨q0,q1,q2,q3,q4⟩⟩:=QP.out _ hS;go_simp;try with_reducible rfl);simp only [put9])
              (refine hw_take HOK (i:=4) ?_ rfl (by decide) (by kernel_rfl) (by kernel_rfl) (by exact fun _ _ _ h=>h) (Or.inl ⟨by rfl,fun w' hS=>?_⟩) HS ?_;rotate_left;(go_simp;try with_reducible rfl);simp only [put9])
              (refine hw_take HOK (i:=5) ?_ rfl (by decide) (by kernel_rfl) (by kernel_rfl) (by exact fun _ _ _ h=>h) (Or.inl ⟨by rfl,fun w' hS=>?_⟩) HS ?_;rotate_left;(go_simp;try with_reducible rfl);simp only [put9])
              (refine hw_take HOK (i:=6) ?_ rfl (by decide) (by kernel_rfl) (by kernel_rfl) (by exact fun _ _ _ h=>h) (Or.inl ⟨by rfl,fun w' hS=>?_⟩) HS ?_;rotate_left;(go_simp;try with_reducible rfl);simp only [put9])
              (refine hw_take HOK (i:=7) ?_ rfl (by decide) (by kernel_rfl) (by kernel_rfl) (by exact fun _ _ _ h=>h) (Or.inl ⟨by rfl,fun w' hS=>?_⟩) HS ?_;rotate_left;(go_simp;try with_reducible rfl);simp only [put9])
              (refine hw_take HOK (i:=8) ?_ rfl (by decide) (by kernel_rfl) (by kernel_rfl) (by exact fun _ _ _ h=>h) (Or.inl ⟨by rfl,fun w' hS=>?_⟩) HS ?_;rotate_left;(obtain ⟨⟨p0,p1,p2,p3,p4⟩,⟨q0,q1,q2,q3,q4⟩⟩:=QP.out _ hS;go_simp;try with_reducible rfl);simp only [put9])
              refine hw_news (f:=1) (fun x o hx=>hx.alloc hx.size o) [⟨9,15,190,#[.int .i64 0, .int .i64 0, .int .i64 0, .int .i64 0, .slice none 0 0]⟩,⟨10,16,190,#[.int .i64 0, .int .i64 0, .int .i64 0, .int .i64 0, .slice none 0 0]⟩] _ _ _ (by kernel_rfl) (List.forall_mem_cons.2 ⟨⟨⟨_,_,rfl,rfl,rfl,fun ρ w'=>by go_simp⟩,rfl,by decide⟩,List.forall_mem_cons.2 ⟨⟨⟨_,_,rfl,rfl,rfl,fun ρ w'=>by go_simp⟩,rfl,by decide⟩,fun _ h=>by cases h⟩⟩) (by decide) HS ?_
              intro bs w1 HS2 hN
              obtain ⟨xa,xb,rfl⟩:∃ xa xb,bs=[xa,xb]:=by
                match bs,hN.len with
                | [xa,xb],_=>exact ⟨_,_,rfl⟩
              have nd:=hN.nodup
              simp only [List.nodup_cons,List.mem_cons,List.not_mem_nil,or_false,not_or] at nd
              have nxy:xa≠xb:=nd.1
              have XA:Row w1 xa 190 #[.int .i64 0, .int .i64 0, .int .i64 0, .int .i64 0, .slice none 0 0]:=hN.rows 0 _ _ rfl rfl
              have XC:Row w1 xb 190 #[.int .i64 0, .int .i64 0, .int .i64 0, .int .i64 0, .slice none 0 0]:=hN.rows 1 _ _ rfl rfl
              have gea:wr.heap.size≤xa:=hN.ge xa (by simp)
              have geb:wr.heap.size≤xb:=hN.ge xb (by simp)
              have zow:=o.size
              have zgl:=own.lt
              have HLT:=Lib.hid (fun x (hx:x∈cur) a e=>HE.out.lt hx (a:=a) e)
              clear HS hN nd HW QP
              simp only [putAll,setAll,List.foldl]
              try simp only [put9]
              refine hw_one (i:=11) rfl (by decide) (by kernel_rfl) (fun K hK=>?_)
              obtain ⟨X0,X1,X2,X3,X4,Xf0,Xf1,Xf2,Xf3,Xf4⟩:=row_five XA
              go_simp
              clear X0 Xf0 X1 Xf1 X2 Xf2 X3 Xf3 X4 Xf4
              replace XA:=row_set XA 0 (.int .i64 ta)
              replace XC:=row_other (p:=⟨xa,0,none⟩) XC (nxy.symm) (.int .i64 ta)
              replace HS2:=HS2.setCell (p:=⟨xa,0,none⟩) gea (.int .i64 ta)
              replace XA:=row_set XA 1 (.int .i64 la)
              replace XC:=row_other (p:=⟨xa,1,none⟩) XC (nxy.symm) (.int .i64 la)
              replace HS2:=HS2.setCell (p:=⟨xa,1,none⟩) gea (.int .i64 la)
              replace XA:=row_set XA 2 (.int .i64 (L:Nat))
              replace XC:=row_other (p:=⟨xa,2,none⟩) XC (nxy.symm) (.int .i64 (L:Nat))
              replace HS2:=HS2.setCell (p:=⟨xa,2,none⟩) gea (.int .i64 (L:Nat))
              replace XA:=row_set XA 3 (.int .i64 (na:Nat))
              replace XC:=row_other (p:=⟨xa,3,none⟩) XC (nxy.symm) (.int .i64 (na:Nat))
              replace HS2:=HS2.setCell (p:=⟨xa,3,none⟩) gea (.int .i64 (na:Nat))
              replace XA:=row_set XA 4 (.slice (some aa) na ca)
              replace XC:=row_other (p:=⟨xa,4,none⟩) XC (nxy.symm) (.slice (some aa) na ca)
              replace HS2:=HS2.setCell (p:=⟨xa,4,none⟩) gea (.slice (some aa) na ca)
              replace XA:Row (((((w1.setCell ⟨xa,0,none⟩ (.int .i64 ta)).setCell ⟨xa,1,none⟩ (.int .i64 la)).setCell ⟨xa,2,none⟩ (.int .i64 (L:Nat))).setCell ⟨xa,3,none⟩ (.int .i64 (na:Nat))).setCell ⟨xa,4,none⟩ (.slice (some aa) na ca)) xa 190 #[.int .i64 ta, .int .i64 la, .int .i64 (L:Nat), .int .i64 (na:Nat), .slice (some aa) na ca]:=XA
              refine hK _ _ HS2 ?_
              clear hK K
              generalize (((((w1.setCell ⟨xa,0,none⟩ (.int .i64 ta)).setCell ⟨xa,1,none⟩ (.int .i64 la)).setCell ⟨xa,2,none⟩ (.int .i64 (L:Nat))).setCell ⟨xa,3,none⟩ (.int .i64 (na:Nat))).setCell ⟨xa,4,none⟩ (.slice (some aa) na ca))=w2 at XA XC HS2 ⊢
              try simp only [put9]
              refine hw_done (by kernel_rfl) ?_
              try simp only [List.drop_succ_cons,List.drop_zero]
              clear HOK
              obtain ⟨X0,X1,X2,X3,X4,Xf0,Xf1,Xf2,Xf3,Xf4⟩:=row_five XC
              go_upto_region 13 with (fail)
              clear X0 Xf0 X1 Xf1 X2 Xf2 X3 Xf3 X4 Xf4
              replace XC:=row_set XC 0 (.int .i64 tb)
              replace XA:=row_other (p:=⟨xb,0,none⟩) XA (nxy) (.int .i64 tb)
              replace HS2:=HS2.setCell (p:=⟨xb,0,none⟩) geb (.int .i64 tb)
              replace XC:=row_set XC 1 (.int .i64 lb)
              replace XA:=row_other (p:=⟨xb,1,none⟩) XA (nxy) (.int .i64 lb)
              replace HS2:=HS2.setCell (p:=⟨xb,1,none⟩) geb (.int .i64 lb)
              replace XC:=row_set XC 2 (.int .i64 (L:Nat))
              replace XA:=row_other (p:=⟨xb,2,none⟩) XA (nxy) (.int .i64 (L:Nat))
              replace HS2:=HS2.setCell (p:=⟨xb,2,none⟩) geb (.int .i64 (L:Nat))
              replace XC:=row_set XC 3 (.int .i64 (nb:Nat))
              replace XA:=row_other (p:=⟨xb,3,none⟩) XA (nxy) (.int .i64 (nb:Nat))
              replace HS2:=HS2.setCell (p:=⟨xb,3,none⟩) geb (.int .i64 (nb:Nat))
              replace XC:=row_set XC 4 (.slice (some ab) nb cb)
              replace XA:=row_other (p:=⟨xb,4,none⟩) XA (nxy) (.slice (some ab) nb cb)
              replace HS2:=HS2.setCell (p:=⟨xb,4,none⟩) geb (.slice (some ab) nb cb)
              replace XC:Row (((((w2.setCell ⟨xb,0,none⟩ (.int .i64 tb)).setCell ⟨xb,1,none⟩ (.int .i64 lb)).setCell ⟨xb,2,none⟩ (.int .i64 (L:Nat))).setCell ⟨xb,3,none⟩ (.int .i64 (nb:Nat))).setCell ⟨xb,4,none⟩ (.slice (some ab) nb cb)) xb 190 #[.int .i64 tb, .int .i64 lb, .int .i64 (L:Nat), .int .i64 (nb:Nat), .slice (some ab) nb cb]:=XC
              have HS4:=HS2
              clear HS2
              generalize (((((w2.setCell ⟨xb,0,none⟩ (.int .i64 tb)).setCell ⟨xb,1,none⟩ (.int .i64 lb)).setCell ⟨xb,2,none⟩ (.int .i64 (L:Nat))).setCell ⟨xb,3,none⟩ (.int .i64 (nb:Nat))).setCell ⟨xb,4,none⟩ (.slice (some ab) nb cb))=w3 at XA XC HS4 ⊢
              replace own:=own.call HS4
              replace HE:=Lib.hid (HE.out.call HS4)
              replace o:=o.trans (HS4.mono o.size)
              have hz4:=HS4.size
              obtain ⟨X0,X1,X2,X3,X4,Xf0,Xf1,Xf2,Xf3,Xf4⟩:=row_five XA
              obtain ⟨Y0,Y1,Y2,Y3,Y4,Yf0,Yf1,Yf2,Yf3,Yf4⟩:=row_five XC
              go_wp2_with fail
              refine (PM.out _ HS4).mono ?_
              rintro e w4 ⟨gm,cm,rfl,inm,hgm,hb4⟩
              clear XA X0 Xf0 Y0 Yf0 X1 Xf1 Y1 Yf1 X2 Xf2 Y2 Yf2 X3 Xf3 Y3 Yf3 X4 Xf4 Y4 Yf4
              have zXC:=row_lt XC
              replace XC:=row_call XC hb4
              replace own:=own.call hb4
              replace HE:=Lib.hid (HE.out.call hb4)
              have zo3:=o.size
              have zo4:=own.lt
              replace o:=o.trans (hb4.mono o.size)
              have hz5:=hb4.size
              clear hb4 HS4 PM
              go_upto_region 14 with (fail)
              have RR:Row (w4.alloc (.cells #[.int .i64 (nm:Nat), .slice (some ⟨gm,0,none⟩) nm cm] 188)) w4.heap.size 188 #[.int .i64 (nm:Nat), .slice (some ⟨gm,0,none⟩) nm cm]:=row_new rfl
              have zxc4:=row_lt XC
              replace XC:=row_alloc XC (.cells #[.int .i64 (nm:Nat), .slice (some ⟨gm,0,none⟩) nm cm] 188)
              replace own:=own.alloc (.cells #[.int .i64 (nm:Nat), .slice (some ⟨gm,0,none⟩) nm cm] 188)
              replace HE:=Lib.hid (HE.out.call ((Below.refl _ _).alloc (Nat.le_refl _) (.cells #[.int .i64 (nm:Nat), .slice (some ⟨gm,0,none⟩) nm cm] 188)))
              replace inm:=inm.below ((Below.refl _ _).alloc (Nat.le_refl _) (.cells #[.int .i64 (nm:Nat), .slice (some ⟨gm,0,none⟩) nm cm] 188))
              have zo4':=o.size
              replace o:=o.alloc o.size (.cells #[.int .i64 (nm:Nat), .slice (some ⟨gm,0,none⟩) nm cm] 188)
              have pP:=prkprune _ _ _ _ sz (w4.alloc (.cells #[.int .i64 (nm:Nat), .slice (some ⟨gm,0,none⟩) nm cm] 188)) inm s1 s2 hnms
              unfold RkRet2 at pP
              rw [← hnm.out] at pP
              generalize w4.alloc (.cells #[.int .i64 (nm:Nat), .slice (some ⟨gm,0,none⟩) nm cm] 188)=w5 at XC own HE inm o RR pP ⊢
              generalize w4.heap.size=rb at RR zxc4 zo4' zo4 hz5 ⊢
              replace pP:=Lib.hid pP
              obtain ⟨R0,R1,Rf0,Rf1⟩:=row_two RR
              have zrr:=row_lt RR
              go_wp2_with fail
              refine pP.out.mono ?_
              rintro e w6 ⟨gp,cp,rfl,inp,hgp,hb6⟩
              clear R0 R1 Rf0 Rf1 inm pP
              replace XC:=row_call XC hb6
              replace RR:=row_call RR hb6
              replace own:=own.call hb6
              replace HE:=Lib.hid (HE.out.call hb6)
              have zo5:=o.size
              replace o:=o.trans (hb6.mono o.size)
              have hz6:=hb6.size
              clear hb6
              obtain ⟨R0,R1,Rf0,Rf1⟩:=row_two RR
              go_upto_region 15 with (fail)
              clear R0 R1 Rf0 Rf1
              have nrb:∀ x∈cur,∀ a,x.A=some a→a.block≠rb:=fun x hx a e=>by have:=HLT.out x hx a e;omega
              have npr:gp≠rb:=by omega
              have ngr:g≠rb:=by omega
              have nxr:xb≠rb:=by omega
              replace HE:=Lib.hid ((HE.out.setb (p:=⟨rb,0,none⟩) nrb (.int .i64 (nm:Nat))).setb (p:=⟨rb,1,none⟩) nrb (.slice (some ⟨gp,0,none⟩) nm cp))
              replace RR:Row ((w6.setCell ⟨rb,0,none⟩ (.int .i64 (nm:Nat))).setCell ⟨rb,1,none⟩ (.slice (some ⟨gp,0,none⟩) nm cp)) rb 188 #[.int .i64 (nm:Nat), .slice (some ⟨gp,0,none⟩) nm cp]:=row_set (row_set RR 0 (.int .i64 (nm:Nat))) 1 (.slice (some ⟨gp,0,none⟩) nm cp)
              replace XC:=row_other (p:=⟨rb,1,none⟩) (row_other (p:=⟨rb,0,none⟩) XC nxr (.int .i64 (nm:Nat))) nxr (.slice (some ⟨gp,0,none⟩) nm cp)
              replace own:=(own.other (p:=⟨rb,0,none⟩) ngr (.int .i64 (nm:Nat))).other (p:=⟨rb,1,none⟩) ngr (.slice (some ⟨gp,0,none⟩) nm cp)
              replace inp:=(inp.setc (p:=⟨rb,0,none⟩) (fun a e=>by cases e;exact npr.symm) (.int .i64 (nm:Nat))).setc (p:=⟨rb,1,none⟩) (fun a e=>by cases e;exact npr.symm) (.slice (some ⟨gp,0,none⟩) nm cp)
              replace o:=(o.setCell (p:=⟨rb,0,none⟩) (by show w.heap.size≤rb;omega) (.int .i64 (nm:Nat))).setCell (p:=⟨rb,1,none⟩) (by show w.heap.size≤rb;omega) (.slice (some ⟨gp,0,none⟩) nm cp)
              generalize (w6.setCell ⟨rb,0,none⟩ (.int .i64 (nm:Nat))).setCell ⟨rb,1,none⟩ (.slice (some ⟨gp,0,none⟩) nm cp)=w7 at XC RR own HE inp o ⊢
              obtain ⟨R0,R1,Rf0,Rf1⟩:=row_two RR
              obtain ⟨X0,X1,X2,X3,X4,Xf0,Xf1,Xf2,Xf3,Xf4⟩:=row_five XC
              obtain ⟨p0,p1,p2,p3,p4⟩:=bqcells_own own (i:=b) (by omega)
              have f0:=own.free (b*5)
              have f1:=own.free (b*5+1)
              have f2:=own.free (b*5+2)
              have f3:=own.free (b*5+3)
              have f4:=own.free (b*5+4)
              have ngp:gp≠g:=by omega
              go_upto_region 16 with (fail)
              clear R0 R1 Rf0 Rf1 RR XC p0 p1 p2 p3 p4 f0 f1 f2 f3 f4 X0 Xf0 X1 Xf1 X2 Xf2 X3 Xf3 X4 Xf4
              replace own:=((((own.set (b*5) (.int .i64 tb)).set (b*5+1) (.int .i64 lb)).set (b*5+2) (.int .i64 ((L:Int)+1))).set (b*5+3) (.int .i64 (nm:Nat))).set (b*5+4) (.slice (some ⟨gp,0,none⟩) nm cp)
              replace HE:=Lib.hid (((((HE.out.setg (b*5) (.int .i64 tb)).setg (b*5+1) (.int .i64 lb)).setg (b*5+2) (.int .i64 ((L:Int)+1))).setg (b*5+3) (.int .i64 (nm:Nat))).setg (b*5+4) (.slice (some ⟨gp,0,none⟩) nm cp))
              replace inp:=((((inp.setc (p:=⟨g,b*5,none⟩) (fun a e=>by cases e;exact ngp.symm) (.int .i64 tb)).setc (p:=⟨g,b*5+1,none⟩) (fun a e=>by cases e;exact ngp.symm) (.int .i64 lb)).setc (p:=⟨g,b*5+2,none⟩) (fun a e=>by cases e;exact ngp.symm) (.int .i64 ((L:Int)+1))).setc (p:=⟨g,b*5+3,none⟩) (fun a e=>by cases e;exact ngp.symm) (.int .i64 (nm:Nat))).setc (p:=⟨g,b*5+4,none⟩) (fun a e=>by cases e;exact ngp.symm) (.slice (some ⟨gp,0,none⟩) nm cp)
              replace o:=((((o.setCell (p:=⟨g,b*5,none⟩) hbg (.int .i64 tb)).setCell (p:=⟨g,b*5+1,none⟩) hbg (.int .i64 lb)).setCell (p:=⟨g,b*5+2,none⟩) hbg (.int .i64 ((L:Int)+1))).setCell (p:=⟨g,b*5+3,none⟩) hbg (.int .i64 (nm:Nat))).setCell (p:=⟨g,b*5+4,none⟩) hbg (.slice (some ⟨gp,0,none⟩) nm cp)
              have hbs:=qcells_set cur b b1 ⟨tb,lb,L+1,um,some ⟨gp,0,none⟩,cp⟩
              dsimp only at hbs
              rw [← hnm.out,show ((L+1:Nat):Int)=(L:Int)+1 by omega] at hbs
              rw [hbs] at own
              generalize (((((w7.setCell ⟨g,b*5,none⟩ (.int .i64 tb)).setCell ⟨g,b*5+1,none⟩ (.int .i64 lb)).setCell ⟨g,b*5+2,none⟩ (.int .i64 ((L:Int)+1))).setCell ⟨g,b*5+3,none⟩ (.int .i64 (nm:Nat))).setCell ⟨g,b*5+4,none⟩ (.slice (some ⟨gp,0,none⟩) nm cp))=w8 at own HE inp o ⊢
              have hsc:=set_cutq (cur:=cur) (b:=b) (m:=⟨tb,lb,L+1,um,some ⟨gp,0,none⟩,cp⟩) (by omega)
              have HJ3:=Lib.hid (HS.out (some ⟨gp,0,none⟩) cp).1
              have hzz:=own.lt
              have inpl:gp<w8.heap.size:=by
                obtain ⟨a,e,h⟩:=inp.ptr
                cases e
                exact h
              clear hbs HS HB HJ
              generalize hAD:(if c'=b+2 then some (⟨g,0,none⟩:Addr) else some ⟨g,(b+2)*5,none⟩)=AD
              refine wp_region_free0 [0,1,2,4,5,6,3,7] [] [0,1,2,3,4,5,6,7] 8 (fun w'=>Below w8.heap.size w8 w') (by kernel_rfl) (by kernel_rfl) (fun _ _ d _ _ h=>by cases d<;>exact h) ?_ ?_
              · exact (Below.refl _ _).drew
              (refine plan_pure ?_ rfl rfl (fun w'=>?_) ?_;rotate_left;(go_simp;try with_reducible rfl);simp only [put9])
              (refine plan_pure ?_ rfl rfl (fun w'=>?_) ?_;rotate_left;(go_simp;try with_reducible rfl);simp only [put9])
              (refine plan_pure ?_ rfl rfl (fun w'=>?_) ?_;rotate_left;(go_simp;try with_reducible rfl);simp only [put9])
              (refine plan_pure ?_ rfl rfl (fun w'=>?_) ?_;rotate_left;(go_simp;try with_reducible rfl);simp only [put9])
              (refine plan_pure ?_ rfl rfl (fun w'=>?_) ?_;rotate_left;(go_simp;try with_reducible rfl);simp only [put9])
              (refine plan_pure ?_ rfl rfl (fun w'=>?_) ?_;rotate_left;(go_simp;try with_reducible rfl);simp only [put9])
              (refine plan_pure ?_ rfl rfl (fun w'=>?_) ?_;rotate_left;(go_simp;try with_reducible rfl);simp only [put9])
              (refine plan_pure ?_ rfl rfl (fun w'=>?_) ?_;rotate_left;(go_simp;try with_reducible rfl);simp only [put9])
              refine plan_nil ?_
              intro w9 L9
              simp only [List.drop_succ_cons,List.drop_zero]
              try simp only [put9]
              replace own:=own.call L9
              replace HE:=Lib.hid (HE.out.call L9)
              replace inp:=inp.below L9
              have zo9:=o.size
              replace o:=o.trans (L9.mono o.size)
              have hz9:=L9.size
              clear L9
              generalize cur.set b ⟨tb,lb,L+1,um,some ⟨gp,0,none⟩,cp⟩=cS at own hsc
              have OC:=(own.cut (k:=b+1) (by omega)).row hbg
              rw [qcells_take] at OC
              have RD:Reads w9 w9.heap.size 5 AD (nn-(b+2)) (qcells (cS.drop (b+2))):=by
                have RD:=readsq_drop own (j:=b+2) (by omega)
                by_cases hcb:c'=b+2
                · exact ⟨RD.1,fun hn=>by have:=own.cap.1;omega⟩
                · rw [if_neg hcb] at hAD
                  rw [← hAD]
                  exact RD
              have zs:=o.size
              go_upto_region 17 with (at_builtin;refine wpList_append_any _ rfl _ _ 54 rfl w.heap.size 190 iq (.agg #[.int .i64 0, .int .i64 0, .int .i64 0, .int .i64 0, .slice none 0 0]) 5 56 Tryz.underlying54 HIQ.out jz0 jz1 jz2 rfl (by decide) (.slice (some ⟨g,0,none⟩) (b+1) c') (b+1) (qcells (cS.take (b+1))) rfl OC w9.heap.size AD (nn-(b+2)) (c'-(b+2)) (qcells (cS.drop (b+2))) rfl RD (qcells_one _) (by unfold maxLen;omega) (by omega) (by omega) ?_;intro v6 w10 own6 hg6 hat6)
              rw [← qcells_append,hsc,show b+1+(nn-(b+2))=nn-1 by omega] at own6
              replace o:=below_grown o hg6 (fun q hq=>by have e9:g=q:=Option.some.inj hq;omega) (by omega)
              obtain ⟨g6,c6,rfl,own7,hb6⟩:=orow_pos own6 (by omega)
              have h66:g6=g∨g6=w9.heap.size:=by
                rcases hat6 with h | h
                · exact .inl (Option.some.inj h)
                · exact .inr (Option.some.inj h)
              have HE3:=Lib.hid ((HE.out.keep hg6.size (fun x hx a e=>hg6.block _ (HE.out.lt hx e) (fun y=>HE.out.ne x hx a e (Option.some.inj y)))).next (b:=b) (g':=g6) (m:=⟨tb,lb,L+1,um,some ⟨gp,0,none⟩,cp⟩) (by
                have h9:=inp.keep hg6.size (fun a e=>hg6.block _ (by cases e;show gp<_;omega) (fun y=>by cases e;exact ngp (Option.some.inj y)))
                rw [hnm.out] at h9
                exact h9) (fun a e=>by cases e;show gp≠g6;omega) (fun a e=>by cases e;show w.heap.size≤gp;omega) (fun x hx a e=>by
                have h1:=HE.out.ne x hx a e
                have h2:=HE.out.lt hx e
                rcases h66 with h | h
                · rw [h];exact h1
                · omega))
              clear own6 own OC RD hsc hg6 hat6 inp HE
              go_wp2
              go_roundw
              case rel=>exact ⟨g6,c6,nn-1,_,b+1,L+1,rfl,by go_num,by go_num,own7,hb6,HE3,HJ3,o⟩
              case measure=>simp [lenE];omega
  · have j0:(0:Int)<(m:Int):=by omega
    have j1:0<m:=by omega
    obtain ⟨p,hp⟩:∃ p:Nat,m=p+1:=⟨m-1,by omega⟩
    obtain ⟨ad,rfl,hadb,hi0⟩:=HQ.out.reads.bq (i:=p) (by omega)
    have htp:=HT.out _ (bq_mem (l:=l) (i:=p) (by rw [hln.out];omega))
    have c0:=(hi0.below o (by rw [block_of_add];exact hadb)).1
    generalize (bqAt l p).t=tp at c0 htp
    have q6:¬ t<tp:=by omega
    have wp:IntKind.i64.wrap ((m:Int)-1)=(p:Int):=by rw [IntWalk.i64_in _ (by omega)];omega
    have p0:(0:Int)≤(p:Int):=by omega
    have p1:(p:Int)<(m:Int):=by omega
    replace hp:=Lib.hid hp
    clear hi0
    go_wp2_with fail
    refine (PT.out _ o).mono ?_
    rintro e w2 ⟨rfl,hb⟩
    replace o:=o.trans (hb.mono o.size)
    clear hb PT c0
    go_wp2_with (at_builtin;refine wpList_clone rfl _ _ 54 rfl 190 iq (.agg #[.int .i64 0, .int .i64 0, .int .i64 0, .int .i64 0, .slice none 0 0]) 5 56 Tryz.underlying54 HIQ.out jz0 jz1 jz2 rfl (by decide) rfl w.heap.size (some ad) m c (qcells l) rfl (HQ.out.reads.below o) o.size (qcells_one _) (by unfold maxLen;omega) (by omega) ?_;intro g4 c4 w4 own4 hg4 hb4 hz4)
    have zo4:=o.size
    replace o:=o.trans (hb4.mono o.size)
    clear hb4 hz4
    go_wp2_with fail
    refine (PS.out _).mono ?_
    rintro e w5 ⟨g1,c1,rfl,in1,hg1,hb5⟩
    have zg4:=own4.lt
    replace own4:=own4.call hb5
    have ne41:g1≠g4:=by omega
    have zo5:=o.size
    replace o:=o.trans (hb5.mono o.size)
    have hg4':w.heap.size≤g4:=by omega
    have hg1':w.heap.size≤g1:=by omega
    have lt1:g1<w5.heap.size:=by
      obtain ⟨a,e,h⟩:=in1.ptr
      cases e
      exact h
    replace in1:RkIn (some ⟨g1,0,none⟩) 1 c1 [v] w5:=in1
    clear hb5 PS
    go_upto_region 4 with (at_builtin;refine wpList_push rfl _ _ 54 rfl 190 iq (.agg #[.int .i64 0, .int .i64 0, .int .i64 0, .int .i64 0, .slice none 0 0]) 5 56 Tryz.underlying54 HIQ.out jz0 jz1 jz2 rfl (by decide) w.heap.size (.slice (some ⟨g4,0,none⟩) m c4) m (qcells l) rfl (own4.row hg4') #[.int .i64 t, .int .i64 v, .int .i64 0, .int .i64 1, .slice (some ⟨g1,0,none⟩) 1 c1] rfl rfl (by intro u hu;simp at hu;rcases hu with rfl | rfl | rfl | rfl | rfl<;>rfl) (by unfold maxLen;omega) (by omega) o.size ?_;intro g c9 w6 own hbg hat6 hgr6)
    replace own:Own w6 190 5 g (m+1) c9 (qcells (l ++ [⟨t,v,0,[v],some ⟨g1,0,none⟩,c1⟩])):=by rw [qcells_append];exact own
    have zo5':=o.size
    replace o:=below_grown (o.alloc o.size (.cells #[.int .i64 t, .int .i64 v, .int .i64 0, .int .i64 1, .slice (some ⟨g1,0,none⟩) 1 c1] 190)) hgr6 (fun q e=>by have e9:g4=q:=Option.some.inj e;omega) (by simp;omega)
    have ngg:g=g4∨g=w5.heap.size+1:=by
      rcases hat6 with h | h
      · exact .inl (Option.some.inj h).symm
      · exact .inr h
    have HE:=Lib.hid (show QEnt l w.heap.size g (l ++ [⟨t,v,0,[v],some ⟨g1,0,none⟩,c1⟩]) w6 by
      refine ⟨fun b hb=>?_,fun b hb a e=>?_,fun b hb a e=>?_⟩
      · rcases List.mem_append.1 hb with hb | hb
        · exact (HQ.out.ent b hb).below o
        · rw [List.mem_singleton.1 hb]
          exact (in1.below ((Below.refl _ _).alloc (Nat.le_refl _) (.cells #[.int .i64 t, .int .i64 v, .int .i64 0, .int .i64 1, .slice (some ⟨g1,0,none⟩) 1 c1] 190))).keep hgr6.size (fun a e=>hgr6.block _ (by cases e;simp;omega) (fun x=>by cases e;exact ne41 (Option.some.inj x)))
      · rcases List.mem_append.1 hb with hb | hb
        · obtain ⟨a',e',h⟩:=(HQ.out.ent b hb).ptr
          rw [e] at e'
          cases e'
          omega
        · rw [List.mem_singleton.1 hb] at e
          cases e
          show g1≠g
          omega
      · rcases List.mem_append.1 hb with hb | hb
        · exact .inr ⟨b,hb,a,e,rfl⟩
        · rw [List.mem_singleton.1 hb] at e
          cases e
          exact .inl hg1')
    have HJ:=Lib.hid (ST.out (some ⟨g1,0,none⟩) c1)
    clear own4 in1 hat6 hgr6 ngg lt1 ne41 zg4 ST
    go_upto_block 0 with (fail)
    go_wp2
    go_loopw [11,12,13,14,15,16,17,18] (fun u11 u12 u13 _ _ _ _ _ wr=>∃ (g c' nn:Nat) (cur:List Bq) (e L:Nat),u11 = .slice (some ⟨g,0,none⟩) nn c'∧u12 = .int .i64 (e:Nat)∧u13 = .int .i64 (L:Nat)∧Own wr 190 5 g nn c' (qcells cur)∧w.heap.size≤g∧RowKit.Hid (QEnt l w.heap.size g cur wr)∧RowKit.Hid (InsQR sz k l t v cur e L)∧Below w.heap.size w wr) (fun u11 _ _ _ _ _ _ _ _=>lenE u11)
    case atStart=>exact ⟨g,c9,m+1,_,l.length+1,0,rfl,by rw [hln.out];go_num,rfl,own,hbg,HE,HJ,o⟩
    case round =>
      clear own hbg HE HJ o
      obtain ⟨g,c',nn,cur,e,L,rfl,rfl,rfl,own,hbg,HE,HJ,o⟩:=hrel
      have hnn:=own_bqlen own
      have hel:=HJ.out.el
      rw [hnn] at hel
      have hcl:cur.length≤100000:=by have:=tot_len (bqs cur);have:=HJ.out.r.tot;have:=HTT.out;rw [bqs_len] at *;omega
      go_wp2
      go_loopw [14] (fun u14 wi=>∃ b:Nat,b≤e∧u14 = .int .i64 (b:Nat)∧RowKit.Hid (∀ i,b≤i→i<e→(bqAt cur i).lv=L)∧wi=wr) (fun u14 _=>(intOf u14).toNat)
      case atStart=>exact ⟨e,Nat.le_refl _,rfl,Lib.hid (fun i h1 h2=>by omega),rfl⟩
      case round =>
        obtain ⟨b,hbe,rfl,HB,rfl⟩:=hrel
        by_cases b0:b=0
        · have j0:¬ (0:Int)<(b:Int):=by omega
          have j1:¬ 0<b:=by omega
          have H2:RowKit.Hid (b=0∨(bqAt cur (b-1)).lv≠L):=Lib.hid (.inl b0)
          clear b0
          by_cases hc:e-b<k+2
          · have hc':(e:Int)-(b:Int)<(k:Int)+2:=by omega
            have HF:=Lib.hid (HJ.out.done hbe HB.out H2.out hc (by have:=HTT.out;omega))
            clear HB
            go_wp2
            go_ret
            exact QInsRet.mk' own hbg HE.out HF.out o
          · have hc':¬ (e:Int)-(b:Int)<(k:Int)+2:=by omega
            have b1:b<cur.length:=by rw [hnn];omega
            have b2:b+1<cur.length:=by rw [hnn];omega
            have HS:=fun A c=>HJ.out.step (A:=A) (c:=c) k1 hbe HB.out H2.out hc HSZ.out
            have hsz:=(HS none 0).2
            have L1:=HB.out b (Nat.le_refl _) (by omega)
            have L2:=HB.out (b+1) (by omega) (by omega)
            have LB:L≤1073741824:=by
              have h1:=tot_mem (bk_mem (l:=bqs cur) (i:=b) (by rw [bqs_len];exact b1))
              rw [bqs_at b1] at h1
              have h1:2 ^ (bqAt cur b).lv≤btot (bqs cur):=h1
              have h2:=two_pow_le (x:=(bqAt cur b).lv) (by have:=HJ.out.r.tot;have:=HTT.out;omega)
              omega
            have wL:IntKind.i64.wrap ((L:Int)+1)=((L+1:Nat):Int):=by rw [IntWalk.i64_in _ (by omega)];omega
            have hla:=HJ.out.ok _ (bq_mem b1)
            have hlb:=HJ.out.ok _ (bq_mem b2)
            have ea:=HE.out.ent _ (bq_mem b1)
            have eb:=HE.out.ent _ (bq_mem b2)
            have qa:=bqcells_own own (i:=b) (by omega)
            have qb:=bqcells_own own (i:=b+1) (by omega)
            have l0:(b:Int)<(nn:Int):=by omega
            have l1:(b:Int)+1<(nn:Int):=by omega
            have l2:(b:Int)+2≤(nn:Int):=by omega
            have z0:(0:Int)≤(b:Int):=by omega
            have z1:(0:Int)≤(b:Int)+1:=by omega
            have z2:(0:Int)≤(b:Int)+2:=by omega
            have cc:=own.cap.1
            have l3:(b:Int)+1≤(c':Int):=by omega
            have l4:(nn:Int)≤(c':Int):=by omega
            have y1:IntKind.i64.wrap ((b:Int)+1)=(b:Int)+1:=IntWalk.i64_in _ (by omega)
            have y2:IntKind.i64.wrap ((b:Int)+2)=(b:Int)+2:=IntWalk.i64_in _ (by omega)
            have y3:((b:Int)+1).toNat=b+1:=by omega
            have y4:((b:Int)+2).toNat=b+2:=by omega
            obtain ⟨⟨ta,la,va,ua,Aa,ca⟩,hxa⟩:∃ x,x=bqAt cur b:=⟨_,rfl⟩
            obtain ⟨⟨tb,lb,vb,ub,Ab,cb⟩,hxb⟩:∃ x,x=bqAt cur (b+1):=⟨_,rfl⟩
            rw [← hxa] at ea qa hla L1 HS
            rw [← hxb] at eb qb hlb L2 HS
            have la1:=hla.len
            have lb1:=hlb.len
            unfold BqCells at qa qb
            dsimp only at ea eb qa qb L1 L2 la1 lb1 HS
            obtain rfl:L=va:=L1.symm
            obtain rfl:L=vb:=L2.symm
            have hpw:2 ^ (L+1)=2 ^ L+2 ^ L:=by rw [Nat.pow_succ];omega
            have hms:ua.length+ub.length≤sz+1:=by rw [la1,lb1];omega
            have hmL:(mgI ua ub).length=ua.length+ub.length:=mgI_len _ _
            obtain ⟨aa,rfl,haa⟩:=ea.ptr
            obtain ⟨ab,rfl,hab⟩:=eb.ptr
            have PM:=Lib.hid (fun w1 (hb:Below wr.heap.size wr w1)=>prkmerge _ _ _ _ _ _ _ _ w1 (ea.below hb) (eb.below hb) (by omega))
            unfold RkRet2 at PM
            obtain ⟨na,hna⟩:∃ x,x=ua.length:=⟨_,rfl⟩
            obtain ⟨nb,hnb⟩:∃ x,x=ub.length:=⟨_,rfl⟩
            rw [← hna] at qa PM
            rw [← hnb] at qb PM
            obtain ⟨nm,hnm⟩:∃ x,x=(mgI ua ub).length:=⟨_,rfl⟩
            rw [← hnm] at PM
            have hnms:nm≤sz+1:=by rw [hnm,hmL];exact hms
            generalize mgI ua ub=um at HS PM hnm
            replace HS:=Lib.hid HS
            replace hnm:=Lib.hid hnm
            have HW:=Lib.hid (fun w1 (hb:Below wr.heap.size wr w1)=>own.below hb own.lt)
            have QP:∀ w1,Below wr.heap.size wr w1→_:=fun w1 hb=>And.intro (BqCells.below (w':=w1) (b:=⟨ta,la,L,List.replicate na 0,some aa,ca⟩) (a:=⟨g,b*5,none⟩) (by unfold BqCells;dsimp only;rw [List.length_replicate];exact qa) hb own.lt) (BqCells.below (w':=w1) (b:=⟨tb,lb,L,List.replicate nb 0,some ab,cb⟩) (a:=⟨g,(b+1)*5,none⟩) (by unfold BqCells;dsimp only;rw [List.length_replicate];exact qb) hb own.lt)
            unfold BqCells at QP
            dsimp only at QP
            rw [List.length_replicate,List.length_replicate] at QP
            replace QP:=Lib.hid QP
            clear qa qb ea eb hla hlb la1 lb1 hms hmL hna hnb hxa hxb L1 L2
            go_upto_region 12 with (fail)
            refine wp_region_phase 12 (fun w'=>Below wr.heap.size wr w') (by kernel_rfl) (by kernel_rfl) (by kernel_rfl) (by kernel_rfl) (by kernel_rfl) (fun HOK=>?_)
            have HS:=((Below.refl _ _).drew:Below wr.heap.size wr wr.drew)
            (refine hw_take HOK (i:=0) ?_ rfl (by decide) (by kernel_rfl) (by kernel_rfl) (by exact fun _ _ _ h=>h) (Or.inl ⟨by rfl,fun w' hS=>?_⟩) HS ?_;rotate_left;(go_simp;try with_reducible rfl);simp only [put9])
            (refine hw_take HOK (i:=1) ?_ rfl (by decide) (by kernel_rfl) (by kernel_rfl) (by exact fun _ _ _ h=>h) (Or.inl ⟨by rfl,fun w' hS=>?_⟩) HS ?_;rotate_left;(go_simp;try with_reducible rfl);simp only [put9])
            (refine hw_take HOK (i:=2) ?_ rfl (by decide) (by kernel_rfl) (by kernel_rfl) (by exact fun _ _ _ h=>h) (Or.inl ⟨by rfl,fun w' hS=>?_⟩) HS ?_;rotate_left;(go_simp;try with_reducible rfl);simp only [put9])
            (refine hw_take HOK (i:=3) ?_ rfl (by decide) (by kernel_rfl) (by kernel_rfl) (by exact fun _ _ _ h=>h) (Or.inl ⟨by rfl,fun w' hS=>?_⟩) HS ?_;rotate_left;(obtain ⟨⟨p0,p1,p2,p3,p4⟩,⟨q0,q1,q2,q3,q4⟩⟩:=QP.out _ hS;go_simp;try with_reducible rfl);simp only [put9])
            (refine hw_take HOK (i:=4) ?_ rfl (by decide) (by kernel_rfl) (by kernel_rfl) (by exact fun _ _ _ h=>h) (Or.inl ⟨by rfl,fun w' hS=>?_⟩) HS ?_;rotate_left;(go_simp;try with_reducible rfl);simp only [put9])
            (refine hw_take HOK (i:=5) ?_ rfl (by decide) (by kernel_rfl) (by kernel_rfl) (by exact fun _ _ _ h=>h) (Or.inl ⟨by rfl,fun w' hS=>?_⟩) HS ?_;rotate_left;(go_simp;try with_reducible rfl);simp only [put9])
            (refine hw_take HOK (i:=6) ?_ rfl (by decide) (by kernel_rfl) (by kernel_rfl) (by exact fun _ _ _ h=>h) (Or.inl ⟨by rfl,fun w' hS=>?_⟩) HS ?_;rotate_left;(go_simp;try with_reducible rfl);simp only [put9])
            (refine hw_take HOK (i:=7) ?_ rfl (by decide) (by kernel_rfl) (by kernel_rfl) (by exact fun _ _ _ h=>h) (Or.inl ⟨by rfl,fun w' hS=>?_⟩) HS ?_;rotate_left;(go_simp;try with_reducible rfl);simp only [put9])
            (refine hw_take HOK (i:=8) ?_ rfl (by decide) (by kernel_rfl) (by kernel_rfl) (by exact fun _ _ _ h=>h) (Or.inl ⟨by rfl,fun w' hS=>?_⟩) HS ?_;rotate_left;(obtain ⟨⟨p0,p1,p2,p3,p4⟩,⟨q0,q1,q2,q3,q4⟩⟩:=QP.out _ hS;go_simp;try with_reducible rfl);simp only [put9])
            refine hw_news (f:=1) (fun x o hx=>hx.alloc hx.size o) [⟨9,15,190,#[.int .i64 0, .int .i64 0, .int .i64 0, .int .i64 0, .slice none 0 0]⟩,⟨10,16,190,#[.int .i64 0, .int .i64 0, .int .i64 0, .int .i64 0, .slice none 0 0]⟩] _ _ _ (by kernel_rfl) (List.forall_mem_cons.2 ⟨⟨⟨_,_,rfl,rfl,rfl,fun ρ w'=>by go_simp⟩,rfl,by decide⟩,List.forall_mem_cons.2 ⟨⟨⟨_,_,rfl,rfl,rfl,fun ρ w'=>by go_simp⟩,rfl,by decide⟩,fun _ h=>by cases h⟩⟩) (by decide) HS ?_
            intro bs w1 HS2 hN
            obtain ⟨xa,xb,rfl⟩:∃ xa xb,bs=[xa,xb]:=by
              match bs,hN.len with
              | [xa,xb],_=>exact ⟨_,_,rfl⟩
            have nd:=hN.nodup
            simp only [List.nodup_cons,List.mem_cons,List.not_mem_nil,or_false,not_or] at nd
            have nxy:xa≠xb:=nd.1
            have XA:Row w1 xa 190 #[.int .i64 0, .int .i64 0, .int .i64 0, .int .i64 0, .slice none 0 0]:=hN.rows 0 _ _ rfl rfl
            have XC:Row w1 xb 190 #[.int .i64 0, .int .i64 0, .int .i64 0, .int .i64 0, .slice none 0 0]:=hN.rows 1 _ _ rfl rfl
            have gea:wr.heap.size≤xa:=hN.ge xa (by simp)
            have geb:wr.heap.size≤xb:=hN.ge xb (by simp)
            have zow:=o.size
            have zgl:=own.lt
            have HLT:=Lib.hid (fun x (hx:x∈cur) a e=>HE.out.lt hx (a:=a) e)
            clear HS hN nd HW QP
            simp only [putAll,setAll,List.foldl]
            try simp only [put9]
            refine hw_one (i:=11) rfl (by decide) (by kernel_rfl) (fun K hK=>?_)
            obtain ⟨X0,X1,X2,X3,X4,Xf0,Xf1,Xf2,Xf3,Xf4⟩:=row_five XA
            go_simp
            clear X0 Xf0 X1 Xf1 X2 Xf2 X3 Xf3 X4 Xf4
            replace XA:=row_set XA 0 (.int .i64 ta)
            replace XC:=row_other (p:=⟨xa,0,none⟩) XC (nxy.symm) (.int .i64 ta)
            replace HS2:=HS2.setCell (p:=⟨xa,0,none⟩) gea (.int .i64 ta)
            replace XA:=row_set XA 1 (.int .i64 la)
            replace XC:=row_other (p:=⟨xa,1,none⟩) XC (nxy.symm) (.int .i64 la)
            replace HS2:=HS2.setCell (p:=⟨xa,1,none⟩) gea (.int .i64 la)
            replace XA:=row_set XA 2 (.int .i64 (L:Nat))
            replace XC:=row_other (p:=⟨xa,2,none⟩) XC (nxy.symm) (.int .i64 (L:Nat))
            replace HS2:=HS2.setCell (p:=⟨xa,2,none⟩) gea (.int .i64 (L:Nat))
            replace XA:=row_set XA 3 (.int .i64 (na:Nat))
            replace XC:=row_other (p:=⟨xa,3,none⟩) XC (nxy.symm) (.int .i64 (na:Nat))
            replace HS2:=HS2.setCell (p:=⟨xa,3,none⟩) gea (.int .i64 (na:Nat))
            replace XA:=row_set XA 4 (.slice (some aa) na ca)
            replace XC:=row_other (p:=⟨xa,4,none⟩) XC (nxy.symm) (.slice (some aa) na ca)
            replace HS2:=HS2.setCell (p:=⟨xa,4,none⟩) gea (.slice (some aa) na ca)
            replace XA:Row (((((w1.setCell ⟨xa,0,none⟩ (.int .i64 ta)).setCell ⟨xa,1,none⟩ (.int .i64 la)).setCell ⟨xa,2,none⟩ (.int .i64 (L:Nat))).setCell ⟨xa,3,none⟩ (.int .i64 (na:Nat))).setCell ⟨xa,4,none⟩ (.slice (some aa) na ca)) xa 190 #[.int .i64 ta, .int .i64 la, .int .i64 (L:Nat), .int .i64 (na:Nat), .slice (some aa) na ca]:=XA
            refine hK _ _ HS2 ?_
            clear hK K
            generalize (((((w1.setCell ⟨xa,0,none⟩ (.int .i64 ta)).setCell ⟨xa,1,none⟩ (.int .i64 la)).setCell ⟨xa,2,none⟩ (.int .i64 (L:Nat))).setCell ⟨xa,3,none⟩ (.int .i64 (na:Nat))).setCell ⟨xa,4,none⟩ (.slice (some aa) na ca))=w2 at XA XC HS2 ⊢
            try simp only [put9]
            refine hw_done (by kernel_rfl) ?_
            try simp only [List.drop_succ_cons,List.drop_zero]
            clear HOK
            obtain ⟨X0,X1,X2,X3,X4,Xf0,Xf1,Xf2,Xf3,Xf4⟩:=row_five XC
            go_upto_region 13 with (fail)
            clear X0 Xf0 X1 Xf1 X2 Xf2 X3 Xf3 X4 Xf4
            replace XC:=row_set XC 0 (.int .i64 tb)
            replace XA:=row_other (p:=⟨xb,0,none⟩) XA (nxy) (.int .i64 tb)
            replace HS2:=HS2.setCell (p:=⟨xb,0,none⟩) geb (.int .i64 tb)
            replace XC:=row_set XC 1 (.int .i64 lb)
            replace XA:=row_other (p:=⟨xb,1,none⟩) XA (nxy) (.int .i64 lb)
            replace HS2:=HS2.setCell (p:=⟨xb,1,none⟩) geb (.int .i64 lb)
            replace XC:=row_set XC 2 (.int .i64 (L:Nat))
            replace XA:=row_other (p:=⟨xb,2,none⟩) XA (nxy) (.int .i64 (L:Nat))
            replace HS2:=HS2.setCell (p:=⟨xb,2,none⟩) geb (.int .i64 (L:Nat))
            replace XC:=row_set XC 3 (.int .i64 (nb:Nat))
            replace XA:=row_other (p:=⟨xb,3,none⟩) XA (nxy) (.int .i64 (nb:Nat))
            replace HS2:=HS2.setCell (p:=⟨xb,3,none⟩) geb (.int .i64 (nb:Nat))
            replace XC:=row_set XC 4 (.slice (some ab) nb cb)
            replace XA:=row_other (p:=⟨xb,4,none⟩) XA (nxy) (.slice (some ab) nb cb)
            replace HS2:=HS2.setCell (p:=⟨xb,4,none⟩) geb (.slice (some ab) nb cb)
            replace XC:Row (((((w2.setCell ⟨xb,0,none⟩ (.int .i64 tb)).setCell ⟨xb,1,none⟩ (.int .i64 lb)).setCell ⟨xb,2,none⟩ (.int .i64 (L:Nat))).setCell ⟨xb,3,none⟩ (.int .i64 (nb:Nat))).setCell ⟨xb,4,none⟩ (.slice (some ab) nb cb)) xb 190 #[.int .i64 tb, .int .i64 lb, .int .i64 (L:Nat), .int .i64 (nb:Nat), .slice (some ab) nb cb]:=XC
            have HS4:=HS2
            clear HS2
            generalize (((((w2.setCell ⟨xb,0,none⟩ (.int .i64 tb)).setCell ⟨xb,1,none⟩ (.int .i64 lb)).setCell ⟨xb,2,none⟩ (.int .i64 (L:Nat))).setCell ⟨xb,3,none⟩ (.int .i64 (nb:Nat))).setCell ⟨xb,4,none⟩ (.slice (some ab) nb cb))=w3 at XA XC HS4 ⊢
            replace own:=own.call HS4
            replace HE:=Lib.hid (HE.out.call HS4)
            replace o:=o.trans (HS4.mono o.size)
            have hz4:=HS4.size
            obtain ⟨X0,X1,X2,X3,X4,Xf0,Xf1,Xf2,Xf3,Xf4⟩:=row_five XA
            obtain ⟨Y0,Y1,Y2,Y3,Y4,Yf0,Yf1,Yf2,Yf3,Yf4⟩:=row_five XC
            go_wp2_with fail
            refine (PM.out _ HS4).mono ?_
            rintro e w4 ⟨gm,cm,rfl,inm,hgm,hb4⟩
            clear XA X0 Xf0 Y0 Yf0 X1 Xf1 Y1 Yf1 X2 Xf2 Y2 Yf2 X3 Xf3 Y3 Yf3 X4 Xf4 Y4 Yf4
            have zXC:=row_lt XC
            replace XC:=row_call XC hb4
            replace own:=own.call hb4
            replace HE:=Lib.hid (HE.out.call hb4)
            have zo3:=o.size
            have zo4:=own.lt
            replace o:=o.trans (hb4.mono o.size)
            have hz5:=hb4.size
            clear hb4 HS4 PM
            go_upto_region 14 with (fail)
            have RR:Row (w4.alloc (.cells #[.int .i64 (nm:Nat), .slice (some ⟨gm,0,none⟩) nm cm] 188)) w4.heap.size 188 #[.int .i64 (nm:Nat), .slice (some ⟨gm,0,none⟩) nm cm]:=row_new rfl
            have zxc4:=row_lt XC
            replace XC:=row_alloc XC (.cells #[.int .i64 (nm:Nat), .slice (some ⟨gm,0,none⟩) nm cm] 188)
            replace own:=own.alloc (.cells #[.int .i64 (nm:Nat), .slice (some ⟨gm,0,none⟩) nm cm] 188)
            replace HE:=Lib.hid (HE.out.call ((Below.refl _ _).alloc (Nat.le_refl _) (.cells #[.int .i64 (nm:Nat), .slice (some ⟨gm,0,none⟩) nm cm] 188)))
            replace inm:=inm.below ((Below.refl _ _).alloc (Nat.le_refl _) (.cells #[.int .i64 (nm:Nat), .slice (some ⟨gm,0,none⟩) nm cm] 188))
            have zo4':=o.size
            replace o:=o.alloc o.size (.cells #[.int .i64 (nm:Nat), .slice (some ⟨gm,0,none⟩) nm cm] 188)
            have pP:=prkprune _ _ _ _ sz (w4.alloc (.cells #[.int .i64 (nm:Nat), .slice (some ⟨gm,0,none⟩) nm cm] 188)) inm s1 s2 hnms
            unfold RkRet2 at pP
            rw [← hnm.out] at pP
            generalize w4.alloc (.cells #[.int .i64 (nm:Nat), .slice (some ⟨gm,0,none⟩) nm cm] 188)=w5 at XC own HE inm o RR pP ⊢
            generalize w4.heap.size=rb at RR zxc4 zo4' zo4 hz5 ⊢
            replace pP:=Lib.hid pP
            obtain ⟨R0,R1,Rf0,Rf1⟩:=row_two RR
            have zrr:=row_lt RR
            go_wp2_with fail
            refine pP.out.mono ?_
            rintro e w6 ⟨gp,cp,rfl,inp,hgp,hb6⟩
            clear R0 R1 Rf0 Rf1 inm pP
            replace XC:=row_call XC hb6
            replace RR:=row_call RR hb6
            replace own:=own.call hb6
            replace HE:=Lib.hid (HE.out.call hb6)
            have zo5:=o.size
            replace o:=o.trans (hb6.mono o.size)
            have hz6:=hb6.size
            clear hb6
            obtain ⟨R0,R1,Rf0,Rf1⟩:=row_two RR
            go_upto_region 15 with (fail)
            clear R0 R1 Rf0 Rf1
            have nrb:∀ x∈cur,∀ a,x.A=some a→a.block≠rb:=fun x hx a e=>by have:=HLT.out x hx a e;omega
            have npr:gp≠rb:=by omega
            have ngr:g≠rb:=by omega
            have nxr:xb≠rb:=by omega
            replace HE:=Lib.hid ((HE.out.setb (p:=⟨rb,0,none⟩) nrb (.int .i64 (nm:Nat))).setb (p:=⟨rb,1,none⟩) nrb (.slice (some ⟨gp,0,none⟩) nm cp))
            replace RR:Row ((w6.setCell ⟨rb,0,none⟩ (.int .i64 (nm:Nat))).setCell ⟨rb,1,none⟩ (.slice (some ⟨gp,0,none⟩) nm cp)) rb 188 #[.int .i64 (nm:Nat), .slice (some ⟨gp,0,none⟩) nm cp]:=row_set (row_set RR 0 (.int .i64 (nm:Nat))) 1 (.slice (some ⟨gp,0,none⟩) nm cp)
            replace XC:=row_other (p:=⟨rb,1,none⟩) (row_other (p:=⟨rb,0,none⟩) XC nxr (.int .i64 (nm:Nat))) nxr (.slice (some ⟨gp,0,none⟩) nm cp)
            replace own:=(own.other (p:=⟨rb,0,none⟩) ngr (.int .i64 (nm:Nat))).other (p:=⟨rb,1,none⟩) ngr (.slice (some ⟨gp,0,none⟩) nm cp)
            replace inp:=(inp.setc (p:=⟨rb,0,none⟩) (fun a e=>by cases e;exact npr.symm) (.int .i64 (nm:Nat))).setc (p:=⟨rb,1,none⟩) (fun a e=>by cases e;exact npr.symm) (.slice (some ⟨gp,0,none⟩) nm cp)
            replace o:=(o.setCell (p:=⟨rb,0,none⟩) (by show w.heap.size≤rb;omega) (.int .i64 (nm:Nat))).setCell (p:=⟨rb,1,none⟩) (by show w.heap.size≤rb;omega) (.slice (some ⟨gp,0,none⟩) nm cp)
            generalize (w6.setCell ⟨rb,0,none⟩ (.int .i64 (nm:Nat))).setCell ⟨rb,1,none⟩ (.slice (some ⟨gp,0,none⟩) nm cp)=w7 at XC RR own HE inp o ⊢
            obtain ⟨R0,R1,Rf0,Rf1⟩:=row_two RR
            obtain ⟨X0,X1,X2,X3,X4,Xf0,Xf1,Xf2,Xf3,Xf4⟩:=row_five XC
            obtain ⟨p0,p1,p2,p3,p4⟩:=bqcells_own own (i:=b) (by omega)
            have f0:=own.free (b*5)
            have f1:=own.free (b*5+1)
            have f2:=own.free (b*5+2)
            have f3:=own.free (b*5+3)
            have f4:=own.free (b*5+4)
            have ngp:gp≠g:=by omega
            go_upto_region 16 with (fail)
            clear R0 R1 Rf0 Rf1 RR XC p0 p1 p2 p3 p4 f0 f1 f2 f3 f4 X0 Xf0 X1 Xf1 X2 Xf2 X3 Xf3 X4 Xf4
            replace own:=((((own.set (b*5) (.int .i64 tb)).set (b*5+1) (.int .i64 lb)).set (b*5+2) (.int .i64 ((L:Int)+1))).set (b*5+3) (.int .i64 (nm:Nat))).set (b*5+4) (.slice (some ⟨gp,0,none⟩) nm cp)
            replace HE:=Lib.hid (((((HE.out.setg (b*5) (.int .i64 tb)).setg (b*5+1) (.int .i64 lb)).setg (b*5+2) (.int .i64 ((L:Int)+1))).setg (b*5+3) (.int .i64 (nm:Nat))).setg (b*5+4) (.slice (some ⟨gp,0,none⟩) nm cp))
            replace inp:=((((inp.setc (p:=⟨g,b*5,none⟩) (fun a e=>by cases e;exact ngp.symm) (.int .i64 tb)).setc (p:=⟨g,b*5+1,none⟩) (fun a e=>by cases e;exact ngp.symm) (.int .i64 lb)).setc (p:=⟨g,b*5+2,none⟩) (fun a e=>by cases e;exact ngp.symm) (.int .i64 ((L:Int)+1))).setc (p:=⟨g,b*5+3,none⟩) (fun a e=>by cases e;exact ngp.symm) (.int .i64 (nm:Nat))).setc (p:=⟨g,b*5+4,none⟩) (fun a e=>by cases e;exact ngp.symm) (.slice (some ⟨gp,0,none⟩) nm cp)
            replace o:=((((o.setCell (p:=⟨g,b*5,none⟩) hbg (.int .i64 tb)).setCell (p:=⟨g,b*5+1,none⟩) hbg (.int .i64 lb)).setCell (p:=⟨g,b*5+2,none⟩) hbg (.int .i64 ((L:Int)+1))).setCell (p:=⟨g,b*5+3,none⟩) hbg (.int .i64 (nm:Nat))).setCell (p:=⟨g,b*5+4,none⟩) hbg (.slice (some ⟨gp,0,none⟩) nm cp)
            have hbs:=qcells_set cur b b1 ⟨tb,lb,L+1,um,some ⟨gp,0,none⟩,cp⟩
            dsimp only at hbs
            rw [← hnm.out,show ((L+1:Nat):Int)=(L:Int)+1 by omega] at hbs
            rw [hbs] at own
            generalize (((((w7.setCell ⟨g,b*5,none⟩ (.int .i64 tb)).setCell ⟨g,b*5+1,none⟩ (.int .i64 lb)).setCell ⟨g,b*5+2,none⟩ (.int .i64 ((L:Int)+1))).setCell ⟨g,b*5+3,none⟩ (.int .i64 (nm:Nat))).setCell ⟨g,b*5+4,none⟩ (.slice (some ⟨gp,0,none⟩) nm cp))=w8 at own HE inp o ⊢
            have hsc:=set_cutq (cur:=cur) (b:=b) (m:=⟨tb,lb,L+1,um,some ⟨gp,0,none⟩,cp⟩) (by omega)
            have HJ3:=Lib.hid (HS.out (some ⟨gp,0,none⟩) cp).1
            have hzz:=own.lt
            have inpl:gp<w8.heap.size:=by
              obtain ⟨a,e,h⟩:=inp.ptr
              cases e
              exact h
            clear hbs HS HB HJ
            generalize hAD:(if c'=b+2 then some (⟨g,0,none⟩:Addr) else some ⟨g,(b+2)*5,none⟩)=AD
            refine wp_region_free0 [0,1,2,4,5,6,3,7] [] [0,1,2,3,4,5,6,7] 8 (fun w'=>Below w8.heap.size w8 w') (by kernel_rfl) (by kernel_rfl) (fun _ _ d _ _ h=>by cases d<;>exact h) ?_ ?_
            · exact (Below.refl _ _).drew
            (refine plan_pure ?_ rfl rfl (fun w'=>?_) ?_;rotate_left;(go_simp;try with_reducible rfl);simp only [put9])
            (refine plan_pure ?_ rfl rfl (fun w'=>?_) ?_;rotate_left;(go_simp;try with_reducible rfl);simp only [put9])
            (refine plan_pure ?_ rfl rfl (fun w'=>?_) ?_;rotate_left;(go_simp;try with_reducible rfl);simp only [put9])
            (refine plan_pure ?_ rfl rfl (fun w'=>?_) ?_;rotate_left;(go_simp;try with_reducible rfl);simp only [put9])
            (refine plan_pure ?_ rfl rfl (fun w'=>?_) ?_;rotate_left;(go_simp;try with_reducible rfl);simp only [put9])
            (refine plan_pure ?_ rfl rfl (fun w'=>?_) ?_;rotate_left;(go_simp;try with_reducible rfl);simp only [put9])
            (refine plan_pure ?_ rfl rfl (fun w'=>?_) ?_;rotate_left;(go_simp;try with_reducible rfl);simp only [put9])
            (refine plan_pure ?_ rfl rfl (fun w'=>?_) ?_;rotate_left;(go_simp;try with_reducible rfl);simp only [put9])
            refine plan_nil ?_
            intro w9 L9
            simp only [List.drop_succ_cons,List.drop_zero]
            try simp only [put9]
            replace own:=own.call L9
            replace HE:=Lib.hid (HE.out.call L9)
            replace inp:=inp.below L9
            have zo9:=o.size
            replace o:=o.trans (L9.mono o.size)
            have hz9:=L9.size
            clear L9
            generalize cur.set b ⟨tb,lb,L+1,um,some ⟨gp,0,none⟩,cp⟩=cS at own hsc
            have OC:=(own.cut (k:=b+1) (by omega)).row hbg
            rw [qcells_take] at OC
            have RD:Reads w9 w9.heap.size 5 AD (nn-(b+2)) (qcells (cS.drop (b+2))):=by
              have RD:=readsq_drop own (j:=b+2) (by omega)
              by_cases hcb:c'=b+2
              · exact ⟨RD.1,fun hn=>by have:=own.cap.1;omega⟩
              · rw [if_neg hcb] at hAD
                rw [← hAD]
                exact RD
            have zs:=o.size
            go_upto_region 17 with (at_builtin;refine wpList_append_any _ rfl _ _ 54 rfl w.heap.size 190 iq (.agg #[.int .i64 0, .int .i64 0, .int .i64 0, .int .i64 0, .slice none 0 0]) 5 56 Tryz.underlying54 HIQ.out jz0 jz1 jz2 rfl (by decide) (.slice (some ⟨g,0,none⟩) (b+1) c') (b+1) (qcells (cS.take (b+1))) rfl OC w9.heap.size AD (nn-(b+2)) (c'-(b+2)) (qcells (cS.drop (b+2))) rfl RD (qcells_one _) (by unfold maxLen;omega) (by omega) (by omega) ?_;intro v6 w10 own6 hg6 hat6)
            rw [← qcells_append,hsc,show b+1+(nn-(b+2))=nn-1 by omega] at own6
            replace o:=below_grown o hg6 (fun q hq=>by have e9:g=q:=Option.some.inj hq;omega) (by omega)
            obtain ⟨g6,c6,rfl,own7,hb6⟩:=orow_pos own6 (by omega)
            have h66:g6=g∨g6=w9.heap.size:=by
              rcases hat6 with h | h
              · exact .inl (Option.some.inj h)
              · exact .inr (Option.some.inj h)
            have HE3:=Lib.hid ((HE.out.keep hg6.size (fun x hx a e=>hg6.block _ (HE.out.lt hx e) (fun y=>HE.out.ne x hx a e (Option.some.inj y)))).next (b:=b) (g':=g6) (m:=⟨tb,lb,L+1,um,some ⟨gp,0,none⟩,cp⟩) (by
              have h9:=inp.keep hg6.size (fun a e=>hg6.block _ (by cases e;show gp<_;omega) (fun y=>by cases e;exact ngp (Option.some.inj y)))
              rw [hnm.out] at h9
              exact h9) (fun a e=>by cases e;show gp≠g6;omega) (fun a e=>by cases e;show w.heap.size≤gp;omega) (fun x hx a e=>by
              have h1:=HE.out.ne x hx a e
              have h2:=HE.out.lt hx e
              rcases h66 with h | h
              · rw [h];exact h1
              · omega))
            clear own6 own OC RD hsc hg6 hat6 inp HE
            go_wp2
            go_roundw
            case rel=>exact ⟨g6,c6,nn-1,_,b+1,L+1,rfl,by go_num,by go_num,own7,hb6,HE3,HJ3,o⟩
            case measure=>simp [lenE];omega
        · have j0:(0:Int)<(b:Int):=by omega
          have j1:0<b:=by omega
          obtain ⟨p,hp⟩:∃ p:Nat,b=p+1:=⟨b-1,by omega⟩
          have wj:IntKind.i64.wrap ((b:Int)-1)=(p:Int):=by rw [IntWalk.i64_in _ (by omega)];omega
          have y1:(p:Int)<(nn:Int):=by omega
          have y0:(0:Int)≤(p:Int):=by omega
          have pc:=(bqcells_own own (i:=p) (by omega)).2.2.1
          have hpb:b-1=p:=by omega
          clear b0
          by_cases hlv:(bqAt cur p).lv=L
          · have HB2:RowKit.Hid (∀ i,p≤i→i<e→(bqAt cur i).lv=L):=Lib.hid (fun i h1 h2=>by
              by_cases hi:i=p
              · rw [hi];exact hlv
              · exact HB.out i (by omega) h2)
            rw [hlv] at pc
            have lq:((L:Int) == (L:Int))=true:=by simp
            have hpe:p≤e:=by omega
            have hpl:p<b:=by omega
            clear hlv HB hp hpb
            go_wp2
            go_roundw
            case rel=>exact ⟨p,hpe,by go_num,HB2,by trivial⟩
            case measure=>simp [intOf];omega
          · have H2:RowKit.Hid (b=0∨(bqAt cur (b-1)).lv≠L):=Lib.hid (.inr (by rw [hpb];exact hlv))
            have lq:(((bqAt cur p).lv:Int) == (L:Int))=false:=by simp;omega
            generalize (bqAt cur p).lv=lp at pc lq
            clear hlv hp hpb
            by_cases hc:e-b<k+2
            · have hc':(e:Int)-(b:Int)<(k:Int)+2:=by omega
              have HF:=Lib.hid (HJ.out.done hbe HB.out H2.out hc (by have:=HTT.out;omega))
              clear HB
              go_wp2
              go_ret
              exact QInsRet.mk' own hbg HE.out HF.out o
            · have hc':¬ (e:Int)-(b:Int)<(k:Int)+2:=by omega
              have b1:b<cur.length:=by rw [hnn];omega
              have b2:b+1<cur.length:=by rw [hnn];omega
              have HS:=fun A c=>HJ.out.step (A:=A) (c:=c) k1 hbe HB.out H2.out hc HSZ.out
              have hsz:=(HS none 0).2
              have L1:=HB.out b (Nat.le_refl _) (by omega)
              have L2:=HB.out (b+1) (by omega) (by omega)
              have LB:L≤1073741824:=by
                have h1:=tot_mem (bk_mem (l:=bqs cur) (i:=b) (by rw [bqs_len];exact b1))
                rw [bqs_at b1] at h1
                have h1:2 ^ (bqAt cur b).lv≤btot (bqs cur):=h1
                have h2:=two_pow_le (x:=(bqAt cur b).lv) (by have:=HJ.out.r.tot;have:=HTT.out;omega)
                omega
              have wL:IntKind.i64.wrap ((L:Int)+1)=((L+1:Nat):Int):=by rw [IntWalk.i64_in _ (by omega)];omega
              have hla:=HJ.out.ok _ (bq_mem b1)
              have hlb:=HJ.out.ok _ (bq_mem b2)
              have ea:=HE.out.ent _ (bq_mem b1)
              have eb:=HE.out.ent _ (bq_mem b2)
              have qa:=bqcells_own own (i:=b) (by omega)
              have qb:=bqcells_own own (i:=b+1) (by omega)
              have l0:(b:Int)<(nn:Int):=by omega
              have l1:(b:Int)+1<(nn:Int):=by omega
              have l2:(b:Int)+2≤(nn:Int):=by omega
              have z0:(0:Int)≤(b:Int):=by omega
              have z1:(0:Int)≤(b:Int)+1:=by omega
              have z2:(0:Int)≤(b:Int)+2:=by omega
              have cc:=own.cap.1
              have l3:(b:Int)+1≤(c':Int):=by omega
              have l4:(nn:Int)≤(c':Int):=by omega
              have y1:IntKind.i64.wrap ((b:Int)+1)=(b:Int)+1:=IntWalk.i64_in _ (by omega)
              have y2:IntKind.i64.wrap ((b:Int)+2)=(b:Int)+2:=IntWalk.i64_in _ (by omega)
              have y3:((b:Int)+1).toNat=b+1:=by omega
              have y4:((b:Int)+2).toNat=b+2:=by omega
              obtain ⟨⟨ta,la,va,ua,Aa,ca⟩,hxa⟩:∃ x,x=bqAt cur b:=⟨_,rfl⟩
              obtain ⟨⟨tb,lb,vb,ub,Ab,cb⟩,hxb⟩:∃ x,x=bqAt cur (b+1):=⟨_,rfl⟩
              rw [← hxa] at ea qa hla L1 HS
              rw [← hxb] at eb qb hlb L2 HS
              have la1:=hla.len
              have lb1:=hlb.len
              unfold BqCells at qa qb
              dsimp only at ea eb qa qb L1 L2 la1 lb1 HS
              obtain rfl:L=va:=L1.symm
              obtain rfl:L=vb:=L2.symm
              have hpw:2 ^ (L+1)=2 ^ L+2 ^ L:=by rw [Nat.pow_succ];omega
              have hms:ua.length+ub.length≤sz+1:=by rw [la1,lb1];omega
              have hmL:(mgI ua ub).length=ua.length+ub.length:=mgI_len _ _
              obtain ⟨aa,rfl,haa⟩:=ea.ptr
              obtain ⟨ab,rfl,hab⟩:=eb.ptr
              have PM:=Lib.hid (fun w1 (hb:Below wr.heap.size wr w1)=>prkmerge _ _ _ _ _ _ _ _ w1 (ea.below hb) (eb.below hb) (by omega))
              unfold RkRet2 at PM
              obtain ⟨na,hna⟩:∃ x,x=ua.length:=⟨_,rfl⟩
              obtain ⟨nb,hnb⟩:∃ x,x=ub.length:=⟨_,rfl⟩
              rw [← hna] at qa PM
              rw [← hnb] at qb PM
              obtain ⟨nm,hnm⟩:∃ x,x=(mgI ua ub).length:=⟨_,rfl⟩
              rw [← hnm] at PM
              have hnms:nm≤sz+1:=by rw [hnm,hmL];exact hms
              generalize mgI ua ub=um at HS PM hnm
              replace HS:=Lib.hid HS
              replace hnm:=Lib.hid hnm
              have HW:=Lib.hid (fun w1 (hb:Below wr.heap.size wr w1)=>own.below hb own.lt)
              have QP:∀ w1,Below wr.heap.size wr w1→_:=fun w1 hb=>And.intro (BqCells.below (w':=w1) (b:=⟨ta,la,L,List.replicate na 0,some aa,ca⟩) (a:=⟨g,b*5,none⟩) (by unfold BqCells;dsimp only;rw [List.length_replicate];exact qa) hb own.lt) (BqCells.below (w':=w1) (b:=⟨tb,lb,L,List.replicate nb 0,some ab,cb⟩) (a:=⟨g,(b+1)*5,none⟩) (by unfold BqCells;dsimp only;rw [List.length_replicate];exact qb) hb own.lt)
              unfold BqCells at QP
              dsimp only at QP
              rw [List.length_replicate,List.length_replicate] at QP
              replace QP:=Lib.hid QP
              clear qa qb ea eb hla hlb la1 lb1 hms hmL hna hnb hxa hxb L1 L2
              go_upto_region 12 with (fail)
              refine wp_region_phase 12 (fun w'=>Below wr.heap.size wr w') (by kernel_rfl) (by kernel_rfl) (by kernel_rfl) (by kernel_rfl) (by kernel_rfl) (fun HOK=>?_)
              have HS:=((Below.refl _ _).drew:Below wr.heap.size wr wr.drew)
              (refine hw_take HOK (i:=0) ?_ rfl (by decide) (by kernel_rfl) (by kernel_rfl) (by exact fun _ _ _ h=>h) (Or.inl ⟨by rfl,fun w' hS=>?_⟩) HS ?_;rotate_left;(go_simp;try with_reducible rfl);simp only [put9])
              (refine hw_take HOK (i:=1) ?_ rfl (by decide) (by kernel_rfl) (by kernel_rfl) (by exact fun _ _ _ h=>h) (Or.inl ⟨by rfl,fun w' hS=>?_⟩) HS ?_;rotate_left;(go_simp;try with_reducible rfl);simp only [put9])
              (refine hw_take HOK (i:=2) ?_ rfl (by decide) (by kernel_rfl) (by kernel_rfl) (by exact fun _ _ _ h=>h) (Or.inl ⟨by rfl,fun w' hS=>?_⟩) HS ?_;rotate_left;(go_simp;try with_reducible rfl);simp only [put9])
              (refine hw_take HOK (i:=3) ?_ rfl (by decide) (by kernel_rfl) (by kernel_rfl) (by exact fun _ _ _ h=>h) (Or.inl ⟨by rfl,fun w' hS=>?_⟩) HS ?_;rotate_left;(obtain ⟨⟨p0,p1,p2,p3,p4⟩,⟨q0,q1,q2,q3,q4⟩⟩:=QP.out _ hS;go_simp;try with_reducible rfl);simp only [put9])
              (refine hw_take HOK (i:=4) ?_ rfl (by decide) (by kernel_rfl) (by kernel_rfl) (by exact fun _ _ _ h=>h) (Or.inl ⟨by rfl,fun w' hS=>?_⟩) HS ?_;rotate_left;(go_simp;try with_reducible rfl);simp only [put9])
              (refine hw_take HOK (i:=5) ?_ rfl (by decide) (by kernel_rfl) (by kernel_rfl) (by exact fun _ _ _ h=>h) (Or.inl ⟨by rfl,fun w' hS=>?_⟩) HS ?_;rotate_left;(go_simp;try with_reducible rfl);simp only [put9])
              (refine hw_take HOK (i:=6) ?_ rfl (by decide) (by kernel_rfl) (by kernel_rfl) (by exact fun _ _ _ h=>h) (Or.inl ⟨by rfl,fun w' hS=>?_⟩) HS ?_;rotate_left;(go_simp;try with_reducible rfl);simp only [put9])
              (refine hw_take HOK (i:=7) ?_ rfl (by decide) (by kernel_rfl) (by kernel_rfl) (by exact fun _ _ _ h=>h) (Or.inl ⟨by rfl,fun w' hS=>?_⟩) HS ?_;rotate_left;(go_simp;try with_reducible rfl);simp only [put9])
              (refine hw_take HOK (i:=8) ?_ rfl (by decide) (by kernel_rfl) (by kernel_rfl) (by exact fun _ _ _ h=>h) (Or.inl ⟨by rfl,fun w' hS=>?_⟩) HS ?_;rotate_left;(obtain ⟨⟨p0,p1,p2,p3,p4⟩,⟨q0,q1,q2,q3,q4⟩⟩:=QP.out _ hS;go_simp;try with_reducible rfl);simp only [put9])
              refine hw_news (f:=1) (fun x o hx=>hx.alloc hx.size o) [⟨9,15,190,#[.int .i64 0, .int .i64 0, .int .i64 0, .int .i64 0, .slice none 0 0]⟩,⟨10,16,190,#[.int .i64 0, .int .i64 0, .int .i64 0, .int .i64 0, .slice none 0 0]⟩] _ _ _ (by kernel_rfl) (List.forall_mem_cons.2 ⟨⟨⟨_,_,rfl,rfl,rfl,fun ρ w'=>by go_simp⟩,rfl,by decide⟩,List.forall_mem_cons.2 ⟨⟨⟨_,_,rfl,rfl,rfl,fun ρ w'=>by go_simp⟩,rfl,by decide⟩,fun _ h=>by cases h⟩⟩) (by decide) HS ?_
              intro bs w1 HS2 hN
              obtain ⟨xa,xb,rfl⟩:∃ xa xb,bs=[xa,xb]:=by
                match bs,hN.len with
                | [xa,xb],_=>exact ⟨_,_,rfl⟩
              have nd:=hN.nodup
              simp only [List.nodup_cons,List.mem_cons,List.not_mem_nil,or_false,not_or] at nd
              have nxy:xa≠xb:=nd.1
              have XA:Row w1 xa 190 #[.int .i64 0, .int .i64 0, .int .i64 0, .int .i64 0, .slice none 0 0]:=hN.rows 0 _ _ rfl rfl
              have XC:Row w1 xb 190 #[.int .i64 0, .int .i64 0, .int .i64 0, .int .i64 0, .slice none 0 0]:=hN.rows 1 _ _ rfl rfl
              have gea:wr.heap.size≤xa:=hN.ge xa (by simp)
              have geb:wr.heap.size≤xb:=hN.ge xb (by simp)
              have zow:=o.size
              have zgl:=own.lt
              have HLT:=Lib.hid (fun x (hx:x∈cur) a e=>HE.out.lt hx (a:=a) e)
              clear HS hN nd HW QP
              simp only [putAll,setAll,List.foldl]
              try simp only [put9]
              refine hw_one (i:=11) rfl (by decide) (by kernel_rfl) (fun K hK=>?_)
              obtain ⟨X0,X1,X2,X3,X4,Xf0,Xf1,Xf2,Xf3,Xf4⟩:=row_five XA
              go_simp
              clear X0 Xf0 X1 Xf1 X2 Xf2 X3 Xf3 X4 Xf4
              replace XA:=row_set XA 0 (.int .i64 ta)
              replace XC:=row_other (p:=⟨xa,0,none⟩) XC (nxy.symm) (.int .i64 ta)
              replace HS2:=HS2.setCell (p:=⟨xa,0,none⟩) gea (.int .i64 ta)
              replace XA:=row_set XA 1 (.int .i64 la)
              replace XC:=row_other (p:=⟨xa,1,none⟩) XC (nxy.symm) (.int .i64 la)
              replace HS2:=HS2.setCell (p:=⟨xa,1,none⟩) gea (.int .i64 la)
              replace XA:=row_set XA 2 (.int .i64 (L:Nat))
              replace XC:=row_other (p:=⟨xa,2,none⟩) XC (nxy.symm) (.int .i64 (L:Nat))
              replace HS2:=HS2.setCell (p:=⟨xa,2,none⟩) gea (.int .i64 (L:Nat))
              replace XA:=row_set XA 3 (.int .i64 (na:Nat))
              replace XC:=row_other (p:=⟨xa,3,none⟩) XC (nxy.symm) (.int .i64 (na:Nat))
              replace HS2:=HS2.setCell (p:=⟨xa,3,none⟩) gea (.int .i64 (na:Nat))
              replace XA:=row_set XA 4 (.slice (some aa) na ca)
              replace XC:=row_other (p:=⟨xa,4,none⟩) XC (nxy.symm) (.slice (some aa) na ca)
              replace HS2:=HS2.setCell (p:=⟨xa,4,none⟩) gea (.slice (some aa) na ca)
              replace XA:Row (((((w1.setCell ⟨xa,0,none⟩ (.int .i64 ta)).setCell ⟨xa,1,none⟩ (.int .i64 la)).setCell ⟨xa,2,none⟩ (.int .i64 (L:Nat))).setCell ⟨xa,3,none⟩ (.int .i64 (na:Nat))).setCell ⟨xa,4,none⟩ (.slice (some aa) na ca)) xa 190 #[.int .i64 ta, .int .i64 la, .int .i64 (L:Nat), .int .i64 (na:Nat), .slice (some aa) na ca]:=XA
              refine hK _ _ HS2 ?_
              clear hK K
              generalize (((((w1.setCell ⟨xa,0,none⟩ (.int .i64 ta)).setCell ⟨xa,1,none⟩ (.int .i64 la)).setCell ⟨xa,2,none⟩ (.int .i64 (L:Nat))).setCell ⟨xa,3,none⟩ (.int .i64 (na:Nat))).setCell ⟨xa,4,none⟩ (.slice (some aa) na ca))=w2 at XA XC HS2 ⊢
              try simp only [put9]
              refine hw_done (by kernel_rfl) ?_
              try simp only [List.drop_succ_cons,List.drop_zero]
              clear HOK
              obtain ⟨X0,X1,X2,X3,X4,Xf0,Xf1,Xf2,Xf3,Xf4⟩:=row_five XC
              go_upto_region 13 with (fail)
              clear X0 Xf0 X1 Xf1 X2 Xf2 X3 Xf3 X4 Xf4
              replace XC:=row_set XC 0 (.int .i64 tb)
              replace XA:=row_other (p:=⟨xb,0,none⟩) XA (nxy) (.int .i64 tb)
              replace HS2:=HS2.setCell (p:=⟨xb,0,none⟩) geb (.int .i64 tb)
              replace XC:=row_set XC 1 (.int .i64 lb)
              replace XA:=row_other (p:=⟨xb,1,none⟩) XA (nxy) (.int .i64 lb)
              replace HS2:=HS2.setCell (p:=⟨xb,1,none⟩) geb (.int .i64 lb)
              replace XC:=row_set XC 2 (.int .i64 (L:Nat))
              replace XA:=row_other (p:=⟨xb,2,none⟩) XA (nxy) (.int .i64 (L:Nat))
              replace HS2:=HS2.setCell (p:=⟨xb,2,none⟩) geb (.int .i64 (L:Nat))
              replace XC:=row_set XC 3 (.int .i64 (nb:Nat))
              replace XA:=row_other (p:=⟨xb,3,none⟩) XA (nxy) (.int .i64 (nb:Nat))
              replace HS2:=HS2.setCell (p:=⟨xb,3,none⟩) geb (.int .i64 (nb:Nat))
              replace XC:=row_set XC 4 (.slice (some ab) nb cb)
              replace XA:=row_other (p:=⟨xb,4,none⟩) XA (nxy) (.slice (some ab) nb cb)
              replace HS2:=HS2.setCell (p:=⟨xb,4,none⟩) geb (.slice (some ab) nb cb)
              replace XC:Row (((((w2.setCell ⟨xb,0,none⟩ (.int .i64 tb)).setCell ⟨xb,1,none⟩ (.int .i64 lb)).setCell ⟨xb,2,none⟩ (.int .i64 (L:Nat))).setCell ⟨xb,3,none⟩ (.int .i64 (nb:Nat))).setCell ⟨xb,4,none⟩ (.slice (some ab) nb cb)) xb 190 #[.int .i64 tb, .int .i64 lb, .int .i64 (L:Nat), .int .i64 (nb:Nat), .slice (some ab) nb cb]:=XC
              have HS4:=HS2
              clear HS2
              generalize (((((w2.setCell ⟨xb,0,none⟩ (.int .i64 tb)).setCell ⟨xb,1,none⟩ (.int .i64 lb)).setCell ⟨xb,2,none⟩ (.int .i64 (L:Nat))).setCell ⟨xb,3,none⟩ (.int .i64 (nb:Nat))).setCell ⟨xb,4,none⟩ (.slice (some ab) nb cb))=w3 at XA XC HS4 ⊢
              replace own:=own.call HS4
              replace HE:=Lib.hid (HE.out.call HS4)
              replace o:=o.trans (HS4.mono o.size)
              have hz4:=HS4.size
              obtain ⟨X0,X1,X2,X3,X4,Xf0,Xf1,Xf2,Xf3,Xf4⟩:=row_five XA
              obtain ⟨Y0,Y1,Y2,Y3,Y4,Yf0,Yf1,Yf2,Yf3,Yf4⟩:=row_five XC
              go_wp2_with fail
              refine (PM.out _ HS4).mono ?_
              rintro e w4 ⟨gm,cm,rfl,inm,hgm,hb4⟩
              clear XA X0 Xf0 Y0 Yf0 X1 Xf1 Y1 Yf1 X2 Xf2 Y2 Yf2 X3 Xf3 Y3 Yf3 X4 Xf4 Y4 Yf4
              have zXC:=row_lt XC
              replace XC:=row_call XC hb4
              replace own:=own.call hb4
              replace HE:=Lib.hid (HE.out.call hb4)
              have zo3:=o.size
              have zo4:=own.lt
              replace o:=o.trans (hb4.mono o.size)
              have hz5:=hb4.size
              clear hb4 HS4 PM
              go_upto_region 14 with (fail)
              have RR:Row (w4.alloc (.cells #[.int .i64 (nm:Nat), .slice (some ⟨gm,0,none⟩) nm cm] 188)) w4.heap.size 188 #[.int .i64 (nm:Nat), .slice (some ⟨gm,0,none⟩) nm cm]:=row_new rfl
              have zxc4:=row_lt XC
              replace XC:=row_alloc XC (.cells #[.int .i64 (nm:Nat), .slice (some ⟨gm,0,none⟩) nm cm] 188)
              replace own:=own.alloc (.cells #[.int .i64 (nm:Nat), .slice (some ⟨gm,0,none⟩) nm cm] 188)
              replace HE:=Lib.hid (HE.out.call ((Below.refl _ _).alloc (Nat.le_refl _) (.cells #[.int .i64 (nm:Nat), .slice (some ⟨gm,0,none⟩) nm cm] 188)))
              replace inm:=inm.below ((Below.refl _ _).alloc (Nat.le_refl _) (.cells #[.int .i64 (nm:Nat), .slice (some ⟨gm,0,none⟩) nm cm] 188))
              have zo4':=o.size
              replace o:=o.alloc o.size (.cells #[.int .i64 (nm:Nat), .slice (some ⟨gm,0,none⟩) nm cm] 188)
              have pP:=prkprune _ _ _ _ sz (w4.alloc (.cells #[.int .i64 (nm:Nat), .slice (some ⟨gm,0,none⟩) nm cm] 188)) inm s1 s2 hnms
              unfold RkRet2 at pP
              rw [← hnm.out] at pP
              generalize w4.alloc (.cells #[.int .i64 (nm:Nat), .slice (some ⟨gm,0,none⟩) nm cm] 188)=w5 at XC own HE inm o RR pP ⊢
              generalize w4.heap.size=rb at RR zxc4 zo4' zo4 hz5 ⊢
              replace pP:=Lib.hid pP
              obtain ⟨R0,R1,Rf0,Rf1⟩:=row_two RR
              have zrr:=row_lt RR
              go_wp2_with fail
              refine pP.out.mono ?_
              rintro e w6 ⟨gp,cp,rfl,inp,hgp,hb6⟩
              clear R0 R1 Rf0 Rf1 inm pP
              replace XC:=row_call XC hb6
              replace RR:=row_call RR hb6
              replace own:=own.call hb6
              replace HE:=Lib.hid (HE.out.call hb6)
              have zo5:=o.size
              replace o:=o.trans (hb6.mono o.size)
              have hz6:=hb6.size
              clear hb6
              obtain ⟨R0,R1,Rf0,Rf1⟩:=row_two RR
              go_upto_region 15 with (fail)
              clear R0 R1 Rf0 Rf1
              have nrb:∀ x∈cur,∀ a,x.A=some a→a.block≠rb:=fun x hx a e=>by have:=HLT.out x hx a e;omega
              have npr:gp≠rb:=by omega
              have ngr:g≠rb:=by omega
              have nxr:xb≠rb:=by omega
              replace HE:=Lib.hid ((HE.out.setb (p:=⟨rb,0,none⟩) nrb (.int .i64 (nm:Nat))).setb (p:=⟨rb,1,none⟩) nrb (.slice (some ⟨gp,0,none⟩) nm cp))
              replace RR:Row ((w6.setCell ⟨rb,0,none⟩ (.int .i64 (nm:Nat))).setCell ⟨rb,1,none⟩ (.slice (some ⟨gp,0,none⟩) nm cp)) rb 188 #[.int .i64 (nm:Nat), .slice (some ⟨gp,0,none⟩) nm cp]:=row_set (row_set RR 0 (.int .i64 (nm:Nat))) 1 (.slice (some ⟨gp,0,none⟩) nm cp)
              replace XC:=row_other (p:=⟨rb,1,none⟩) (row_other (p:=⟨rb,0,none⟩) XC nxr (.int .i64 (nm:Nat))) nxr (.slice (some ⟨gp,0,none⟩) nm cp)
              replace own:=(own.other (p:=⟨rb,0,none⟩) ngr (.int .i64 (nm:Nat))).other (p:=⟨rb,1,none⟩) ngr (.slice (some ⟨gp,0,none⟩) nm cp)
              replace inp:=(inp.setc (p:=⟨rb,0,none⟩) (fun a e=>by cases e;exact npr.symm) (.int .i64 (nm:Nat))).setc (p:=⟨rb,1,none⟩) (fun a e=>by cases e;exact npr.symm) (.slice (some ⟨gp,0,none⟩) nm cp)
              replace o:=(o.setCell (p:=⟨rb,0,none⟩) (by show w.heap.size≤rb;omega) (.int .i64 (nm:Nat))).setCell (p:=⟨rb,1,none⟩) (by show w.heap.size≤rb;omega) (.slice (some ⟨gp,0,none⟩) nm cp)
              generalize (w6.setCell ⟨rb,0,none⟩ (.int .i64 (nm:Nat))).setCell ⟨rb,1,none⟩ (.slice (some ⟨gp,0,none⟩) nm cp)=w7 at XC RR own HE inp o ⊢
              obtain ⟨R0,R1,Rf0,Rf1⟩:=row_two RR
              obtain ⟨X0,X1,X2,X3,X4,Xf0,Xf1,Xf2,Xf3,Xf4⟩:=row_five XC
              obtain ⟨p0,p1,p2,p3,p4⟩:=bqcells_own own (i:=b) (by omega)
              have f0:=own.free (b*5)
              have f1:=own.free (b*5+1)
              have f2:=own.free (b*5+2)
              have f3:=own.free (b*5+3)
              have f4:=own.free (b*5+4)
              have ngp:gp≠g:=by omega
              go_upto_region 16 with (fail)
              clear R0 R1 Rf0 Rf1 RR XC p0 p1 p2 p3 p4 f0 f1 f2 f3 f4 X0 Xf0 X1 Xf1 X2 Xf2 X3 Xf3 X4 Xf4
              replace own:=((((own.set (b*5) (.int .i64 tb)).set (b*5+1) (.int .i64 lb)).set (b*5+2) (.int .i64 ((L:Int)+1))).set (b*5+3) (.int .i64 (nm:Nat))).set (b*5+4) (.slice (some ⟨gp,0,none⟩) nm cp)
              replace HE:=Lib.hid (((((HE.out.setg (b*5) (.int .i64 tb)).setg (b*5+1) (.int .i64 lb)).setg (b*5+2) (.int .i64 ((L:Int)+1))).setg (b*5+3) (.int .i64 (nm:Nat))).setg (b*5+4) (.slice (some ⟨gp,0,none⟩) nm cp))
              replace inp:=((((inp.setc (p:=⟨g,b*5,none⟩) (fun a e=>by cases e;exact ngp.symm) (.int .i64 tb)).setc (p:=⟨g,b*5+1,none⟩) (fun a e=>by cases e;exact ngp.symm) (.int .i64 lb)).setc (p:=⟨g,b*5+2,none⟩) (fun a e=>by cases e;exact ngp.symm) (.int .i64 ((L:Int)+1))).setc (p:=⟨g,b*5+3,none⟩) (fun a e=>by cases e;exact ngp.symm) (.int .i64 (nm:Nat))).setc (p:=⟨g,b*5+4,none⟩) (fun a e=>by cases e;exact ngp.symm) (.slice (some ⟨gp,0,none⟩) nm cp)
              replace o:=((((o.setCell (p:=⟨g,b*5,none⟩) hbg (.int .i64 tb)).setCell (p:=⟨g,b*5+1,none⟩) hbg (.int .i64 lb)).setCell (p:=⟨g,b*5+2,none⟩) hbg (.int .i64 ((L:Int)+1))).setCell (p:=⟨g,b*5+3,none⟩) hbg (.int .i64 (nm:Nat))).setCell (p:=⟨g,b*5+4,none⟩) hbg (.slice (some ⟨gp,0,none⟩) nm cp)
              have hbs:=qcells_set cur b b1 ⟨tb,lb,L+1,um,some ⟨gp,0,none⟩,cp⟩
              dsimp only at hbs
              rw [← hnm.out,show ((L+1:Nat):Int)=(L:Int)+1 by omega] at hbs
              rw [hbs] at own
              generalize (((((w7.setCell ⟨g,b*5,none⟩ (.int .i64 tb)).setCell ⟨g,b*5+1,none⟩ (.int .i64 lb)).setCell ⟨g,b*5+2,none⟩ (.int .i64 ((L:Int)+1))).setCell ⟨g,b*5+3,none⟩ (.int .i64 (nm:Nat))).setCell ⟨g,b*5+4,none⟩ (.slice (some ⟨gp,0,none⟩) nm cp))=w8 at own HE inp o ⊢
              have hsc:=set_cutq (cur:=cur) (b:=b) (m:=⟨tb,lb,L+1,um,some ⟨gp,0,none⟩,cp⟩) (by omega)
              have HJ3:=Lib.hid (HS.out (some ⟨gp,0,none⟩) cp).1
              have hzz:=own.lt
              have inpl:gp<w8.heap.size:=by
                obtain ⟨a,e,h⟩:=inp.ptr
                cases e
                exact h
              clear hbs HS HB HJ
              generalize hAD:(if c'=b+2 then some (⟨g,0,none⟩:Addr) else some ⟨g,(b+2)*5,none⟩)=AD
              refine wp_region_free0 [0,1,2,4,5,6,3,7] [] [0,1,2,3,4,5,6,7] 8 (fun w'=>Below w8.heap.size w8 w') (by kernel_rfl) (by kernel_rfl) (fun _ _ d _ _ h=>by cases d<;>exact h) ?_ ?_
              · exact (Below.refl _ _).drew
              (refine plan_pure ?_ rfl rfl (fun w'=>?_) ?_;rotate_left;(go_simp;try with_reducible rfl);simp only [put9])
              (refine plan_pure ?_ rfl rfl (fun w'=>?_) ?_;rotate_left;(go_simp;try with_reducible rfl);simp only [put9])
              (refine plan_pure ?_ rfl rfl (fun w'=>?_) ?_;rotate_left;(go_simp;try with_reducible rfl);simp only [put9])
              (refine plan_pure ?_ rfl rfl (fun w'=>?_) ?_;rotate_left;(go_simp;try with_reducible rfl);simp only [put9])
              (refine plan_pure ?_ rfl rfl (fun w'=>?_) ?_;rotate_left;(go_simp;try with_reducible rfl);simp only [put9])
              (refine plan_pure ?_ rfl rfl (fun w'=>?_) ?_;rotate_left;(go_simp;try with_reducible rfl);simp only [put9])
              (refine plan_pure ?_ rfl rfl (fun w'=>?_) ?_;rotate_left;(go_simp;try with_reducible rfl);simp only [put9])
              (refine plan_pure ?_ rfl rfl (fun w'=>?_) ?_;rotate_left;(go_simp;try with_reducible rfl);simp only [put9])
              refine plan_nil ?_
              intro w9 L9
              simp only [List.drop_succ_cons,List.drop_zero]
              try simp only [put9]
              replace own:=own.call L9
              replace HE:=Lib.hid (HE.out.call L9)
              replace inp:=inp.below L9
              have zo9:=o.size
              replace o:=o.trans (L9.mono o.size)
              have hz9:=L9.size
              clear L9
              generalize cur.set b ⟨tb,lb,L+1,um,some ⟨gp,0,none⟩,cp⟩=cS at own hsc
              have OC:=(own.cut (k:=b+1) (by omega)).row hbg
              rw [qcells_take] at OC
              have RD:Reads w9 w9.heap.size 5 AD (nn-(b+2)) (qcells (cS.drop (b+2))):=by
                have RD:=readsq_drop own (j:=b+2) (by omega)
                by_cases hcb:c'=b+2
                · exact ⟨RD.1,fun hn=>by have:=own.cap.1;omega⟩
                · rw [if_neg hcb] at hAD
                  rw [← hAD]
                  exact RD
              have zs:=o.size
              go_upto_region 17 with (at_builtin;refine wpList_append_any _ rfl _ _ 54 rfl w.heap.size 190 iq (.agg #[.int .i64 0, .int .i64 0, .int .i64 0, .int .i64 0, .slice none 0 0]) 5 56 Tryz.underlying54 HIQ.out jz0 jz1 jz2 rfl (by decide) (.slice (some ⟨g,0,none⟩) (b+1) c') (b+1) (qcells (cS.take (b+1))) rfl OC w9.heap.size AD (nn-(b+2)) (c'-(b+2)) (qcells (cS.drop (b+2))) rfl RD (qcells_one _) (by unfold maxLen;omega) (by omega) (by omega) ?_;intro v6 w10 own6 hg6 hat6)
              rw [← qcells_append,hsc,show b+1+(nn-(b+2))=nn-1 by omega] at own6
              replace o:=below_grown o hg6 (fun q hq=>by have e9:g=q:=Option.some.inj hq;omega) (by omega)
              obtain ⟨g6,c6,rfl,own7,hb6⟩:=orow_pos own6 (by omega)
              have h66:g6=g∨g6=w9.heap.size:=by
                rcases hat6 with h | h
                · exact .inl (Option.some.inj h)
                · exact .inr (Option.some.inj h)
              have HE3:=Lib.hid ((HE.out.keep hg6.size (fun x hx a e=>hg6.block _ (HE.out.lt hx e) (fun y=>HE.out.ne x hx a e (Option.some.inj y)))).next (b:=b) (g':=g6) (m:=⟨tb,lb,L+1,um,some ⟨gp,0,none⟩,cp⟩) (by
                have h9:=inp.keep hg6.size (fun a e=>hg6.block _ (by cases e;show gp<_;omega) (fun y=>by cases e;exact ngp (Option.some.inj y)))
                rw [hnm.out] at h9
                exact h9) (fun a e=>by cases e;show gp≠g6;omega) (fun a e=>by cases e;show w.heap.size≤gp;omega) (fun x hx a e=>by
                have h1:=HE.out.ne x hx a e
                have h2:=HE.out.lt hx e
                rcases h66 with h | h
                · rw [h];exact h1
                · omega))
              clear own6 own OC RD hsc hg6 hat6 inp HE
              go_wp2
              go_roundw
              case rel=>exact ⟨g6,c6,nn-1,_,b+1,L+1,rfl,by go_num,by go_num,own7,hb6,HE3,HJ3,o⟩
              case measure=>simp [lenE];omega
end Go.Proofs.YtdipoojjlddohaaGreat
end
