/- What the law TopSummaries needs, joined of its texts by a program (slim2.py); part 8. -/
import Derived.Test.YtdipoojjlddohaaGreatZTopSummaries1
import Derived.Test.YtdipoojjlddohaaGreatZTopSummaries3
import Derived.Test.YtdipoojjlddohaaGreatZTopSummaries4
import Derived.Test.YtdipoojjlddohaaGreatZTopSummaries7
set_option linter.unusedVariables false
set_option linter.unusedSimpArgs false
set_option linter.unusedSectionVars false
set_option linter.unnecessarySimpa false
section
/- Lists of buckets: a unit item is inserted, walked. -/
namespace Go.Proofs.YtdipoojjlddohaaGreat
open Go.RowKit
theorem pbmay (A:Option Addr) (m c:Nat) (l:List Bk) (t:Int) (w:World) (hin:BIn A m c l w) (t0:0≤t) (t1:t≤16777216) (ht:∀ b∈l,b.t≤t) :
    Calls Tryz.prog 259 #[.slice A m c, .int .i64 t] w fun e w'=>e = .returned (.bool true)∧Below w.heap.size w w':=by
  have PT:=Lib.hid (fun w=>pbtick t w t0 t1)
  have hmB:m≤9223372036854775807:=by have:=hin.mc;have:=hin.cB;unfold maxLen at *;omega
  by_cases m0:m=0
  · have m0b:((m:Int) == 0)=true:=by simp;omega
    clear hin ht m0
    go_enter Tryz.func259,Tryz.ntmps259
    go_wp2_with (go_at_call 267;with_reducible refine (PT.out _).mono ?_;rintro e w9 ⟨rfl,h9⟩;obtain rfl:=h9.symm)
    go_ret
    exact ⟨by first | rfl | exact ret_bool (by simp;omega) | exact ret_bool (by simp [*]),Below.refl _ _⟩
  · have m0b:((m:Int) == 0)=false:=by simp;omega
    obtain ⟨p,hp⟩:∃ p:Nat,m=p+1:=⟨m-1,by omega⟩
    obtain ⟨ad,rfl,hadb,hi0⟩:=hin.reads.bk (i:=p) (by omega)
    have hb:=ht _ (bk_mem (l:=l) (i:=p) (by rw [hin.len];omega))
    obtain ⟨c0,_⟩:=hi0
    generalize (bkAt l p).t=tp at c0 hb
    have wj:IntKind.i64.wrap ((m:Int)-1)=(p:Int):=by rw [IntWalk.i64_in _ (by omega)];omega
    have p1:(p:Int)<(m:Int):=by omega
    have p0:(0:Int)≤(p:Int):=by omega
    clear hin ht m0 hp
    go_enter Tryz.func259,Tryz.ntmps259
    go_wp2_with (go_at_call 267;with_reducible refine (PT.out _).mono ?_;rintro e w9 ⟨rfl,h9⟩;obtain rfl:=h9.symm)
    go_ret
    exact ⟨by first | rfl | exact ret_bool (by simp;omega) | exact ret_bool (by simp [*]),Below.refl _ _⟩
def lenB:Value→Nat
  | .slice _ n _=>n
  | _=>0
theorem bkcells_own {w:World} {g n c:Nat} {l:List Bk} (h:Own w 318 2 g n c (bcells l)) {i:Nat} (hi:i<n):w.cell? ⟨g,i*2,none⟩=some (.int .i64 (bkAt l i).t)∧w.cell? ⟨g,i*2+1,none⟩=some (.int .i64 ((bkAt l i).lv:Nat)):=by
  have hl:=h.len
  rw [bcells_len] at hl
  have ht:=bcells_at l i (by omega)
  exact ⟨(h.cell (by omega)).trans ht.1,(h.cell (by omega)).trans ht.2⟩
theorem own_bklen {w:World} {g n c:Nat} {l:List Bk} (h:Own w 318 2 g n c (bcells l)):l.length=n:=by
  have hl:=h.len
  rw [bcells_len] at hl
  omega
theorem set_cut {cur:List Bk} {b:Nat} {m:Bk} (h:b+2≤cur.length):(cur.set b m).take (b+1) ++ (cur.set b m).drop (b+2)=cur.take b ++ m :: cur.drop (b+2):=by
  rw [List.drop_set_of_lt (by omega),List.set_eq_take_append_cons_drop,if_pos (by omega),List.take_append,List.take_of_length_le (by rw [List.length_take];omega)]
  rw [List.length_take,Nat.min_eq_left (by omega),show b+1-b=1 by omega,List.take_succ_cons,List.take_zero,List.append_assoc]
  rfl
theorem orow_pos {w:World} {base n size:Nat} {e:TypeId} {v:Value} {xs:List Value} (h:w.ownsRow base e size v n xs) (hn:0<n):∃ g c,v = .slice (some ⟨g,0,none⟩) n c∧Own w e size g n c xs∧base≤g:=by
  rcases h.2 with ⟨_,h0⟩ | ⟨g,c,cur,rfl,_⟩
  · omega
  · obtain ⟨o1,o2⟩:=own_of_row h
    exact ⟨g,c,rfl,o1,o2⟩
def InsRet (base k:Nat) (l:List Bk) (t:Int) (n:Nat) (w:World) (e:Ending) (w':World):Prop :=
  ∃ v' n' l',e = .returned v'∧w'.ownsRow base 318 2 v' n' (bcells l')∧Ins k l t n l'∧Below base w w'
theorem InsRet.mk' {base k:Nat} {l l':List Bk} {t:Int} {n n':Nat} {w w':World} {v':Value} (h1:w'.ownsRow base 318 2 v' n' (bcells l')) (h2:Ins k l t n l') (h3:Below base w w'):InsRet base k l t n w (.returned v') w':=⟨v',n',l',rfl,h1,h2,h3⟩
theorem reads_drop {w:World} {g n c j:Nat} {xs:List Value} {e:TypeId} (h:Own w e 2 g n c xs) (hj:j≤n):Reads w w.heap.size 2 (some ⟨g,j*2,none⟩) (n-j) (xs.drop (j*2)):=by
  have hl:=h.len
  refine ⟨by rw [List.length_drop,hl,Nat.sub_mul],fun hn=>⟨_,rfl,h.lt,fun i u hu=>?_⟩⟩
  rw [List.getElem?_drop] at hu
  have hi:j*2+i<n*2:=by
    have:=(List.getElem?_eq_some_iff.1 hu).1
    omega
  have e1:(⟨g,j*2,none⟩:Addr).add i=⟨g,j*2+i,none⟩:=by unfold Addr.add;split<;>simp_all
  rw [e1,h.cell hi]
  exact hu
set_option maxRecDepth 100000 in
set_option maxHeartbeats 8000000 in
theorem pbinsert (base:Nat) (v:Value) (n:Nat) (l:List Bk) (k:Nat) (t:Int) (w:World) (hown:w.ownsRow base 318 2 v n (bcells l)) (hbase:base≤w.heap.size) (hv:BV k l) (k1:1≤k) (k2:k≤128) (t0:0≤t) (t1:t≤16777216) (ht:∀ b∈l,b.t≤t) (hT:btot l+1≤1073741824) :
    Calls Tryz.prog 260 #[v, .int .i64 (k:Nat), .int .i64 t] w (InsRet base k l t 1 w):=by
  obtain ⟨ib,hib,iz0,iz1,iz2⟩:=info_parts info_bk
  have hln:l.length=n:=by have:=hown.1;rw [bcells_len] at this;omega
  have hnT:=tot_len l
  have ST:=Lib.hid (InsR.start hv ⟨t0,t1⟩ ht)
  clear hv ht
  go_enter Tryz.func260,Tryz.ntmps260
  go_upto_region 2 with (at_builtin;refine wpList_push rfl _ _ 30 rfl 318 ib (.agg #[.int .i64 0, .int .i64 0]) 2 16 Tryz.underlying30 hib iz0 iz1 iz2 rfl (by decide) base v n (bcells l) rfl hown #[.int .i64 t, .int .i64 0] rfl rfl (by simp [Value.oneCell']) (by unfold maxLen;omega) (by omega) hbase ?_;intro g c1 w1 own hbg hat1 hg1)
  have o:Below base w w1:=below_grown ((Below.refl base w).alloc hbase (.cells #[.int .i64 t, .int .i64 0] 318)) hg1 (fun q hq=>(hown.lt q hq).1) (by simp;omega)
  have own:Own w1 318 2 g (n+1) c1 (bcells (l ++ [Bk.mk t 0])):=by rw [bcells_append];exact own
  clear hat1 hg1 hown
  go_wp2
  go_loopw [0,7,8,9] (fun u0 u7 u8 u9 wr=>∃ (g c' nn:Nat) (cur:List Bk) (e L:Nat),u0 = .slice (some ⟨g,0,none⟩) nn c'∧u7 = .int .i64 (e:Nat)∧u8 = .int .i64 (L:Nat)∧Own wr 318 2 g nn c' (bcells cur)∧base≤g∧RowKit.Hid (InsR k l t cur e L)∧Below base w wr) (fun u0 _ _ _ _=>lenB u0)
  case atStart =>
    refine ⟨g,c1,n+1,l ++ [Bk.mk t 0],l.length+1,0,rfl,by rw [hln];go_num,rfl,own,hbg,Lib.hid ST.out,o⟩
  case round =>
    clear own o hbg
    obtain ⟨g,c',nn,cur,e,L,rfl,rfl,rfl,own,hbg,HJ,o⟩:=hrel
    have hnn:=own_bklen own
    have hel:=HJ.out.el
    rw [hnn] at hel
    have hcl:cur.length≤1073741825:=by have:=tot_len cur;have:=HJ.out.tot;omega
    go_wp2
    go_loopw [9] (fun u9 wi=>∃ b:Nat,b≤e∧u9 = .int .i64 (b:Nat)∧RowKit.Hid (∀ i,b≤i→i<e→(bkAt cur i).lv=L)∧wi=wr) (fun u9 _=>(intOf u9).toNat)
    case atStart=>exact ⟨e,Nat.le_refl _,rfl,Lib.hid (fun i h1 h2=>by omega),rfl⟩
    case round =>
      obtain ⟨b,hbe,rfl,HB,rfl⟩:=hrel
      by_cases b0:b=0
      · have j0:¬ (0:Int)<(b:Int):=by omega
        have j1:¬ 0<b:=by omega
        have H2:RowKit.Hid (b=0∨(bkAt cur (b-1)).lv≠L):=Lib.hid (.inl b0)
        clear b0
        by_cases hc:e-b<k+2
        · have hc':(e:Int)-(b:Int)<(k:Int)+2:=by omega
          have HF:=Lib.hid (HJ.out.done hbe HB.out H2.out hc hT)
          clear HB
          go_wp2
          go_ret
          exact InsRet.mk' (own.row hbg) HF.out o
        · have hc':¬ (e:Int)-(b:Int)<(k:Int)+2:=by omega
          have HS:=HJ.out.step k1 hbe HB.out H2.out hc
          have LB:L≤1073741824:=by
            have h0:=HB.out b (Nat.le_refl _) (by omega)
            have h1:=tot_mem (bk_mem (l:=cur) (i:=b) (by omega))
            have h2:=two_pow_le (x:=(bkAt cur b).lv) (by have:=HJ.out.tot;omega)
            omega
          have wL:IntKind.i64.wrap ((L:Int)+1)=((L+1:Nat):Int):=by rw [IntWalk.i64_in _ (by omega)];omega
          have l0:(b:Int)<(nn:Int):=by omega
          have l1:(b:Int)+1<(nn:Int):=by omega
          have l2:(b:Int)+2≤(nn:Int):=by omega
          have z0:(0:Int)≤(b:Int):=by omega
          have cc:=own.cap.1
          have l3:(b:Int)+1≤(c':Int):=by omega
          have l4:(nn:Int)≤(c':Int):=by omega
          have q1:=(bkcells_own own (i:=b+1) (by omega)).1
          generalize hm1:(bkAt cur (b+1)).t=t1 at HS q1
          obtain ⟨p0,p1⟩:=bkcells_own own (i:=b) (by omega)
          have f0:=own.free (b*2)
          have f1:=own.free (b*2+1)
          go_upto_region 11 with (fail)
          replace own:=(own.set (b*2) (.int .i64 t1)).set (b*2+1) (.int .i64 ((L:Int)+1))
          have hbs:((bcells cur).set (b*2) (.int .i64 t1)).set (b*2+1) (.int .i64 ((L:Int)+1))=bcells (cur.set b ⟨t1,L+1⟩):=by
            have:=bcells_set cur b (by omega) ⟨t1,L+1⟩
            simpa using this
          rw [hbs] at own
          have hsc:=set_cut (cur:=cur) (b:=b) (m:=⟨t1,L+1⟩) (by omega)
          replace o:=(o.setCell (p:=⟨g,b*2,none⟩) hbg (.int .i64 t1)).setCell (p:=⟨g,b*2+1,none⟩) hbg (.int .i64 ((L:Int)+1))
          generalize (wr.setCell ⟨g,b*2,none⟩ (.int .i64 t1)).setCell ⟨g,b*2+1,none⟩ (.int .i64 ((L:Int)+1))=w3 at own o ⊢
          clear p0 p1 f0 f1 q1 hbs HJ HB
          have x1:(0:Int)≤(b:Int)+1:=by omega
          have x2:(0:Int)≤(b:Int)+2:=by omega
          have y1:IntKind.i64.wrap ((b:Int)+1)=(b:Int)+1:=IntWalk.i64_in _ (by omega)
          have y2:IntKind.i64.wrap ((b:Int)+2)=(b:Int)+2:=IntWalk.i64_in _ (by omega)
          have y3:((b:Int)+1).toNat=b+1:=by omega
          have y4:((b:Int)+2).toNat=b+2:=by omega
          generalize hAD:(if c'=b+2 then some (⟨g,0,none⟩:Addr) else some ⟨g,(b+2)*2,none⟩)=AD
          refine wp_region_free0 [0,1,2,4,5,6,3,7] [] [0,1,2,3,4,5,6,7] 8 (fun w'=>Below w3.heap.size w3 w') (by kernel_rfl) (by kernel_rfl) (fun _ _ d _ _ h=>by cases d<;>exact h) ?_ ?_
          · exact (Below.refl _ _).drew
          (refine plan_pure ?_ rfl rfl (fun w'=>?_) ?_;rotate_left;(go_simp;try with_reducible rfl);simp only [put9])
          (refine plan_pure ?_ rfl rfl (fun w'=>?_) ?_;rotate_left;(go_simp;try with_reducible rfl);simp only [put9])
          (refine plan_pure ?_ rfl rfl (fun w'=>?_) ?_;rotate_left;(go_simp;try with_reducible rfl);simp only [put9])
          (refine plan_pure ?_ rfl rfl (fun w'=>?_) ?_;rotate_left;(go_simp;try with_reducible rfl);simp only [put9])
          (refine plan_pure ?_ rfl rfl (fun w'=>?_) ?_;rotate_left;(go_simp;try with_reducible rfl);simp only [put9])
          (refine plan_pure ?_ rfl rfl (fun w'=>?_) ?_;rotate_left;(go_simp;try with_reducible rfl);simp only [put9])
          (refine plan_pure ?_ rfl rfl (fun w'=>?_) ?_;rotate_left;(go_simp;try with_reducible rfl);simp only [put9])
          (refine plan_pure ?_ rfl rfl (fun w'=>?_) ?_;rotate_left;(go_simp;try with_reducible rfl);simp only [put9])
          refine plan_nil ?_
          intro w4 L4
          simp only [List.drop_succ_cons,List.drop_zero]
          try simp only [put9]
          replace own:=own.call L4
          replace o:=o.trans (L4.mono (by have:=o.size;omega))
          clear L4
          generalize cur.set b ⟨t1,L+1⟩=cS at own hsc
          have OC:=(own.cut (k:=b+1) (by omega)).row hbg
          rw [bcells_take] at OC
          have RD:Reads w4 w4.heap.size 2 AD (nn-(b+2)) (bcells (cS.drop (b+2))):=by
            have RD:=reads_drop own (j:=b+2) (by omega)
            rw [bcells_drop] at RD
            by_cases hcb:c'=b+2
            · exact ⟨RD.1,fun hn=>by have:=own.cap.1;omega⟩
            · rw [if_neg hcb] at hAD
              rw [← hAD]
              exact RD
          have zs:=o.size
          go_upto_region 12 with (at_builtin;refine wpList_append_any _ rfl _ _ 30 rfl base 318 ib (.agg #[.int .i64 0, .int .i64 0]) 2 16 Tryz.underlying30 hib iz0 iz1 iz2 rfl (by decide) (.slice (some ⟨g,0,none⟩) (b+1) c') (b+1) (bcells (cS.take (b+1))) rfl OC w4.heap.size AD (nn-(b+2)) (c'-(b+2)) (bcells (cS.drop (b+2))) rfl RD (bcells_one _) (by unfold maxLen;omega) (by omega) (by omega) ?_;intro v6 w6 own6 hg6 hat6)
          rw [← bcells_append,hsc,show b+1+(nn-(b+2))=nn-1 by omega] at own6
          replace o:=below_grown o hg6 (fun q hq=>by have e9:g=q:=Option.some.inj hq;omega) (by omega)
          obtain ⟨g6,c6,rfl,own7,hb6⟩:=orow_pos own6 (by omega)
          replace HS:=Lib.hid HS
          clear own6 own OC RD hsc hg6 hat6
          go_wp2
          go_roundw
          case rel=>exact ⟨g6,c6,nn-1,_,b+1,L+1,rfl,by go_num,by go_num,own7,hb6,HS,o⟩
          case measure=>simp [lenB];omega
      · have j0:(0:Int)<(b:Int):=by omega
        have j1:0<b:=by omega
        obtain ⟨p,hp⟩:∃ p:Nat,b=p+1:=⟨b-1,by omega⟩
        have wj:IntKind.i64.wrap ((b:Int)-1)=(p:Int):=by rw [IntWalk.i64_in _ (by omega)];omega
        have y1:(p:Int)<(nn:Int):=by omega
        have y0:(0:Int)≤(p:Int):=by omega
        have pc:=(bkcells_own own (i:=p) (by omega)).2
        have hpb:b-1=p:=by omega
        clear b0
        by_cases hlv:(bkAt cur p).lv=L
        · have HB2:RowKit.Hid (∀ i,p≤i→i<e→(bkAt cur i).lv=L):=Lib.hid (fun i h1 h2=>by
            by_cases hi:i=p
            · rw [hi];exact hlv
            · exact HB.out i (by omega) h2)
          rw [hlv] at pc
          have lq:((L:Int) == (L:Int))=true:=by simp
          have hpe:p≤e:=by omega
          have hpl:p<b:=by omega
          clear hlv HB hp hpb
          go_wp2
          go_roundw
          case rel=>exact ⟨p,hpe,by go_num,HB2,by trivial⟩
          case measure=>simp [intOf];omega
        · have H2:RowKit.Hid (b=0∨(bkAt cur (b-1)).lv≠L):=Lib.hid (.inr (by rw [hpb];exact hlv))
          have lq:(((bkAt cur p).lv:Int) == (L:Int))=false:=by simp;omega
          generalize (bkAt cur p).lv=lp at pc lq
          clear hlv hp hpb
          by_cases hc:e-b<k+2
          · have hc':(e:Int)-(b:Int)<(k:Int)+2:=by omega
            have HF:=Lib.hid (HJ.out.done hbe HB.out H2.out hc hT)
            clear HB
            go_wp2
            go_ret
            exact InsRet.mk' (own.row hbg) HF.out o
          · have hc':¬ (e:Int)-(b:Int)<(k:Int)+2:=by omega
            have HS:=HJ.out.step k1 hbe HB.out H2.out hc
            have LB:L≤1073741824:=by
              have h0:=HB.out b (Nat.le_refl _) (by omega)
              have h1:=tot_mem (bk_mem (l:=cur) (i:=b) (by omega))
              have h2:=two_pow_le (x:=(bkAt cur b).lv) (by have:=HJ.out.tot;omega)
              omega
            have wL:IntKind.i64.wrap ((L:Int)+1)=((L+1:Nat):Int):=by rw [IntWalk.i64_in _ (by omega)];omega
            have l0:(b:Int)<(nn:Int):=by omega
            have l1:(b:Int)+1<(nn:Int):=by omega
            have l2:(b:Int)+2≤(nn:Int):=by omega
            have z0:(0:Int)≤(b:Int):=by omega
            have cc:=own.cap.1
            have l3:(b:Int)+1≤(c':Int):=by omega
            have l4:(nn:Int)≤(c':Int):=by omega
            have q1:=(bkcells_own own (i:=b+1) (by omega)).1
            generalize hm1:(bkAt cur (b+1)).t=t1 at HS q1
            obtain ⟨p0,p1⟩:=bkcells_own own (i:=b) (by omega)
            have f0:=own.free (b*2)
            have f1:=own.free (b*2+1)
            go_upto_region 11 with (fail)
            replace own:=(own.set (b*2) (.int .i64 t1)).set (b*2+1) (.int .i64 ((L:Int)+1))
            have hbs:((bcells cur).set (b*2) (.int .i64 t1)).set (b*2+1) (.int .i64 ((L:Int)+1))=bcells (cur.set b ⟨t1,L+1⟩):=by
              have:=bcells_set cur b (by omega) ⟨t1,L+1⟩
              simpa using this
            rw [hbs] at own
            have hsc:=set_cut (cur:=cur) (b:=b) (m:=⟨t1,L+1⟩) (by omega)
            replace o:=(o.setCell (p:=⟨g,b*2,none⟩) hbg (.int .i64 t1)).setCell (p:=⟨g,b*2+1,none⟩) hbg (.int .i64 ((L:Int)+1))
            generalize (wr.setCell ⟨g,b*2,none⟩ (.int .i64 t1)).setCell ⟨g,b*2+1,none⟩ (.int .i64 ((L:Int)+1))=w3 at own o ⊢
            clear p0 p1 f0 f1 q1 hbs HJ HB
            have x1:(0:Int)≤(b:Int)+1:=by omega
            have x2:(0:Int)≤(b:Int)+2:=by omega
            have y1:IntKind.i64.wrap ((b:Int)+1)=(b:Int)+1:=IntWalk.i64_in _ (by omega)
            have y2:IntKind.i64.wrap ((b:Int)+2)=(b:Int)+2:=IntWalk.i64_in _ (by omega)
            have y3:((b:Int)+1).toNat=b+1:=by omega
            have y4:((b:Int)+2).toNat=b+2:=by omega
            generalize hAD:(if c'=b+2 then some (⟨g,0,none⟩:Addr) else some ⟨g,(b+2)*2,none⟩)=AD
            refine wp_region_free0 [0,1,2,4,5,6,3,7] [] [0,1,2,3,4,5,6,7] 8 (fun w'=>Below w3.heap.size w3 w') (by kernel_rfl) (by kernel_rfl) (fun _ _ d _ _ h=>by cases d<;>exact h) ?_ ?_
            · exact (Below.refl _ _).drew
            (refine plan_pure ?_ rfl rfl (fun w'=>?_) ?_;rotate_left;(go_simp;try with_reducible rfl);simp only [put9])
            (refine plan_pure ?_ rfl rfl (fun w'=>?_) ?_;rotate_left;(go_simp;try with_reducible rfl);simp only [put9])
            (refine plan_pure ?_ rfl rfl (fun w'=>?_) ?_;rotate_left;(go_simp;try with_reducible rfl);simp only [put9])
            (refine plan_pure ?_ rfl rfl (fun w'=>?_) ?_;rotate_left;(go_simp;try with_reducible rfl);simp only [put9])
            (refine plan_pure ?_ rfl rfl (fun w'=>?_) ?_;rotate_left;(go_simp;try with_reducible rfl);simp only [put9])
            (refine plan_pure ?_ rfl rfl (fun w'=>?_) ?_;rotate_left;(go_simp;try with_reducible rfl);simp only [put9])
            (refine plan_pure ?_ rfl rfl (fun w'=>?_) ?_;rotate_left;(go_simp;try with_reducible rfl);simp only [put9])
            (refine plan_pure ?_ rfl rfl (fun w'=>?_) ?_;rotate_left;(go_simp;try with_reducible rfl);simp only [put9])
            refine plan_nil ?_
            intro w4 L4
            simp only [List.drop_succ_cons,List.drop_zero]
            try simp only [put9]
            replace own:=own.call L4
            replace o:=o.trans (L4.mono (by have:=o.size;omega))
            clear L4
            generalize cur.set b ⟨t1,L+1⟩=cS at own hsc
            have OC:=(own.cut (k:=b+1) (by omega)).row hbg
            rw [bcells_take] at OC
            have RD:Reads w4 w4.heap.size 2 AD (nn-(b+2)) (bcells (cS.drop (b+2))):=by
              have RD:=reads_drop own (j:=b+2) (by omega)
              rw [bcells_drop] at RD
              by_cases hcb:c'=b+2
              · exact ⟨RD.1,fun hn=>by have:=own.cap.1;omega⟩
              · rw [if_neg hcb] at hAD
                rw [← hAD]
                exact RD
            have zs:=o.size
            go_upto_region 12 with (at_builtin;refine wpList_append_any _ rfl _ _ 30 rfl base 318 ib (.agg #[.int .i64 0, .int .i64 0]) 2 16 Tryz.underlying30 hib iz0 iz1 iz2 rfl (by decide) (.slice (some ⟨g,0,none⟩) (b+1) c') (b+1) (bcells (cS.take (b+1))) rfl OC w4.heap.size AD (nn-(b+2)) (c'-(b+2)) (bcells (cS.drop (b+2))) rfl RD (bcells_one _) (by unfold maxLen;omega) (by omega) (by omega) ?_;intro v6 w6 own6 hg6 hat6)
            rw [← bcells_append,hsc,show b+1+(nn-(b+2))=nn-1 by omega] at own6
            replace o:=below_grown o hg6 (fun q hq=>by have e9:g=q:=Option.some.inj hq;omega) (by omega)
            obtain ⟨g6,c6,rfl,own7,hb6⟩:=orow_pos own6 (by omega)
            replace HS:=Lib.hid HS
            clear own6 own OC RD hsc hg6 hat6
            go_wp2
            go_roundw
            case rel=>exact ⟨g6,c6,nn-1,_,b+1,L+1,rfl,by go_num,by go_num,own7,hb6,HS,o⟩
            case measure=>simp [lenB];omega
end Go.Proofs.YtdipoojjlddohaaGreat
end
section
/- Plain arithmetic of numbers of 128 bits kept in two words: no program is in sight. -/
namespace Go.Proofs.YtdipoojjlddohaaGreat
open Go.RowKit

def big:Nat:=340282366920938463463374607431768211456
def hi (n:Nat):Int:=((n / 18446744073709551616:Nat):Int)
def lo (n:Nat):Int:=((n % 18446744073709551616:Nat):Int)
abbrev W (n:Nat):Value := .agg #[.int .u64 (hi n), .int .u64 (lo n)]
def Word (x:Int):Prop:=0≤x∧x<18446744073709551616

theorem hi_word {n:Nat} (h:n<big):Word (hi n):=by unfold Word hi big at *;omega
theorem lo_word (n:Nat):Word (lo n):=by unfold Word lo;omega
theorem hi_inj {a b:Nat} (h:hi a=hi b) (k:lo a=lo b):a=b:=by unfold hi lo at *;omega

def bor (x y:Int):Int:=if x<y then 1 else 0
theorem bor_0 (x y:Int):0≤bor x y:=by unfold bor;split<;>omega
theorem bor_1 (x y:Int):bor x y≤1:=by unfold bor;split<;>omega
def cmp (a b:Nat):Int:=if a<b then -1 else if a=b then 0 else 1
theorem cmp_lt {a b:Nat} (h:a<b):cmp a b = -1:=by simp [cmp,h]
theorem cmp_eq (a:Nat):cmp a a=0:=by simp [cmp]
theorem cmp_gt {a b:Nat} (h:b<a):cmp a b=1:=by unfold cmp;rw [if_neg (by omega),if_neg (by omega)]
theorem lt_words {a b:Nat} (h:a<b):hi a<hi b∨hi a=hi b∧lo a<lo b:=by unfold hi lo;omega

theorem hi_small {n:Nat} (h:n<18446744073709551616):hi n=0:=by unfold hi;omega
theorem lo_small {n:Nat} (h:n<18446744073709551616):lo n=n:=by unfold lo;omega
theorem lo_toNat (n:Nat):(lo n).toNat=n % 18446744073709551616:=by unfold lo;omega
theorem hi_toNat (n:Nat):(hi n).toNat=n / 18446744073709551616:=by unfold hi;omega
theorem bcell {W w1:World} (hb:Below W.heap.size W w1):(∀ b o,b<W.heap.size→w1.cell? ⟨b,o,none⟩=W.cell? ⟨b,o,none⟩)∧(∀ b o,b<W.heap.size→w1.frozen? ⟨b,o,none⟩=W.frozen? ⟨b,o,none⟩) :=
  ⟨fun b o h=>hb.cell (p:=⟨b,o,none⟩) h,fun b o h=>hb.frozen (p:=⟨b,o,none⟩) h⟩

theorem cmp_nonneg {a b:Nat} (h:b≤a):0≤cmp a b:=by
  unfold cmp
  rw [if_neg (by omega)]
  split<;>omega
end Go.Proofs.YtdipoojjlddohaaGreat
end
section
/- Spreads of marks: which marks have one; plain. -/
namespace Go.Proofs.YtdipoojjlddohaaGreat
def rightP (n s q:Int):Prop:=1≤n∧n≤65536 ∧ -n*4096≤s∧s≤n*4096∧0≤q∧q≤n*4096*4096∧s*s≤n*q
instance (n s q:Int):Decidable (rightP n s q):=by unfold rightP;infer_instance
def topN (n s q:Int):Nat:=(n*q-s*s).toNat
end Go.Proofs.YtdipoojjlddohaaGreat
end
section
/- The model words for the sum and the difference of two words with a carry. -/
namespace Go.Proofs.YtdipoojjlddohaaGreat
open Go.RowKit Go.Shelf

theorem sub64 (x y b:Int) (hx:0≤x) (hy:0≤y) (hy':y<18446744073709551616) (hb0:0≤b) (hb:b≤1) (w:World):(callFunc 247 #[.int .u64 x, .int .u64 y, .int .u64 b]).run Tryz.prog w =
    .ok (.value (.tuple #[.int .u64 ((x-y-b) % 18446744073709551616), .int .u64 (bor x (y+b))])) w:=by
  obtain ⟨x,rfl⟩:=Int.eq_ofNat_of_zero_le hx
  obtain ⟨y,rfl⟩:=Int.eq_ofNat_of_zero_le hy
  obtain ⟨b,rfl⟩:=Int.eq_ofNat_of_zero_le hb0
  have e1:(((x+18446744073709551616-y-b) % 18446744073709551616:Nat):Int)=((x:Int)-y-b) % 18446744073709551616:=by omega
  have e2:((if x<y+b then 1 else 0:Nat):Int)=bor (x:Int) ((y:Int)+b):=by unfold bor;split<;>split<;>omega
  rw [← e1,← e2,run_callFunc_extern Tryz.func247 (by kernel_rfl) (by kernel_rfl) (by kernel_rfl) (e:=sub64Entry) (by kernel_rfl),run_sub64 x y b (by omega)]
  rfl
theorem sub64_0 (x y:Int) (hx:0≤x) (hy:0≤y) (hy':y<18446744073709551616) (w:World):(callFunc 247 #[.int .u64 x, .int .u64 y, .int .u64 0]).run Tryz.prog w =
    .ok (.value (.tuple #[.int .u64 ((x-y) % 18446744073709551616), .int .u64 (bor x y)])) w:=by
  simpa using sub64 x y 0 hx hy hy' (Int.le_refl 0) (by decide) w
end Go.Proofs.YtdipoojjlddohaaGreat
end
section
/- Sums, differences and the order of wide numbers, walked: the program and the reference. -/
namespace Go.Proofs.YtdipoojjlddohaaGreat
open Go.RowKit Go.Shelf

theorem pcmp_any (a b:Nat) (w:World) :
    Calls Tryz.prog 235 #[W a,W b] w fun e w'=>e = .returned (.int .i64 (cmp a b))∧Below w.heap.size w w':=by
  rcases Nat.lt_trichotomy a b with h | h | h
  · rw [cmp_lt h]
    rcases lt_words h with k | ⟨k,l⟩
    all_goals
      go_enter Tryz.func235,Tryz.ntmps235
      go_wp2
      go_ret
      exact ⟨rfl,(((Below.refl _ _).alloc (Nat.le_refl _) _).alloc (by simp) _)⟩
  · subst h
    rw [cmp_eq]
    go_enter Tryz.func235,Tryz.ntmps235
    go_wp2
    go_ret
    exact ⟨rfl,(((Below.refl _ _).alloc (Nat.le_refl _) _).alloc (by simp) _)⟩
  · rw [cmp_gt h]
    rcases lt_words h with k | ⟨k,l⟩
    all_goals
      go_enter Tryz.func235,Tryz.ntmps235
      go_wp2
      go_ret
      exact ⟨rfl,(((Below.refl _ _).alloc (Nat.le_refl _) _).alloc (by simp) _)⟩
theorem rcmp_any (a b:Nat) (w:World) :
    Calls Tryz.prog 304 #[W a,W b] w fun e w'=>e = .returned (.int .i64 (cmp a b))∧Below w.heap.size w w':=by
  rcases Nat.lt_trichotomy a b with h | h | h
  · rw [cmp_lt h]
    rcases lt_words h with k | ⟨k,l⟩
    all_goals
      go_enter Tryz.func304,Tryz.ntmps304
      go_wp2
      go_ret
      exact ⟨rfl,(((Below.refl _ _).alloc (Nat.le_refl _) _).alloc (by simp) _)⟩
  · subst h
    rw [cmp_eq]
    go_enter Tryz.func304,Tryz.ntmps304
    go_wp2
    go_ret
    exact ⟨rfl,(((Below.refl _ _).alloc (Nat.le_refl _) _).alloc (by simp) _)⟩
  · rw [cmp_gt h]
    rcases lt_words h with k | ⟨k,l⟩
    all_goals
      go_enter Tryz.func304,Tryz.ntmps304
      go_wp2
      go_ret
      exact ⟨rfl,(((Below.refl _ _).alloc (Nat.le_refl _) _).alloc (by simp) _)⟩
end Go.Proofs.YtdipoojjlddohaaGreat
end
section
/- Small functions on wide numbers, walked: the program and the reference. -/
namespace Go.Proofs.YtdipoojjlddohaaGreat
open Go.RowKit Go.Shelf

theorem len64 (x:Int) (w:World) (h0:0≤x) (h1:x≤18446744073709551615) :
    Calls Tryz.prog 245 #[.int .u64 x] w fun e w'=>e = .returned (.int .i64 (Lib.bitLen x.toNat))∧w'=w:=Tryz.bits_Len64 x w h0 h1
theorem mul64 (x y:Int) (hx:Word x) (hy:Word y) (w:World) :
    Calls Tryz.prog 181 #[.int .u64 x, .int .u64 y] w fun e w'=>e = .returned (.tuple #[.int .u64 (hi (x.toNat*y.toNat)), .int .u64 (lo (x.toNat*y.toNat))])∧w'=w:=by
  obtain ⟨x,rfl⟩:=Int.eq_ofNat_of_zero_le hx.1
  obtain ⟨y,rfl⟩:=Int.eq_ofNat_of_zero_le hy.1
  exact Tryz.bits_Mul64 x y (by have:=hx.2;omega) (by have:=hy.2;omega) w

theorem pproduct (x y:Int) (hx:Word x) (hy:Word y) (w:World) :
    Calls Tryz.prog 89 #[.int .u64 x, .int .u64 y] w fun e w'=>e = .returned (W (x.toNat*y.toNat))∧Below w.heap.size w w':=by
  go_enter Tryz.func89,Tryz.ntmps89
  go_wp2_with (go_at_call 181;refine (mul64 x y hx hy _).mono ?_;rintro e w' ⟨rfl,rfl⟩)
  simp [bodyPost,results,Tryz.results89,go_sem]
  exact ((Below.refl _ _).alloc (Nat.le_refl _) _)
theorem pof (n:Nat) (hn:n<18446744073709551616) (w:World) :
    Calls Tryz.prog 76 #[.int .u64 n] w fun e w'=>e = .returned (W n)∧Below w.heap.size w w':=by
  have e1:=hi_small hn
  have e2:=lo_small hn
  go_enter Tryz.func76,Tryz.ntmps76
  go_wp2
  simp [bodyPost,results,Tryz.results76,go_sem,e1,e2]
  exact ((Below.refl _ _).alloc (Nat.le_refl _) _)
theorem rof (n:Nat) (hn:n<18446744073709551616) (w:World) :
    Calls Tryz.prog 243 #[.int .u64 n] w fun e w'=>e = .returned (W n)∧Below w.heap.size w w':=by
  have e1:=hi_small hn
  have e2:=lo_small hn
  go_enter Tryz.func243,Tryz.ntmps243
  go_wp2
  simp [bodyPost,results,Tryz.results243,go_sem,e1,e2]
  exact ((Below.refl _ _).alloc (Nat.le_refl _) _)
theorem pzero (n:Nat) (w:World) :
    Calls Tryz.prog 163 #[W n] w fun e w'=>e = .returned (.bool (decide (n=0)))∧Below w.heap.size w w':=by
  by_cases h:n=0
  · subst h
    go_enter Tryz.func163,Tryz.ntmps163
    go_wp2
    go_ret
    exact ⟨rfl,(Below.refl _ _).alloc (Nat.le_refl _) _⟩
  · have hd:decide (n=0)=false:=by simpa using h
    rw [hd]
    clear hd
    by_cases k:hi n=0
    · have l:¬ lo n=0:=fun l=>h (hi_inj (b:=0) k l)
      have l':(lo n == 0)=false:=by simpa using l
      go_enter Tryz.func163,Tryz.ntmps163
      go_wp2
      go_ret
      exact ⟨rfl,(Below.refl _ _).alloc (Nat.le_refl _) _⟩
    · have k':(hi n == 0)=false:=by simpa using k
      go_enter Tryz.func163,Tryz.ntmps163
      go_wp2
      go_ret
      exact ⟨rfl,(Below.refl _ _).alloc (Nat.le_refl _) _⟩
end Go.Proofs.YtdipoojjlddohaaGreat
end
