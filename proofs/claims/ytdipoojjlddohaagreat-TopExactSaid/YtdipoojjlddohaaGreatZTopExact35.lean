/- What the law TopExact needs, joined of its texts by a program (slim2.py); part 35. -/
import Derived.Test.YtdipoojjlddohaaGreatZTopExact1
import Derived.Test.YtdipoojjlddohaaGreatZTopExact31
import Derived.Test.YtdipoojjlddohaaGreatZTopExact33
import Derived.Test.YtdipoojjlddohaaGreatZTopExact34
set_option linter.unusedVariables false
set_option linter.unusedSimpArgs false
set_option linter.unusedSectionVars false
set_option linter.unnecessarySimpa false
section
/- The exact sum with polynomial decay, walked. -/
namespace Go.Proofs.YtdipoojjlddohaaGreat
open Go.RowKit Go.Shelf
theorem pxtick (x:Int) (h0:0≤x) (h1:x≤16777216) (w:World):Calls Tryz.prog 74 #[.int .i64 x] w fun e w'=>e = .returned (.bool true)∧w'=w:=by
  go_enter Tryz.func74,Tryz.ntmps74
  go_wp2_with fail
  go_ret
  exact ⟨by first | rfl | exact ret_boolP (by simp;omega) | exact ret_boolP (by simp [*]),rfl⟩
set_option maxHeartbeats 4000000 in
theorem pexpoly (p:Nat) (land now:Int) (A:Option Addr) (m c:Nat) (l:List Itm) (w:World) (hp:p≤4) (h0:0≤land) (h1:land≤16777216) (hnow:now≤16777216) (hf:Fit land now l) (hr:Reads w w.heap.size 2 A m (icells l)) (hl:m≤900) :
    Calls Tryz.prog 26 #[.slice A m c, .int .i64 land, .int .i64 (p:Nat)] w fun e w'=>e = .returned (.tuple #[W (pmom land l p), .bool true])∧Below w.heap.size w w':=by
  have hlen:=hr.itm_len
  have HL:=Lib.hid hlen
  have HR:=Lib.hid hr
  have HF:=Lib.hid hf
  have q1:¬ (p:Int)<0:=by omega
  have q2:¬ 4<(p:Int):=by omega
  clear hlen hr hf
  go_enter Tryz.func26,Tryz.ntmps26
  go_upto_region 4 with (first | (go_at_call 74;refine (pxtick _ h0 h1 _).mono ?_;rintro e w9 ⟨rfl,h9⟩;obtain rfl:=h9.symm))
  have r:Row ((w.alloc (.cells #[.int .u64 0, .int .u64 0] 67)).alloc (.cells #[.int .u64 0, .int .u64 0] 67)) w.heap.size 67 #[.int .u64 0, .int .u64 0]:=row_alloc (row_new rfl) _
  have s0:Row ((w.alloc (.cells #[.int .u64 0, .int .u64 0] 67)).alloc (.cells #[.int .u64 0, .int .u64 0] 67)) (w.heap.size+1) 67 #[.int .u64 0, .int .u64 0]:=row_new (by simp)
  have s:Row ((w.alloc (.cells #[.int .u64 0, .int .u64 0] 67)).alloc (.cells #[.int .u64 0, .int .u64 0] 67)) (w.heap.size+1) 67 #[.int .u64 (hi (pmom land (l.take 0) p)), .int .u64 (lo (pmom land (l.take 0) p))]:=by
    have e:pmom land (l.take 0) p=0:=by rw [List.take_zero];exact pmom_nil _ _
    rw [e,hi_0,lo_0]
    exact s0
  clear s0
  have o:Below w.heap.size w ((w.alloc (.cells #[.int .u64 0, .int .u64 0] 67)).alloc (.cells #[.int .u64 0, .int .u64 0] 67)):=by (repeat (first | exact Below.refl _ _ | refine Below.setCell ?_ (by (try simp)<;>omega) _ | refine Below.alloc ?_ (by (try simp)<;>omega) _ | refine Below.drew ?_ | refine Below.trans ?_ (Below.mono (by assumption) (by (try simp)<;>omega))))
  generalize ((w.alloc (.cells #[.int .u64 0, .int .u64 0] 67)).alloc (.cells #[.int .u64 0, .int .u64 0] 67))=w1 at r s o ⊢
  clear q1 q2
  go_wp2
  go_loopw [29] (fun i wr=>∃ k:Nat,k≤m∧i = .int .i64 (k:Nat)∧Row wr w.heap.size 67 #[.int .u64 0, .int .u64 0]∧Row wr (w.heap.size+1) 67 #[.int .u64 (hi (pmom land (l.take k) p)), .int .u64 (lo (pmom land (l.take k) p))]∧Below w.heap.size w wr) (fun i _=>m-(intOf i).toNat)
  case atStart=>exact ⟨0,by omega,rfl,r,s,o⟩
  case round =>
    clear r s o
    obtain ⟨k,hk,rfl,r,s,o⟩:=hrel
    by_cases hlt:k<m
    · obtain ⟨ad,rfl,hadb,ht0⟩:=HR.out.itm hlt
      obtain ⟨g0,g1⟩:=ht0.below o (by rw [block_of_add];exact hadb)
      have kl:k<l.length:=by rw [HL.out];exact hlt
      have xm:itmAt l k∈l:=by rw [← itm_eq kl];exact List.getElem_mem kl
      obtain ⟨b1,b2,b3,b4⟩:=HF.out _ xm
      have hst:pmom land (l.take (k+1)) p=pmom land (l.take k) p+powN (ageN land (itmAt l k).t) p*(itmAt l k).v.toNat:=by rw [take_snoc kl,pmom_snoc];rfl
      have hb4:pmom land (l.take (k+1)) p<big:=pmom_fits h0 hnow hp (fun x hx=>HF.out x (List.mem_of_mem_take hx)) (by rw [List.length_take];omega)
      generalize (itmAt l k).t=tk at g0 b1 b2 hst
      obtain ⟨vn,hvn⟩:∃ vn:Nat,(itmAt l k).v=(vn:Int):=⟨(itmAt l k).v.toNat,by omega⟩
      rw [hvn] at g1 b3 b4 hst
      rw [Int.toNat_natCast] at hst
      obtain ⟨a1,a2⟩:=ageN_bound h0 b1 (show tk≤16777216 by omega)
      have ai:=ageN_int b1
      generalize ageN land tk=av at a1 a2 ai hst
      have wa:IntKind.i64.wrap (tk-land)=tk-land:=IntWalk.i64_in _ (by omega)
      have wb:IntKind.i64.wrap (tk-land+1)=tk-land+1:=IntWalk.i64_in _ (by omega)
      have wc:IntKind.u64.wrap (tk-land+1)=(av:Int):=by rw [IntWalk.u64_in _ (by omega)];omega
      have wv:IntKind.u64.wrap (vn:Int)=(vn:Int):=IntWalk.u64_in _ (by omega)
      have PO:=Lib.hid (fun w=>pof vn (by omega) w)
      have PW:=fun w=>ppow_any av (by omega) (p:Int) (by omega) w
      rw [powIV_nat,powIB_nat,(pow_yes (powN_fits a2 hp)).1,(pow_yes (powN_fits a2 hp)).2] at PW
      have ub:=powT_fits (v:=vn) a2 hp (by omega)
      have ub':vn*powN av p<big:=by rw [Nat.mul_comm];exact ub
      have PM:=fun w=>pmul (powN av p) vn (powN_fits a2 hp) (by unfold big;omega) w
      rw [(mulV_yes ub).1,(mulV_yes ub).2] at PM
      generalize powN av p*vn=u at PM ub hst
      generalize powN av p=pj at PW PM
      generalize hs0:pmom land (l.take k) p=s0 at s hst
      generalize hr0:pmom land (l.take (k+1)) p=s1 at hst hb4
      have HRR:=Lib.hid hr0
      subst hst
      have PA:=Lib.hid (fun w=>padd_fits s0 u (by omega) ub hb4 w)
      have PW:=Lib.hid PW
      have PM:=Lib.hid PM
      have j1:(k:Int)<(m:Int):=by omega
      have j2:(0:Int)≤(k:Int):=by omega
      have t1:0≤tk:=by omega
      have t2:tk≤16777216:=by omega
      have t3:¬ tk<land:=by omega
      have t4:¬ (vn:Int)<0:=by omega
      clear ht0 hs0 hr0 hvn xm ai ub'
      have zt:w.heap.size+1<wr.heap.size:=row_lt s
      go_upto_region 7 with (fail)
      replace r:=row_alloc r (.cells #[.int .i64 tk, .int .i64 (vn:Nat)] 90)
      replace s:=row_alloc s (.cells #[.int .i64 tk, .int .i64 (vn:Nat)] 90)
      replace o:=o.alloc o.size (.cells #[.int .i64 tk, .int .i64 (vn:Nat)] 90)
      have ti:Row (wr.alloc (.cells #[.int .i64 tk, .int .i64 (vn:Nat)] 90)) wr.heap.size 90 #[.int .i64 tk, .int .i64 (vn:Nat)]:=row_new rfl
      generalize wr.alloc (.cells #[.int .i64 tk, .int .i64 (vn:Nat)] 90)=wq at r s o ti ⊢
      generalize wr.heap.size=tb at ti zt ⊢
      clear g0 g1
      obtain ⟨I0,I1,If0,If1⟩:=row_two ti
      go_upto_region 10 with (first | (go_at_call 74;refine (pxtick _ t1 t2 _).mono ?_;rintro e w9 ⟨rfl,h9⟩;obtain rfl:=h9.symm) | (go_at_call 78;with_reducible refine (PW.out _).mono ?_;rintro e w1 ⟨rfl,hb1⟩;have hz1:=hb1.size;(try simp at hz1)))
      clear I0 I1 If0 If1
      replace r:=row_call r hb1
      replace s:=row_call s hb1
      replace ti:=row_call ti hb1
      replace o:=o.trans (hb1.mono o.size)
      replace r:=row_alloc r (.cells #[.int .u64 (hi pj), .int .u64 (lo pj)] 67)
      replace s:=row_alloc s (.cells #[.int .u64 (hi pj), .int .u64 (lo pj)] 67)
      replace ti:=row_alloc ti (.cells #[.int .u64 (hi pj), .int .u64 (lo pj)] 67)
      replace o:=o.alloc o.size (.cells #[.int .u64 (hi pj), .int .u64 (lo pj)] 67)
      have k1:Row (w1.alloc (.cells #[.int .u64 (hi pj), .int .u64 (lo pj)] 67)) w1.heap.size 67 #[.int .u64 (hi pj), .int .u64 (lo pj)]:=row_new rfl
      generalize w1.alloc (.cells #[.int .u64 (hi pj), .int .u64 (lo pj)] 67)=w2 at r s ti o k1 ⊢
      generalize w1.heap.size=b1 at k1 hz1 ⊢
      clear hb1
      refine wp_region_free1 [0,1,2,3,4,5,6,8,7] [8] [0,1,2,3,4,5,6,7,9] (9,67,#[.int .u64 0, .int .u64 0]) 13 10 (fun w'=>Below w2.heap.size w2 w') (by kernel_rfl) (by kernel_rfl) ⟨_,_,rfl,rfl,rfl,fun ρ w'=>by go_simp⟩ rfl (by simp) (fun _ h=>h.alloc h.size _) (fun _ _ d _ _ h=>by cases d<;>exact h) ?_ ?_
      · exact (Below.refl _ _).drew
      (refine plan_val ?_ rfl rfl rfl (fun w' hS=>?_) ?_;rotate_left;(obtain ⟨Q0,Q1,Qf0,Qf1⟩:=row_two (row_call k1 hS);obtain ⟨I0,I1,If0,If1⟩:=row_two (row_call ti hS);go_simp;try with_reducible rfl);simp only [put9])
      (refine plan_pure ?_ rfl rfl (fun w'=>?_) ?_;rotate_left;(go_simp;try with_reducible rfl);simp only [put9])
      (refine plan_val ?_ rfl rfl rfl (fun w' hS=>?_) ?_;rotate_left;(obtain ⟨Q0,Q1,Qf0,Qf1⟩:=row_two (row_call k1 hS);obtain ⟨I0,I1,If0,If1⟩:=row_two (row_call ti hS);go_simp;try with_reducible rfl);simp only [put9])
      (refine plan_pure ?_ rfl rfl (fun w'=>?_) ?_;rotate_left;(go_simp;try with_reducible rfl);simp only [put9])
      refine plan_call (W vn) 76 #[.int .u64 (vn:Nat)] rfl rfl rfl (fun _ _ h hb=>h.trans (hb.mono h.size)) (fun w' hS=>by obtain ⟨Q0,Q1,Qf0,Qf1⟩:=row_two (row_call k1 hS);obtain ⟨I0,I1,If0,If1⟩:=row_two (row_call ti hS);go_simp) (fun w' hS=>PO.out w') ?_
      simp only [put9]
      refine plan_call (.tuple #[W u, .bool true]) 79 #[W pj,W vn] rfl rfl rfl (fun _ _ h hb=>h.trans (hb.mono h.size)) (fun w' hS=>by obtain ⟨Q0,Q1,Qf0,Qf1⟩:=row_two (row_call k1 hS);obtain ⟨I0,I1,If0,If1⟩:=row_two (row_call ti hS);go_simp) (fun w' hS=>PM.out w') ?_
      simp only [put9]
      (refine plan_pure ?_ rfl rfl (fun w'=>?_) ?_;rotate_left;(go_simp;try with_reducible rfl);simp only [put9])
      (refine plan_pure ?_ rfl rfl (fun w'=>?_) ?_;rotate_left;(go_simp;try with_reducible rfl);simp only [put9])
      (refine plan_pure ?_ rfl rfl (fun w'=>?_) ?_;rotate_left;(go_simp;try with_reducible rfl);simp only [put9])
      refine plan_nil ?_
      intro g8 w3 L3 hr8 hg8
      simp only [List.drop_succ_cons,List.drop_zero]
      try simp only [put9]
      have zk1:=row_lt k1
      have zr:=row_lt r
      have zs:=row_lt s
      have zti:=row_lt ti
      have zo:=o.size
      replace r:=row_call r L3
      replace s:=row_call s L3
      replace o:=o.trans (L3.mono o.size)
      clear k1 L3 ti
      obtain ⟨Q0,Q1,Qf0,Qf1⟩:=row_two hr8
      go_upto_region 11 with (fail)
      clear Q0 Q1 Qf0 Qf1
      replace r:=row_other (p:=⟨g8,0,none⟩) r (by show w.heap.size≠g8;omega) (.int .u64 (hi u))
      replace s:=row_other (p:=⟨g8,0,none⟩) s (by show w.heap.size+1≠g8;omega) (.int .u64 (hi u))
      replace o:=o.setCell (p:=⟨g8,0,none⟩) (by show w.heap.size≤g8;omega) (.int .u64 (hi u))
      replace r:=row_other (p:=⟨g8,1,none⟩) r (by show w.heap.size≠g8;omega) (.int .u64 (lo u))
      replace s:=row_other (p:=⟨g8,1,none⟩) s (by show w.heap.size+1≠g8;omega) (.int .u64 (lo u))
      replace o:=o.setCell (p:=⟨g8,1,none⟩) (by show w.heap.size≤g8;omega) (.int .u64 (lo u))
      have k2:=row_two_set (u := .int .u64 (hi u)) (v := .int .u64 (lo u)) hr8
      generalize ((w3.setCell ⟨g8,0,none⟩ (.int .u64 (hi u))).setCell ⟨g8,1,none⟩ (.int .u64 (lo u)))=w6 at r s o k2 ⊢
      clear hr8
      obtain ⟨Q0,Q1,Qf0,Qf1⟩:=row_two k2
      obtain ⟨S0,S1,Sf0,Sf1⟩:=row_two s
      go_upto_region 14 with (go_at_call 77;with_reducible refine (PA.out _).mono ?_;rintro e w9 ⟨rfl,hb9⟩;have s9:=row_call s hb9;obtain ⟨T0,T1,Tf0,Tf1⟩:=row_two s9)
      clear Q0 Q1 Qf0 Qf1 S0 S1 Sf0 Sf1 T0 T1 Tf0 Tf1 s9
      replace r:=row_call r hb9
      replace s:=row_call s hb9
      replace o:=o.trans (hb9.mono o.size)
      clear hb9 k2
      replace r:=row_other (p:=⟨(w.heap.size+1),0,none⟩) r (by show w.heap.size≠w.heap.size+1;omega) (.int .u64 (hi (s0+u)))
      replace o:=o.setCell (p:=⟨(w.heap.size+1),0,none⟩) (by show w.heap.size≤w.heap.size+1;omega) (.int .u64 (hi (s0+u)))
      replace r:=row_other (p:=⟨(w.heap.size+1),1,none⟩) r (by show w.heap.size≠w.heap.size+1;omega) (.int .u64 (lo (s0+u)))
      replace o:=o.setCell (p:=⟨(w.heap.size+1),1,none⟩) (by show w.heap.size≤w.heap.size+1;omega) (.int .u64 (lo (s0+u)))
      have s2:Row ((w9.setCell ⟨(w.heap.size+1),0,none⟩ (.int .u64 (hi (s0+u)))).setCell ⟨(w.heap.size+1),1,none⟩ (.int .u64 (lo (s0+u)))) (w.heap.size+1) 67 #[.int .u64 (hi (s0+u)), .int .u64 (lo (s0+u))]:=row_two_set s
      clear s
      generalize ((w9.setCell ⟨(w.heap.size+1),0,none⟩ (.int .u64 (hi (s0+u)))).setCell ⟨(w.heap.size+1),1,none⟩ (.int .u64 (lo (s0+u))))=w10 at r o s2 ⊢
      go_wp2
      go_roundw
      case rel=>exact ⟨k+1,by omega,by go_num,r,by rw [HRR.out];exact s2,o⟩
      case measure=>simp [intOf];omega
    · have j1:¬ (k:Int)<(m:Int):=by omega
      obtain rfl:k=m:=by omega
      rw [List.take_of_length_le (by rw [HL.out];exact Nat.le_refl _)] at s
      obtain ⟨S0,S1,Sf0,Sf1⟩:=row_two s
      obtain ⟨R0,R1,Rf0,Rf1⟩:=row_two r
      go_wp2
      exact bodyPost_ret (v := .tuple #[W (pmom land l p), .bool true]) (by simp [results,Tryz.results26,go_sem,R0,R1,W]) rfl ⟨rfl,by (repeat (first | exact Below.refl _ _ | refine Below.setCell ?_ (by (try simp)<;>omega) _ | refine Below.alloc ?_ (by (try simp)<;>omega) _ | refine Below.drew ?_ | refine Below.trans ?_ (Below.mono (by assumption) (by (try simp)<;>omega))))⟩
end Go.Proofs.YtdipoojjlddohaaGreat
end
