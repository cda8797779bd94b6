/- What the law TopRelative needs, joined of its texts by a program (slim2.py); part 38. -/
import Derived.Test.YtdipoojjlddohaaGreatZTopRelative1
import Derived.Test.YtdipoojjlddohaaGreatZTopRelative13
import Derived.Test.YtdipoojjlddohaaGreatZTopRelative25
import Derived.Test.YtdipoojjlddohaaGreatZTopRelative37
set_option linter.unusedVariables false
set_option linter.unusedSimpArgs false
set_option linter.unusedSectionVars false
set_option linter.unnecessarySimpa false
set_option maxRecDepth 100000
namespace Go.Proofs.YtdipoojjlddohaaGreat
open MC
open MT
open Go.RowKit
def upS:List Itm->Nat
  | []=>0
  | x :: l=>x.v.toNat+upS l
def dnS:List Itm->Nat
  | []=>0
  | x :: l=>(-x.v).toNat+dnS l
theorem upS_append:∀ a b:List Itm,upS (a ++ b)=upS a+upS b
  | [],b=>by simp [upS]
  | x :: a,b=>by rw [List.cons_append,upS,upS,upS_append a b];omega
theorem dnS_append:∀ a b:List Itm,dnS (a ++ b)=dnS a+dnS b
  | [],b=>by simp [dnS]
  | x :: a,b=>by rw [List.cons_append,dnS,dnS,dnS_append a b];omega
theorem updn:∀ l:List Itm,isum l=upS l-dnS l
  | []=>rfl
  | x :: l=>by rw [isum,upS,dnS,updn l];omega
theorem updn_take {l:List Itm} {k:Nat} (h:k<l.length):upS (l.take (k+1))=upS (l.take k)+(itmAt l k).v.toNat/\dnS (l.take (k+1))=dnS (l.take k)+(-(itmAt l k).v).toNat:=by
  rw [List.take_succ_eq_append_getElem h,itm_eq h,upS_append,dnS_append];simp [upS,dnS]
theorem updn_le:∀ {l:List Itm},(∀ x∈l, -4096<=x.v/\x.v<=4096)->upS l+dnS l<=4096*l.length
  | [],_=>by simp [upS,dnS]
  | x :: l,h=>by
    have h1:=h x (by simp);have h2:=updn_le (l:=l) fun y hy=>h y (by simp [hy]);rw [upS,dnS,List.length_cons];omega
theorem updn_bd {l:List Itm} (h:∀ x∈l, -4096<=x.v/\x.v<=4096) (hl:l.length<=100000) (k:Nat):upS (l.take k)+dnS (l.take k)<=409600000:=by
  have:=updn_le (l:=l.take k) fun x hx=>h x (List.mem_of_mem_take hx);rw [List.length_take] at this;omega
theorem psizeE (v:Int) (w:World) (v0 : -4096<=v) (v1:v<=4096):Calls Tryz.prog 173 #[v] w (Rd (.int .u64 (v.natAbs:Nat)) w):=by
  by_cases h:v<0
  · have w1:IntKind.u64.wrap (-IntKind.u64.wrap v)=(v.natAbs:Nat):=neg_wrap v (by omega) h;go_enter Tryz.func173,Tryz.ntmps173;go_wp2_with fail;go_ret;exact ⟨by first | rfl | rw [<- w1],rfl⟩
  · have w1:IntKind.u64.wrap v=(v.natAbs:Nat):=by rw [IntWalk.u64_in _ (by omega)];omega
    go_enter Tryz.func173,Tryz.ntmps173;go_wp2_with fail;go_ret;exact ⟨rfl,rfl⟩
set_option maxRecDepth 100000 in
set_option maxHeartbeats 4000000 in
theorem ptotal (A:Option Addr) (m c:Nat) (l:List Itm) (w:World) (hr:Reads w w.heap.size 2 A m (icells l)) (hm:m<=100000) (hv:∀ x∈l, -4096<=x.v/\x.v<=4096):Calls Tryz.prog 169 #[.slice A m c] w (Rr (.tuple #[.bool (decide (isum l<0)),W (isum l).natAbs]) w):=by
  have HL:=Lib.hid hr.itm_len;have HR:=Lib.hid hr;have HV:=Lib.hid hv;have HB:=Lib.hid (updn_bd hv (by rw [hr.itm_len];exact hm));clear hr hv;go_enter Tryz.func169,Tryz.ntmps169;go_wp2;have R:Row (((w.alloc (.cells #[.int .u64 0, .int .u64 0] 67)).alloc (.cells #[.int .u64 0, .int .u64 0] 67)).alloc (.cells #[.int .u64 0, .int .u64 0] 67)) w.heap.size 67 #[.int .u64 0, .int .u64 0]:=row_alloc (row_alloc (row_new rfl) _) _;have U0:Row (((w.alloc (.cells #[.int .u64 0, .int .u64 0] 67)).alloc (.cells #[.int .u64 0, .int .u64 0] 67)).alloc (.cells #[.int .u64 0, .int .u64 0] 67)) (w.heap.size+1) 67 #[.int .u64 0, .int .u64 0]:=row_alloc (row_new (by simp)) _;have D0:Row (((w.alloc (.cells #[.int .u64 0, .int .u64 0] 67)).alloc (.cells #[.int .u64 0, .int .u64 0] 67)).alloc (.cells #[.int .u64 0, .int .u64 0] 67)) (w.heap.size+2) 67 #[.int .u64 0, .int .u64 0]:=row_new (by simp);have U:Row (((w.alloc (.cells #[.int .u64 0, .int .u64 0] 67)).alloc (.cells #[.int .u64 0, .int .u64 0] 67)).alloc (.cells #[.int .u64 0, .int .u64 0] 67)) (w.heap.size+1) 67 #[.int .u64 (hi (upS (l.take 0))), .int .u64 (lo (upS (l.take 0)))]:=by rw [List.take_zero];exact U0
  have D:Row (((w.alloc (.cells #[.int .u64 0, .int .u64 0] 67)).alloc (.cells #[.int .u64 0, .int .u64 0] 67)).alloc (.cells #[.int .u64 0, .int .u64 0] 67)) (w.heap.size+2) 67 #[.int .u64 (hi (dnS (l.take 0))), .int .u64 (lo (dnS (l.take 0)))]:=by rw [List.take_zero];exact D0
  clear U0 D0;have o:Below w w (((w.alloc (.cells #[.int .u64 0, .int .u64 0] 67)).alloc (.cells #[.int .u64 0, .int .u64 0] 67)).alloc (.cells #[.int .u64 0, .int .u64 0] 67)):=bel9;generalize (((w.alloc (.cells #[.int .u64 0, .int .u64 0] 67)).alloc (.cells #[.int .u64 0, .int .u64 0] 67)).alloc (.cells #[.int .u64 0, .int .u64 0] 67))=w1 at R U D o |-
  go_loopw [14] (fun i wr=>∃ k:Nat,k<=m/\i = .int .i64 (k:Nat)/\Row wr w 67 #[.int .u64 0, .int .u64 0]/\Row wr (w.heap.size+1) 67 #[.int .u64 (hi (upS (l.take k))), .int .u64 (lo (upS (l.take k)))]/\Row wr (w.heap.size+2) 67 #[.int .u64 (hi (dnS (l.take k))), .int .u64 (lo (dnS (l.take k)))]/\Below w w wr) (fun i _=>m-(intOf i).toNat)
  case atStart=>exact ⟨0,by omega,rfl,R,U,D,o⟩
  case round =>
    clear R U D o;obtain ⟨k,hk,rfl,R,U,D,o⟩:=hrel;have hbk:=HB.out k;by_cases hlt:k<m
    · obtain ⟨ad,rfl,hadb,hi0⟩:=HR.out.itm hlt;obtain ⟨g0,g1⟩:=hi0.below o (by rw [block_of_add];exact hadb);have kl:k<l.length:=by rw [HL.out];exact hlt
      have hvk:=HV.out (itmAt l k) (by rw [<- itm_eq kl];exact List.getElem_mem _);have hst:=updn_take kl;generalize upS (l.take k)=u at hst U hbk;generalize dnS (l.take k)=d at hst D hbk;generalize (itmAt l k).v=vk at g1 hvk hst;generalize (itmAt l k).t=tk at g0;have PZ:=Lib.hid (fun w=>psizeE vk w hvk.1 hvk.2);have PO:=Lib.hid (fun w=>pof vk.natAbs (by omega) w);have i1:(k:Int)<(m:Int):=by omega
      have i2:(0:Int)<=(k:Int):=by omega
      clear hi0;go_upto_region 5 with (fail)
      have ti:Row (wr.alloc (.cells #[tk,vk] 90)) wr.heap.size 90 #[tk,vk]:=row_new rfl;replace R:=row_alloc R (.cells #[tk,vk] 90);replace U:=row_alloc U (.cells #[tk,vk] 90);replace D:=row_alloc D (.cells #[tk,vk] 90);replace o:=o.alloc o.size (.cells #[tk,vk] 90);clear g0 g1;generalize wr.alloc (.cells #[tk,vk] 90)=wq at ti o R U D |-
      generalize wr.heap.size=tb at ti |-
      obtain ⟨I0,I1,If0,If1⟩:=row_two ti;by_cases hneg:vk<0
      · rw [show vk.toNat=0 by omega,show (-vk).toNat=vk.natAbs by omega,Nat.add_zero] at hst;have PA:=Lib.hid (fun w=>padd_fits d vk.natAbs (by unfold big;omega) (by unfold big;omega) (by unfold big;omega) w);go_upto_region 6 with (fail)
        refine wp_region_free0 [0,1,2,3,4,5,6,8,7] [8] [0,1,2,3,4,5,6,7] 9 (fun w'=>Below wq wq w') (by kernel_rfl) (by kernel_rfl) (fun _ _ d _ _ h=>by cases d<;>exact h) ?_ ?_
        · exact (Below.refl _ _).drew
        (refine plv rfl rfl rfl (fun w' hS=>by obtain ⟨Q0,Q1,Qf0,Qf1⟩:=row_two (row_call D hS);obtain ⟨I0,I1,If0,If1⟩:=row_two (row_call ti hS);exact gs9) ?_;simp only [put9]);(refine plp rfl rfl ?_;simp only [put9]);(refine plv rfl rfl rfl (fun w' hS=>by obtain ⟨Q0,Q1,Qf0,Qf1⟩:=row_two (row_call D hS);obtain ⟨I0,I1,If0,If1⟩:=row_two (row_call ti hS);exact gs9) ?_;simp only [put9]);refine plan_call (.int .u64 (vk.natAbs:Nat)) 173 #[vk] rfl rfl rfl (fun _ _ h hb=>h.trans (hb.mono h.size)) (fun w' hS=>by obtain ⟨Q0,Q1,Qf0,Qf1⟩:=row_two (row_call D hS);obtain ⟨I0,I1,If0,If1⟩:=row_two (row_call ti hS);go_simp) (fun w' hS=>(PZ.out w').mono (fun e w'' h=>⟨h.1,by rw [h.2];exact Below.refl _ _⟩)) ?_;simp only [put9];refine plan_call (W vk.natAbs) 76 #[.int .u64 (vk.natAbs:Nat)] rfl rfl rfl (fun _ _ h hb=>h.trans (hb.mono h.size)) (fun w' hS=>by obtain ⟨Q0,Q1,Qf0,Qf1⟩:=row_two (row_call D hS);obtain ⟨I0,I1,If0,If1⟩:=row_two (row_call ti hS);go_simp) (fun w' hS=>PO.out w') ?_;simp only [put9];refine plan_call (.tuple #[W (d+vk.natAbs), .bool true]) 77 #[W d,W vk.natAbs] rfl rfl rfl (fun _ _ h hb=>h.trans (hb.mono h.size)) (fun w' hS=>by obtain ⟨Q0,Q1,Qf0,Qf1⟩:=row_two (row_call D hS);obtain ⟨I0,I1,If0,If1⟩:=row_two (row_call ti hS);go_simp) (fun w' hS=>PA.out w') ?_;simp only [put9];iterate 3 (refine plp rfl rfl ?_;simp only [put9])
        refine plan_nil ?_;intro w5 L5;simp only [List.drop_succ_cons,List.drop_zero];try simp only [put9]
        replace D:=row_call D L5;have zu:=row_lt D;replace R:=row_call R L5;replace U:=row_call U L5;replace o:=o.trans (L5.mono o.size);clear L5 I0 I1 If0 If1 ti;obtain ⟨Q0,Q1,Qf0,Qf1⟩:=row_two D;go_wp2;replace R:=row_other (p:=⟨w.heap.size+2,0,none⟩) R (by show w.heap.size≠w.heap.size+2;omega) (.int .u64 (hi (d+vk.natAbs)));replace U:=row_other (p:=⟨w.heap.size+2,0,none⟩) U (by show w.heap.size+1≠w.heap.size+2;omega) (.int .u64 (hi (d+vk.natAbs)));replace o:=o.setCell (p:=⟨w.heap.size+2,0,none⟩) (by show w.heap.size<=w.heap.size+2;omega) (.int .u64 (hi (d+vk.natAbs)));replace R:=row_other (p:=⟨w.heap.size+2,1,none⟩) R (by show w.heap.size≠w.heap.size+2;omega) (.int .u64 (lo (d+vk.natAbs)));replace U:=row_other (p:=⟨w.heap.size+2,1,none⟩) U (by show w.heap.size+1≠w.heap.size+2;omega) (.int .u64 (lo (d+vk.natAbs)));replace o:=o.setCell (p:=⟨w.heap.size+2,1,none⟩) (by show w.heap.size<=w.heap.size+2;omega) (.int .u64 (lo (d+vk.natAbs)));replace D:=row_two_set (u := .int .u64 (hi (d+vk.natAbs))) (v := .int .u64 (lo (d+vk.natAbs))) D;clear Q0 Q1 Qf0 Qf1;go_roundw
        case rel=>exact ⟨k+1,by omega,by go_num,R,by rw [hst.1];exact U,by rw [hst.2];exact D,o⟩
        case measure=>simp [intOf];omega
      · rw [show vk.toNat=vk.natAbs by omega,show (-vk).toNat=0 by omega,Nat.add_zero] at hst;have PA:=Lib.hid (fun w=>padd_fits u vk.natAbs (by unfold big;omega) (by unfold big;omega) (by unfold big;omega) w);go_upto_region 7 with (fail)
        refine wp_region_free0 [0,1,2,3,4,5,6,8,7] [8] [0,1,2,3,4,5,6,7] 9 (fun w'=>Below wq wq w') (by kernel_rfl) (by kernel_rfl) (fun _ _ d _ _ h=>by cases d<;>exact h) ?_ ?_
        · exact (Below.refl _ _).drew
        (refine plv rfl rfl rfl (fun w' hS=>by obtain ⟨Q0,Q1,Qf0,Qf1⟩:=row_two (row_call U hS);obtain ⟨I0,I1,If0,If1⟩:=row_two (row_call ti hS);exact gs9) ?_;simp only [put9]);(refine plp rfl rfl ?_;simp only [put9]);(refine plv rfl rfl rfl (fun w' hS=>by obtain ⟨Q0,Q1,Qf0,Qf1⟩:=row_two (row_call U hS);obtain ⟨I0,I1,If0,If1⟩:=row_two (row_call ti hS);exact gs9) ?_;simp only [put9]);refine plan_call (.int .u64 (vk.natAbs:Nat)) 173 #[vk] rfl rfl rfl (fun _ _ h hb=>h.trans (hb.mono h.size)) (fun w' hS=>by obtain ⟨Q0,Q1,Qf0,Qf1⟩:=row_two (row_call U hS);obtain ⟨I0,I1,If0,If1⟩:=row_two (row_call ti hS);go_simp) (fun w' hS=>(PZ.out w').mono (fun e w'' h=>⟨h.1,by rw [h.2];exact Below.refl _ _⟩)) ?_;simp only [put9];refine plan_call (W vk.natAbs) 76 #[.int .u64 (vk.natAbs:Nat)] rfl rfl rfl (fun _ _ h hb=>h.trans (hb.mono h.size)) (fun w' hS=>by obtain ⟨Q0,Q1,Qf0,Qf1⟩:=row_two (row_call U hS);obtain ⟨I0,I1,If0,If1⟩:=row_two (row_call ti hS);go_simp) (fun w' hS=>PO.out w') ?_;simp only [put9];refine plan_call (.tuple #[W (u+vk.natAbs), .bool true]) 77 #[W u,W vk.natAbs] rfl rfl rfl (fun _ _ h hb=>h.trans (hb.mono h.size)) (fun w' hS=>by obtain ⟨Q0,Q1,Qf0,Qf1⟩:=row_two (row_call U hS);obtain ⟨I0,I1,If0,If1⟩:=row_two (row_call ti hS);go_simp) (fun w' hS=>PA.out w') ?_;simp only [put9];iterate 3 (refine plp rfl rfl ?_;simp only [put9])
        refine plan_nil ?_;intro w5 L5;simp only [List.drop_succ_cons,List.drop_zero];try simp only [put9]
        replace U:=row_call U L5;have zu:=row_lt U;replace R:=row_call R L5;replace D:=row_call D L5;replace o:=o.trans (L5.mono o.size);clear L5 I0 I1 If0 If1 ti;obtain ⟨Q0,Q1,Qf0,Qf1⟩:=row_two U;go_wp2;replace R:=row_other (p:=⟨w.heap.size+1,0,none⟩) R (by show w.heap.size≠w.heap.size+1;omega) (.int .u64 (hi (u+vk.natAbs)));replace D:=row_other (p:=⟨w.heap.size+1,0,none⟩) D (by show w.heap.size+2≠w.heap.size+1;omega) (.int .u64 (hi (u+vk.natAbs)));replace o:=o.setCell (p:=⟨w.heap.size+1,0,none⟩) (by show w.heap.size<=w.heap.size+1;omega) (.int .u64 (hi (u+vk.natAbs)));replace R:=row_other (p:=⟨w.heap.size+1,1,none⟩) R (by show w.heap.size≠w.heap.size+1;omega) (.int .u64 (lo (u+vk.natAbs)));replace D:=row_other (p:=⟨w.heap.size+1,1,none⟩) D (by show w.heap.size+2≠w.heap.size+1;omega) (.int .u64 (lo (u+vk.natAbs)));replace o:=o.setCell (p:=⟨w.heap.size+1,1,none⟩) (by show w.heap.size<=w.heap.size+1;omega) (.int .u64 (lo (u+vk.natAbs)));replace U:=row_two_set (u := .int .u64 (hi (u+vk.natAbs))) (v := .int .u64 (lo (u+vk.natAbs))) U;clear Q0 Q1 Qf0 Qf1;go_roundw
        case rel=>exact ⟨k+1,by omega,by go_num,R,by rw [hst.1];exact U,by rw [hst.2];exact D,o⟩
        case measure=>simp [intOf];omega
    · have i1:¬ (k:Int)<(m:Int):=by omega
      obtain rfl:k=l.length:=by have:=HL.out;omega
      rw [List.take_length] at U D hbk;have hs:=updn l;generalize upS l=u at hs U hbk;generalize dnS l=d at hs D hbk;have PC:=Lib.hid (fun w=>pcmp_any u d w);by_cases hlt2:u<d
      · have E1:=Lib.hid (show (isum l).natAbs=d-u by omega);have E2:=Lib.hid (show decide (isum l<0)=true from decide_eq_true (by omega));rw [cmp_lt hlt2] at PC;have PS:=Lib.hid (fun w=>psub_yes d u (by unfold big;omega) (by unfold big;omega) (by omega) w);replace PC:=Lib.hid PC;obtain ⟨P0,P1,Pf0,Pf1⟩:=row_two U;obtain ⟨Q0,Q1,Qf0,Qf1⟩:=row_two D;go_upto_region 12 with (go_at_call 235;refine (PC.out _).mono ?_;rintro e w2 ⟨rfl,hb⟩)
        replace R:=row_call R hb;replace U:=row_call U hb;replace D:=row_call D hb;replace o:=o.trans (hb.mono o.size);clear hb P0 Pf0 P1 Pf1 Q0 Qf0 Q1 Qf1;obtain ⟨P0,P1,Pf0,Pf1⟩:=row_two U;obtain ⟨Q0,Q1,Qf0,Qf1⟩:=row_two D;go_upto_region 13 with (go_at_call 180;refine (PS.out _).mono ?_;rintro e w3 ⟨rfl,hb⟩)
        replace R:=row_alloc (row_call R hb) (.cells #[.int .u64 (hi (d-u)), .int .u64 (lo (d-u))] 67);replace o:=(o.trans (hb.mono o.size)).alloc (o.trans (hb.mono o.size)).size (.cells #[.int .u64 (hi (d-u)), .int .u64 (lo (d-u))] 67);have V:Row (w3.alloc (.cells #[.int .u64 (hi (d-u)), .int .u64 (lo (d-u))] 67)) w3.heap.size 67 #[.int .u64 (hi (d-u)), .int .u64 (lo (d-u))]:=row_new rfl;clear hb U D P0 Pf0 P1 Pf1 Q0 Qf0 Q1 Qf1;generalize w3.alloc (.cells #[.int .u64 (hi (d-u)), .int .u64 (lo (d-u))] 67)=w4 at R o V |-
        generalize w3.heap.size=vb at V |-
        go_upto_region 13 with (fail)
        refine wp_region_phase 2 (fun w'=>Row w' (w.heap.size) 67 #[.int .u64 0, .int .u64 0]/\Row w' (vb) 67 #[.int .u64 (hi (d-u)), .int .u64 (lo (d-u))]/\Below w w w') (by kernel_rfl) (by kernel_rfl) (by kernel_rfl) (by kernel_rfl) (by kernel_rfl) (fun HOK=>?_);have HS:=(⟨row_drew R,row_drew V,o.drew⟩:Row w4.drew (w.heap.size) 67 #[.int .u64 0, .int .u64 0]/\Row w4.drew (vb) 67 #[.int .u64 (hi (d-u)), .int .u64 (lo (d-u))]/\Below w w w4.drew)
        (refine hwt HOK 0 HS rfl (fun w' hS=>by cases r2 hS.2.1;exact gs9) ?_;simp only [put9]);replace R:Row w4.drew (w.heap.size) 67 #[.int .u64 0, .int .u64 0]:=R;replace V:Row w4.drew (vb) 67 #[.int .u64 (hi (d-u)), .int .u64 (lo (d-u))]:=V;replace o:=o.drew;clear HS;generalize w4.drew=w5 at R V o |-
        refine hw_one (i:=1) rfl (by decide) (by kernel_rfl) (fun K hK=>?_);go_simp;refine hK _ _ ⟨R,V,o⟩ ?_;clear hK K;try simp only [put9]
        refine hw_done (by kernel_rfl) ?_;try simp only [List.drop_succ_cons,List.drop_zero]
        clear HOK;clear V;obtain ⟨R0,R1,Rf0,Rf1⟩:=row_two R;go_wp2;clear R0 Rf0 R1 Rf1;have r9:=row_two_set (u := .int .u64 (hi (d-u))) (v := .int .u64 (lo (d-u))) R
        have o9:Below w w ((w5.setCell ⟨w,0,none⟩ (.int .u64 (hi (d-u)))).setCell ⟨w,1,none⟩ (.int .u64 (lo (d-u)))):=by
          (exact bel9)
        generalize ((w5.setCell ⟨w,0,none⟩ (.int .u64 (hi (d-u)))).setCell ⟨w,1,none⟩ (.int .u64 (lo (d-u))))=w9 at r9 o9 |-
        obtain ⟨d1,d2,_,_⟩:=row_two r9;exact bodyPost_ret (v := .tuple #[.bool true,W (d-u)]) (by simp [results,Tryz.results169,go_sem,W,d1,d2]) rfl ⟨by rw [E1.out,E2.out],o9⟩
      · have E1:=Lib.hid (show (isum l).natAbs=u-d by omega);have E2:=Lib.hid (show decide (isum l<0)=false from decide_eq_false (by omega));obtain ⟨c9,hc9,hc0⟩:∃ c9:Int,cmp u d=c9/\0<=c9:=⟨_,rfl,cmp_nonneg (by omega)⟩
        rw [hc9] at PC;clear hc9;have PS:=Lib.hid (fun w=>psub_yes u d (by unfold big;omega) (by unfold big;omega) (by omega) w);replace PC:=Lib.hid PC;obtain ⟨P0,P1,Pf0,Pf1⟩:=row_two U;obtain ⟨Q0,Q1,Qf0,Qf1⟩:=row_two D;go_upto_region 10 with (go_at_call 235;refine (PC.out _).mono ?_;rintro e w2 ⟨rfl,hb⟩)
        replace R:=row_call R hb;replace U:=row_call U hb;replace D:=row_call D hb;replace o:=o.trans (hb.mono o.size);clear hb P0 Pf0 P1 Pf1 Q0 Qf0 Q1 Qf1;obtain ⟨P0,P1,Pf0,Pf1⟩:=row_two U;obtain ⟨Q0,Q1,Qf0,Qf1⟩:=row_two D;go_upto_region 11 with (go_at_call 180;refine (PS.out _).mono ?_;rintro e w3 ⟨rfl,hb⟩)
        replace R:=row_alloc (row_call R hb) (.cells #[.int .u64 (hi (u-d)), .int .u64 (lo (u-d))] 67);replace o:=(o.trans (hb.mono o.size)).alloc (o.trans (hb.mono o.size)).size (.cells #[.int .u64 (hi (u-d)), .int .u64 (lo (u-d))] 67);have V:Row (w3.alloc (.cells #[.int .u64 (hi (u-d)), .int .u64 (lo (u-d))] 67)) w3.heap.size 67 #[.int .u64 (hi (u-d)), .int .u64 (lo (u-d))]:=row_new rfl;clear hb U D P0 Pf0 P1 Pf1 Q0 Qf0 Q1 Qf1;generalize w3.alloc (.cells #[.int .u64 (hi (u-d)), .int .u64 (lo (u-d))] 67)=w4 at R o V |-
        generalize w3.heap.size=vb at V |-
        go_upto_region 11 with (fail)
        refine wp_region_phase 2 (fun w'=>Row w' (w.heap.size) 67 #[.int .u64 0, .int .u64 0]/\Row w' (vb) 67 #[.int .u64 (hi (u-d)), .int .u64 (lo (u-d))]/\Below w w w') (by kernel_rfl) (by kernel_rfl) (by kernel_rfl) (by kernel_rfl) (by kernel_rfl) (fun HOK=>?_);have HS:=(⟨row_drew R,row_drew V,o.drew⟩:Row w4.drew (w.heap.size) 67 #[.int .u64 0, .int .u64 0]/\Row w4.drew (vb) 67 #[.int .u64 (hi (u-d)), .int .u64 (lo (u-d))]/\Below w w w4.drew)
        (refine hwt HOK 0 HS rfl (fun w' hS=>by cases r2 hS.2.1;exact gs9) ?_;simp only [put9]);replace R:Row w4.drew (w.heap.size) 67 #[.int .u64 0, .int .u64 0]:=R;replace V:Row w4.drew (vb) 67 #[.int .u64 (hi (u-d)), .int .u64 (lo (u-d))]:=V;replace o:=o.drew;clear HS;generalize w4.drew=w5 at R V o |-
        refine hw_one (i:=1) rfl (by decide) (by kernel_rfl) (fun K hK=>?_);go_simp;refine hK _ _ ⟨R,V,o⟩ ?_;clear hK K;try simp only [put9]
        refine hw_done (by kernel_rfl) ?_;try simp only [List.drop_succ_cons,List.drop_zero]
        clear HOK;clear V;obtain ⟨R0,R1,Rf0,Rf1⟩:=row_two R;go_wp2;clear R0 Rf0 R1 Rf1;have r9:=row_two_set (u := .int .u64 (hi (u-d))) (v := .int .u64 (lo (u-d))) R
        have o9:Below w w ((w5.setCell ⟨w,0,none⟩ (.int .u64 (hi (u-d)))).setCell ⟨w,1,none⟩ (.int .u64 (lo (u-d)))):=by
          (exact bel9)
        generalize ((w5.setCell ⟨w,0,none⟩ (.int .u64 (hi (u-d)))).setCell ⟨w,1,none⟩ (.int .u64 (lo (u-d))))=w9 at r9 o9 |-
        obtain ⟨d1,d2,_,_⟩:=row_two r9;exact bodyPost_ret (v := .tuple #[.bool false,W (u-d)]) (by simp [results,Tryz.results169,go_sem,W,d1,d2]) rfl ⟨by rw [E1.out,E2.out],o9⟩
theorem pcountE (A:Option Addr) (m c:Nat) (w:World):Calls Tryz.prog 81 #[.slice A m c] w (Rd (.int .i64 (m:Nat)) w):=by
  go_enter Tryz.func81,Tryz.ntmps81;go_wp2;go_ret;exact ⟨rfl,rfl⟩
set_option maxHeartbeats 1000000 in
theorem psumE (A:Option Addr) (m c:Nat) (l:List Itm) (w:World) (hr:Reads w w.heap.size 2 A m (icells l)) (hm:m<=100000) (hv:∀ x∈l, -4096<=x.v/\x.v<=4096) (h0:0<=isum l):Calls Tryz.prog 82 #[.slice A m c] w (Rr (.tuple #[.int .i64 (isum l), .bool true]) w):=by
  have PT:=Lib.hid (ptotal A m c l w hr hm hv);have hb:=updn_bd hv (by rw [hr.itm_len];exact hm) l.length;rw [List.take_length] at hb;have hs:=updn l;obtain ⟨s,hsn⟩:∃ s:Nat,isum l=s:=⟨(isum l).toNat,by omega⟩
  rw [hsn] at PT hs |-
  rw [show decide ((s:Int)<0)=false by simp,show (s:Int).natAbs=s by omega] at PT;have hsb:s<=409600000:=by omega
  have eh:hi s=0:=hi_small (by omega);have el:lo s=s:=lo_small (by omega);rw [W,eh,el] at PT;clear hr hv h0 hs hb hsn eh el;have z1:¬ (9223372036854775808:Int)<(s:Int):=by omega
  have z2:((s:Int) == 9223372036854775808)=false:=by simp;omega
  have ws:IntKind.i64.wrap (s:Int)=s:=IntWalk.i64_in _ (by omega);go_enter Tryz.func82,Tryz.ntmps82;go_upto_region 2 with (go_at_call 169;with_reducible refine PT.out.mono ?_;rintro e w2 ⟨rfl,hb⟩)
  have V:Row (w2.alloc (.cells #[.int .u64 0, .int .u64 (s:Nat)] 67)) w2.heap.size 67 #[.int .u64 0, .int .u64 (s:Nat)]:=row_new rfl;have o:=hb.alloc hb.size (.cells #[.int .u64 0, .int .u64 (s:Nat)] 67);clear hb;generalize w2.alloc (.cells #[.int .u64 0, .int .u64 (s:Nat)] 67)=w4 at o V |-
  generalize w2.heap.size=vb at V |-
  cases r2 V;go_wp2;exact bodyPost_ret (v := .tuple #[.int .i64 (s:Nat), .bool true]) (by simp [results,Tryz.results82,go_sem]) rfl ⟨rfl,o⟩
theorem psizeN (v:Int) (w:World) (v0 : -4096<=v) (v1:v<=4096):Calls Tryz.prog 246 #[v] w (Rd (.int .u64 (v.natAbs:Nat)) w):=by
  by_cases h:v<0
  · have w1:IntKind.u64.wrap (-IntKind.u64.wrap v)=(v.natAbs:Nat):=neg_wrap v (by omega) h;go_enter Tryz.func246,Tryz.ntmps246;go_wp2_with fail;go_ret;exact ⟨by first | rfl | rw [<- w1],rfl⟩
  · have w1:IntKind.u64.wrap v=(v.natAbs:Nat):=by rw [IntWalk.u64_in _ (by omega)];omega
    go_enter Tryz.func246,Tryz.ntmps246;go_wp2_with fail;go_ret;exact ⟨rfl,rfl⟩
theorem pnmul (v:Int) (w:World) (v0 : -4096<=v) (v1:v<=4096):Calls Tryz.prog 170 #[v,v] w (Rd (.tuple #[.int .i64 (v*v), .bool true]) w):=by
  have PZ:=Lib.hid (fun w=>psizeN v w v0 v1);have hq:v*v=((v.natAbs*v.natAbs:Nat):Int):=(Int.natAbs_mul_self (a:=v)).symm;have hb:v.natAbs*v.natAbs<=4096*4096:=Nat.mul_le_mul (by omega) (by omega);rw [hq];have PM:=fun w=>qmul64 v.natAbs v.natAbs (by omega) (by omega) w;generalize v.natAbs*v.natAbs=q at PM hb |-
  rw [hi_small (show q<18446744073709551616 by omega),lo_small (show q<18446744073709551616 by omega)] at PM;replace PM:=Lib.hid PM;have z1:¬ (9223372036854775807:Int)<(q:Int):=by omega
  have wq:IntKind.i64.wrap (q:Int)=q:=IntWalk.i64_in _ (by omega);clear hq v0 v1;go_enter Tryz.func170,Tryz.ntmps170;by_cases h:v<0
  · go_wp2_with (first | (go_at_call 246;with_reducible refine (PZ.out _).mono ?_;rintro e w9 ⟨rfl,h9⟩;obtain rfl:=h9.symm) | (go_at_call 181;with_reducible refine (PM.out _).mono ?_;rintro e w9 ⟨rfl,h9⟩;obtain rfl:=h9.symm));exact bodyPost_ret (v := .tuple #[.int .i64 (q:Nat), .bool true]) (by simp [results,Tryz.results170,go_sem]) rfl ⟨rfl,rfl⟩
  · go_wp2_with (first | (go_at_call 246;with_reducible refine (PZ.out _).mono ?_;rintro e w9 ⟨rfl,h9⟩;obtain rfl:=h9.symm) | (go_at_call 181;with_reducible refine (PM.out _).mono ?_;rintro e w9 ⟨rfl,h9⟩;obtain rfl:=h9.symm));exact bodyPost_ret (v := .tuple #[.int .i64 (q:Nat), .bool true]) (by simp [results,Tryz.results170,go_sem]) rfl ⟨rfl,rfl⟩
theorem pnadd (a b:Int) (w:World) (a0:0<=a) (a1:a<=4611686018427387904) (b0:0<=b) (b1:b<=1099511627776):Calls Tryz.prog 171 #[a,b] w (Rd (.tuple #[.int .i64 (a+b), .bool true]) w):=by
  have wq:IntKind.i64.wrap (a+b)=a+b:=IntWalk.i64_in _ (by omega);have c0:0<=a+b:=by omega
  go_enter Tryz.func171,Tryz.ntmps171;go_wp2_with fail;exact bodyPost_ret (v := .tuple #[.int .i64 (a+b), .bool true]) (by simp [results,Tryz.results171,go_sem]) rfl ⟨rfl,rfl⟩
set_option maxHeartbeats 2000000 in
theorem psqE (A:Option Addr) (m c:Nat) (l:List Itm) (w:World) (hr:Reads w w.heap.size 2 A m (icells l)) (hm:m<=100000) (hv:∀ x∈l, -4096<=x.v/\x.v<=4096):Calls Tryz.prog 83 #[.slice A m c] w (Rr (.tuple #[.int .i64 (isq l), .bool true]) w):=by
  have HL:=Lib.hid hr.itm_len;have HR:=Lib.hid hr;have HV:=Lib.hid hv;have hz:isq (l.take 0)=0:=by rw [List.take_zero];rfl
  have HB:=Lib.hid (fun k=>isq_le (l:=l.take k) fun x hx=>hv x (List.mem_of_mem_take hx));clear hr hv;go_enter Tryz.func83,Tryz.ntmps83;go_wp2;go_loopw [4,8,11] (fun u u8 i wr=>∃ k:Nat,k<=m/\i = .int .i64 (k:Nat)/\u = .int .i64 (isq (l.take k))/\Below w w wr) (fun _ _ i _=>m-(intOf i).toNat)
  case atStart=>exact ⟨0,by omega,rfl,by rw [hz],Below.refl _ _⟩
  case round =>
    obtain ⟨k,hk,rfl,rfl,o⟩:=hrel;by_cases hlt:k<m
    · obtain ⟨ad,rfl,hadb,hi0⟩:=HR.out.itm hlt;obtain ⟨g0,g1⟩:=hi0.below o (by rw [block_of_add];exact hadb);have kl:k<l.length:=by rw [HL.out];exact hlt
      have hvk:=HV.out (itmAt l k) (by rw [<- itm_eq kl];exact List.getElem_mem _);have hst:=isq_take kl;have b0:=isq_nonneg (l.take k);have b1:=HB.out k;rw [List.length_take] at b1;generalize isq (l.take k)=q at hst b0 b1;generalize (itmAt l k).v=vk at g1 hvk hst;generalize (itmAt l k).t=tk at g0
      have hq:0<=vk*vk/\vk*vk<=16777216:=by
        have e:vk*vk=((vk.natAbs*vk.natAbs:Nat):Int):=(Int.natAbs_mul_self (a:=vk)).symm;have:vk.natAbs*vk.natAbs<=4096*4096:=Nat.mul_le_mul (by omega) (by omega);omega
      have PM:=Lib.hid (fun w=>pnmul vk w hvk.1 hvk.2);generalize vk*vk=vv at PM hq hst;have PA:=Lib.hid (fun w=>pnadd q vv w b0 (by omega) hq.1 (by omega));have HS:=Lib.hid hst;have i1:(k:Int)<(m:Int):=by omega
      have i2:(0:Int)<=(k:Int):=by omega
      clear hi0 b0 b1 hst hq hvk;go_upto_region 5 with (fail)
      have ti:Row (wr.alloc (.cells #[tk,vk] 90)) wr.heap.size 90 #[tk,vk]:=row_new rfl;replace o:=o.alloc o.size (.cells #[tk,vk] 90);clear g0 g1;generalize wr.alloc (.cells #[tk,vk] 90)=wq at ti o |-
      generalize wr.heap.size=tb at ti |-
      cases r2 ti;go_wp2_with (first | (go_at_call 170;with_reducible refine (PM.out _).mono ?_;rintro e w9 ⟨rfl,h9⟩;obtain rfl:=h9.symm) | (go_at_call 171;with_reducible refine (PA.out _).mono ?_;rintro e w9 ⟨rfl,h9⟩;obtain rfl:=h9.symm));go_roundw
      case rel=>exact ⟨k+1,by omega,by go_num,by rw [HS.out],o⟩
      case measure=>simp [intOf];omega
    · have i1:¬ (k:Int)<(m:Int):=by omega
      obtain rfl:k=l.length:=by have:=HL.out;omega
      rw [List.take_length];go_wp2;exact bodyPost_ret (v := .tuple #[.int .i64 (isq l), .bool true]) (by simp [results,Tryz.results83,go_sem]) rfl ⟨rfl,o⟩
end Go.Proofs.YtdipoojjlddohaaGreat
