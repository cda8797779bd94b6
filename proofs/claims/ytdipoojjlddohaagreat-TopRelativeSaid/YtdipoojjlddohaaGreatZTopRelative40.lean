/- What the law TopRelative needs, joined of its texts by a program (slim2.py); part 40. -/
import Derived.Test.YtdipoojjlddohaaGreatZTopRelative1
import Derived.Test.YtdipoojjlddohaaGreatZTopRelative14
import Derived.Test.YtdipoojjlddohaaGreatZTopRelative21
import Derived.Test.YtdipoojjlddohaaGreatZTopRelative39
set_option linter.unusedVariables false
set_option linter.unusedSimpArgs false
set_option linter.unusedSectionVars false
set_option linter.unnecessarySimpa false
set_option maxRecDepth 100000
namespace Go.Proofs.YtdipoojjlddohaaGreat
open MC
open MT
open Go.RowKit
def sqS:List Itm->Nat
  | []=>0
  | x :: l=>x.v.natAbs*x.v.natAbs+sqS l
theorem sqS_eq:∀ l:List Itm,isq l=sqS l
  | []=>rfl
  | x :: l=>by rw [isq,sqS,sqS_eq l,Int.natCast_add,Int.natAbs_mul_self]
theorem sqS_append:∀ a b:List Itm,sqS (a ++ b)=sqS a+sqS b
  | [],b=>by simp [sqS]
  | x :: a,b=>by rw [List.cons_append,sqS,sqS,sqS_append a b];omega
theorem sqS_take {l:List Itm} {k:Nat} (h:k<l.length):sqS (l.take (k+1))=sqS (l.take k)+(itmAt l k).v.natAbs*(itmAt l k).v.natAbs:=by
  rw [List.take_succ_eq_append_getElem h,itm_eq h,sqS_append];simp [sqS]
theorem sqS_le {l:List Itm} (h:∀ x∈l, -4096<=x.v/\x.v<=4096) (hl:l.length<=1000) (k:Nat):sqS (l.take k)<=16777216000:=by
  have h1:=isq_le (l:=l.take k) fun x hx=>h x (List.mem_of_mem_take hx);rw [sqS_eq,List.length_take] at h1;omega
theorem spread_num {l:List Itm} (hl:l≠[]):(isum l).natAbs*(isum l).natAbs<=sqS l*l.length/\itT l=sqS l*l.length-(isum l).natAbs*(isum l).natAbs/\itN l=l.length:=by
  have h:=isq_isum l;have he:=itT_eq l;unfold tpI at h he;rw [sqS_eq,<- Int.natAbs_mul_self (a:=isum l)] at h he;have hp:1<=l.length:=List.length_pos_iff.2 hl;have e:(l.length:Int)*(sqS l:Int)=((sqS l*l.length:Nat):Int):=by rw [Int.natCast_mul,Int.mul_comm]
  rw [e] at h he;refine ⟨by omega,by omega,?_⟩;unfold itN;omega
theorem pspreadE0 (A:Option Addr) (c:Nat) (w:World):Calls Tryz.prog 84 #[.slice A 0 c] w (Rr (.tuple #[.agg #[(), .int .i64 1], .bool true]) w):=by
  go_enter Tryz.func84,Tryz.ntmps84;go_upto_region 3 with (fail)
  have R:Row (w.alloc (.cells #[(),()] 62)) w.heap.size 62 #[(),()]:=row_new rfl;have o:Below w w (w.alloc (.cells #[(),()] 62)):=bel9;generalize w.alloc (.cells #[(),()] 62)=w1 at R o |-
  cases r2 R;go_wp2;have Sr0:=row_set R 0 (.int .i64 0);have Sr1:=row_set Sr0 1 (.int .i64 1);have o90:=o.setCell (p:=⟨w,0,none⟩) (Nat.le_refl _) (.int .i64 0);have o91:=o90.setCell (p:=⟨w,1,none⟩) (Nat.le_refl _) (.int .i64 1);obtain ⟨S0,S1,_,_⟩:=row_two Sr1;exact bodyPost_ret (v := .tuple #[.agg #[(), .int .i64 1], .bool true]) (by simp [results,Tryz.results84,go_sem,S0,S1]) rfl ⟨rfl,o91⟩
set_option maxRecDepth 100000 in
set_option maxHeartbeats 4000000 in
theorem pspreadE (A:Option Addr) (m c:Nat) (l:List Itm) (w:World) (hr:Reads w w.heap.size 2 A m (icells l)) (h0:0<m) (hm:m<=1000) (hv:∀ x∈l, -4096<=x.v/\x.v<=4096):Calls Tryz.prog 84 #[.slice A m c] w (Rr (.tuple #[.agg #[.int .i64 (rn (itT l) (itN l):Nat), .int .i64 (rd (itT l) (itN l):Nat)], .bool true]) w):=by
  have hlen:=hr.itm_len;have hne:l≠[]:=by intro e;rw [e] at hlen;simp at hlen;omega
  obtain ⟨hS,eT,eN⟩:=spread_num hne;rw [eN,eT];clear eN eT;have PT:=fun w' (hb:Below w w w')=>ptotal A m c l w' (hr.below hb |>.more hb.size) (by omega) hv;have HBQ:=Lib.hid (sqS_le hv (by omega))
  have hsb:(isum l).natAbs<=4096000:=by
    have h1:=updn_le hv;have h2:=updn l;omega
  rw [hlen] at hS |-
  obtain ⟨q,hq⟩:∃ q,sqS l=q:=⟨_,rfl⟩
  rw [hq] at hS |-
  generalize (isum l).natAbs=s at PT hS hsb |-
  generalize decide (isum l<0)=sg at PT;have eh:hi s=0:=hi_small (by omega);have el:lo s=s:=lo_small (by omega);simp only [W,eh,el] at PT;replace PT:=Lib.hid PT;have HQ:=Lib.hid hq;clear eh el hq;have hqb:=HBQ.out l.length;rw [List.take_length,HQ.out] at hqb;have hqm:q*m<=16777216000*1000:=Nat.mul_le_mul hqb hm;have hsg:Nat.gcd m ((q*m-s*s) % m)=Nat.gcd (q*m-s*s) m:=by rw [Nat.gcd_comm,<- Nat.gcd_rec,Nat.gcd_comm]
  have hgp:1<=Nat.gcd (q*m-s*s) m/\Nat.gcd (q*m-s*s) m<=m:=⟨Nat.gcd_pos_of_pos_right _ h0,Nat.gcd_le_right _ h0⟩
  have hmo:(q*m-s*s) % m<m:=Nat.mod_lt _ h0;have PMI:=Lib.hid (fun w=>pminus (q*m) (s*s) w hS (by omega));have P1:=Lib.hid (fun w=>ptimes0 (w.heap.size+0) 0 0 0 w);clear P1;have hss:s*s<=q*m:=hS;have e1:rn (q*m-s*s) m=(q*m-s*s) / Nat.gcd (q*m-s*s) m:=rfl;have e2:rd (q*m-s*s) m=m / Nat.gcd (q*m-s*s) m:=rfl;rw [e1,e2];clear e1 e2;obtain ⟨d,hd⟩:∃ d,q*m-s*s=d:=⟨_,rfl⟩
  rw [hd] at hsg hgp hmo PMI |-
  have hdb:d<=16777216000*1000:=by omega
  replace hd:=Lib.hid hd;have PB1:=Lib.hid (fun w=>pby d m w (by omega) h0 (by omega));have PG:=fun w=>pngcd m (d % m) w (by omega) (by omega);rw [hsg] at PG;generalize Nat.gcd d m=g at PG hgp |-
  replace PG:=Lib.hid PG;have PB2:=Lib.hid (fun w=>pby d g w (by omega) hgp.1 (by omega));have hdg:=Nat.div_le_self d g;have hmg:=Nat.div_le_self m g;have e3:(m:Int) / (g:Int)=((m / g:Nat):Int):=rfl;generalize d / g=dg at PB2 hdg |-
  generalize d % g=dr at PB2;generalize d / m=dm at PB1;generalize d % m=r at PB1 PG hmo;generalize m / g=mg at hmg e3 |-
  have wg:IntKind.u64.wrap (g:Int)=g:=IntWalk.u64_in _ (by omega);have wm2:IntKind.i64.wrap (m:Int)=m:=IntWalk.i64_in _ (by omega);have wr2:IntKind.i64.wrap (r:Int)=(r:Int):=IntWalk.i64_in _ (by omega);have wd2:IntKind.i64.wrap (dg:Int)=(dg:Int):=IntWalk.i64_in _ (by omega)
  have wq2:IntKind.u64.wrap ((m:Int) / (g:Int))=(mg:Int):=by
    rw [e3];exact IntWalk.u64_in _ (by omega)
  have wq3:IntKind.i64.wrap (mg:Int)=(mg:Int):=IntWalk.i64_in _ (by omega);have g0:((g:Int) == 0)=false:=by simp;omega
  have g1:¬ g=0:=by omega
  have hd63:¬ (9223372036854775808:Int)<=(dg:Int):=by omega
  have hd65:=Lib.hid (show (dg:Int)<9223372036854775808 by omega);have hor:bits .or .u64 0 0=0:=by kernel_rfl
  obtain ⟨N,hN⟩:∃ N,q*m=N:=⟨_,rfl⟩
  obtain ⟨ss,hs2⟩:∃ ss,s*s=ss:=⟨_,rfl⟩
  rw [hN,hs2] at PMI;rw [hN] at hqm;rw [hs2] at hss;rw [hN] at hss;have HN:=Lib.hid hN;have HS2:=Lib.hid hs2;replace e3:=Lib.hid e3;clear hN hs2 hd;clear hsg hmo hdg hmg hgp;have HL:=Lib.hid hlen;have HR:=Lib.hid hr;have HV:=Lib.hid hv;have wm:IntKind.u64.wrap (m:Int)=(m:Int):=IntWalk.u64_in _ (by omega);have m0:((m:Int) == 0)=false:=by simp;omega
  clear hr hv hlen hne hS;go_enter Tryz.func84,Tryz.ntmps84;go_wp2;have R:Row ((((w.alloc (.cells #[(),()] 62)).alloc (.cells J20 264)).alloc (.cells J20 264)).alloc (.cells J20 264)) (w.heap.size) 62 #[(),()]:=row_alloc (row_alloc (row_alloc (row_new rfl) _) _) _
  have QR:Row ((((w.alloc (.cells #[(),()] 62)).alloc (.cells J20 264)).alloc (.cells J20 264)).alloc (.cells J20 264)) (w.heap.size+1) 264 (J19 (.int .u64 (sqS (l.take 0):Nat))):=by
    rw [List.take_zero];exact row_alloc (row_alloc (row_new (by simp)) _) _
  have LR:Row ((((w.alloc (.cells #[(),()] 62)).alloc (.cells J20 264)).alloc (.cells J20 264)).alloc (.cells J20 264)) (w.heap.size+2) 264 (J19 (.int .u64 ((0:Nat):Int))):=row_alloc (row_new (by simp)) _;have TR:Row ((((w.alloc (.cells #[(),()] 62)).alloc (.cells J20 264)).alloc (.cells J20 264)).alloc (.cells J20 264)) (w.heap.size+3) 264 (J19 (.int .u64 ((0:Nat):Int))):=row_new (by simp);have o:Below w w ((((w.alloc (.cells #[(),()] 62)).alloc (.cells J20 264)).alloc (.cells J20 264)).alloc (.cells J20 264)):=bel9;generalize ((((w.alloc (.cells #[(),()] 62)).alloc (.cells J20 264)).alloc (.cells J20 264)).alloc (.cells J20 264))=w1 at R QR LR TR o |-
  clear m0;go_loopw [25] (fun j wr=>∃ k:Nat,k<=m/\j = .int .i64 (k:Nat)/\Row wr (w.heap.size) 62 #[(),()]/\Row wr (w.heap.size+1) 264 (J19 (.int .u64 (sqS (l.take k):Nat)))/\Row wr (w.heap.size+2) 264 (J19 (.int .u64 ((0:Nat):Int)))/\Row wr (w.heap.size+3) 264 (J19 (.int .u64 ((0:Nat):Int)))/\Below w w wr) (fun j _=>m-(intOf j).toNat)
  case atStart=>exact ⟨0,by omega,rfl,R,QR,LR,TR,o⟩
  case round =>
    clear R QR LR TR o;obtain ⟨k,hk,rfl,R,QR,LR,TR,o⟩:=hrel;by_cases hlt:k<m
    · obtain ⟨ad,rfl,hadb,hi0⟩:=HR.out.itm hlt;obtain ⟨g0,g1⟩:=hi0.below o (by rw [block_of_add];exact hadb);have kl:k<l.length:=by rw [HL.out];exact hlt
      have hvk:=HV.out (itmAt l k) (by rw [<- itm_eq kl];exact List.getElem_mem _);have hst:=sqS_take kl;have hb1:=HBQ.out (k+1);generalize sqS (l.take k)=q at hst QR;generalize (itmAt l k).v=vk at g1 hvk hst;generalize (itmAt l k).t=tk at g0;have PZ:=Lib.hid (fun w=>psizeE vk w hvk.1 hvk.2);have hvn:vk.natAbs<=4096:=by omega
      have HS:=Lib.hid hst;rw [hst] at hb1;have i1:(k:Int)<(m:Int):=by omega
      have i2:(0:Int)<=(k:Int):=by omega
      clear hi0 hst hvk;go_upto_region 8 with (fail)
      have ti:Row (wr.alloc (.cells #[tk,vk] 90)) wr.heap.size 90 #[tk,vk]:=row_new rfl;replace R:=row_alloc R (.cells #[tk,vk] 90);replace QR:=row_alloc QR (.cells #[tk,vk] 90);replace LR:=row_alloc LR (.cells #[tk,vk] 90);replace TR:=row_alloc TR (.cells #[tk,vk] 90);replace o:=o.alloc o.size (.cells #[tk,vk] 90);clear g0 g1;generalize wr.alloc (.cells #[tk,vk] 90)=wq at ti R QR LR TR o |-
      generalize wr.heap.size=tb at ti |-
      refine wp_region_free0 [0,1,2,3,4,5] [] [0,1,2,3,4,5] 6 (fun w'=>Below wq wq w') (by kernel_rfl) (by kernel_rfl) (fun _ _ d _ _ h=>by cases d<;>exact h) ?_ ?_
      · exact (Below.refl _ _).drew
      (refine plp rfl rfl ?_;simp only [put9]);(refine plv rfl rfl rfl (fun w' hS=>by cases r2 (row_call ti hS);exact gs9) ?_;simp only [put9]);refine plan_call (.int .u64 (vk.natAbs:Nat)) 173 #[vk] rfl rfl rfl (fun _ _ h hb=>h.trans (hb.mono h.size)) (fun w' hS=>by cases r2 (row_call ti hS);go_simp) (fun w' hS=>(PZ.out w').mono (fun e w'' h=>⟨h.1,by rw [h.2];exact Below.refl _ _⟩)) ?_;simp only [put9];(refine plp rfl rfl ?_;simp only [put9]);(refine plv rfl rfl rfl (fun w' hS=>by cases r2 (row_call ti hS);exact gs9) ?_;simp only [put9]);refine plan_call (.int .u64 (vk.natAbs:Nat)) 173 #[vk] rfl rfl rfl (fun _ _ h hb=>h.trans (hb.mono h.size)) (fun w' hS=>by cases r2 (row_call ti hS);go_simp) (fun w' hS=>(PZ.out w').mono (fun e w'' h=>⟨h.1,by rw [h.2];exact Below.refl _ _⟩)) ?_;simp only [put9];refine plan_nil ?_;intro w5 L5;simp only [List.drop_succ_cons,List.drop_zero];try simp only [put9]
      replace R:=row_call R L5;replace QR:=row_call QR L5;replace LR:=row_call LR L5;replace TR:=row_call TR L5;replace o:=o.trans (L5.mono o.size);clear L5 ti;go_wp2_with (go_at_call 172;refine (ptimes0 (w.heap.size+1) q vk.natAbs vk.natAbs w5 QR (by omega) (by omega) (by omega)).mono ?_;rintro e w6 ⟨rfl,hQ,hB⟩);replace R:=row_but R hB (by omega);replace LR:=row_but LR hB (by omega);replace TR:=row_but TR hB (by omega);replace o:=hB.below o (by omega);replace QR:=hQ;go_roundw
      case rel=>exact ⟨k+1,by omega,by go_num,R,by rw [HS.out];exact QR,LR,TR,o⟩
      case measure=>simp [intOf];omega
    · have i1:¬ (k:Int)<(m:Int):=by omega
      obtain rfl:k=m:=by omega
      rw [List.take_of_length_le (by rw [HL.out];exact Nat.le_refl _),HQ.out] at QR;clear HL HV HR HBQ HQ;go_wp2;clear i1;go_loopw [10] (fun j wr=>∃ (i p:Nat),i<=3/\j = .int .i64 (i:Nat)/\(i=0/\p=0∨1<=i/\p=N)/\Row wr (w.heap.size) 62 #[(),()]/\Row wr (w.heap.size+1) 264 (J19 (.int .u64 (q:Nat)))/\Row wr (w.heap.size+2) 264 (J19 (.int .u64 (p:Nat)))/\Row wr (w.heap.size+3) 264 (J19 (.int .u64 ((0:Nat):Int)))/\Below w w wr) (fun j _=>3-(intOf j).toNat)
      case atStart=>exact ⟨0,0,by omega,rfl, .inl ⟨rfl,rfl⟩,R,QR,LR,TR,o⟩
      case round =>
        clear R QR LR TR o;obtain ⟨i,p,hi3,rfl,hp,R,QR,LR,TR,o⟩:=hrel;by_cases hlt:i<3
        · have j3:i=0∨i=1∨i=2:=by omega
          rcases j3 with rfl | rfl | rfl
          · obtain rfl:p=0:=by omega
            have q0:=rc9 QR 0;clear hp;go_wp2_with (go_at_call 172;refine (ptimes0 (w.heap.size+2) 0 q k wr LR (by omega) (by omega) (by rw [Nat.zero_add,HN.out];omega)).mono ?_;rintro e w6 ⟨rfl,hQ,hB⟩);replace R:=row_but R hB (by omega);replace QR:=row_but QR hB (by omega);replace TR:=row_but TR hB (by omega);replace o:=hB.below o (by omega);rw [Nat.zero_add,HN.out] at hQ;replace LR:=hQ;go_roundw
            case rel=>exact ⟨1,N,by omega,by go_num, .inr ⟨by omega,rfl⟩,R,QR,LR,TR,o⟩
            case measure=>simp [intOf]
          · have q0:=rc9 QR 1;have hp:=hp.resolve_left (by omega);go_wp2_with (go_at_call 172;refine (ptimes1 (w.heap.size+2) p 0 k wr LR (by omega) (by omega) (Nat.zero_mul _)).mono ?_;rintro e w6 ⟨rfl,hQ,hB⟩);replace R:=row_but R hB (by omega);replace QR:=row_but QR hB (by omega);replace TR:=row_but TR hB (by omega);replace o:=hB.below o (by omega);replace LR:=hQ;go_roundw
            case rel=>exact ⟨2,p,by omega,by go_num, .inr ⟨by omega,hp.2⟩,R,QR,LR,TR,o⟩
            case measure=>simp [intOf]
          · have q0:=rc9 QR 2;have hp:=hp.resolve_left (by omega);go_wp2_with (go_at_call 172;refine (ptimes2 (w.heap.size+2) p 0 k wr LR (by omega) (by omega) (Nat.zero_mul _)).mono ?_;rintro e w6 ⟨rfl,hQ,hB⟩);replace R:=row_but R hB (by omega);replace QR:=row_but QR hB (by omega);replace TR:=row_but TR hB (by omega);replace o:=hB.below o (by omega);replace LR:=hQ;go_roundw
            case rel=>exact ⟨3,p,by omega,by go_num, .inr ⟨by omega,hp.2⟩,R,QR,LR,TR,o⟩
            case measure=>simp [intOf]
        · have j1:¬ (i:Int)<3:=by omega
          obtain rfl:p=N:=by omega
          clear hp;go_upto_region 15 with (go_at_call 169;refine (PT.out _ o).mono ?_;rintro e w7 ⟨rfl,hb⟩)
          replace R:=row_call R hb;replace QR:=row_call QR hb;replace LR:=row_call LR hb;replace TR:=row_call TR hb;replace o:=o.trans (hb.mono o.size);have ZR:=TR;replace R:=row_alloc R (.cells #[.int .u64 0, .int .u64 (s:Nat)] 67);replace QR:=row_alloc QR (.cells #[.int .u64 0, .int .u64 (s:Nat)] 67);replace LR:=row_alloc LR (.cells #[.int .u64 0, .int .u64 (s:Nat)] 67);replace TR:=row_alloc TR (.cells #[.int .u64 0, .int .u64 (s:Nat)] 67);replace o:=o.alloc o.size (.cells #[.int .u64 0, .int .u64 (s:Nat)] 67);have SR:Row (w7.alloc (.cells #[.int .u64 0, .int .u64 (s:Nat)] 67)) w7.heap.size 67 #[.int .u64 0, .int .u64 (s:Nat)]:=row_new rfl;have zt:=row_lt TR;have zt2:w.heap.size+3≠w7.heap.size/\w.heap.size<=w7.heap.size/\w.heap.size+3<w7.heap.size:=by have:=row_lt ZR;omega
          clear hb j1 PT zt ZR;generalize w7.alloc (.cells #[.int .u64 0, .int .u64 (s:Nat)] 67)=w8 at SR R QR LR TR o |-
          generalize w7.heap.size=sb at SR zt2 |-
          obtain ⟨S0,S1,Sf0,Sf1⟩:=row_two SR;go_upto_region 16 with (go_at_call 172;refine (ptimes0 (w.heap.size+3) 0 s s w8 TR (by omega) (by omega) (by rw [Nat.zero_add,HS2.out];omega)).mono ?_;rintro e w9 ⟨rfl,hQ,hB⟩)
          replace R:=row_but R hB (by omega);replace QR:=row_but QR hB (by omega);replace LR:=row_but LR hB (by omega);replace SR:=row_but SR hB (by omega);replace o:=hB.below o (by omega);rw [Nat.zero_add,HS2.out] at hQ;replace TR:=hQ;clear hQ hB S0 S1 Sf0 Sf1;obtain ⟨S0,S1,Sf0,Sf1⟩:=row_two SR;go_upto_region 17 with (go_at_call 172;refine (ptimes1 (w.heap.size+3) ss s 0 w9 TR (by omega) (by omega) (Nat.mul_zero _)).mono ?_;rintro e w10 ⟨rfl,hQ,hB⟩)
          replace R:=row_but R hB (by omega);replace QR:=row_but QR hB (by omega);replace LR:=row_but LR hB (by omega);replace SR:=row_but SR hB (by omega);replace o:=hB.below o (by omega);replace TR:=hQ;clear hQ hB S0 S1 Sf0 Sf1;obtain ⟨S0,S1,Sf0,Sf1⟩:=row_two SR;go_upto_region 18 with (go_at_call 172;refine (ptimes1 (w.heap.size+3) ss s 0 w10 TR (by omega) (by omega) (Nat.mul_zero _)).mono ?_;rintro e w11 ⟨rfl,hQ,hB⟩)
          replace R:=row_but R hB (by omega);replace QR:=row_but QR hB (by omega);replace LR:=row_but LR hB (by omega);replace SR:=row_but SR hB (by omega);replace o:=hB.below o (by omega);replace TR:=hQ;clear hQ hB S0 S1 Sf0 Sf1;obtain ⟨S0,S1,Sf0,Sf1⟩:=row_two SR;go_upto_region 19 with (go_at_call 172;refine (ptimes2 (w.heap.size+3) ss 0 0 w11 TR (by omega) (by omega) (Nat.mul_zero _)).mono ?_;rintro e w12 ⟨rfl,hQ,hB⟩)
          replace R:=row_but R hB (by omega);replace QR:=row_but QR hB (by omega);replace LR:=row_but LR hB (by omega);replace SR:=row_but SR hB (by omega);replace o:=hB.below o (by omega);replace TR:=hQ;clear hQ hB S0 S1 Sf0 Sf1;clear SR QR;obtain ⟨L0,L1,L2,L3,Lf0,Lf1,Lf2,Lf3⟩:=row_four LR;obtain ⟨T0,T1,T2,T3,Tf0,Tf1,Tf2,Tf3⟩:=row_four TR;go_upto_region 20 with (go_at_call 174;refine (PMI.out _).mono ?_;rintro e w13 ⟨rfl,hb⟩)
          replace R:=row_call R hb;replace LR:=row_call LR hb;replace o:=o.trans (hb.mono o.size);replace R:=row_alloc R (.cells (J19 (.int .u64 (d:Nat))) 264);replace o:=o.alloc o.size (.cells (J19 (.int .u64 (d:Nat))) 264);have DR:Row (w13.alloc (.cells (J19 (.int .u64 (d:Nat))) 264)) w13.heap.size 264 (J19 (.int .u64 (d:Nat))):=row_new rfl;have zd:w.heap.size<w13.heap.size:=by have:=row_lt LR;omega
          clear hb LR TR L0 L1 L2 L3 T0 T1 T2 T3 Lf0 Lf1 Lf2 Lf3 Tf0 Tf1 Tf2 Tf3;generalize w13.alloc (.cells (J19 (.int .u64 (d:Nat))) 264)=w14 at R DR o |-
          generalize w13.heap.size=db at DR zd |-
          obtain ⟨D0,D1,D2,D3,Df0,Df1,Df2,Df3⟩:=row_four DR;go_upto_region 21 with (go_at_call 175;refine (PB1.out _).mono ?_;rintro e w15 ⟨rfl,hb⟩)
          replace R:=row_call R hb;replace DR:=row_call DR hb;replace o:=o.trans (hb.mono o.size);replace R:=row_alloc R (.cells (J19 (.int .u64 (dm:Nat))) 264);replace DR:=row_alloc DR (.cells (J19 (.int .u64 (dm:Nat))) 264);replace o:=o.alloc o.size (.cells (J19 (.int .u64 (dm:Nat))) 264);clear hb D0 D1 D2 D3 Df0 Df1 Df2 Df3;generalize w15.alloc (.cells (J19 (.int .u64 (dm:Nat))) 264)=w16 at R DR o |-
          obtain ⟨D0,D1,D2,D3,Df0,Df1,Df2,Df3⟩:=row_four DR;go_upto_region 22 with (go_at_call 176;refine (PG.out _).mono ?_;rintro e w17 ⟨rfl,hb⟩)
          replace R:=row_call R hb;replace DR:=row_call DR hb;replace o:=o.trans (hb.mono o.size);clear hb D0 D1 D2 D3 Df0 Df1 Df2 Df3;obtain ⟨D0,D1,D2,D3,Df0,Df1,Df2,Df3⟩:=row_four DR;go_upto_region 23 with (go_at_call 175;refine (PB2.out _).mono ?_;rintro e w18 ⟨rfl,hb⟩;replace DR:=row_call DR hb;obtain ⟨G0,G1,G2,G3,Gf0,Gf1,Gf2,Gf3⟩:=row_four DR)
          replace R:=row_call R hb;replace o:=o.trans (hb.mono o.size);clear hb D0 D1 D2 D3 Df0 Df1 Df2 Df3 G0 G1 G2 G3 Gf0 Gf1 Gf2 Gf3;replace R:=row_other (p:=⟨db,0,none⟩) R (by show w.heap.size≠db;omega) (.int .u64 (dg:Nat));replace o:=o.setCell (p:=⟨db,0,none⟩) (by show w.heap.size<=db;omega) (.int .u64 (dg:Nat));replace DR:Row (w18.setCell ⟨db,0,none⟩ (.int .u64 (dg:Nat))) db 264 (J19 (.int .u64 (dg:Nat))):=row_set DR 0 (.int .u64 (dg:Nat));replace R:=row_other (p:=⟨db,1,none⟩) R (by show w.heap.size≠db;omega) (.int .u64 0);replace o:=o.setCell (p:=⟨db,1,none⟩) (by show w.heap.size<=db;omega) (.int .u64 0);replace DR:Row ((w18.setCell ⟨db,0,none⟩ (.int .u64 (dg:Nat))).setCell ⟨db,1,none⟩ (.int .u64 0)) db 264 (J19 (.int .u64 (dg:Nat))):=row_set DR 1 (.int .u64 0);replace R:=row_other (p:=⟨db,2,none⟩) R (by show w.heap.size≠db;omega) (.int .u64 0);replace o:=o.setCell (p:=⟨db,2,none⟩) (by show w.heap.size<=db;omega) (.int .u64 0);replace DR:Row (((w18.setCell ⟨db,0,none⟩ (.int .u64 (dg:Nat))).setCell ⟨db,1,none⟩ (.int .u64 0)).setCell ⟨db,2,none⟩ (.int .u64 0)) db 264 (J19 (.int .u64 (dg:Nat))):=row_set DR 2 (.int .u64 0);replace R:=row_other (p:=⟨db,3,none⟩) R (by show w.heap.size≠db;omega) (.int .u64 0);replace o:=o.setCell (p:=⟨db,3,none⟩) (by show w.heap.size<=db;omega) (.int .u64 0);replace DR:Row ((((w18.setCell ⟨db,0,none⟩ (.int .u64 (dg:Nat))).setCell ⟨db,1,none⟩ (.int .u64 0)).setCell ⟨db,2,none⟩ (.int .u64 0)).setCell ⟨db,3,none⟩ (.int .u64 0)) db 264 (J19 (.int .u64 (dg:Nat))):=row_set DR 3 (.int .u64 0);generalize ((((w18.setCell ⟨db,0,none⟩ (.int .u64 (dg:Nat))).setCell ⟨db,1,none⟩ (.int .u64 0)).setCell ⟨db,2,none⟩ (.int .u64 0)).setCell ⟨db,3,none⟩ (.int .u64 0))=w19 at R DR o |-
          obtain ⟨D0,D1,D2,D3,Df0,Df1,Df2,Df3⟩:=row_four DR;refine wp_region_quietF ?_;repeat (go_big_quiet_step (fail))
          refine wpQuiet_nil ?_;intro _ hw';obtain ⟨nq,hw''⟩:=hw';subst hw'';replace R:Row (w19.drewN nq) w.heap.size 62 #[(),()]:=R;replace DR:Row (w19.drewN nq) db 264 (J19 (.int .u64 (dg:Nat))):=DR;replace o:=o.trans (⟨rfl,rfl,rfl,Nat.le_refl _,fun _ _=>rfl⟩:Below _ w19 (w19.drewN nq));clear D0 D1 D2 D3 Df0 Df1 Df2 Df3;generalize w19.drewN nq=w19 at R DR o |-
          simp only [Exit.then]
          rename ∀ (a:Act) (w:World),Code.wp _ _ _ a w->_=>hK9
          refine hK9 _ _ ?_;clear hK9;refine wp_cond_false (by simp [Act.eval];exact hd65.out) ?_;go_upto_region 25 with (fail)
          refine wp_region_free0 [0,1,2,3,4,5,6,7] [] [0,1,2,3,4,5,6,7] 8 (fun w'=>Below w19 w19 w') (by kernel_rfl) (by kernel_rfl) (fun _ _ d _ _ h=>by cases d<;>exact h) ?_ ?_
          · exact (Below.refl _ _).drew
          (refine plp rfl rfl ?_;simp only [put9]);(refine plv rfl rfl rfl (fun w' hS=>by obtain ⟨D0,D1,D2,D3,Df0,Df1,Df2,Df3⟩:=row_four (row_call DR hS);exact gs9) ?_;simp only [put9]);iterate 6 (refine plp rfl rfl ?_;simp only [put9])
          refine plan_nil ?_;intro w20 L20;simp only [List.drop_succ_cons,List.drop_zero];try simp only [put9]
          replace R:=row_call R L20;replace o:=o.trans (L20.mono o.size);clear L20 DR;cases r2 R;go_wp2;have Sr0:=row_set R 0 (.int .i64 (dg:Nat));have Sr1:=row_set Sr0 1 (.int .i64 (mg:Nat));have o90:=o.setCell (p:=⟨w,0,none⟩) (Nat.le_refl _) (.int .i64 (dg:Nat));have o91:=o90.setCell (p:=⟨w,1,none⟩) (Nat.le_refl _) (.int .i64 (mg:Nat));obtain ⟨S0,S1,_,_⟩:=row_two Sr1;exact bodyPost_ret (v := .tuple #[.agg #[.int .i64 (dg:Nat), .int .i64 (mg:Nat)], .bool true]) (by simp [results,Tryz.results84,go_sem,S0,S1]) rfl ⟨rfl,o91⟩
end Go.Proofs.YtdipoojjlddohaaGreat
