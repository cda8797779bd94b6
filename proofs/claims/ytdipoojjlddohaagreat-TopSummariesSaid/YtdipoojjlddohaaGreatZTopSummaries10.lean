/- What the law TopSummaries needs, joined of its texts by a program (slim2.py); part 10. -/
import Derived.Test.YtdipoojjlddohaaGreatZTopSummaries1
import Derived.Test.YtdipoojjlddohaaGreatZTopSummaries3
import Derived.Test.YtdipoojjlddohaaGreatZTopSummaries4
import Derived.Test.YtdipoojjlddohaaGreatZTopSummaries8
import Derived.Test.YtdipoojjlddohaaGreatZTopSummaries9
set_option linter.unusedVariables false
set_option linter.unusedSimpArgs false
set_option linter.unusedSectionVars false
set_option linter.unnecessarySimpa false
section
/- The long division of the reference, walked. -/
namespace Go.Proofs.YtdipoojjlddohaaGreat
open Go.RowKit Go.Shelf
set_option maxHeartbeats 4000000 in
theorem rdiv_yes (a b:Nat) (ha:a<big) (hb:b<big) (h:b≠0) (w:World) :
    Calls Tryz.prog 275 #[W a,W b] w fun e w'=>e = .returned (.tuple #[W (a / b),W (a % b), .bool true])∧Below w.heap.size w w':=by
  have hz:∀ w':World,(binOp .eql 67 (.agg #[.int .u64 (hi b), .int .u64 (lo b)]) (.agg #[.int .u64 0, .int .u64 0])).run Tryz.prog w' = .ok (.bool false) w':=fun w'=>by
    go_simp
    exact fun h1 h2=>h (hi_inj (b:=0) h1 h2)
  go_enter Tryz.func275,Tryz.ntmps275
  go_upto_region 4 with (fail)
  have T0:=hi_0
  have T1:=lo_0
  have L:DivS w ((((((w.alloc (.cells (Wc a) 67)).alloc (.cells (Wc b) 67)).alloc (.cells #[.int .u64 0, .int .u64 0] 67)).alloc (.cells #[.int .u64 0, .int .u64 0] 67)).alloc (.cells #[.int .u64 0, .int .u64 0] 67)).alloc (.cells #[.int .u64 0, .int .u64 0] 67)) (w.heap.size) (w.heap.size+1) (w.heap.size+1+1) (w.heap.size+1+1+1) (w.heap.size+1+1+1+1) (w.heap.size+1+1+1+1+1) a b 0 0:=by
    refine ⟨by (repeat (first | assumption | (refine row_new ?_;(first | (simp;done) | omega)) | refine row_alloc ?_ _ | refine row_drew ?_ | refine row_call ?_ (by assumption))),by (repeat (first | assumption | (refine row_new ?_;(first | (simp;done) | omega)) | refine row_alloc ?_ _ | refine row_drew ?_ | refine row_call ?_ (by assumption))),by (repeat (first | assumption | (refine row_new ?_;(first | (simp;done) | omega)) | refine row_alloc ?_ _ | refine row_drew ?_ | refine row_call ?_ (by assumption))),by (repeat (first | assumption | (refine row_new ?_;(first | (simp;done) | omega)) | refine row_alloc ?_ _ | refine row_drew ?_ | refine row_call ?_ (by assumption))),by unfold WB Wc;rw [T0,T1];(repeat (first | assumption | (refine row_new ?_;(first | (simp;done) | omega)) | refine row_alloc ?_ _ | refine row_drew ?_ | refine row_call ?_ (by assumption))),by unfold WB Wc;rw [T0,T1];(repeat (first | assumption | (refine row_new ?_;(first | (simp;done) | omega)) | refine row_alloc ?_ _ | refine row_drew ?_ | refine row_call ?_ (by assumption))),by omega,by omega,by omega,by omega,by omega,by omega,by omega,by omega,by omega,by omega,by omega,by (repeat (first | exact Below.refl _ _ | refine Below.setCell ?_ (by (try simp)<;>omega) _ | refine Below.alloc ?_ (by (try simp)<;>omega) _ | refine Below.drew ?_ | refine Below.trans ?_ (Below.mono (by assumption) (by (try simp)<;>omega))))⟩
  generalize ((((((w.alloc (.cells (Wc a) 67)).alloc (.cells (Wc b) 67)).alloc (.cells #[.int .u64 0, .int .u64 0] 67)).alloc (.cells #[.int .u64 0, .int .u64 0] 67)).alloc (.cells #[.int .u64 0, .int .u64 0] 67)).alloc (.cells #[.int .u64 0, .int .u64 0] 67))=w2 at L ⊢
  clear T0 T1 hz
  go_wp2_with fail
  go_loopw [9] (fun i wr=>∃ n:Nat,n≤128∧i = .int .i64 ((n:Int)-1)∧DivS w wr (w.heap.size) (w.heap.size+1) (w.heap.size+1+1) (w.heap.size+1+1+1) (w.heap.size+1+1+1+1) (w.heap.size+1+1+1+1+1) a b (qat a b n) (rat a b n)) (fun i _=>(intOf i+1).toNat)
  case atStart =>
    refine ⟨128,Nat.le_refl _,rfl,?_⟩
    have h128:a<2 ^ 128:=Nat.lt_of_lt_of_le ha (by decide)
    rw [qat_start h128,rat_start h128]
    exact L
  case round =>
    clear L
    obtain ⟨n,hn,rfl,L⟩:=hrel
    rcases n with _ | k
    · rw [qat_0,rat_0] at L
      obtain ⟨A0,A1,_,_⟩:=row_two L.ra;obtain ⟨B0,B1,_,_⟩:=row_two L.rb;obtain ⟨Q0,Q1,U0,U1⟩:=row_two L.rq;obtain ⟨R0,R1,V0,V1⟩:=row_two L.rr
      obtain ⟨Z0,Z1,Z2,Z3⟩:=row_two L.r2
      obtain ⟨Y0,Y1,Y2,Y3⟩:=row_two L.r3
      have hx:=L.below
      go_wp2
      go_region
      go_wp2
      simp [bodyPost,results,Tryz.results275,go_sem,Z0,Z1,Y0,Y1]
      (repeat (first | exact Below.refl _ _ | refine Below.setCell ?_ (by (try simp)<;>omega) _ | refine Below.alloc ?_ (by (try simp)<;>omega) _ | refine Below.drew ?_ | refine Below.trans ?_ (Below.mono (by assumption) (by (try simp)<;>omega))))
    · have ei:(((k+1:Nat):Int)-1)=(k:Int):=by omega
      have C:=rbit a k ha (by omega) (by omega)
      rw [Int.toNat_natCast] at C
      rw [ei]
      have hk:k<128:=by omega
      have D0:=dig_0 a k
      have D1:=dig_1 a k
      have hrb:rat a b (k+1)<big:=Nat.lt_trans (rat_lt h) hb
      have hkn:k≤128:=by omega
      have hqb:qat a b (k+1)<big:=Nat.lt_of_le_of_lt (qat_le a b (k+1)) ha
      have HT:=Lib.hid (takes (a:=a) (k:=k) h hb)
      have HE1:=Lib.hid (fun hge=>step_one (k:=k) ha h hb hge)
      have HE0:=Lib.hid (fun hlt=>step_none (b:=b) (k:=k) ha hb hlt)
      generalize rat a b (k+1)=r at *
      generalize qat a b (k+1)=q at *
      have HC:=Lib.hid C
      clear ei C hn
      obtain ⟨A0,A1,_,_⟩:=row_two L.ra;obtain ⟨B0,B1,_,_⟩:=row_two L.rb;obtain ⟨Q0,Q1,U0,U1⟩:=row_two L.rq;obtain ⟨R0,R1,V0,V1⟩:=row_two L.rr
      go_upto_region 8 with (fail)
      clear A0 A1 B0 B1 Q0 Q1 U0 U1 R0 R1 V0 V1
      refine wp_region_free0 [0,1,2,3,4,5,7,6] [7] [0,1,2,3,4,5,6] 8 (fun w'=>DivS w w' (w.heap.size) (w.heap.size+1) (w.heap.size+1+1) (w.heap.size+1+1+1) (w.heap.size+1+1+1+1) (w.heap.size+1+1+1+1+1) a b q r) (by kernel_rfl) (by kernel_rfl) (fun _ _ d _ _ h=>by cases d<;>exact h) ?_ ?_
      · exact L.drew
      (refine plan_val ?_ rfl rfl rfl (fun w' hS=>?_) ?_;rotate_left;(obtain ⟨A0,A1,_,_⟩:=row_two hS.ra;obtain ⟨B0,B1,_,_⟩:=row_two hS.rb;obtain ⟨Q0,Q1,U0,U1⟩:=row_two hS.rq;obtain ⟨R0,R1,V0,V1⟩:=row_two hS.rr;go_simp;try with_reducible rfl);simp only [put9])
      (refine plan_val ?_ rfl rfl rfl (fun w' hS=>?_) ?_;rotate_left;(obtain ⟨A0,A1,_,_⟩:=row_two hS.ra;obtain ⟨B0,B1,_,_⟩:=row_two hS.rb;obtain ⟨Q0,Q1,U0,U1⟩:=row_two hS.rq;obtain ⟨R0,R1,V0,V1⟩:=row_two hS.rr;go_simp;try with_reducible rfl);simp only [put9])
      (refine plan_pure ?_ rfl rfl (fun w'=>?_) ?_;rotate_left;(go_simp;try with_reducible rfl);simp only [put9])
      refine plan_call (.int .u64 (dig a k)) 303 #[W a, .int .i64 k] rfl rfl rfl (fun w' w'' h hb=>h.call hb) (fun w' hS=>by obtain ⟨A0,A1,_,_⟩:=row_two hS.ra;obtain ⟨B0,B1,_,_⟩:=row_two hS.rb;obtain ⟨Q0,Q1,U0,U1⟩:=row_two hS.rq;obtain ⟨R0,R1,V0,V1⟩:=row_two hS.rr;go_simp) (fun w' hS=>(HC.out w')) ?_
      simp only [put9]
      refine plan_call (.tuple #[W (dbl r (dig a k)), .int .u64 (topd r)]) 302 #[W r, .int .u64 (dig a k)] rfl rfl rfl (fun w' w'' h hb=>h.call hb) (fun w' hS=>by obtain ⟨A0,A1,_,_⟩:=row_two hS.ra;obtain ⟨B0,B1,_,_⟩:=row_two hS.rb;obtain ⟨Q0,Q1,U0,U1⟩:=row_two hS.rq;obtain ⟨R0,R1,V0,V1⟩:=row_two hS.rr;go_simp) (fun w' hS=>rdouble r (dig a k) hrb D0 D1 w') ?_
      simp only [put9]
      (refine plan_pure ?_ rfl rfl (fun w'=>?_) ?_;rotate_left;(go_simp;try with_reducible rfl);simp only [put9])
      (refine plan_pure ?_ rfl rfl (fun w'=>?_) ?_;rotate_left;(go_simp;try with_reducible rfl);simp only [put9])
      (refine plan_pure ?_ rfl rfl (fun w'=>?_) ?_;rotate_left;(go_simp;try with_reducible rfl);simp only [put9])
      refine plan_nil ?_
      intro w3 L3
      simp only [List.drop_succ_cons,List.drop_zero]
      try simp only [put9]
      clear L
      obtain ⟨A0,A1,_,_⟩:=row_two L3.ra;obtain ⟨B0,B1,_,_⟩:=row_two L3.rb;obtain ⟨Q0,Q1,U0,U1⟩:=row_two L3.rq;obtain ⟨R0,R1,V0,V1⟩:=row_two L3.rr
      go_upto_region 9 with (fail)
      clear A0 A1 B0 B1 Q0 Q1 U0 U1 R0 R1 V0 V1
      have L5:=L3.setr (dbl r (dig a k))
      generalize (w3.setCell ⟨w.heap.size+1+1+1+1+1,0,none⟩ (.int .u64 (hi (dbl r (dig a k))))).setCell ⟨w.heap.size+1+1+1+1+1,1,none⟩ (.int .u64 (lo (dbl r (dig a k))))=w5 at L5 ⊢
      clear L3
      have hxb:=dbl_lt r (dig a k)
      generalize dbl r (dig a k)=x at *
      obtain ⟨A0,A1,_,_⟩:=row_two L5.ra;obtain ⟨B0,B1,_,_⟩:=row_two L5.rb;obtain ⟨Q0,Q1,U0,U1⟩:=row_two L5.rq;obtain ⟨R0,R1,V0,V1⟩:=row_two L5.rr
      have S1:=subw_lo hxb hb
      have S2:=subw_hi hxb hb
      obtain ⟨e1,e2⟩:=hi_word hxb
      obtain ⟨e3,e4⟩:=lo_word x
      obtain ⟨e5,e6⟩:=hi_word hb
      obtain ⟨e7,e8⟩:=lo_word b
      have S3:=bor_0 (lo x) (lo b)
      have S4:=bor_1 (lo x) (lo b)
      rcases HT.out with ⟨ht,hge⟩ | ⟨⟨ht,hlt⟩,hnb⟩
      · obtain ⟨E1,E2⟩:=HE1.out hge
        have G1:=Lib.hid E1
        have G2:=Lib.hid E2
        have DB:=Lib.hid (fun w'=>rdouble q 1 hqb (by omega) (by omega) w')
        clear E1 E2 hge HE1 HE0 HT HC D0 D1
        rcases ht with ht | ⟨ht,hle⟩
        · go_upto_region 11 with (fail)
          go_upto_region 13 with (first | simp only [sub64_0 (lo x) (lo b) e3 e7 e8] | simp only [sub64 (hi x) (hi b) _ e1 e5 e6 S3 S4])
          clear A0 A1 B0 B1 Q0 Q1 U0 U1 R0 R1 V0 V1
          obtain ⟨A0,A1,_,_⟩:=row_two L5.ra;obtain ⟨B0,B1,_,_⟩:=row_two L5.rb;obtain ⟨Q0,Q1,U0,U1⟩:=row_two L5.rq;obtain ⟨R0,R1,V0,V1⟩:=row_two L5.rr
          go_upto_region 14 with (fail)
          have L7:=L5.setr (subw x b)
          generalize (w5.setCell ⟨w.heap.size+1+1+1+1+1,0,none⟩ (.int .u64 (hi (subw x b)))).setCell ⟨w.heap.size+1+1+1+1+1,1,none⟩ (.int .u64 (lo (subw x b)))=w7 at L7 ⊢
          clear L5 A0 A1 B0 B1 Q0 Q1 U0 U1 R0 R1 V0 V1 S1 S2 S3 S4
          obtain ⟨A0,A1,_,_⟩:=row_two L7.ra;obtain ⟨B0,B1,_,_⟩:=row_two L7.rb;obtain ⟨Q0,Q1,U0,U1⟩:=row_two L7.rq;obtain ⟨R0,R1,V0,V1⟩:=row_two L7.rr
          go_wp2_with fail
          refine (DB.out _).mono ?_
          rintro e w8 ⟨rfl,hb8⟩
          have L8:=L7.call hb8
          clear L7 A0 A1 B0 B1 Q0 Q1 U0 U1 R0 R1 V0 V1 hb8
          obtain ⟨A0,A1,_,_⟩:=row_two L8.ra;obtain ⟨B0,B1,_,_⟩:=row_two L8.rb;obtain ⟨Q0,Q1,U0,U1⟩:=row_two L8.rq;obtain ⟨R0,R1,V0,V1⟩:=row_two L8.rr
          go_upto_region 6 with (fail)
          have L9:=L8.setq (dbl q 1)
          generalize (w8.setCell ⟨w.heap.size+1+1+1+1,0,none⟩ (.int .u64 (hi (dbl q 1)))).setCell ⟨w.heap.size+1+1+1+1,1,none⟩ (.int .u64 (lo (dbl q 1)))=w9 at L9 ⊢
          rw [G1.out,G2.out] at L9
          clear L8 A0 A1 B0 B1 Q0 Q1 U0 U1 R0 R1 V0 V1
          go_wp2
          go_roundw
          case rel=>exact ⟨k,hkn,by go_num,L9⟩
          case measure=>first | (simp [intOf];done) | (simp [intOf];omega)
        · have CL:=fun w'=>rcmp_any x b w'
          rcases Nat.lt_or_eq_of_le hle with hlt | hxe
          · rw [cmp_gt hlt] at CL
            have CM:=Lib.hid CL
            clear CL hle hlt
            go_upto_region 11 with ((go_at_call 304;refine (CM.out _).mono ?_;rintro e w6 ⟨rfl,hb6⟩))
            have L6:=L5.call hb6
            clear L5 A0 A1 B0 B1 Q0 Q1 U0 U1 R0 R1 V0 V1 hb6
            obtain ⟨w5,rfl⟩:∃ x:World,x=w6:=⟨_,rfl⟩
            have L5:=L6
            clear L6
            obtain ⟨A0,A1,_,_⟩:=row_two L5.ra;obtain ⟨B0,B1,_,_⟩:=row_two L5.rb;obtain ⟨Q0,Q1,U0,U1⟩:=row_two L5.rq;obtain ⟨R0,R1,V0,V1⟩:=row_two L5.rr
            go_upto_region 13 with (first | simp only [sub64_0 (lo x) (lo b) e3 e7 e8] | simp only [sub64 (hi x) (hi b) _ e1 e5 e6 S3 S4])
            clear A0 A1 B0 B1 Q0 Q1 U0 U1 R0 R1 V0 V1
            obtain ⟨A0,A1,_,_⟩:=row_two L5.ra;obtain ⟨B0,B1,_,_⟩:=row_two L5.rb;obtain ⟨Q0,Q1,U0,U1⟩:=row_two L5.rq;obtain ⟨R0,R1,V0,V1⟩:=row_two L5.rr
            go_upto_region 14 with (fail)
            have L7:=L5.setr (subw x b)
            generalize (w5.setCell ⟨w.heap.size+1+1+1+1+1,0,none⟩ (.int .u64 (hi (subw x b)))).setCell ⟨w.heap.size+1+1+1+1+1,1,none⟩ (.int .u64 (lo (subw x b)))=w7 at L7 ⊢
            clear L5 A0 A1 B0 B1 Q0 Q1 U0 U1 R0 R1 V0 V1 S1 S2 S3 S4
            obtain ⟨A0,A1,_,_⟩:=row_two L7.ra;obtain ⟨B0,B1,_,_⟩:=row_two L7.rb;obtain ⟨Q0,Q1,U0,U1⟩:=row_two L7.rq;obtain ⟨R0,R1,V0,V1⟩:=row_two L7.rr
            go_wp2_with fail
            refine (DB.out _).mono ?_
            rintro e w8 ⟨rfl,hb8⟩
            have L8:=L7.call hb8
            clear L7 A0 A1 B0 B1 Q0 Q1 U0 U1 R0 R1 V0 V1 hb8
            obtain ⟨A0,A1,_,_⟩:=row_two L8.ra;obtain ⟨B0,B1,_,_⟩:=row_two L8.rb;obtain ⟨Q0,Q1,U0,U1⟩:=row_two L8.rq;obtain ⟨R0,R1,V0,V1⟩:=row_two L8.rr
            go_upto_region 6 with (fail)
            have L9:=L8.setq (dbl q 1)
            generalize (w8.setCell ⟨w.heap.size+1+1+1+1,0,none⟩ (.int .u64 (hi (dbl q 1)))).setCell ⟨w.heap.size+1+1+1+1,1,none⟩ (.int .u64 (lo (dbl q 1)))=w9 at L9 ⊢
            rw [G1.out,G2.out] at L9
            clear L8 A0 A1 B0 B1 Q0 Q1 U0 U1 R0 R1 V0 V1
            go_wp2
            go_roundw
            case rel=>exact ⟨k,hkn,by go_num,L9⟩
            case measure=>first | (simp [intOf];done) | (simp [intOf];omega)
          · have c0:cmp x b=0:=by subst hxe;exact cmp_eq _
            rw [c0] at CL
            have CM:=Lib.hid CL
            clear CL hle hxe c0
            go_upto_region 11 with ((go_at_call 304;refine (CM.out _).mono ?_;rintro e w6 ⟨rfl,hb6⟩))
            have L6:=L5.call hb6
            clear L5 A0 A1 B0 B1 Q0 Q1 U0 U1 R0 R1 V0 V1 hb6
            obtain ⟨w5,rfl⟩:∃ x:World,x=w6:=⟨_,rfl⟩
            have L5:=L6
            clear L6
            obtain ⟨A0,A1,_,_⟩:=row_two L5.ra;obtain ⟨B0,B1,_,_⟩:=row_two L5.rb;obtain ⟨Q0,Q1,U0,U1⟩:=row_two L5.rq;obtain ⟨R0,R1,V0,V1⟩:=row_two L5.rr
            go_upto_region 13 with (first | simp only [sub64_0 (lo x) (lo b) e3 e7 e8] | simp only [sub64 (hi x) (hi b) _ e1 e5 e6 S3 S4])
            clear A0 A1 B0 B1 Q0 Q1 U0 U1 R0 R1 V0 V1
            obtain ⟨A0,A1,_,_⟩:=row_two L5.ra;obtain ⟨B0,B1,_,_⟩:=row_two L5.rb;obtain ⟨Q0,Q1,U0,U1⟩:=row_two L5.rq;obtain ⟨R0,R1,V0,V1⟩:=row_two L5.rr
            go_upto_region 14 with (fail)
            have L7:=L5.setr (subw x b)
            generalize (w5.setCell ⟨w.heap.size+1+1+1+1+1,0,none⟩ (.int .u64 (hi (subw x b)))).setCell ⟨w.heap.size+1+1+1+1+1,1,none⟩ (.int .u64 (lo (subw x b)))=w7 at L7 ⊢
            clear L5 A0 A1 B0 B1 Q0 Q1 U0 U1 R0 R1 V0 V1 S1 S2 S3 S4
            obtain ⟨A0,A1,_,_⟩:=row_two L7.ra;obtain ⟨B0,B1,_,_⟩:=row_two L7.rb;obtain ⟨Q0,Q1,U0,U1⟩:=row_two L7.rq;obtain ⟨R0,R1,V0,V1⟩:=row_two L7.rr
            go_wp2_with fail
            refine (DB.out _).mono ?_
            rintro e w8 ⟨rfl,hb8⟩
            have L8:=L7.call hb8
            clear L7 A0 A1 B0 B1 Q0 Q1 U0 U1 R0 R1 V0 V1 hb8
            obtain ⟨A0,A1,_,_⟩:=row_two L8.ra;obtain ⟨B0,B1,_,_⟩:=row_two L8.rb;obtain ⟨Q0,Q1,U0,U1⟩:=row_two L8.rq;obtain ⟨R0,R1,V0,V1⟩:=row_two L8.rr
            go_upto_region 6 with (fail)
            have L9:=L8.setq (dbl q 1)
            generalize (w8.setCell ⟨w.heap.size+1+1+1+1,0,none⟩ (.int .u64 (hi (dbl q 1)))).setCell ⟨w.heap.size+1+1+1+1,1,none⟩ (.int .u64 (lo (dbl q 1)))=w9 at L9 ⊢
            rw [G1.out,G2.out] at L9
            clear L8 A0 A1 B0 B1 Q0 Q1 U0 U1 R0 R1 V0 V1
            go_wp2
            go_roundw
            case rel=>exact ⟨k,hkn,by go_num,L9⟩
            case measure=>first | (simp [intOf];done) | (simp [intOf];omega)
      · have G3:=Lib.hid (HE0.out hnb)
        have DB:=Lib.hid (fun w'=>rdouble q 0 hqb (by omega) (by omega) w')
        have CL:=fun w'=>rcmp_any x b w'
        rw [cmp_lt hlt] at CL
        have CM:=Lib.hid CL
        clear CL HE1 HE0 HT hnb hlt HC D0 D1
        go_upto_region 14 with ((go_at_call 304;refine (CM.out _).mono ?_;rintro e w6 ⟨rfl,hb6⟩))
        have L6:=L5.call hb6
        clear L5 A0 A1 B0 B1 Q0 Q1 U0 U1 R0 R1 V0 V1 hb6
        have L7:=L6
        clear L6
        obtain ⟨w7,rfl⟩:∃ x:World,x=w6:=⟨_,rfl⟩
        obtain ⟨A0,A1,_,_⟩:=row_two L7.ra;obtain ⟨B0,B1,_,_⟩:=row_two L7.rb;obtain ⟨Q0,Q1,U0,U1⟩:=row_two L7.rq;obtain ⟨R0,R1,V0,V1⟩:=row_two L7.rr
        go_wp2_with fail
        refine (DB.out _).mono ?_
        rintro e w8 ⟨rfl,hb8⟩
        have L8:=L7.call hb8
        clear L7 A0 A1 B0 B1 Q0 Q1 U0 U1 R0 R1 V0 V1 hb8
        obtain ⟨A0,A1,_,_⟩:=row_two L8.ra;obtain ⟨B0,B1,_,_⟩:=row_two L8.rb;obtain ⟨Q0,Q1,U0,U1⟩:=row_two L8.rq;obtain ⟨R0,R1,V0,V1⟩:=row_two L8.rr
        go_upto_region 6 with (fail)
        have L9:=L8.setq (dbl q 0)
        generalize (w8.setCell ⟨w.heap.size+1+1+1+1,0,none⟩ (.int .u64 (hi (dbl q 0)))).setCell ⟨w.heap.size+1+1+1+1,1,none⟩ (.int .u64 (lo (dbl q 0)))=w9 at L9 ⊢
        rw [G3.out.1,G3.out.2] at L9
        clear L8 A0 A1 B0 B1 Q0 Q1 U0 U1 R0 R1 V0 V1
        go_wp2
        go_roundw
        case rel=>exact ⟨k,hkn,by go_num,L9⟩
        case measure=>first | (simp [intOf];done) | (simp [intOf];omega)
end Go.Proofs.YtdipoojjlddohaaGreat
end
section
/- Greatest common divisors, and division by 0, walked: the program and the reference. -/
namespace Go.Proofs.YtdipoojjlddohaaGreat
open Go.RowKit Go.Shelf
theorem run_neq_zero {b:Nat} (h:b≠0) (w':World):(binOp .neq 67 (.agg #[.int .u64 (hi b), .int .u64 (lo b)]) (.agg #[.int .u64 0, .int .u64 0])).run Tryz.prog w' = .ok (.bool true) w':=by
  go_simp
  exact fun h1 h2=>h (hi_inj (b:=0) h1 h2)
theorem run_eql_zero {b:Nat} (h:b≠0) (w':World):(binOp .eql 67 (.agg #[.int .u64 (hi b), .int .u64 (lo b)]) (.agg #[.int .u64 0, .int .u64 0])).run Tryz.prog w' = .ok (.bool false) w':=by
  go_simp
  exact fun h1 h2=>h (hi_inj (b:=0) h1 h2)
def GcdS (w w':World) (a b x y:Nat):Prop:=x<big∧y<big∧Nat.gcd x y=Nat.gcd a b∧Row w' (w.heap.size) 67 (Wc x)∧Row w' (w.heap.size+1) 67 (Wc y)∧Row w' (w.heap.size+1+1) 67 #[.int .u64 0, .int .u64 0]∧Below w.heap.size w w'
theorem GcdS.call {w w' w'':World} {a b x y:Nat} (h:GcdS w w' a b x y) (k:Below w'.heap.size w' w''):GcdS w w'' a b x y :=
  ⟨h.1,h.2.1,h.2.2.1,row_call h.2.2.2.1 k,row_call h.2.2.2.2.1 k,row_call h.2.2.2.2.2.1 k,h.2.2.2.2.2.2.trans (k.mono h.2.2.2.2.2.2.size)⟩
theorem GcdS.drew {w w':World} {a b x y:Nat} (h:GcdS w w' a b x y):GcdS w w'.drew a b x y:=⟨h.1,h.2.1,h.2.2.1,h.2.2.2.1,h.2.2.2.2.1,h.2.2.2.2.2.1,h.2.2.2.2.2.2.drew⟩
theorem GcdS.step {w w':World} {a b x y:Nat} (h:GcdS w w' a b x y) (hy:y≠0):GcdS w ((((w'.setCell ⟨w.heap.size,0,none⟩ (.int .u64 (hi y))).setCell ⟨w.heap.size,1,none⟩ (.int .u64 (lo y))).setCell ⟨w.heap.size+1,0,none⟩ (.int .u64 (hi (x % y)))).setCell ⟨w.heap.size+1,1,none⟩ (.int .u64 (lo (x % y)))) a b y (x % y):=by
  obtain ⟨h1,h2,h3,h4,h5,h6,h7⟩:=h
  refine ⟨h2,Nat.lt_trans (Nat.mod_lt _ (by omega)) h2,?_,row_two_other (row_two_set h4) (by omega),row_two_set (row_two_other h5 (by omega)),row_two_other (row_two_other h6 (by omega)) (by omega),?_⟩
  · rw [← h3,Nat.gcd_comm x y,Nat.gcd_rec y x,Nat.gcd_comm]
  · exact (((h7.setCell (by simp) _).setCell (by simp) _).setCell (by simp) _).setCell (by simp) _
set_option maxHeartbeats 2000000 in
theorem pgcd (a b:Nat) (ha:a<big) (hb:b<big) (w:World) :
    Calls Tryz.prog 154 #[W a,W b] w fun e w'=>e = .returned (W (Nat.gcd a b))∧Below w.heap.size w w':=by
  go_enter Tryz.func154,Tryz.ntmps154
  go_wp2_with fail
  have L:GcdS w (((w.alloc (.cells (Wc a) 67)).alloc (.cells (Wc b) 67)).alloc (.cells #[.int .u64 0, .int .u64 0] 67)) a b a b:=by
    refine ⟨ha,hb,rfl,?_,?_,?_,?_⟩
    · (repeat (first | assumption | (refine row_new ?_;(first | (simp;done) | omega)) | refine row_alloc ?_ _ | refine row_drew ?_ | refine row_call ?_ (by assumption)))
    · (repeat (first | assumption | (refine row_new ?_;(first | (simp;done) | omega)) | refine row_alloc ?_ _ | refine row_drew ?_ | refine row_call ?_ (by assumption)))
    · (repeat (first | assumption | (refine row_new ?_;(first | (simp;done) | omega)) | refine row_alloc ?_ _ | refine row_drew ?_ | refine row_call ?_ (by assumption)))
    · (repeat (first | exact Below.refl _ _ | refine Below.setCell ?_ (by (try simp)<;>omega) _ | refine Below.alloc ?_ (by (try simp)<;>omega) _ | refine Below.drew ?_ | refine Below.trans ?_ (Below.mono (by assumption) (by (try simp)<;>omega))))
  generalize (((w.alloc (.cells (Wc a) 67)).alloc (.cells (Wc b) 67)).alloc (.cells #[.int .u64 0, .int .u64 0] 67))=w2 at L ⊢
  go_loopg [] b (fun y wr=>∃ x,GcdS w wr a b x y)
  case atStart=>exact ⟨a,L⟩
  case round =>
    clear L
    obtain ⟨x,L⟩:=hrel
    have hx:=L.1
    have hy:=L.2.1
    have HG:=Lib.hid L.2.2.1
    by_cases h0:gk=0
    · subst h0
      have L1:=L.2.2.2
      obtain ⟨A00,A01,A02,A03⟩:=row_two L1.1;obtain ⟨A10,A11,A12,A13⟩:=row_two L1.2.1;obtain ⟨A20,A21,A22,A23⟩:=row_two L1.2.2.1
      go_upto_region 4 with (go_at_call 163;refine (pzero 0 _).mono ?_;rintro e w2 ⟨rfl,hb2⟩;obtain ⟨hc2,hf2⟩:=bcell hb2;have hz2:=hb2.size;(try simp at hz2))
      have M0:=row_call L1.1 hb2
      have M2:=row_call L1.2.2.1 hb2
      have B2:=L1.2.2.2.trans (hb2.mono L1.2.2.2.size)
      obtain ⟨C0,C1,_,_⟩:=row_two M0
      obtain ⟨D0,D1,D2,D3⟩:=row_two M2
      have e:Nat.gcd a b=x:=by rw [← HG.out,Nat.gcd_zero_right]
      clear L L1 A00 A01 A02 A03 A10 A11 A12 A13 A20 A21 A22 A23 hb2 hc2 hf2
      go_wp2
      simp [bodyPost,results,Tryz.results154,go_sem,D0,D1,e]
      (repeat (first | exact Below.refl _ _ | refine Below.setCell ?_ (by (try simp)<;>omega) _ | refine Below.alloc ?_ (by (try simp)<;>omega) _ | refine Below.drew ?_ | refine Below.trans ?_ (Below.mono (by assumption) (by (try simp)<;>omega))))
    · have hz:decide (gk=0)=false:=by simpa using h0
      have hq:=run_eql_zero h0
      have L1:=L.2.2.2
      obtain ⟨A00,A01,A02,A03⟩:=row_two L1.1;obtain ⟨A10,A11,A12,A13⟩:=row_two L1.2.1;obtain ⟨A20,A21,A22,A23⟩:=row_two L1.2.2.1
      go_upto_region 2 with (go_at_call 163;refine (pzero gk _).mono ?_;rintro e w2 ⟨rfl,hb2⟩;obtain ⟨hc2,hf2⟩:=bcell hb2;have hz2:=hb2.size;(try simp at hz2))
      have L3:=L.call hb2
      clear L L1 A00 A01 A02 A03 A10 A11 A12 A13 A20 A21 A22 A23 hb2 hc2 hf2 hz2
      have L1:=L3.2.2.2
      obtain ⟨A00,A01,A02,A03⟩:=row_two L1.1;obtain ⟨A10,A11,A12,A13⟩:=row_two L1.2.1;obtain ⟨A20,A21,A22,A23⟩:=row_two L1.2.2.1
      clear hq hz
      have HD:=Lib.hid (fun w'=>pdiv_yes x gk hx hy h0 w')
      go_wp2_with fail
      refine (HD.out _).mono ?_
      rintro e w4 ⟨rfl,hb4⟩
      have L4:=L3.call hb4
      clear L3 L1 A00 A01 A02 A03 A10 A11 A12 A13 A20 A21 A22 A23 hb4
      have L1:=L4.2.2.2
      obtain ⟨A00,A01,A02,A03⟩:=row_two L1.1;obtain ⟨A10,A11,A12,A13⟩:=row_two L1.2.1;obtain ⟨A20,A21,A22,A23⟩:=row_two L1.2.2.1
      have s4:=row_lt L1.2.2.1
      have L5:GcdS w ((w4.alloc (.cells (Wc (x / gk)) 67)).alloc (.cells (Wc (x % gk)) 67)) a b x gk :=
        ⟨L4.1,L4.2.1,L4.2.2.1,row_alloc (row_alloc L1.1 _) _,row_alloc (row_alloc L1.2.1 _) _,row_alloc (row_alloc L1.2.2.1 _) _,(L1.2.2.2.alloc (by omega) _).alloc (by simp;omega) _⟩
      have N0:Row ((w4.alloc (.cells (Wc (x / gk)) 67)).alloc (.cells (Wc (x % gk)) 67)) (w4.heap.size+1) 67 (Wc (x % gk)):=by (repeat (first | assumption | (refine row_new ?_;(first | (simp;done) | omega)) | refine row_alloc ?_ _ | refine row_drew ?_ | refine row_call ?_ (by assumption)))
      go_upto_region 3 with (fail)
      clear L4 L1 A00 A01 A02 A03 A10 A11 A12 A13 A20 A21 A22 A23
      generalize ((w4.alloc (.cells (Wc (x / gk)) 67)).alloc (.cells (Wc (x % gk)) 67))=w5 at L5 N0 ⊢
      have L1:=L5.2.2.2
      obtain ⟨A00,A01,A02,A03⟩:=row_two L1.1;obtain ⟨A10,A11,A12,A13⟩:=row_two L1.2.1;obtain ⟨A20,A21,A22,A23⟩:=row_two L1.2.2.1
      obtain ⟨C0,C1,_,_⟩:=row_two N0
      have L6:=L5.step h0
      go_region
      have L7:=L6.drew
      clear L6 L5 N0 L1 A00 A01 A02 A03 A10 A11 A12 A13 A20 A21 A22 A23 C0 C1
      generalize ((((w5.setCell ⟨w.heap.size,0,none⟩ (.int .u64 (hi gk))).setCell ⟨w.heap.size,1,none⟩ (.int .u64 (lo gk))).setCell ⟨w.heap.size+1,0,none⟩ (.int .u64 (hi (x % gk)))).setCell ⟨w.heap.size+1,1,none⟩ (.int .u64 (lo (x % gk)))).drew=w7 at L7 ⊢
      go_wp2
      go_roundg (x % gk)
      case measure=>exact Nat.mod_lt _ (by omega)
      case rel=>exact ⟨gk,L7⟩
set_option maxHeartbeats 2000000 in
theorem rgcd (a b:Nat) (ha:a<big) (hb:b<big) (w:World) :
    Calls Tryz.prog 242 #[W a,W b] w fun e w'=>e = .returned (W (Nat.gcd a b))∧Below w.heap.size w w':=by
  go_enter Tryz.func242,Tryz.ntmps242
  go_wp2_with fail
  have L:GcdS w (((w.alloc (.cells (Wc a) 67)).alloc (.cells (Wc b) 67)).alloc (.cells #[.int .u64 0, .int .u64 0] 67)) a b a b:=by
    refine ⟨ha,hb,rfl,?_,?_,?_,?_⟩
    · (repeat (first | assumption | (refine row_new ?_;(first | (simp;done) | omega)) | refine row_alloc ?_ _ | refine row_drew ?_ | refine row_call ?_ (by assumption)))
    · (repeat (first | assumption | (refine row_new ?_;(first | (simp;done) | omega)) | refine row_alloc ?_ _ | refine row_drew ?_ | refine row_call ?_ (by assumption)))
    · (repeat (first | assumption | (refine row_new ?_;(first | (simp;done) | omega)) | refine row_alloc ?_ _ | refine row_drew ?_ | refine row_call ?_ (by assumption)))
    · (repeat (first | exact Below.refl _ _ | refine Below.setCell ?_ (by (try simp)<;>omega) _ | refine Below.alloc ?_ (by (try simp)<;>omega) _ | refine Below.drew ?_ | refine Below.trans ?_ (Below.mono (by assumption) (by (try simp)<;>omega))))
  generalize (((w.alloc (.cells (Wc a) 67)).alloc (.cells (Wc b) 67)).alloc (.cells #[.int .u64 0, .int .u64 0] 67))=w2 at L ⊢
  go_loopg [] b (fun y wr=>∃ x,GcdS w wr a b x y)
  case atStart=>exact ⟨a,L⟩
  case round =>
    clear L
    obtain ⟨x,L⟩:=hrel
    have hx:=L.1
    have hy:=L.2.1
    have HG:=Lib.hid L.2.2.1
    by_cases h0:gk=0
    · subst h0
      have T0:=hi_0
      have T1:=lo_0
      have L1:=L.2.2.2
      obtain ⟨A00,A01,A02,A03⟩:=row_two L1.1;obtain ⟨A10,A11,A12,A13⟩:=row_two L1.2.1;obtain ⟨A20,A21,A22,A23⟩:=row_two L1.2.2.1
      go_upto_region 4 with (fail)
      have M0:=L1.1
      have M2:=L1.2.2.1
      have B2:=L1.2.2.2
      obtain ⟨C0,C1,_,_⟩:=row_two M0
      obtain ⟨D0,D1,D2,D3⟩:=row_two M2
      have e:Nat.gcd a b=x:=by rw [← HG.out,Nat.gcd_zero_right]
      clear L L1 A00 A01 A02 A03 A10 A11 A12 A13 A20 A21 A22 A23
      go_wp2
      simp [bodyPost,results,Tryz.results242,go_sem,D0,D1,e]
      (repeat (first | exact Below.refl _ _ | refine Below.setCell ?_ (by (try simp)<;>omega) _ | refine Below.alloc ?_ (by (try simp)<;>omega) _ | refine Below.drew ?_ | refine Below.trans ?_ (Below.mono (by assumption) (by (try simp)<;>omega))))
    · have hz:decide (gk=0)=false:=by simpa using h0
      have hq:=run_neq_zero h0
      have L1:=L.2.2.2
      obtain ⟨A00,A01,A02,A03⟩:=row_two L1.1;obtain ⟨A10,A11,A12,A13⟩:=row_two L1.2.1;obtain ⟨A20,A21,A22,A23⟩:=row_two L1.2.2.1
      go_upto_region 2 with (fail)
      have L3:=L
      clear L
      clear hq hz
      have HD:=Lib.hid (fun w'=>rdiv_yes x gk hx hy h0 w')
      go_wp2_with fail
      refine (HD.out _).mono ?_
      rintro e w4 ⟨rfl,hb4⟩
      have L4:=L3.call hb4
      clear L3 L1 A00 A01 A02 A03 A10 A11 A12 A13 A20 A21 A22 A23 hb4
      have L1:=L4.2.2.2
      obtain ⟨A00,A01,A02,A03⟩:=row_two L1.1;obtain ⟨A10,A11,A12,A13⟩:=row_two L1.2.1;obtain ⟨A20,A21,A22,A23⟩:=row_two L1.2.2.1
      have s4:=row_lt L1.2.2.1
      have L5:GcdS w ((w4.alloc (.cells (Wc (x / gk)) 67)).alloc (.cells (Wc (x % gk)) 67)) a b x gk :=
        ⟨L4.1,L4.2.1,L4.2.2.1,row_alloc (row_alloc L1.1 _) _,row_alloc (row_alloc L1.2.1 _) _,row_alloc (row_alloc L1.2.2.1 _) _,(L1.2.2.2.alloc (by omega) _).alloc (by simp;omega) _⟩
      have N0:Row ((w4.alloc (.cells (Wc (x / gk)) 67)).alloc (.cells (Wc (x % gk)) 67)) (w4.heap.size+1) 67 (Wc (x % gk)):=by (repeat (first | assumption | (refine row_new ?_;(first | (simp;done) | omega)) | refine row_alloc ?_ _ | refine row_drew ?_ | refine row_call ?_ (by assumption)))
      go_upto_region 3 with (fail)
      clear L4 L1 A00 A01 A02 A03 A10 A11 A12 A13 A20 A21 A22 A23
      generalize ((w4.alloc (.cells (Wc (x / gk)) 67)).alloc (.cells (Wc (x % gk)) 67))=w5 at L5 N0 ⊢
      have L1:=L5.2.2.2
      obtain ⟨A00,A01,A02,A03⟩:=row_two L1.1;obtain ⟨A10,A11,A12,A13⟩:=row_two L1.2.1;obtain ⟨A20,A21,A22,A23⟩:=row_two L1.2.2.1
      obtain ⟨C0,C1,_,_⟩:=row_two N0
      have L6:=L5.step h0
      go_region
      have L7:=L6.drew
      clear L6 L5 N0 L1 A00 A01 A02 A03 A10 A11 A12 A13 A20 A21 A22 A23 C0 C1
      generalize ((((w5.setCell ⟨w.heap.size,0,none⟩ (.int .u64 (hi gk))).setCell ⟨w.heap.size,1,none⟩ (.int .u64 (lo gk))).setCell ⟨w.heap.size+1,0,none⟩ (.int .u64 (hi (x % gk)))).setCell ⟨w.heap.size+1,1,none⟩ (.int .u64 (lo (x % gk)))).drew=w7 at L7 ⊢
      go_wp2
      go_roundg (x % gk)
      case measure=>exact Nat.mod_lt _ (by omega)
      case rel=>exact ⟨gk,L7⟩
end Go.Proofs.YtdipoojjlddohaaGreat
end
section
/- Spreads of marks: which marks have one, walked. -/
namespace Go.Proofs.YtdipoojjlddohaaGreat
open Go.RowKit Go.Shelf
theorem ret_i64 {k:IntKind} {a b:Int} (h:a=b):Ending.returned (.int k a) = .returned (.int k b):=by rw [h]
theorem ret_bool {a b:Bool} (h:a=b):Ending.returned (.bool a) = .returned (.bool b):=by rw [h]
end Go.Proofs.YtdipoojjlddohaaGreat
end
section
/- Spreads of marks: the spread of a mark, walked. -/
namespace Go.Proofs.YtdipoojjlddohaaGreat
open Go.RowKit Go.Shelf
theorem psize (a:Nat) (h:a<9223372036854775808) (w:World):Calls Tryz.prog 155 #[.int .i64 a] w fun e w'=>e = .returned (.int .u64 a)∧w'=w:=by
  have h0:¬ (a:Int)<0:=by omega
  have wa:IntKind.u64.wrap (a:Int)=(a:Int):=IntWalk.u64_in _ (by omega)
  go_enter Tryz.func155,Tryz.ntmps155
  go_wp2
  go_ret
  exact ⟨rfl,rfl⟩
def ratA (n s q:Int):Int:=((topN n s q / Nat.gcd (topN n s q) n.toNat:Nat):Int)
def ratB (n s q:Int):Int:=((n.toNat / Nat.gcd (topN n s q) n.toNat:Nat):Int)
end Go.Proofs.YtdipoojjlddohaaGreat
end
section
/- Spreads of marks: parameters; the empty histograms; the bound of the number of marks; the example, walked. -/
namespace Go.Proofs.YtdipoojjlddohaaGreat
open Go.RowKit Go.Shelf
theorem nbits (x:Nat) (h:x<9223372036854775808) (w:World):Calls Tryz.prog 266 #[.int .i64 x] w fun e w'=>e = .returned (.int .i64 (Lib.bitLen x:Nat))∧w'=w:=by
  have PL:=fun w=>len64 (x:Int) w (by omega) (by omega)
  rw [Int.toNat_natCast] at PL
  generalize Lib.bitLen x=b at PL ⊢
  have PL:=Lib.hid PL
  have t0:¬ (x:Int)<0:=by omega
  have wx:IntKind.u64.wrap (x:Int)=(x:Int):=IntWalk.u64_in _ (by omega)
  clear h
  go_enter Tryz.func266,Tryz.ntmps266
  go_wp2_with (go_at_call 245;with_reducible refine (PL.out _).mono ?_;rintro e w9 ⟨rfl,h9⟩;obtain rfl:=h9.symm)
  go_ret
  exact ⟨rfl,rfl⟩
def mostV (k cap:Int):Int:=(if 1≤k∧k≤64∧1≤cap∧cap≤65536 then 12*k*(3*(Lib.bitLen cap.toNat:Nat)+24)+4 else 0)
end Go.Proofs.YtdipoojjlddohaaGreat
end
section
/- Marks of smooth histograms: which lists of marks are valid, a value more, marks that fall away; plain. -/
namespace Go.Proofs.YtdipoojjlddohaaGreat
structure Mk where
  seq:Int
  t:Int
  n:Int
  s:Int
  q:Int
  lo:Int
  hi:Int
def Mk.zero:Mk:=⟨0,0,0,0,0,0,0⟩
def mkAt (l:List Mk) (i:Nat):Mk:=l.getD i Mk.zero
def partP (n lo hi s q:Int):Prop:=n*lo≤s∧s≤n*hi∧0≤q∧q≤n*4096*4096∧s*s≤n*q
instance (n lo hi s q:Int):Decidable (partP n lo hi s q):=by unfold partP;infer_instance
def oneP (seq cap now w least:Int) (m:Mk):Prop :=
  1≤m.seq∧m.seq≤seq∧m.n=seq-m.seq+1∧m.n≤cap∧0≤m.t∧m.t≤now∧least≤m.lo∧m.hi≤4096∧m.lo≤m.hi∧partP m.n m.lo m.hi m.s m.q
instance (seq cap now w least:Int) (m:Mk):Decidable (oneP seq cap now w least m):=by unfold oneP;infer_instance
def twoP (o m:Mk):Prop:=o.seq<m.seq∧o.t≤m.t∧o.lo≤m.lo∧m.hi≤o.hi∧partP (o.n-m.n) o.lo o.hi (o.s-m.s) (o.q-m.q)
instance (o m:Mk):Decidable (twoP o m):=by unfold twoP;infer_instance
def lastP (seq:Int) (m:Mk):Prop:=m.seq=seq∧m.lo=m.s∧m.hi=m.s∧m.q=m.s*m.s
instance (seq:Int) (m:Mk):Decidable (lastP seq m):=by unfold lastP;infer_instance
def atP (l:List Mk) (seq cap now w least:Int) (i:Nat):Prop :=
  oneP seq cap now w least (mkAt l i)∧((0<i∨l.length=1)→now-w<(mkAt l i).t)∧(0<i→twoP (mkAt l (i-1)) (mkAt l i))
instance (l:List Mk) (seq cap now w least:Int) (i:Nat):Decidable (atP l seq cap now w least i):=by unfold atP;infer_instance
def mvalid (l:List Mk) (seq cap now w least:Int):Prop :=
  0≤seq∧seq≤1099511627776∧(∀ i,i<l.length→atP l seq cap now w least i)∧(l.length≠0→lastP seq (mkAt l (l.length-1)))
instance (l:List Mk) (seq cap now w least:Int):Decidable (mvalid l seq cap now w least):=by unfold mvalid;infer_instance
def inc (v:Int) (m:Mk):Mk:=⟨m.seq,m.t,m.n+1,m.s+v,m.q+v*v,min m.lo v,max m.hi v⟩
def newMk (seq t v:Int):Mk:=⟨seq,t,1,v,v*v,v,v⟩
def incl (l:List Mk) (seq t v:Int):List Mk:=l.map (inc v) ++ [newMk seq t v]
def lastN (f:Mk→Bool):List Mk→Nat
  | []=>0
  | x :: xs=>if xs.any f then lastN f xs+1 else 0
def prune (near:Mk→Mk→Bool):List Mk→List Mk
  | []=>[]
  | a :: r=>a :: prune near (r.drop (lastN (near a) r))
termination_by l=>l.length
decreasing_by simp;omega
def dropM (now w:Int):List Mk→List Mk
  | []=>[]
  | [a]=>if now-w<a.t then [a] else []
  | a :: b :: r=>if now-w<b.t then a :: b :: r else dropM now w (b :: r)
end Go.Proofs.YtdipoojjlddohaaGreat
end
section
/- Smooth histograms: the aggregate of a mark, which states are valid, and what becomes of them; plain. -/
namespace Go.Proofs.YtdipoojjlddohaaGreat
def ofV (agg:Int) (m:Mk):Int :=
  if agg=1 then m.n else if agg=2 then m.s else if agg=3 then m.q else if agg=4 then (if -9223372036854775808≤m.hi-m.lo∧m.hi-m.lo≤9223372036854775807 then m.hi-m.lo else 0) else 0
def nearP (agg k:Int) (a b:Mk):Prop:=k*ofV agg a≤(k+1)*ofV agg b
instance (agg k:Int) (a b:Mk):Decidable (nearP agg k a b):=by unfold nearP;infer_instance
def nearB (agg k:Int) (a b:Mk):Bool:=decide (nearP agg k a b)
def leastV (agg:Int):Int:=if agg=2∨agg=3 then 0 else -4096
def smGood (agg wd k cap now:Int):Prop:=(1≤agg∧agg≤4)∧1≤wd∧wd≤1048576∧1≤k∧k≤64∧1≤cap∧cap≤65536∧0≤now∧now≤16777216
instance (agg wd k cap now:Int):Decidable (smGood agg wd k cap now):=by unfold smGood;infer_instance
def smAt (agg k:Int) (l:List Mk) (i:Nat):Prop :=
  (2≤i→¬ nearP agg k (mkAt l (i-2)) (mkAt l i))∧(1≤i→1<(mkAt l i).seq-(mkAt l (i-1)).seq→nearP agg k (mkAt l (i-1)) (mkAt l i))
instance (agg k:Int) (l:List Mk) (i:Nat):Decidable (smAt agg k l i):=by unfold smAt;infer_instance
def smValid (agg wd k cap now seq:Int) (l:List Mk):Prop:=smGood agg wd k cap now∧mvalid l seq cap now wd (leastV agg)∧∀ i,i<l.length→smAt agg k l i
instance (agg wd k cap now seq:Int) (l:List Mk):Decidable (smValid agg wd k cap now seq l):=by unfold smValid;infer_instance
def smvalE (agg wd k cap now seq:Int) (l:List Mk):Int:=if smValid agg wd k cap now seq l then 0 else 2
structure SmOut where
  agg:Int
  wd:Int
  k:Int
  cap:Int
  now:Int
  seq:Int
  ms:List Mk
  f:Int
def smZero (f:Int):SmOut:=⟨0,0,0,0,0,0,[],f⟩
def smNew (agg wd k cap now:Int):SmOut:=if smGood agg wd k cap now then ⟨agg,wd,k,cap,now,0,[],0⟩ else smZero 1
def smTick (agg wd k cap now seq:Int) (l:List Mk) (tt9:Int):SmOut :=
  if smvalE agg wd k cap now seq l=0 then (if tt9<now∨16777216<tt9 then smZero 3 else ⟨agg,wd,k,cap,tt9,seq,dropM tt9 wd l,0⟩) else smZero 2
def smFull (cap seq:Int) (l:List Mk):Prop:=(l≠[]∧(mkAt l 0).n=cap)∨seq=1099511627776
instance (cap seq:Int) (l:List Mk):Decidable (smFull cap seq l):=by unfold smFull;infer_instance
def smAdd (agg wd k cap now seq:Int) (l:List Mk) (v:Int):SmOut :=
  if smvalE agg wd k cap now seq l=0 then (if v<leastV agg∨4096<v then smZero 4 else if smFull cap seq l then smZero 5 else ⟨agg,wd,k,cap,now,seq+1,prune (nearB agg k) (incl l (seq+1) now v),0⟩) else smZero 2
def Gap (near:Mk→Mk→Prop) (l:List Mk):Prop:=∀ i,i+1<l.length→1<(mkAt l (i+1)).seq-(mkAt l i).seq→near (mkAt l i) (mkAt l (i+1))
def Far (near:Mk→Mk→Prop) (l:List Mk):Prop:=∀ i,i+2<l.length→¬ near (mkAt l i) (mkAt l (i+2))
end Go.Proofs.YtdipoojjlddohaaGreat
end
