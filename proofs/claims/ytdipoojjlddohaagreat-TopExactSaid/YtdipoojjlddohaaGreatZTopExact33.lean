/- What the law TopExact needs, joined of its texts by a program (slim2.py); part 33. -/
import Derived.Test.YtdipoojjlddohaaGreatZTopExact1
import Derived.Test.YtdipoojjlddohaaGreatZTopExact3
import Derived.Test.YtdipoojjlddohaaGreatZTopExact10
import Derived.Test.YtdipoojjlddohaaGreatZTopExact30
import Derived.Test.YtdipoojjlddohaaGreatZTopExact31
import Derived.Test.YtdipoojjlddohaaGreatZTopExact32
set_option linter.unusedVariables false
set_option linter.unusedSimpArgs false
set_option linter.unusedSectionVars false
set_option linter.unnecessarySimpa false
section
/- Powers, walked: the program and the reference. -/
namespace Go.Proofs.YtdipoojjlddohaaGreat
open Go.RowKit Go.Shelf
def PowS (w w':World) (q x:Nat):Prop:=Row w' w.heap.size 67 #[.int .u64 0, .int .u64 0]∧Row w' q 67 (Wc x)∧Below w.heap.size w w'
theorem PowS.call {w w' w'':World} {q x:Nat} (h:PowS w w' q x) (k:Below w'.heap.size w' w''):PowS w w'' q x:=⟨row_call h.1 k,row_call h.2.1 k,h.2.2.trans (k.mono h.2.2.size)⟩
theorem PowS.alloc {w w':World} {q x:Nat} (h:PowS w w' q x) (o:Obj):PowS w (w'.alloc o) q x:=⟨row_alloc h.1 o,row_alloc h.2.1 o,h.2.2.alloc h.2.2.size o⟩
theorem PowS.drew {w w':World} {q x:Nat} (h:PowS w w' q x):PowS w w'.drew q x:=⟨h.1,h.2.1,h.2.2.drew⟩
theorem PowS.other {w w':World} {q x g:Nat} {u v:Value} (h:PowS w w' q x) (h1:w.heap.size<g) (h2:q≠g):PowS w ((w'.setCell ⟨g,0,none⟩ u).setCell ⟨g,1,none⟩ v) q x :=
  ⟨row_two_other h.1 (by omega),row_two_other h.2.1 h2,(h.2.2.setCell (by simp;omega) _).setCell (by simp;omega) _⟩
theorem PowS.set {w w':World} {q x:Nat} (y:Nat) (h:PowS w w' q x) (h1:w.heap.size<q):PowS w ((w'.setCell ⟨q,0,none⟩ (.int .u64 (hi y))).setCell ⟨q,1,none⟩ (.int .u64 (lo y))) q y :=
  ⟨row_two_other h.1 (by omega),row_two_set h.2.1,(h.2.2.setCell (by simp;omega) _).setCell (by simp;omega) _⟩
theorem ppow_neg (a n:Int) (h:n<0) (w:World) :
    Calls Tryz.prog 78 #[.int .u64 a, .int .i64 n] w fun e w'=>e = .returned (.tuple #[W 0, .bool false])∧Below w.heap.size w w':=by
  go_enter Tryz.func78,Tryz.ntmps78
  go_wp2
  simp [bodyPost,results,Tryz.results78,go_sem]
  refine ⟨⟨rfl,rfl⟩,?_⟩
  (repeat (first | exact Below.refl _ _ | refine Below.setCell ?_ (by (try simp)<;>omega) _ | refine Below.alloc ?_ (by (try simp)<;>omega) _ | refine Below.drew ?_ | refine Below.trans ?_ (Below.mono (by assumption) (by (try simp)<;>omega))))
theorem ppow_null (n:Nat) (h:0<n) (w:World) :
    Calls Tryz.prog 78 #[.int .u64 0, .int .i64 n] w fun e w'=>e = .returned (.tuple #[W 0, .bool true])∧Below w.heap.size w w':=by
  have h':¬ ((n:Int)<0):=by omega
  have h'':(0:Int)<n:=by omega
  go_enter Tryz.func78,Tryz.ntmps78
  go_wp2_with fail
  simp [bodyPost,results,Tryz.results78,go_sem]
  refine ⟨⟨rfl,rfl⟩,?_⟩
  (repeat (first | exact Below.refl _ _ | refine Below.setCell ?_ (by (try simp)<;>omega) _ | refine Below.alloc ?_ (by (try simp)<;>omega) _ | refine Below.drew ?_ | refine Below.trans ?_ (Below.mono (by assumption) (by (try simp)<;>omega))))
theorem ppow_zero  (w:World) :
    Calls Tryz.prog 78 #[.int .u64 0, .int .i64 0] w fun e w'=>e = .returned (.tuple #[W 1, .bool true])∧Below w.heap.size w w':=by
  go_enter Tryz.func78,Tryz.ntmps78
  go_wp2_with (go_at_call 76;refine (pof 1 (by decide) _).mono ?_;rintro e w1 ⟨rfl,hb1⟩;have hz1:=hb1.size;(try simp at hz1);have q1_0:w.heap.size<w1.heap.size:=(by omega);have r1_0:Row w1 (w.heap.size) 67 #[.int .u64 0, .int .u64 0]:=row_call (by (repeat (first | assumption | (refine row_new ?_;(first | (simp;done) | omega)) | refine row_alloc ?_ _ | refine row_drew ?_ | refine row_call ?_ (by assumption)))) hb1;obtain ⟨c1_0a,c1_0b,f1_0a,f1_0b⟩:=row_two r1_0)
  have r9:=row_two_set (u := .int .u64 (hi 1)) (v := .int .u64 (lo 1)) r1_0
  have o9:Below w.heap.size w ((w1.setCell ⟨w.heap.size,0,none⟩ (.int .u64 (hi 1))).setCell ⟨w.heap.size,1,none⟩ (.int .u64 (lo 1))):=by
    (repeat (first | exact Below.refl _ _ | refine Below.setCell ?_ (by (try simp)<;>omega) _ | refine Below.alloc ?_ (by (try simp)<;>omega) _ | refine Below.drew ?_ | refine Below.trans ?_ (Below.mono (by assumption) (by (try simp)<;>omega))))
  generalize ((w1.setCell ⟨w.heap.size,0,none⟩ (.int .u64 (hi 1))).setCell ⟨w.heap.size,1,none⟩ (.int .u64 (lo 1)))=w9 at r9 o9 ⊢
  obtain ⟨d1,d2,_,_⟩:=row_two r9
  exact bodyPost_ret (v:=(.tuple #[W 1, .bool true])) (by simp [results,Tryz.results78,go_sem,W,d1,d2]) rfl ⟨rfl,o9⟩
theorem ppow_one (n:Nat) (w:World) :
    Calls Tryz.prog 78 #[.int .u64 1, .int .i64 n] w fun e w'=>e = .returned (.tuple #[W 1, .bool true])∧Below w.heap.size w w':=by
  have h':¬ ((n:Int)<0):=by omega
  go_enter Tryz.func78,Tryz.ntmps78
  go_wp2_with (go_at_call 76;refine (pof 1 (by decide) _).mono ?_;rintro e w1 ⟨rfl,hb1⟩;have hz1:=hb1.size;(try simp at hz1);have q1_0:w.heap.size<w1.heap.size:=(by omega);have r1_0:Row w1 (w.heap.size) 67 #[.int .u64 0, .int .u64 0]:=row_call (by (repeat (first | assumption | (refine row_new ?_;(first | (simp;done) | omega)) | refine row_alloc ?_ _ | refine row_drew ?_ | refine row_call ?_ (by assumption)))) hb1;obtain ⟨c1_0a,c1_0b,f1_0a,f1_0b⟩:=row_two r1_0)
  have r9:=row_two_set (u := .int .u64 (hi 1)) (v := .int .u64 (lo 1)) r1_0
  have o9:Below w.heap.size w ((w1.setCell ⟨w.heap.size,0,none⟩ (.int .u64 (hi 1))).setCell ⟨w.heap.size,1,none⟩ (.int .u64 (lo 1))):=by
    (repeat (first | exact Below.refl _ _ | refine Below.setCell ?_ (by (try simp)<;>omega) _ | refine Below.alloc ?_ (by (try simp)<;>omega) _ | refine Below.drew ?_ | refine Below.trans ?_ (Below.mono (by assumption) (by (try simp)<;>omega))))
  generalize ((w1.setCell ⟨w.heap.size,0,none⟩ (.int .u64 (hi 1))).setCell ⟨w.heap.size,1,none⟩ (.int .u64 (lo 1)))=w9 at r9 o9 ⊢
  obtain ⟨d1,d2,_,_⟩:=row_two r9
  exact bodyPost_ret (v:=(.tuple #[W 1, .bool true])) (by simp [results,Tryz.results78,go_sem,W,d1,d2]) rfl ⟨rfl,o9⟩
set_option maxHeartbeats 2000000 in
theorem ppow_main (a n:Nat) (ha:a<18446744073709551616) (ha2:2≤a) (hn:(n:Int)≤9223372036854775807) (w:World) :
    Calls Tryz.prog 78 #[.int .u64 a, .int .i64 n] w fun e w'=>e = .returned (.tuple #[W (powV a n), .bool (powB a n)])∧Below w.heap.size w w':=by
  have hab:a<big:=by unfold big;omega
  have h1:¬ ((n:Int)<0):=by omega
  have h2:¬ ((a:Int)≤1):=by omega
  go_enter Tryz.func78,Tryz.ntmps78
  go_wp2_with (go_at_call 76;refine (pof 1 (by decide) _).mono ?_;rintro e w1 ⟨rfl,hb1⟩;have hz1:=hb1.size;(try simp at hz1);have q1_0:w.heap.size<w1.heap.size:=(by omega);have r1_0:Row w1 (w.heap.size) 67 #[.int .u64 0, .int .u64 0]:=row_call (by (repeat (first | assumption | (refine row_new ?_;(first | (simp;done) | omega)) | refine row_alloc ?_ _ | refine row_drew ?_ | refine row_call ?_ (by assumption)))) hb1;obtain ⟨c1_0a,c1_0b,f1_0a,f1_0b⟩:=row_two r1_0)
  have hq:w.heap.size<w1.heap.size:=q1_0
  have L:PowS w (w1.alloc (.cells (Wc 1) 67)) (w1.heap.size) 1:=⟨by (repeat (first | assumption | (refine row_new ?_;(first | (simp;done) | omega)) | refine row_alloc ?_ _ | refine row_drew ?_ | refine row_call ?_ (by assumption))),by (repeat (first | assumption | (refine row_new ?_;(first | (simp;done) | omega)) | refine row_alloc ?_ _ | refine row_drew ?_ | refine row_call ?_ (by assumption))),by (repeat (first | exact Below.refl _ _ | refine Below.setCell ?_ (by (try simp)<;>omega) _ | refine Below.alloc ?_ (by (try simp)<;>omega) _ | refine Below.drew ?_ | refine Below.trans ?_ (Below.mono (by assumption) (by (try simp)<;>omega))))⟩
  generalize (w1.alloc (.cells (Wc 1) 67))=w2 at L ⊢
  clear c1_0a c1_0b f1_0a f1_0b r1_0 hb1 h1 h2
  go_loopg [1] n (fun k t wr=>∃ j x:Nat,j+k=n∧t = .int .i64 (k:Nat)∧x=powN a j∧x<big∧PowS w wr (w1.heap.size) x)
  case atStart=>exact ⟨0,1,by omega,rfl,(powN_0 a).symm,one_big,L⟩
  case round =>
    clear L
    obtain ⟨j,x,hj,rfl,hx,hxb,L⟩:=hrel
    obtain ⟨A0,A1,A2,A3⟩:=row_two L.1
    obtain ⟨B0,B1,B2,B3⟩:=row_two L.2.1
    by_cases h0:gk=0
    · subst h0
      have e:j=n:=by omega
      subst e
      obtain ⟨v1,v2⟩:=pow_yes (a:=a) (n:=j) (by rw [← hx];exact hxb)
      have HE:=Lib.hid (And.intro (v1.trans hx.symm) v2)
      clear v1 v2 hx
      have o0:=L.2.2
      go_wp2_with fail
      have r9:=row_two_set (u := .int .u64 (hi x)) (v := .int .u64 (lo x)) L.1
      have o9:Below w.heap.size w ((wr.setCell ⟨w.heap.size,0,none⟩ (.int .u64 (hi x))).setCell ⟨w.heap.size,1,none⟩ (.int .u64 (lo x))):=by
        (repeat (first | exact Below.refl _ _ | refine Below.setCell ?_ (by (try simp)<;>omega) _ | refine Below.alloc ?_ (by (try simp)<;>omega) _ | refine Below.drew ?_ | refine Below.trans ?_ (Below.mono (by assumption) (by (try simp)<;>omega))))
      generalize ((wr.setCell ⟨w.heap.size,0,none⟩ (.int .u64 (hi x))).setCell ⟨w.heap.size,1,none⟩ (.int .u64 (lo x)))=w9 at r9 o9 ⊢
      obtain ⟨d1,d2,_,_⟩:=row_two r9
      exact bodyPost_ret (v:=(.tuple #[W x, .bool true])) (by simp [results,Tryz.results78,go_sem,W,d1,d2]) rfl ⟨by rw [HE.out.1,HE.out.2],o9⟩
    · obtain ⟨k',rfl⟩:∃ k',gk=k'+1:=⟨gk-1,by omega⟩
      have i1:(0:Int)<((k'+1:Nat):Int):=by omega
      have i2:((k'+1:Nat):Int)≤9223372036854775807:=by omega
      by_cases hm:x*a<big
      · have HM:=Lib.hid (fun w'=>pmul x a hxb hab w')
        obtain ⟨v1,v2⟩:=mulV_yes hm
        rw [v1,v2] at HM
        have HX:=Lib.hid (show x*a=powN a (j+1) by rw [powN_succ,hx])
        clear v1 v2 hx
        generalize x*a=y at hm HM HX
        go_upto_region 10 with (fail)
        have hqr:=row_lt L.2.1
        refine wp_region_free1 [0,1,2,3,4,6,5] [6] [0,1,2,3,4,5,7] (7,67,#[.int .u64 0, .int .u64 0]) 7 8 (fun w'=>PowS w w' (w1.heap.size) x) (by kernel_rfl) (by kernel_rfl) ⟨_,_,rfl,rfl,rfl,fun ρ w'=>by go_simp⟩ rfl (by simp) (fun w' h=>h.alloc _) (fun _ _ d _ _ h=>by cases d<;>exact h) ?_ ?_
        · exact L.drew
        (refine plan_val ?_ rfl rfl rfl (fun w' hS=>?_) ?_;rotate_left;(obtain ⟨X0,X1,X2,X3⟩:=row_two hS.2.1;go_simp;try with_reducible rfl);simp only [put9])
        (refine plan_pure ?_ rfl rfl (fun w'=>?_) ?_;rotate_left;(go_simp;try with_reducible rfl);simp only [put9])
        refine plan_call (W a) 76 #[.int .u64 (a:Nat)] rfl rfl rfl (fun w' w'' h hb=>h.call hb) (fun w' hS=>by obtain ⟨X0,X1,X2,X3⟩:=row_two hS.2.1;go_simp) (fun w' hS=>pof a ha w') ?_
        simp only [put9]
        refine plan_call (.tuple #[W y, .bool true]) 79 #[W x,W a] rfl rfl rfl (fun w' w'' h hb=>h.call hb) (fun w' hS=>by obtain ⟨X0,X1,X2,X3⟩:=row_two hS.2.1;go_simp) (fun w' hS=>HM.out w') ?_
        simp only [put9]
        (refine plan_pure ?_ rfl rfl (fun w'=>?_) ?_;rotate_left;(go_simp;try with_reducible rfl);simp only [put9])
        (refine plan_pure ?_ rfl rfl (fun w'=>?_) ?_;rotate_left;(go_simp;try with_reducible rfl);simp only [put9])
        (refine plan_pure ?_ rfl rfl (fun w'=>?_) ?_;rotate_left;(go_simp;try with_reducible rfl);simp only [put9])
        refine plan_nil ?_
        intro g w3 L3 Rg hg
        simp only [List.drop_succ_cons,List.drop_zero]
        try simp only [put9]
        obtain ⟨G0,G1,G2,G3⟩:=row_two Rg
        clear A0 A1 A2 A3 B0 B1 B2 B3
        go_upto_region 11 with (fail)
        have L5:=L3.other (u := .int .u64 (hi y)) (v := .int .u64 (lo y)) (show w.heap.size<g by omega) (show w1.heap.size≠g by omega)
        have R5:=row_two_set (u := .int .u64 (hi y)) (v := .int .u64 (lo y)) Rg
        generalize ((w3.setCell ⟨g,0,none⟩ (.int .u64 (hi y))).setCell ⟨g,1,none⟩ (.int .u64 (lo y)))=w5 at L5 R5 ⊢
        clear L3 Rg G0 G1 G2 G3 L
        obtain ⟨G0,G1,G2,G3⟩:=row_two R5
        obtain ⟨B0,B1,B2,B3⟩:=row_two L5.2.1
        go_wp2_with fail
        go_roundg k'
        case measure=>omega
        case rel=>exact ⟨j+1,y,by omega,by go_num,HX.out,hm,L5.set y hq⟩
      · have HM:=Lib.hid (fun w'=>pmul x a hxb hab w')
        obtain ⟨v1,v2⟩:=mulV_no hm
        rw [v1,v2] at HM
        obtain ⟨v3,v4⟩:=pow_over (a:=a) (j:=j) (n:=n) ha2 (by omega) (by rw [← hx];exact hm)
        have HE:=Lib.hid (And.intro v3 v4)
        clear v1 v2 v3 v4 hx hm
        go_upto_region 10 with (fail)
        have hqr:=row_lt L.2.1
        refine wp_region_free1 [0,1,2,3,4,6,5] [6] [0,1,2,3,4,5,7] (7,67,#[.int .u64 0, .int .u64 0]) 7 8 (fun w'=>PowS w w' (w1.heap.size) x) (by kernel_rfl) (by kernel_rfl) ⟨_,_,rfl,rfl,rfl,fun ρ w'=>by go_simp⟩ rfl (by simp) (fun w' h=>h.alloc _) (fun _ _ d _ _ h=>by cases d<;>exact h) ?_ ?_
        · exact L.drew
        (refine plan_val ?_ rfl rfl rfl (fun w' hS=>?_) ?_;rotate_left;(obtain ⟨X0,X1,X2,X3⟩:=row_two hS.2.1;go_simp;try with_reducible rfl);simp only [put9])
        (refine plan_pure ?_ rfl rfl (fun w'=>?_) ?_;rotate_left;(go_simp;try with_reducible rfl);simp only [put9])
        refine plan_call (W a) 76 #[.int .u64 (a:Nat)] rfl rfl rfl (fun w' w'' h hb=>h.call hb) (fun w' hS=>by obtain ⟨X0,X1,X2,X3⟩:=row_two hS.2.1;go_simp) (fun w' hS=>pof a ha w') ?_
        simp only [put9]
        refine plan_call (.tuple #[W 0, .bool false]) 79 #[W x,W a] rfl rfl rfl (fun w' w'' h hb=>h.call hb) (fun w' hS=>by obtain ⟨X0,X1,X2,X3⟩:=row_two hS.2.1;go_simp) (fun w' hS=>HM.out w') ?_
        simp only [put9]
        (refine plan_pure ?_ rfl rfl (fun w'=>?_) ?_;rotate_left;(go_simp;try with_reducible rfl);simp only [put9])
        (refine plan_pure ?_ rfl rfl (fun w'=>?_) ?_;rotate_left;(go_simp;try with_reducible rfl);simp only [put9])
        (refine plan_pure ?_ rfl rfl (fun w'=>?_) ?_;rotate_left;(go_simp;try with_reducible rfl);simp only [put9])
        refine plan_nil ?_
        intro g w3 L3 Rg hg
        simp only [List.drop_succ_cons,List.drop_zero]
        try simp only [put9]
        obtain ⟨G0,G1,G2,G3⟩:=row_two Rg
        clear A0 A1 A2 A3 B0 B1 B2 B3
        go_upto_region 11 with (fail)
        have L5:=L3.other (u := .int .u64 (hi 0)) (v := .int .u64 (lo 0)) (show w.heap.size<g by omega) (show w1.heap.size≠g by omega)
        generalize ((w3.setCell ⟨g,0,none⟩ (.int .u64 (hi 0))).setCell ⟨g,1,none⟩ (.int .u64 (lo 0)))=w5 at L5 ⊢
        clear L3 Rg G0 G1 G2 G3 L
        obtain ⟨A0,A1,A2,A3⟩:=row_two L5.1
        have o5:=L5.2.2
        go_wp2_with fail
        have r9:=row_two_set (u := .int .u64 0) (v := .int .u64 0) L5.1
        have o9:Below w.heap.size w ((w5.setCell ⟨w.heap.size,0,none⟩ (.int .u64 0)).setCell ⟨w.heap.size,1,none⟩ (.int .u64 0)):=by
          (repeat (first | exact Below.refl _ _ | refine Below.setCell ?_ (by (try simp)<;>omega) _ | refine Below.alloc ?_ (by (try simp)<;>omega) _ | refine Below.drew ?_ | refine Below.trans ?_ (Below.mono (by assumption) (by (try simp)<;>omega))))
        generalize ((w5.setCell ⟨w.heap.size,0,none⟩ (.int .u64 0)).setCell ⟨w.heap.size,1,none⟩ (.int .u64 0))=w9 at r9 o9 ⊢
        obtain ⟨d1,d2,_,_⟩:=row_two r9
        exact bodyPost_ret (v:=(.tuple #[W 0, .bool false])) (by simp [results,Tryz.results78,go_sem,W,d1,d2,hi_0,lo_0]) rfl ⟨by rw [HE.out.1,HE.out.2],o9⟩
def powIV (a:Nat) (n:Int):Nat:=if n<0 then 0 else powV a n.toNat
def powIB (a:Nat) (n:Int):Bool:=if n<0 then false else powB a n.toNat
theorem powV_e0 (a:Nat):powV a 0=1∧powB a 0=true:=pow_yes (by rw [powN_0];exact one_big)
theorem powV_e1 (n:Nat):powV 1 n=1∧powB 1 n=true:=by
  have h:=pow_yes (a:=1) (n:=n) (by rw [powN_1];exact one_big)
  rw [powN_1] at h
  exact h
theorem powV_en {n:Nat} (k:0<n):powV 0 n=0∧powB 0 n=true:=by
  have h:=pow_yes (a:=0) (n:=n) (by rw [powN_null k];exact zero_big)
  rw [powN_null k] at h
  exact h
theorem ppow_any (a:Nat) (ha:a<18446744073709551616) (n:Int) (hn:n≤9223372036854775807) (w:World) :
    Calls Tryz.prog 78 #[.int .u64 a, .int .i64 n] w fun e w'=>e = .returned (.tuple #[W (powIV a n), .bool (powIB a n)])∧Below w.heap.size w w':=by
  unfold powIV powIB
  by_cases h:n<0
  · rw [if_pos h,if_pos h]
    exact ppow_neg _ n h w
  · rw [if_neg h,if_neg h]
    obtain ⟨m,rfl⟩:=Int.eq_ofNat_of_zero_le (Int.not_lt.1 h)
    rw [Int.toNat_natCast]
    by_cases h0:m=0
    · subst h0
      · rcases (show a=0∨a=1∨2≤a by omega) with e | e | e
        · subst e
          rw [(powV_e0 0).1,(powV_e0 0).2]
          exact ppow_zero w
        · subst e
          rw [(powV_e0 1).1,(powV_e0 1).2]
          exact ppow_one 0 w
        · exact ppow_main a 0 ha e hn w
    · have hm:0<m:=by omega
      rcases (show a=0∨a=1∨2≤a by omega) with e | e | e
      · subst e
        rw [(powV_en hm).1,(powV_en hm).2]
        exact ppow_null m hm w
      · subst e
        rw [(powV_e1 m).1,(powV_e1 m).2]
        exact ppow_one m w
      · exact ppow_main a m ha e hn w
end Go.Proofs.YtdipoojjlddohaaGreat
end
section
/- Counters with polynomial decay: New, Advance and Ask, walked. -/
set_option maxRecDepth 100000
namespace Go.Proofs.YtdipoojjlddohaaGreat
open Go.RowKit Go.Shelf
theorem made_pair (z:Value) (n:Nat):(madeCells #[z,z] n).toList=List.replicate n z:=by
  apply List.ext_getElem?
  intro j
  by_cases hj:j<n
  · have:j % 2=0∨j % 2=1:=by omega
    rcases this with h | h<;>simp [madeCells,hj,h]
  · simp [madeCells,hj]
theorem wcells_zeros (n:Nat):wcells (List.replicate n 0)=List.replicate (n*2) (.int .u64 0):=by
  induction n with
  | zero=>rfl
  | succ n ih =>
    rw [List.replicate_succ,wcells_cons,ih,show (n+1)*2=n*2+1+1 by omega,List.replicate_succ,List.replicate_succ]
    rfl
theorem make_wide (w:World) (kl kc:IntKind) (n:Nat) (hbytes:n≤1000000) :
    ∃ w',(Instr.makeSlice 40 (.int kl (n:Int)) (.int kc (n:Int))).run Tryz.prog w = .ok (.slice (some ⟨w.heap.size,0,none⟩) n n) w'∧Own w' 67 2 w.heap.size n n (wcells (List.replicate n 0))∧Below w.heap.size w w':=by
  obtain ⟨i0,hi,iz0,iz1,iz2⟩:=info_parts info_wide
  obtain ⟨w',h1,h2,h3⟩:=run_make_full (P:=Tryz.prog) w 0 40 67 i0 _ 2 Tryz.underlying40 hi iz0 iz1 kl kc n (by rw [iz2];omega) (by unfold maxLen;omega) (Nat.zero_le _)
  refine ⟨w',h1,?_,below_grown (Below.refl _ _) h3 (fun k hk=>by cases hk) (Nat.le_refl _)⟩
  have:=(own_of_row h2).1
  rw [show (Value.agg #[.int .u64 0, .int .u64 0]).cells=#[.int .u64 0, .int .u64 0] from rfl,made_pair,← wcells_zeros] at this
  exact this
theorem zeros_big (n i:Nat):momAt (List.replicate n 0) i<big:=by
  unfold momAt
  rw [List.getD_eq_getElem?_getD,List.getElem?_replicate]
  split<;>decide
theorem below_four {B b:Nat} {w0 w:World} (h:Below B w0 w) (hb:B≤b) (u0 u1 u2 u3:Value):Below B w0 ((((w.setCell ⟨b,0,none⟩ u0).setCell ⟨b,1,none⟩ u1).setCell ⟨b,2,none⟩ u2).setCell ⟨b,3,none⟩ u3) :=
  (((h.setCell (p:=⟨b,0,none⟩) hb u0).setCell (p:=⟨b,1,none⟩) hb u1).setCell (p:=⟨b,2,none⟩) hb u2).setCell (p:=⟨b,3,none⟩) hb u3
theorem own_four {w:World} {e:TypeId} {size g n c b:Nat} {xs:List Value} (h:Own w e size g n c xs) (hne:g≠b) (u0 u1 u2 u3:Value):Own ((((w.setCell ⟨b,0,none⟩ u0).setCell ⟨b,1,none⟩ u1).setCell ⟨b,2,none⟩ u2).setCell ⟨b,3,none⟩ u3) e size g n c xs :=
  (((h.other (p:=⟨b,0,none⟩) hne u0).other (p:=⟨b,1,none⟩) hne u1).other (p:=⟨b,2,none⟩) hne u2).other (p:=⟨b,3,none⟩) hne u3
theorem far {A:Option Addr} {B C b:Nat} (h:∀ a,A=some a→B≤a.block∧a.block<C) (hb:b<B):∀ a,A=some a→a.block≠b:=fun a ha e=>by have:=h a ha;omega
theorem ppnew_ok (p now:Int) (w:World) (h0:0≤p) (h1:p≤4) (h2:0≤now) (h3:now≤16777216):Calls Tryz.prog 114 #[.int .i64 p, .int .i64 now] w fun e w'=>PRet (qnew p now) w e w':=by
  rw [qnew_yes h0 h1 h2 h3]
  obtain ⟨n,hn⟩:∃ n:Nat,p+1=(n:Int):=⟨(p+1).toNat,by omega⟩
  rw [hn,Int.toNat_natCast]
  obtain ⟨w2,hmk,own2,hb2⟩:=make_wide (w.alloc (.cells #[.int .i64 0, .int .i64 0, .int .i64 0, .slice none 0 0] 42)) .i64 .i64 n (by omega)
  have hz2:=hb2.size
  simp at hz2
  have o2:Below w.heap.size w w2:=((Below.refl _ _).alloc (Nat.le_refl _) _).trans (hb2.mono (by simp))
  have r2:Row w2 w.heap.size 42 #[.int .i64 0, .int .i64 0, .int .i64 0, .slice none 0 0]:=row_call (row_new rfl) hb2
  obtain ⟨X0,X1,X2,X3,Xf0,Xf1,Xf2,Xf3⟩:=row_four r2
  have wp:IntKind.i64.wrap (p+1)=(n:Int):=by rw [IntWalk.i64_in _ (by omega)];exact hn
  have OW:=Lib.hid own2
  have HN:=Lib.hid hn
  clear own2 hn
  go_enter Tryz.func114,Tryz.ntmps114
  go_wp2_with (go_at_call 206;refine (ptick_yes _ h2 h3 _).mono ?_;rintro e w9 ⟨rfl,rfl⟩)
  have ow:=own_four OW.out (b:=w.heap.size) (by simp) (.int .i64 p) (.int .i64 now) (.int .i64 now) (.slice (some ⟨w.heap.size+1,0,none⟩) n n)
  rw [World.size_alloc] at ow
  have ob:=below_four o2 (b:=w.heap.size) (Nat.le_refl _) (.int .i64 p) (.int .i64 now) (.int .i64 now) (.slice (some ⟨w.heap.size+1,0,none⟩) n n)
  exact bodyPost_ret (v := .tuple #[.agg #[.int .i64 p, .int .i64 now, .int .i64 now, .slice (some ⟨w.heap.size+1,0,none⟩) n n], .int .i64 0]) (by simp [results,Tryz.results114,go_sem,X0,X1,X2,X3]) rfl (pret_own ow (by omega) (by omega) (by omega) (zeros_big n) ob (by omega))
theorem ctickP_yes (t:Int) (h0:0≤t) (h1:t≤16777216) (w:World):Calls Tryz.prog 230 #[.int .i64 t] w fun e w'=>e = .returned (.bool true)∧w'=w:=by
  go_enter Tryz.func230,Tryz.ntmps230
  go_wp2
  go_ret
  exact ⟨rfl,rfl⟩
theorem cadvP_ok (now tt9:Int) (h0:0≤now) (h1:now≤16777216) (h2:now≤tt9) (h3:tt9≤16777216) (w:World):Calls Tryz.prog 157 #[.int .i64 now, .int .i64 tt9] w fun e w'=>e = .returned (.tuple #[.int .i64 tt9, .int .i64 0])∧w'=w:=by
  go_enter Tryz.func157,Tryz.ntmps157
  go_wp2_with (go_at_call 230;refine (ctickP_yes _ h0 h1 _).mono ?_;rintro e w9 ⟨rfl,rfl⟩)
  go_ret2
  exact ⟨rfl,rfl⟩
set_option maxHeartbeats 1000000 in
theorem ppadv_ok (p land now:Int) (A:Option Addr) (n c:Nat) (ms:List Nat) (tt9:Int) (w:World) (hin:PIn p land now A n c ms w) (hv:pvalE p land now ms=0) (h1:now≤tt9) (h2:tt9≤16777216) :
    Calls Tryz.prog 69 #[.agg #[.int .i64 p, .int .i64 land, .int .i64 now, .slice A n c], .int .i64 tt9] w fun e w'=>PRet (qadv p land now ms tt9) w e w':=by
  rw [qadv_ok hv h1 h2]
  have P:=fun w1 (hb:Below w.heap.size w w1)=>ppval p land now A n c ms w1 (hin.below hb)
  rw [hv] at P
  have P:=Lib.hid P
  obtain ⟨v1,v2,v3,v4,v5,v6,v7,_⟩:=of_pvalE hv
  have HR:=Lib.hid hin
  have hl:=hin.len
  have hn5:n≤5:=by omega
  obtain ⟨i0,hi,iz0,iz1,iz2⟩:=info_parts info_wide
  clear hv hin hl
  go_enter Tryz.func69,Tryz.ntmps69
  go_upto_region 8 with (first | (go_at_call 142;with_reducible refine (P.out _ (by (repeat (first | exact Below.refl _ _ | refine Below.setCell ?_ (by (try simp)<;>omega) _ | refine Below.alloc ?_ (by (try simp)<;>omega) _ | refine Below.drew ?_ | refine Below.trans ?_ (Below.mono (by assumption) (by (try simp)<;>omega)))))).mono ?_;rintro e w1 ⟨rfl,hb1⟩;have hz1:=hb1.size;(try simp at hz1);have o1:Below w.heap.size w w1:=(by (repeat (first | exact Below.refl _ _ | refine Below.setCell ?_ (by (try simp)<;>omega) _ | refine Below.alloc ?_ (by (try simp)<;>omega) _ | refine Below.drew ?_ | refine Below.trans ?_ (Below.mono (by assumption) (by (try simp)<;>omega)))));have q1_0:w.heap.size<w1.heap.size:=(by omega);have r1_0:Row w1 (w.heap.size) 42 #[.int .i64 p, .int .i64 land, .int .i64 now, .slice A n c]:=row_call (by (repeat (first | assumption | (refine row_new ?_;(first | (simp;done) | omega)) | refine row_alloc ?_ _ | refine row_drew ?_ | refine row_call ?_ (by assumption)))) hb1;obtain ⟨c1_0a,c1_0b,c1_0c,c1_0d,f1_0a,f1_0b,f1_0c,f1_0d⟩:=row_four r1_0;have q1_1:w.heap.size+1<w1.heap.size:=(by omega);have r1_1:Row w1 (w.heap.size+1) 42 #[.int .i64 0, .int .i64 0, .int .i64 0, .slice none 0 0]:=row_call (by (repeat (first | assumption | (refine row_new ?_;(first | (simp;done) | omega)) | refine row_alloc ?_ _ | refine row_drew ?_ | refine row_call ?_ (by assumption)))) hb1;obtain ⟨c1_1a,c1_1b,c1_1c,c1_1d,f1_1a,f1_1b,f1_1c,f1_1d⟩:=row_four r1_1) | (go_at_call 157;with_reducible refine (cadvP_ok _ _ v3 v4 h1 h2 _).mono ?_;rintro e w9 ⟨rfl,h9⟩;obtain rfl:=h9.symm))
  have r2_0:=row_set r1_0 2 (.int .i64 tt9)
  have r2_1:=row_other (p:=⟨w.heap.size,2,none⟩) r1_1 (by simp) (.int .i64 tt9)
  have o2:=o1.setCell (p:=⟨w.heap.size,2,none⟩) (by simp) (.int .i64 tt9)
  generalize w1.setCell ⟨w.heap.size,2,none⟩ (.int .i64 tt9)=w2 at r2_0 r2_1 o2 ⊢
  have r2_0:Row w2 w.heap.size 42 #[.int .i64 p, .int .i64 land, .int .i64 tt9, .slice A n c]:=r2_0
  have z0:=row_lt r2_0
  have z1:=row_lt r2_1
  clear r1_0 r1_1 o1 hb1 c1_0a c1_0b c1_0c c1_0d f1_0a f1_0b f1_0c f1_0d c1_1a c1_1b c1_1c c1_1d f1_1a f1_1b f1_1c f1_1d
  obtain ⟨c2_0a,c2_0b,c2_0c,c2_0d,f2_0a,f2_0b,f2_0c,f2_0d⟩:=row_four r2_0
  obtain ⟨c2_1a,c2_1b,c2_1c,c2_1d,f2_1a,f2_1b,f2_1c,f2_1d⟩:=row_four r2_1
  go_wp2_with (first | (at_builtin;refine wpList_clone rfl _ _ 40 rfl 67 i0 (.agg #[.int .u64 0, .int .u64 0]) 2 16 Tryz.underlying40 hi iz0 iz1 iz2 rfl (by decide) rfl w.heap.size A n c (wcells ms) rfl (HR.out.reads.below o2) o2.size (wcells_one _) (by show n≤9223372036854775807;omega) (by omega) ?_;intro g c2 w3 own3 hg3 hb3 hz3;have o3:Below w.heap.size w w3:=(by (repeat (first | exact Below.refl _ _ | refine Below.setCell ?_ (by (try simp)<;>omega) _ | refine Below.alloc ?_ (by (try simp)<;>omega) _ | refine Below.drew ?_ | refine Below.trans ?_ (Below.mono (by assumption) (by (try simp)<;>omega)))));have q3_0:w.heap.size<w3.heap.size:=(by omega);have r3_0:Row w3 (w.heap.size) 42 #[.int .i64 p, .int .i64 land, .int .i64 tt9, .slice A n c]:=row_call (by (repeat (first | assumption | (refine row_new ?_;(first | (simp;done) | omega)) | refine row_alloc ?_ _ | refine row_drew ?_ | refine row_call ?_ (by assumption)))) hb3;obtain ⟨c3_0a,c3_0b,c3_0c,c3_0d,f3_0a,f3_0b,f3_0c,f3_0d⟩:=row_four r3_0;have q3_1:w.heap.size+1<w3.heap.size:=(by omega);have r3_1:Row w3 (w.heap.size+1) 42 #[.int .i64 0, .int .i64 0, .int .i64 0, .slice none 0 0]:=row_call (by (repeat (first | assumption | (refine row_new ?_;(first | (simp;done) | omega)) | refine row_alloc ?_ _ | refine row_drew ?_ | refine row_call ?_ (by assumption)))) hb3;obtain ⟨c3_1a,c3_1b,c3_1c,c3_1d,f3_1a,f3_1b,f3_1c,f3_1d⟩:=row_four r3_1))
  have ow:=own_four (b:=w.heap.size+1) (own3.other (p:=⟨w.heap.size,3,none⟩) (by simp;omega) (.slice (some ⟨g,0,none⟩) n c2)) (by omega) (.int .i64 p) (.int .i64 land) (.int .i64 tt9) (.slice (some ⟨g,0,none⟩) n c2)
  have ob:=below_four (b:=w.heap.size+1) (o3.setCell (p:=⟨w.heap.size,3,none⟩) (by simp) (.slice (some ⟨g,0,none⟩) n c2)) (by omega) (.int .i64 p) (.int .i64 land) (.int .i64 tt9) (.slice (some ⟨g,0,none⟩) n c2)
  exact bodyPost_ret (v := .tuple #[.agg #[.int .i64 p, .int .i64 land, .int .i64 tt9, .slice (some ⟨g,0,none⟩) n c2], .int .i64 0]) (by simp [results,Tryz.results69,go_sem,c3_1a,c3_1b,c3_1c,c3_1d]) rfl (pret_own ow (by omega) (by omega) (by omega) HR.out.mB ob (by omega))
def PSame (p land now:Int) (A:Option Addr) (n c:Nat) (ms:List Nat) (f:Int) (w:World) (e:Ending) (w':World):Prop :=
  e = .returned (.tuple #[.agg #[.int .i64 p, .int .i64 land, .int .i64 now, .slice A n c], .int .i64 f])∧PIn p land now A n c ms w'∧Below w.heap.size w w'
theorem powIV_nat (a q:Nat):powIV a (q:Int)=powV a q:=by unfold powIV;rw [if_neg (by omega),Int.toNat_natCast]
theorem powIB_nat (a q:Nat):powIB a (q:Int)=powB a q:=by unfold powIB;rw [if_neg (by omega),Int.toNat_natCast]
abbrev FRP (x y:Nat):Value := .agg #[.int .u64 (hi x), .int .u64 (lo x), .int .u64 (hi y), .int .u64 (lo y)]
set_option maxHeartbeats 2000000 in
theorem ppask_ok (p land now:Int) (A:Option Addr) (n c:Nat) (ms:List Nat) (w:World) (hin:PIn p land now A n c ms w) (hv:pvalE p land now ms=0):Calls Tryz.prog 45 #[.agg #[.int .i64 p, .int .i64 land, .int .i64 now, .slice A n c]] w fun e w'=>e = .returned (.tuple #[FRP (qask p land now ms).num (qask p land now ms).den, .int .i64 (qask p land now ms).f])∧Below w.heap.size w w':=by
  rw [qask_ok hv]
  have P:=fun w1 (hb:Below w.heap.size w w1)=>ppval p land now A n c ms w1 (hin.below hb)
  rw [hv] at P
  have P:=Lib.hid P
  obtain ⟨v1,v2,v3,v4,v5,v6,v7,_⟩:=of_pvalE hv
  have HR:=Lib.hid hin
  have hl:=hin.len
  obtain ⟨q,rfl⟩:∃ q:Nat,p=(q:Int):=⟨p.toNat,by omega⟩
  rw [Int.toNat_natCast]
  show Calls _ _ _ _ fun e w'=>e = .returned (.tuple #[FRP (momAt ms q) (powN (ageN land now) q), .int .i64 0])∧Below w.heap.size w w'
  obtain ⟨a1,a2⟩:=ageN_bound v5 v6 v4
  have ai:=ageN_int v6
  generalize ageN land now=av at a1 a2 ai ⊢
  have wa:IntKind.i64.wrap (now-land)=now-land:=IntWalk.i64_in _ (by omega)
  have wb:IntKind.i64.wrap (now-land+1)=now-land+1:=IntWalk.i64_in _ (by omega)
  have wc:IntKind.u64.wrap (now-land+1)=(av:Int):=by rw [IntWalk.u64_in _ (by omega)];omega
  have PW:=fun w=>ppow_any av (by omega) (q:Int) (by omega) w
  rw [powIV_nat,powIB_nat,(pow_yes (powN_fits a2 (show q≤4 by omega))).1,(pow_yes (powN_fits a2 (show q≤4 by omega))).2] at PW
  generalize powN av q=dn at PW ⊢
  have PW:=Lib.hid PW
  have hqn:q<n:=by omega
  obtain ⟨ad,rfl,hadb,mx⟩:=hin.reads.mom hqn
  generalize momAt ms q=x at mx ⊢
  have MX:=Lib.hid mx
  have HAB:RowKit.Hid ((ad.add (q*2)).block<w.heap.size):=Lib.hid (by rw [block_of_add];exact hadb)
  have i1:(q:Int)<(n:Int):=by omega
  have i2:(0:Int)≤(q:Int):=by omega
  clear hv hin hl mx ai
  go_enter Tryz.func45,Tryz.ntmps45
  go_upto_region 5 with (first | (go_at_call 142;with_reducible refine (P.out _ (by (repeat (first | exact Below.refl _ _ | refine Below.setCell ?_ (by (try simp)<;>omega) _ | refine Below.alloc ?_ (by (try simp)<;>omega) _ | refine Below.drew ?_ | refine Below.trans ?_ (Below.mono (by assumption) (by (try simp)<;>omega)))))).mono ?_;rintro e w1 ⟨rfl,hb1⟩;have hz1:=hb1.size;(try simp at hz1);have o1:Below w.heap.size w w1:=(by (repeat (first | exact Below.refl _ _ | refine Below.setCell ?_ (by (try simp)<;>omega) _ | refine Below.alloc ?_ (by (try simp)<;>omega) _ | refine Below.drew ?_ | refine Below.trans ?_ (Below.mono (by assumption) (by (try simp)<;>omega)))));have q1_0:w.heap.size<w1.heap.size:=(by omega);have r1_0:Row w1 (w.heap.size) 42 #[.int .i64 q, .int .i64 land, .int .i64 now, .slice (some ad) n c]:=row_call (by (repeat (first | assumption | (refine row_new ?_;(first | (simp;done) | omega)) | refine row_alloc ?_ _ | refine row_drew ?_ | refine row_call ?_ (by assumption)))) hb1;obtain ⟨c1_0a,c1_0b,c1_0c,c1_0d,f1_0a,f1_0b,f1_0c,f1_0d⟩:=row_four r1_0;have q1_1:w.heap.size+1<w1.heap.size:=(by omega);have r1_1:Row w1 (w.heap.size+1) 69 #[.int .u64 0, .int .u64 0, .int .u64 0, .int .u64 0]:=row_call (by (repeat (first | assumption | (refine row_new ?_;(first | (simp;done) | omega)) | refine row_alloc ?_ _ | refine row_drew ?_ | refine row_call ?_ (by assumption)))) hb1;obtain ⟨c1_1a,c1_1b,c1_1c,c1_1d,f1_1a,f1_1b,f1_1c,f1_1d⟩:=row_four r1_1) | (go_at_call 78;with_reducible refine (PW.out _).mono ?_;rintro e w2 ⟨rfl,hb2⟩;have hz2:=hb2.size;(try simp at hz2);have o2:Below w.heap.size w w2:=(by (repeat (first | exact Below.refl _ _ | refine Below.setCell ?_ (by (try simp)<;>omega) _ | refine Below.alloc ?_ (by (try simp)<;>omega) _ | refine Below.drew ?_ | refine Below.trans ?_ (Below.mono (by assumption) (by (try simp)<;>omega)))));have q2_0:w.heap.size<w2.heap.size:=(by omega);have r2_0:Row w2 (w.heap.size) 42 #[.int .i64 q, .int .i64 land, .int .i64 now, .slice (some ad) n c]:=row_call (by (repeat (first | assumption | (refine row_new ?_;(first | (simp;done) | omega)) | refine row_alloc ?_ _ | refine row_drew ?_ | refine row_call ?_ (by assumption)))) hb2;obtain ⟨c2_0a,c2_0b,c2_0c,c2_0d,f2_0a,f2_0b,f2_0c,f2_0d⟩:=row_four r2_0;have q2_1:w.heap.size+1<w2.heap.size:=(by omega);have r2_1:Row w2 (w.heap.size+1) 69 #[.int .u64 0, .int .u64 0, .int .u64 0, .int .u64 0]:=row_call (by (repeat (first | assumption | (refine row_new ?_;(first | (simp;done) | omega)) | refine row_alloc ?_ _ | refine row_drew ?_ | refine row_call ?_ (by assumption)))) hb2;obtain ⟨c2_1a,c2_1b,c2_1c,c2_1d,f2_1a,f2_1b,f2_1c,f2_1d⟩:=row_four r2_1))
  have M1:=row_alloc r2_0 (.cells #[.int .u64 (hi dn), .int .u64 (lo dn)] 67)
  have M2:=row_alloc r2_1 (.cells #[.int .u64 (hi dn), .int .u64 (lo dn)] 67)
  have M3:Row (w2.alloc (.cells #[.int .u64 (hi dn), .int .u64 (lo dn)] 67)) w2.heap.size 67 #[.int .u64 (hi dn), .int .u64 (lo dn)]:=row_new rfl
  have M4:=o2.alloc o2.size (.cells #[.int .u64 (hi dn), .int .u64 (lo dn)] 67)
  generalize w2.alloc (.cells #[.int .u64 (hi dn), .int .u64 (lo dn)] 67)=w3 at M1 M2 M3 M4 ⊢
  generalize w2.heap.size=db at M3 ⊢
  clear P r1_0 r1_1 o1 hb1 hb2 r2_0 r2_1 o2 c1_0a c1_0b c1_0c c1_0d f1_0a f1_0b f1_0c f1_0d c1_1a c1_1b c1_1c c1_1d f1_1a f1_1b f1_1c f1_1d c2_0a c2_0b c2_0c c2_0d f2_0a f2_0b f2_0c f2_0d c2_1a c2_1b c2_1c c2_1d f2_1a f2_1b f2_1c f2_1d
  refine wp_region_free0 [0,1,2,3,4,5,6,7] [] [0,1,2,3,4,5,6,7] 8 (fun w'=>Row w' (w.heap.size) 42 #[.int .i64 q, .int .i64 land, .int .i64 now, .slice (some ad) n c]∧Row w' (w.heap.size+1) 69 #[.int .u64 0, .int .u64 0, .int .u64 0, .int .u64 0]∧Row w' (db) 67 #[.int .u64 (hi dn), .int .u64 (lo dn)]∧Below w.heap.size w w') (by kernel_rfl) (by kernel_rfl) (fun _ _ d _ _ h=>by cases d<;>exact h) ?_ ?_
  · exact ⟨M1,M2,M3,M4.drew⟩
  (refine plan_pure ?_ rfl rfl (fun w'=>?_) ?_;rotate_left;(go_simp;try with_reducible rfl);simp only [put9])
  (refine plan_val ?_ rfl rfl rfl (fun w' hS=>?_) ?_;rotate_left;(obtain ⟨X0,X1,X2,X3,Xf0,Xf1,Xf2,Xf3⟩:=row_four hS.1;obtain ⟨Y0,Y1,Y2,Y3,Yf0,Yf1,Yf2,Yf3⟩:=row_four hS.2.1;obtain ⟨D0,D1,Df0,Df1⟩:=row_two hS.2.2.1;obtain ⟨p0,p1⟩:=MX.out.below hS.2.2.2 HAB.out;go_simp;try with_reducible rfl);simp only [put9])
  (refine plan_pure ?_ rfl rfl (fun w'=>?_) ?_;rotate_left;(go_simp;try with_reducible rfl);simp only [put9])
  (refine plan_val ?_ rfl rfl rfl (fun w' hS=>?_) ?_;rotate_left;(obtain ⟨X0,X1,X2,X3,Xf0,Xf1,Xf2,Xf3⟩:=row_four hS.1;obtain ⟨Y0,Y1,Y2,Y3,Yf0,Yf1,Yf2,Yf3⟩:=row_four hS.2.1;obtain ⟨D0,D1,Df0,Df1⟩:=row_two hS.2.2.1;obtain ⟨p0,p1⟩:=MX.out.below hS.2.2.2 HAB.out;go_simp;try with_reducible rfl);simp only [put9])
  (refine plan_pure ?_ rfl rfl (fun w'=>?_) ?_;rotate_left;(go_simp;try with_reducible rfl);simp only [put9])
  (refine plan_val ?_ rfl rfl rfl (fun w' hS=>?_) ?_;rotate_left;(obtain ⟨X0,X1,X2,X3,Xf0,Xf1,Xf2,Xf3⟩:=row_four hS.1;obtain ⟨Y0,Y1,Y2,Y3,Yf0,Yf1,Yf2,Yf3⟩:=row_four hS.2.1;obtain ⟨D0,D1,Df0,Df1⟩:=row_two hS.2.2.1;obtain ⟨p0,p1⟩:=MX.out.below hS.2.2.2 HAB.out;go_simp;try with_reducible rfl);simp only [put9])
  (refine plan_val ?_ rfl rfl rfl (fun w' hS=>?_) ?_;rotate_left;(obtain ⟨X0,X1,X2,X3,Xf0,Xf1,Xf2,Xf3⟩:=row_four hS.1;obtain ⟨Y0,Y1,Y2,Y3,Yf0,Yf1,Yf2,Yf3⟩:=row_four hS.2.1;obtain ⟨D0,D1,Df0,Df1⟩:=row_two hS.2.2.1;obtain ⟨p0,p1⟩:=MX.out.below hS.2.2.2 HAB.out;go_simp;try with_reducible rfl);simp only [put9])
  (refine plan_pure ?_ rfl rfl (fun w'=>?_) ?_;rotate_left;(go_simp;try with_reducible rfl);simp only [put9])
  refine plan_nil ?_
  intro w5 L5
  simp only [List.drop_succ_cons,List.drop_zero]
  try simp only [put9]
  clear M1 M2 M3 M4
  obtain ⟨M1,M2,M3,M4⟩:=L5
  obtain ⟨C0,C1,C2,C3,D0,D1,D2,D3⟩:=row_four M2
  go_wp2
  exact bodyPost_ret (v := .tuple #[FRP x dn, .int .i64 0]) (by simp [results,Tryz.results45,go_sem,C0,C1,C2,C3,FRP]) rfl ⟨rfl,by (repeat (first | exact Below.refl _ _ | refine Below.setCell ?_ (by (try simp)<;>omega) _ | refine Below.alloc ?_ (by (try simp)<;>omega) _ | refine Below.drew ?_ | refine Below.trans ?_ (Below.mono (by assumption) (by (try simp)<;>omega))))⟩
end Go.Proofs.YtdipoojjlddohaaGreat
end
