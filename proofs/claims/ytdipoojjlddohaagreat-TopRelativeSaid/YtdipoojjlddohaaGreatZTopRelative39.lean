/- What the law TopRelative needs, joined of its texts by a program (slim2.py); part 39. -/
import Derived.Test.YtdipoojjlddohaaGreatZTopRelative1
import Derived.Test.YtdipoojjlddohaaGreatZTopRelative38
set_option linter.unusedVariables false
set_option linter.unusedSimpArgs false
set_option linter.unusedSectionVars false
set_option linter.unnecessarySimpa false
set_option maxRecDepth 100000
namespace Go.Proofs.YtdipoojjlddohaaGreat
open MC
open MT
open Go.RowKit Go.Shelf
structure But (b:Nat) (w w':World):Prop where
  os:w'.os=w.os
  tape:w'.tape=w.tape
  output:w'.output=w.output
  size:w'.heap.size=w.heap.size
  block:∀ k,k≠b->w'.heap[k]?=w.heap[k]?
section
variable {b:Nat} {w w' w0:World}
theorem But.refl (b:Nat) (w:World):But b w w:=⟨rfl,rfl,rfl,rfl,fun _ _=>rfl⟩
theorem But.drew (h:But b w w'):But b w w'.drew:=⟨h.os,h.tape,h.output,h.size,h.block⟩
theorem But.set (h:But b w w') (i:Nat) (v:Value):But b w (w'.setCell ⟨b,i,none⟩ v) :=
  ⟨h.os,h.tape,h.output,(size_setCell _ _).trans h.size,fun k hk=>(Below.heap_setCell _ _ _ _ hk).trans (h.block k hk)⟩
theorem But.trans {w'':World} (h:But b w w') (k:But b w' w''):But b w w'':=⟨k.os.trans h.os,k.tape.trans h.tape,k.output.trans h.output,k.size.trans h.size,fun i hi=>(k.block i hi).trans (h.block i hi)⟩
theorem But.below {B:Nat} (h:But b w w') (o:Below B w0 w) (hB:B<=b):Below B w0 w' :=
  o.trans ⟨h.os,h.tape,h.output,Nat.le_of_eq h.size.symm,fun k hk=>h.block k (by omega)⟩
theorem row_but {c:Nat} {t:TypeId} {cs:Array Value} (r:Row w c t cs) (h:But b w w') (hne:c≠b):Row w' c t cs:=(h.block c hne).trans r
end
theorem add64_z (w:World):(callFunc 165 #[.int .u64 0, .int .u64 0, .int .u64 0]).run Tryz.prog w = .ok (.value (.tuple #[.int .u64 0, .int .u64 0])) w:=by simpa using add64_0 0 0 (by decide) (by decide) w
theorem add64_n (a b:Nat) (h:a+b<18446744073709551616) (w:World):(callFunc 165 #[.int .u64 (a:Nat), .int .u64 (b:Nat), .int .u64 0]).run Tryz.prog w = .ok (.value (.tuple #[.int .u64 ((a+b:Nat):Int), .int .u64 0])) w:=by
  rw [add64_0 (a:Nat) (b:Nat) (by omega) (by omega) w];have e1:((a:Int)+(b:Int)) % 18446744073709551616=((a+b:Nat):Int):=by omega
  have e2:((a:Int)+(b:Int)) / 18446744073709551616=0:=by omega
  rw [e1,e2]
theorem q4_at (c:Int) {i:Nat} (h0:1<=i) (h1:i<4):((J19 (.int .u64 c)):Array Value)[i]?=some (.int .u64 0)/\((J19 (.int .u64 c)):Array Value).setIfInBounds i (.int .u64 0)=(J19 (.int .u64 c)):=by
  have:i=1∨i=2∨i=3:=by omega
  rcases this with rfl | rfl | rfl<;>exact ⟨rfl,rfl⟩
set_option maxRecDepth 100000 in
set_option maxHeartbeats 2000000 in
theorem ptimes0 (qb c x y:Nat) (w:World) (hR:Row w qb 264 (J19 (.int .u64 (c:Nat)))) (hx:x<18446744073709551616) (hy:y<18446744073709551616) (hq:c+x*y<18446744073709551616):Calls Tryz.prog 172 #[.pointer (some ⟨qb,0,none⟩), .int .u64 (x:Nat), .int .u64 (y:Nat),()] w fun e w'=>e = .returned (.tuple #[])/\Row w' qb 264 (J19 (.int .u64 (c+x*y:Nat)))/\But qb w w':=by
  have R:=hR;have B:=But.refl qb w;have PM:=fun w=>qmul64 x y hx hy w;obtain ⟨q,eq⟩:∃ q,x*y=q:=⟨_,rfl⟩
  rw [eq] at PM hq;rw [hi_small (show q<18446744073709551616 by omega),lo_small (show q<18446744073709551616 by omega)] at PM;replace PM:=Lib.hid PM;replace eq:=Lib.hid eq;clear hR hx hy;go_enter Tryz.func172,Tryz.ntmps172;go_upto_region 2 with (go_at_call 181;with_reducible refine (PM.out _).mono ?_;rintro e w9 ⟨rfl,h9⟩;obtain rfl:=h9.symm)
  clear PM;refine wp_region_free0 [0,1,2,3,4,5,6,7,8,9,11,10,12,13] [11] [0,1,2,3,4,5,6,7,8,9,10,12,13] 14 (fun w'=>Row w' qb 264 (J19 (.int .u64 (c:Nat)))/\But qb w w') (by kernel_rfl) (by kernel_rfl) (fun _ _ d _ _ h=>by cases d<;>exact h) ?_ ?_
  · exact ⟨row_drew R,B.drew⟩
  iterate 6 (refine plp rfl rfl ?_;simp only [put9])
  (refine plv rfl rfl rfl (fun w' hS=>by obtain ⟨Q0,Q1,Q2,Q3,Qf0,Qf1,Qf2,Qf3⟩:=row_four hS.1;exact gs9) ?_;simp only [put9]);(refine plp rfl rfl ?_;simp only [put9]);(refine plan_pure ?_ rfl rfl (fun w'=>?_) ?_;rotate_left;(go_simp;exact add64_n c q (by omega) _);simp only [put9]);iterate 5 (refine plp rfl rfl ?_;simp only [put9])
  refine plan_nil ?_;intro w3 L3;simp only [List.drop_succ_cons,List.drop_zero];try simp only [put9]
  obtain ⟨R,B⟩:=L3;obtain ⟨Q0,Q1,Q2,Q3,Qf0,Qf1,Qf2,Qf3⟩:=row_four R;go_upto_region 3 with (fail)
  clear Q0 Q1 Q2 Q3 Qf0 Qf1 Qf2 Qf3;have R':Row (w3.setCell ⟨qb,0,none⟩ (.int .u64 ((c:Int)+(q:Int)))) qb 264 (J19 (.int .u64 ((c:Int)+(q:Int)))):=row_set R 0 _;have B':=B.set 0 (.int .u64 ((c:Int)+(q:Int)));generalize w3.setCell ⟨qb,0,none⟩ (.int .u64 ((c:Int)+(q:Int)))=w4 at R' B' |-
  clear R B;obtain ⟨d,hd⟩:∃ d:Int,((c:Int)+(q:Int))=d:=⟨_,rfl⟩
  rw [hd] at R';replace hd:=Lib.hid hd;go_wp2;go_loopw [8,10,11] (fun h k j wr=>∃ i:Nat,1<=i/\i<=4/\j = .int .i64 (i:Nat)/\h = .int .u64 0/\k = .int .u64 0/\Row wr qb 264 (J19 (.int .u64 d))/\But qb w wr) (fun _ _ j _=>4-(intOf j).toNat)
  case atStart=>exact ⟨1,by omega,by omega,rfl,rfl,rfl,R',B'⟩
  case round =>
    clear R' B';obtain ⟨i,h1,h4,rfl,rfl,rfl,R,B⟩:=hrel;by_cases hlt:i<4
    · obtain ⟨hat,hset⟩:=q4_at d h1 hlt;have HAT:=Lib.hid hat;have HST:=Lib.hid hset;have i1:(i:Int)<4:=by omega
      have i2:(0:Int)<=(i:Int):=by omega
      clear hat hset;go_upto_region 6 with (fail)
      refine wp_region_free0 [0,1,2,3,4,5,6,7,8,9,10,12,11,13,14] [12] [0,1,2,3,4,5,6,7,8,9,10,11,13,14] 15 (fun w'=>Row w' qb 264 (J19 (.int .u64 d))/\But qb w w') (by kernel_rfl) (by kernel_rfl) (fun _ _ d _ _ h=>by cases d<;>exact h) ?_ ?_
      · exact ⟨row_drew R,B.drew⟩
      iterate 6 (refine plp rfl rfl ?_;simp only [put9])
      (refine plv rfl rfl rfl (fun w' hS=>by have q0:=(row_cell hS.1 i).trans HAT.out;have q1:=row_free hS.1 i;exact gs9) ?_;simp only [put9]);iterate 2 (refine plp rfl rfl ?_;simp only [put9])
      (refine plan_pure ?_ rfl rfl (fun w'=>?_) ?_;rotate_left;(go_simp;exact add64_z _);simp only [put9]);iterate 5 (refine plp rfl rfl ?_;simp only [put9])
      refine plan_nil ?_;intro w3 L3;simp only [List.drop_succ_cons,List.drop_zero];try simp only [put9]
      obtain ⟨R,B⟩:=L3;have q0:=(row_cell R i).trans HAT.out;have q1:=row_free R i;have R':=row_set R i (.int .u64 0);rw [HST.out] at R';have B':=B.set i (.int .u64 0);go_wp2;go_roundw
      case rel=>exact ⟨i+1,by omega,by omega,by go_num,rfl,rfl,R',B'⟩
      case measure=>simp [intOf];omega
    · have i1:¬ (i:Int)<4:=by omega
      go_wp2;refine bodyPost_end (results_none (by kernel_rfl) _ _ _) rfl ⟨rfl,?_,B⟩;have e1:((c+x*y:Nat):Int)=d:=by rw [eq.out,<- hd.out,Int.natCast_add]
      first | (rw [e1];exact R) | (rw [Int.natCast_add,Int.natCast_mul] at e1;rw [e1];exact R)
      
set_option maxRecDepth 100000 in
set_option maxHeartbeats 2000000 in
theorem ptimes1 (qb c x y:Nat) (w:World) (hR:Row w qb 264 (J19 (.int .u64 (c:Nat)))) (hx:x<18446744073709551616) (hy:y<18446744073709551616) (hq:x*y=0):Calls Tryz.prog 172 #[.pointer (some ⟨qb,0,none⟩), .int .u64 (x:Nat), .int .u64 (y:Nat), .int .i64 1] w fun e w'=>e = .returned (.tuple #[])/\Row w' qb 264 (J19 (.int .u64 (c:Nat)))/\But qb w w':=by
  have R:=hR;have B:=But.refl qb w;have PM:=fun w=>qmul64 x y hx hy w;obtain ⟨q,eq⟩:∃ q,x*y=q:=⟨_,rfl⟩
  rw [eq] at PM hq;rw [hi_small (show q<18446744073709551616 by omega),lo_small (show q<18446744073709551616 by omega)] at PM;replace PM:=Lib.hid PM;replace eq:=Lib.hid eq;clear hR hx hy;subst hq;go_enter Tryz.func172,Tryz.ntmps172;go_upto_region 2 with (go_at_call 181;with_reducible refine (PM.out _).mono ?_;rintro e w9 ⟨rfl,h9⟩;obtain rfl:=h9.symm)
  clear PM;refine wp_region_free0 [0,1,2,3,4,5,6,7,8,9,11,10,12,13] [11] [0,1,2,3,4,5,6,7,8,9,10,12,13] 14 (fun w'=>Row w' qb 264 (J19 (.int .u64 (c:Nat)))/\But qb w w') (by kernel_rfl) (by kernel_rfl) (fun _ _ d _ _ h=>by cases d<;>exact h) ?_ ?_
  · exact ⟨row_drew R,B.drew⟩
  iterate 6 (refine plp rfl rfl ?_;simp only [put9])
  (refine plv rfl rfl rfl (fun w' hS=>by obtain ⟨Q0,Q1,Q2,Q3,Qf0,Qf1,Qf2,Qf3⟩:=row_four hS.1;exact gs9) ?_;simp only [put9]);(refine plp rfl rfl ?_;simp only [put9]);(refine plan_pure ?_ rfl rfl (fun w'=>?_) ?_;rotate_left;(go_simp;exact add64_z _);simp only [put9]);iterate 5 (refine plp rfl rfl ?_;simp only [put9])
  refine plan_nil ?_;intro w3 L3;simp only [List.drop_succ_cons,List.drop_zero];try simp only [put9]
  obtain ⟨R,B⟩:=L3;obtain ⟨Q0,Q1,Q2,Q3,Qf0,Qf1,Qf2,Qf3⟩:=row_four R;go_upto_region 3 with (fail)
  clear Q0 Q1 Q2 Q3 Qf0 Qf1 Qf2 Qf3;have R':Row (w3.setCell ⟨qb,1,none⟩ (.int .u64 0)) qb 264 (J19 (.int .u64 (c:Nat))):=row_set R 1 _;have B':=B.set 1 (.int .u64 0);generalize w3.setCell ⟨qb,1,none⟩ (.int .u64 0)=w4 at R' B' |-
  clear R B;obtain ⟨d,hd⟩:∃ d:Int,(c:Int)=d:=⟨_,rfl⟩
  rw [hd] at R';replace hd:=Lib.hid hd;go_wp2;go_loopw [8,10,11] (fun h k j wr=>∃ i:Nat,1<=i/\i<=4/\j = .int .i64 (i:Nat)/\h = .int .u64 0/\k = .int .u64 0/\Row wr qb 264 (J19 (.int .u64 d))/\But qb w wr) (fun _ _ j _=>4-(intOf j).toNat)
  case atStart=>exact ⟨2,by omega,by omega,rfl,rfl,rfl,R',B'⟩
  case round =>
    clear R' B';obtain ⟨i,h1,h4,rfl,rfl,rfl,R,B⟩:=hrel;by_cases hlt:i<4
    · obtain ⟨hat,hset⟩:=q4_at d h1 hlt;have HAT:=Lib.hid hat;have HST:=Lib.hid hset;have i1:(i:Int)<4:=by omega
      have i2:(0:Int)<=(i:Int):=by omega
      clear hat hset;go_upto_region 6 with (fail)
      refine wp_region_free0 [0,1,2,3,4,5,6,7,8,9,10,12,11,13,14] [12] [0,1,2,3,4,5,6,7,8,9,10,11,13,14] 15 (fun w'=>Row w' qb 264 (J19 (.int .u64 d))/\But qb w w') (by kernel_rfl) (by kernel_rfl) (fun _ _ d _ _ h=>by cases d<;>exact h) ?_ ?_
      · exact ⟨row_drew R,B.drew⟩
      iterate 6 (refine plp rfl rfl ?_;simp only [put9])
      (refine plv rfl rfl rfl (fun w' hS=>by have q0:=(row_cell hS.1 i).trans HAT.out;have q1:=row_free hS.1 i;exact gs9) ?_;simp only [put9]);iterate 2 (refine plp rfl rfl ?_;simp only [put9])
      (refine plan_pure ?_ rfl rfl (fun w'=>?_) ?_;rotate_left;(go_simp;exact add64_z _);simp only [put9]);iterate 5 (refine plp rfl rfl ?_;simp only [put9])
      refine plan_nil ?_;intro w3 L3;simp only [List.drop_succ_cons,List.drop_zero];try simp only [put9]
      obtain ⟨R,B⟩:=L3;have q0:=(row_cell R i).trans HAT.out;have q1:=row_free R i;have R':=row_set R i (.int .u64 0);rw [HST.out] at R';have B':=B.set i (.int .u64 0);go_wp2;go_roundw
      case rel=>exact ⟨i+1,by omega,by omega,by go_num,rfl,rfl,R',B'⟩
      case measure=>simp [intOf];omega
    · have i1:¬ (i:Int)<4:=by omega
      go_wp2;refine bodyPost_end (results_none (by kernel_rfl) _ _ _) rfl ⟨rfl,?_,B⟩;have e1:(c:Int)=d:=hd.out;rw [e1];exact R
set_option maxRecDepth 100000 in
set_option maxHeartbeats 2000000 in
theorem ptimes2 (qb c x y:Nat) (w:World) (hR:Row w qb 264 (J19 (.int .u64 (c:Nat)))) (hx:x<18446744073709551616) (hy:y<18446744073709551616) (hq:x*y=0):Calls Tryz.prog 172 #[.pointer (some ⟨qb,0,none⟩), .int .u64 (x:Nat), .int .u64 (y:Nat), .int .i64 2] w fun e w'=>e = .returned (.tuple #[])/\Row w' qb 264 (J19 (.int .u64 (c:Nat)))/\But qb w w':=by
  have R:=hR;have B:=But.refl qb w;have PM:=fun w=>qmul64 x y hx hy w;obtain ⟨q,eq⟩:∃ q,x*y=q:=⟨_,rfl⟩
  rw [eq] at PM hq;rw [hi_small (show q<18446744073709551616 by omega),lo_small (show q<18446744073709551616 by omega)] at PM;replace PM:=Lib.hid PM;replace eq:=Lib.hid eq;clear hR hx hy;subst hq;go_enter Tryz.func172,Tryz.ntmps172;go_upto_region 2 with (go_at_call 181;with_reducible refine (PM.out _).mono ?_;rintro e w9 ⟨rfl,h9⟩;obtain rfl:=h9.symm)
  clear PM;refine wp_region_free0 [0,1,2,3,4,5,6,7,8,9,11,10,12,13] [11] [0,1,2,3,4,5,6,7,8,9,10,12,13] 14 (fun w'=>Row w' qb 264 (J19 (.int .u64 (c:Nat)))/\But qb w w') (by kernel_rfl) (by kernel_rfl) (fun _ _ d _ _ h=>by cases d<;>exact h) ?_ ?_
  · exact ⟨row_drew R,B.drew⟩
  iterate 6 (refine plp rfl rfl ?_;simp only [put9])
  (refine plv rfl rfl rfl (fun w' hS=>by obtain ⟨Q0,Q1,Q2,Q3,Qf0,Qf1,Qf2,Qf3⟩:=row_four hS.1;exact gs9) ?_;simp only [put9]);(refine plp rfl rfl ?_;simp only [put9]);(refine plan_pure ?_ rfl rfl (fun w'=>?_) ?_;rotate_left;(go_simp;exact add64_z _);simp only [put9]);iterate 5 (refine plp rfl rfl ?_;simp only [put9])
  refine plan_nil ?_;intro w3 L3;simp only [List.drop_succ_cons,List.drop_zero];try simp only [put9]
  obtain ⟨R,B⟩:=L3;obtain ⟨Q0,Q1,Q2,Q3,Qf0,Qf1,Qf2,Qf3⟩:=row_four R;go_upto_region 3 with (fail)
  clear Q0 Q1 Q2 Q3 Qf0 Qf1 Qf2 Qf3;have R':Row (w3.setCell ⟨qb,2,none⟩ (.int .u64 0)) qb 264 (J19 (.int .u64 (c:Nat))):=row_set R 2 _;have B':=B.set 2 (.int .u64 0);generalize w3.setCell ⟨qb,2,none⟩ (.int .u64 0)=w4 at R' B' |-
  clear R B;obtain ⟨d,hd⟩:∃ d:Int,(c:Int)=d:=⟨_,rfl⟩
  rw [hd] at R';replace hd:=Lib.hid hd;go_wp2;go_loopw [8,10,11] (fun h k j wr=>∃ i:Nat,1<=i/\i<=4/\j = .int .i64 (i:Nat)/\h = .int .u64 0/\k = .int .u64 0/\Row wr qb 264 (J19 (.int .u64 d))/\But qb w wr) (fun _ _ j _=>4-(intOf j).toNat)
  case atStart=>exact ⟨3,by omega,by omega,rfl,rfl,rfl,R',B'⟩
  case round =>
    clear R' B';obtain ⟨i,h1,h4,rfl,rfl,rfl,R,B⟩:=hrel;by_cases hlt:i<4
    · obtain ⟨hat,hset⟩:=q4_at d h1 hlt;have HAT:=Lib.hid hat;have HST:=Lib.hid hset;have i1:(i:Int)<4:=by omega
      have i2:(0:Int)<=(i:Int):=by omega
      clear hat hset;go_upto_region 6 with (fail)
      refine wp_region_free0 [0,1,2,3,4,5,6,7,8,9,10,12,11,13,14] [12] [0,1,2,3,4,5,6,7,8,9,10,11,13,14] 15 (fun w'=>Row w' qb 264 (J19 (.int .u64 d))/\But qb w w') (by kernel_rfl) (by kernel_rfl) (fun _ _ d _ _ h=>by cases d<;>exact h) ?_ ?_
      · exact ⟨row_drew R,B.drew⟩
      iterate 6 (refine plp rfl rfl ?_;simp only [put9])
      (refine plv rfl rfl rfl (fun w' hS=>by have q0:=(row_cell hS.1 i).trans HAT.out;have q1:=row_free hS.1 i;exact gs9) ?_;simp only [put9]);iterate 2 (refine plp rfl rfl ?_;simp only [put9])
      (refine plan_pure ?_ rfl rfl (fun w'=>?_) ?_;rotate_left;(go_simp;exact add64_z _);simp only [put9]);iterate 5 (refine plp rfl rfl ?_;simp only [put9])
      refine plan_nil ?_;intro w3 L3;simp only [List.drop_succ_cons,List.drop_zero];try simp only [put9]
      obtain ⟨R,B⟩:=L3;have q0:=(row_cell R i).trans HAT.out;have q1:=row_free R i;have R':=row_set R i (.int .u64 0);rw [HST.out] at R';have B':=B.set i (.int .u64 0);go_wp2;go_roundw
      case rel=>exact ⟨i+1,by omega,by omega,by go_num,rfl,rfl,R',B'⟩
      case measure=>simp [intOf];omega
    · have i1:¬ (i:Int)<4:=by omega
      go_wp2;refine bodyPost_end (results_none (by kernel_rfl) _ _ _) rfl ⟨rfl,?_,B⟩;have e1:(c:Int)=d:=hd.out;rw [e1];exact R
theorem pdiv64 (a n:Nat) (w:World) (ha:a<18446744073709551616) (h1:1<=n) (hn:n<18446744073709551616):Calls Tryz.prog 248 #[.int .u64 0, .int .u64 (a:Nat), .int .u64 (n:Nat)] w (Rr (.tuple #[.int .u64 (a / n:Nat), .int .u64 (a % n:Nat)]) w):=by
  have e1:((n:Int) == 0)=false:=by simp;omega
  have e2:¬ (n:Int)<=0:=by omega
  have e3:¬ n=0:=by omega
  have e4:¬ (n:Int)=0:=by omega
  have w1:IntKind.u64.wrap ((a:Int) / (n:Int))=((a / n:Nat):Int):=by
    have h2:=Nat.div_le_self a n;rw [show (a:Int) / (n:Int)=((a / n:Nat):Int) from rfl];generalize a / n=p at h2 |-
    exact IntWalk.u64_in _ (by omega)
  have w2:(a:Int).tmod (n:Int)=((a % n:Nat):Int):=by
    rw [IntWalk.rem_in _ _ (by omega)];rfl
  generalize ((a / n:Nat):Int)=p at w1 |-
  generalize ((a % n:Nat):Int)=r at w2 |-
  replace w1:=Lib.hid w1;replace w2:=Lib.hid w2;go_enter Tryz.func248,Tryz.ntmps248;go_upto_region 6 with (fail)
  refine wp_region_free0 [3,4,5,0,1,2] [3,4,5] [0,1,2] 6 (fun w'=>Below w w w') (by kernel_rfl) (by kernel_rfl) (fun _ _ d _ _ h=>by cases d<;>exact h) ?_ ?_
  · exact (Below.refl _ _).drew
  iterate 6 (refine plp rfl rfl ?_;simp only [put9])
  refine plan_nil ?_;intro w3 L3;simp only [List.drop_succ_cons,List.drop_zero];try simp only [put9]
  go_wp2;exact bodyPost_ret (v := .tuple #[.int .u64 p, .int .u64 r]) (by simp [results,Tryz.results248,go_sem];exact ⟨w1.out,w2.out⟩) rfl ⟨rfl,L3⟩
set_option maxHeartbeats 1000000 in
theorem pngcd (a b:Nat) (w:World) (ha:a<=4611686018427387904) (hb:b<=4611686018427387904):Calls Tryz.prog 176 #[.int .i64 (a:Nat), .int .i64 (b:Nat)] w (Rr (.int .i64 (Nat.gcd a b:Nat)) w):=by
  have e1:¬ (a:Int)<0:=by omega
  have e2:¬ (b:Int)<0:=by omega
  go_enter Tryz.func176,Tryz.ntmps176;go_wp2;clear e1 e2;go_loopw [0,1] (fun x y wr=>∃ p q:Nat,x = .int .i64 (p:Nat)/\y = .int .i64 (q:Nat)/\p<=4611686018427387904/\q<=4611686018427387904/\RowKit.Hid (Nat.gcd p q=Nat.gcd a b)/\Below w w wr) (fun _ y _=>(intOf y).toNat)
  case atStart=>exact ⟨a,b,rfl,rfl,ha,hb,Lib.hid rfl,Below.refl _ _⟩
  case round =>
    obtain ⟨p,q,rfl,rfl,hp,hq,HG,o⟩:=hrel;by_cases hz:q=0
    · subst hz;have hg:=HG.out;rw [Nat.gcd_zero_right] at hg;subst hg;go_wp2;go_ret;exact ⟨rfl,o⟩
    · have z1:((q:Int) != 0)=true:=by simp;omega
      have z2:((q:Int) == 0)=false:=by simp;omega
      have hm:p % q<q:=Nat.mod_lt _ (by omega)
      have wm:(p:Int).tmod (q:Int)=((p % q:Nat):Int):=by
        rw [IntWalk.rem_in _ _ (by omega)];rfl
      have HG2:=Lib.hid (show Nat.gcd q (p % q)=Nat.gcd a b by rw [<- HG.out,Nat.gcd_comm p q,Nat.gcd_rec q p,Nat.gcd_comm]);obtain ⟨r,hr⟩:∃ r,p % q=r:=⟨_,rfl⟩
      rw [hr] at hm wm HG2;clear hr;go_upto_region 4 with (fail)
      refine wp_region_phase 5 (fun w'=>Below w w w') (by kernel_rfl) (by kernel_rfl) (by kernel_rfl) (by kernel_rfl) (by kernel_rfl) (fun HOK=>?_);have HS:=(o.drew:Below w w wr.drew)
      (refine hwt HOK 0 HS rfl (fun w' hS=>gs9) ?_;simp only [put9]);(refine hwt HOK 1 HS rfl (fun w' hS=>gs9) ?_;simp only [put9]);(refine hwt HOK 2 HS rfl (fun w' hS=>gs9) ?_;simp only [put9]);(refine hwt HOK 3 HS rfl (fun w' hS=>gs9) ?_;simp only [put9]);replace o:=o.drew;clear HS;generalize wr.drew=w3 at o |-
      refine hw_one (i:=4) rfl (by decide) (by kernel_rfl) (fun K hK=>?_);go_simp;refine hK _ _ o ?_;clear hK K;try simp only [put9]
      refine hw_done (by kernel_rfl) ?_;try simp only [List.drop_succ_cons,List.drop_zero]
      clear HOK;go_wp2;go_roundw
      case rel=>exact ⟨q,r,rfl,rfl,hq,by omega,HG2,o⟩
      case measure=>simp [intOf];omega
theorem sub64_n (a b:Nat) (h:b<=a) (ha:a<18446744073709551616) (w:World):(callFunc 247 #[.int .u64 (a:Nat), .int .u64 (b:Nat), .int .u64 0]).run Tryz.prog w = .ok (.value (.tuple #[.int .u64 ((a:Int)-(b:Int)), .int .u64 0])) w:=by
  rw [sub64_0 (a:Nat) (b:Nat) (by omega) (by omega) (by omega) w];have e1:((a:Int)-(b:Int)) % 18446744073709551616=(a:Int)-(b:Int):=by omega
  have e2:bor (a:Int) (b:Int)=0:=by unfold bor;rw [if_neg (by omega)]
  rw [e1,e2]
theorem sub64_z (w:World):(callFunc 247 #[.int .u64 0, .int .u64 0, .int .u64 0]).run Tryz.prog w = .ok (.value (.tuple #[.int .u64 0, .int .u64 0])) w:=by simpa using sub64_n 0 0 (Nat.le_refl _) (by decide) w
set_option maxRecDepth 100000 in
set_option maxHeartbeats 2000000 in
theorem pminus (a b:Nat) (w:World) (h:b<=a) (ha:a<18446744073709551616):Calls Tryz.prog 174 #[.agg (J19 (.int .u64 (a:Nat))), .agg (J19 (.int .u64 (b:Nat)))] w (Rr (.agg (J19 (.int .u64 (a-b:Nat)))) w):=by
  obtain ⟨d,hd⟩:∃ d:Int,(a:Int)-(b:Int)=d:=⟨_,rfl⟩
  have e0:((a-b:Nat):Int)=d:=by omega
  rw [e0];clear e0;have PS:=fun w=>sub64_n a b h ha w;rw [hd] at PS;replace PS:=Lib.hid PS;clear h ha hd;go_enter Tryz.func174,Tryz.ntmps174;go_wp2;have RA:Row (((w.alloc (.cells (J19 (.int .u64 (a:Nat))) 264)).alloc (.cells (J19 (.int .u64 (b:Nat))) 264)).alloc (.cells J20 264)) (w.heap.size) 264 (J19 (.int .u64 (a:Nat))):=row_alloc (row_alloc (row_new rfl) _) _;have RB:Row (((w.alloc (.cells (J19 (.int .u64 (a:Nat))) 264)).alloc (.cells (J19 (.int .u64 (b:Nat))) 264)).alloc (.cells J20 264)) (w.heap.size+1) 264 (J19 (.int .u64 (b:Nat))):=row_alloc (row_new (by simp)) _;have R:Row (((w.alloc (.cells (J19 (.int .u64 (a:Nat))) 264)).alloc (.cells (J19 (.int .u64 (b:Nat))) 264)).alloc (.cells J20 264)) (w.heap.size+2) 264 J20:=row_new (by simp);have o:Below w w (((w.alloc (.cells (J19 (.int .u64 (a:Nat))) 264)).alloc (.cells (J19 (.int .u64 (b:Nat))) 264)).alloc (.cells J20 264)):=bel9;generalize (((w.alloc (.cells (J19 (.int .u64 (a:Nat))) 264)).alloc (.cells (J19 (.int .u64 (b:Nat))) 264)).alloc (.cells J20 264))=w1 at RA RB R o |-
  go_loopw [5,6,7] (fun br u j wr=>∃ (i:Nat) (c:Int),i<=4/\j = .int .i64 (i:Nat)/\br = .int .u64 0/\(i=0/\c=(a:Nat)∨1<=i/\c=d)/\Row wr (w.heap.size) 264 (J19 (.int .u64 c))/\Row wr (w.heap.size+1) 264 (J19 (.int .u64 (b:Nat)))/\Row wr (w.heap.size+2) 264 J20/\Below w w wr) (fun _ _ j _=>4-(intOf j).toNat)
  case atStart=>exact ⟨0,(a:Nat),by omega,rfl,rfl, .inl ⟨rfl,rfl⟩,RA,RB,R,o⟩
  case round =>
    clear RA RB R o;obtain ⟨i,c,h4,rfl,rfl,hc,RA,RB,R,o⟩:=hrel;by_cases hlt:i<4
    · have i1:(i:Int)<4:=by omega
      have i2:(0:Int)<=(i:Int):=by omega
      rcases hc with ⟨rfl,rfl⟩ | ⟨h1,rfl⟩
      · have HA:=Lib.hid (show ((J19 (.int .u64 (a:Nat))):Array Value)[0]?=some (.int .u64 (a:Nat)) from rfl);have HB:=Lib.hid (show ((J19 (.int .u64 (b:Nat))):Array Value)[0]?=some (.int .u64 (b:Nat)) from rfl);have HST:=Lib.hid (show ((J19 (.int .u64 (a:Nat))):Array Value).setIfInBounds 0 (.int .u64 d)=(J19 (.int .u64 d)) from rfl);clear i1 i2;go_upto_region 5 with (fail)
        refine wp_region_free0 [0,1,2,3,4,5,6,7,8,9,11,10,12] [11] [0,1,2,3,4,5,6,7,8,9,10,12] 13 (fun w'=>Row w' (w.heap.size) 264 (J19 (.int .u64 (a:Nat)))/\Row w' (w.heap.size+1) 264 (J19 (.int .u64 (b:Nat)))/\Row w' (w.heap.size+2) 264 J20/\Below w w w') (by kernel_rfl) (by kernel_rfl) (fun _ _ d _ _ h=>by cases d<;>exact h) ?_ ?_
        · exact ⟨row_drew RA,row_drew RB,row_drew R,o.drew⟩
        iterate 3 (refine plp rfl rfl ?_;simp only [put9])
        (refine plv rfl rfl rfl (fun w' hS=>by have q0:=(row_cell hS.1 0).trans HA.out;have q1:=(row_cell hS.2.1 0).trans HB.out;exact gs9) ?_;simp only [put9]);iterate 2 (refine plp rfl rfl ?_;simp only [put9])
        (refine plv rfl rfl rfl (fun w' hS=>by have q0:=(row_cell hS.1 0).trans HA.out;have q1:=(row_cell hS.2.1 0).trans HB.out;exact gs9) ?_;simp only [put9]);(refine plp rfl rfl ?_;simp only [put9]);(refine plan_pure ?_ rfl rfl (fun w'=>?_) ?_;rotate_left;(go_simp;exact PS.out _);simp only [put9]);iterate 4 (refine plp rfl rfl ?_;simp only [put9])
        refine plan_nil ?_;intro w3 L3;simp only [List.drop_succ_cons,List.drop_zero];try simp only [put9]
        obtain ⟨RA,RB,R,o⟩:=L3;have q0:=(row_cell RA 0).trans HA.out;have q1:=row_free RA 0;go_wp2;replace RB:=row_other (p:=⟨w,0,none⟩) RB (by show w.heap.size+1≠w.heap.size;omega) (.int .u64 d);replace R:=row_other (p:=⟨w,0,none⟩) R (by show w.heap.size+2≠w.heap.size;omega) (.int .u64 d);replace o:=o.setCell (p:=⟨w,0,none⟩) (Nat.le_refl _) (.int .u64 d);replace RA:=row_set RA 0 (.int .u64 d);rw [HST.out] at RA;go_roundw
        case rel=>exact ⟨1,d,by omega,by go_num,rfl, .inr ⟨Nat.le_refl _,rfl⟩,RA,RB,R,o⟩
        case measure=>simp [intOf]
      · have HA:=Lib.hid (q4_at c h1 hlt).1;have HB:=Lib.hid (q4_at (b:Nat) h1 hlt).1;have HST:=Lib.hid (q4_at c h1 hlt).2;go_upto_region 5 with (fail)
        refine wp_region_free0 [0,1,2,3,4,5,6,7,8,9,11,10,12] [11] [0,1,2,3,4,5,6,7,8,9,10,12] 13 (fun w'=>Row w' (w.heap.size) 264 (J19 (.int .u64 c))/\Row w' (w.heap.size+1) 264 (J19 (.int .u64 (b:Nat)))/\Row w' (w.heap.size+2) 264 J20/\Below w w w') (by kernel_rfl) (by kernel_rfl) (fun _ _ d _ _ h=>by cases d<;>exact h) ?_ ?_
        · exact ⟨row_drew RA,row_drew RB,row_drew R,o.drew⟩
        iterate 3 (refine plp rfl rfl ?_;simp only [put9])
        (refine plv rfl rfl rfl (fun w' hS=>by have q0:=(row_cell hS.1 i).trans HA.out;have q1:=(row_cell hS.2.1 i).trans HB.out;exact gs9) ?_;simp only [put9]);iterate 2 (refine plp rfl rfl ?_;simp only [put9])
        (refine plv rfl rfl rfl (fun w' hS=>by have q0:=(row_cell hS.1 i).trans HA.out;have q1:=(row_cell hS.2.1 i).trans HB.out;exact gs9) ?_;simp only [put9]);(refine plp rfl rfl ?_;simp only [put9]);(refine plan_pure ?_ rfl rfl (fun w'=>?_) ?_;rotate_left;(go_simp;exact sub64_z _);simp only [put9]);iterate 4 (refine plp rfl rfl ?_;simp only [put9])
        refine plan_nil ?_;intro w3 L3;simp only [List.drop_succ_cons,List.drop_zero];try simp only [put9]
        obtain ⟨RA,RB,R,o⟩:=L3;have q0:=(row_cell RA i).trans HA.out;have q1:=row_free RA i;go_wp2;replace RB:=row_other (p:=⟨w,i,none⟩) RB (by show w.heap.size+1≠w.heap.size;omega) (.int .u64 0);replace R:=row_other (p:=⟨w,i,none⟩) R (by show w.heap.size+2≠w.heap.size;omega) (.int .u64 0);replace o:=o.setCell (p:=⟨w,i,none⟩) (Nat.le_refl _) (.int .u64 0);replace RA:=row_set RA i (.int .u64 0);rw [HST.out] at RA;go_roundw
        case rel=>exact ⟨i+1,c,by omega,by go_num,rfl, .inr ⟨by omega,rfl⟩,RA,RB,R,o⟩
        case measure=>simp [intOf];omega
    · have i1:¬ (i:Int)<4:=by omega
      obtain rfl:c=d:=by omega
      cases r4 RA;cases r4 R;go_wp2;have Sr0:=row_set R 0 (.int .u64 c);have Sr1:=row_set Sr0 1 (.int .u64 0);have Sr2:=row_set Sr1 2 (.int .u64 0);have Sr3:=row_set Sr2 3 (.int .u64 0);have o90:=o.setCell (p:=⟨w.heap.size+2,0,none⟩) (by show w.heap.size<=w.heap.size+2;omega) (.int .u64 c);have o91:=o90.setCell (p:=⟨w.heap.size+2,1,none⟩) (by show w.heap.size<=w.heap.size+2;omega) (.int .u64 0);have o92:=o91.setCell (p:=⟨w.heap.size+2,2,none⟩) (by show w.heap.size<=w.heap.size+2;omega) (.int .u64 0);have o93:=o92.setCell (p:=⟨w.heap.size+2,3,none⟩) (by show w.heap.size<=w.heap.size+2;omega) (.int .u64 0);obtain ⟨S0,S1,S2,S3,_,_,_,_⟩:=row_four Sr3;exact bodyPost_ret (v := .agg (J19 (.int .u64 c))) (by simp [results,Tryz.results174,go_sem,S0,S1,S2,S3]) rfl ⟨rfl,o93⟩
set_option maxRecDepth 100000 in
set_option maxHeartbeats 2000000 in
theorem pby (a n:Nat) (w:World) (ha:a<18446744073709551616) (h1:1<=n) (hn:n<18446744073709551616):Calls Tryz.prog 175 #[.agg (J19 (.int .u64 (a:Nat))), .int .u64 (n:Nat)] w (Rr (.tuple #[.agg (J19 (.int .u64 (a / n:Nat))), .int .u64 (a % n:Nat)]) w):=by
  have P0:∀ w:World,Calls Tryz.prog 248 #[.int .u64 0, .int .u64 0, .int .u64 (n:Nat)] w (Rr (.tuple #[.int .u64 0, .int .u64 0]) w):=fun w=>by
    have h:=pdiv64 0 n w (by omega) h1 hn;rw [Nat.zero_div,Nat.zero_mod] at h;exact h
  have P1:=fun w=>pdiv64 a n w ha h1 hn;generalize a / n=q at P1 |-
  generalize a % n=r at P1 |-
  replace P0:=Lib.hid P0;replace P1:=Lib.hid P1;clear ha h1 hn;go_enter Tryz.func175,Tryz.ntmps175;go_wp2;have RA:Row ((w.alloc (.cells (J19 (.int .u64 (a:Nat))) 264)).alloc (.cells J20 264)) (w.heap.size) 264 (J19 (.int .u64 (a:Nat))):=row_alloc (row_new rfl) _;have R:Row ((w.alloc (.cells (J19 (.int .u64 (a:Nat))) 264)).alloc (.cells J20 264)) (w.heap.size+1) 264 J20:=row_new (by simp);have o:Below w w ((w.alloc (.cells (J19 (.int .u64 (a:Nat))) 264)).alloc (.cells J20 264)):=bel9;generalize ((w.alloc (.cells (J19 (.int .u64 (a:Nat))) 264)).alloc (.cells J20 264))=w1 at RA R o |-
  go_loopw [6,7] (fun x j wr=>∃ (i:Nat) (c y:Int),i<=4/\j = .int .i64 ((i:Int)-1)/\x = .int .u64 y/\(i=0/\c=(q:Nat)/\y=(r:Nat)∨1<=i/\c=(a:Nat)/\y=0)/\Row wr (w.heap.size) 264 (J19 (.int .u64 c))/\Row wr (w.heap.size+1) 264 J20/\Below w w wr) (fun _ j _=>(intOf j+1).toNat)
  case atStart=>exact ⟨4,(a:Nat),0,by omega,rfl,rfl, .inr ⟨by omega,rfl,rfl⟩,RA,R,o⟩
  case round =>
    clear RA R o;obtain ⟨i,c,y,h4,rfl,rfl,hc,RA,R,o⟩:=hrel;rcases hc with ⟨rfl,rfl,rfl⟩ | ⟨h1,rfl,rfl⟩
    · obtain ⟨P0,P1,P2,P3,Pf0,Pf1,Pf2,Pf3⟩:=row_four RA;cases r4 R;go_wp2;have Sr0:=row_set R 0 (.int .u64 (q:Nat));have Sr1:=row_set Sr0 1 (.int .u64 0);have Sr2:=row_set Sr1 2 (.int .u64 0);have Sr3:=row_set Sr2 3 (.int .u64 0);have o90:=o.setCell (p:=⟨w.heap.size+1,0,none⟩) (by show w.heap.size<=w.heap.size+1;omega) (.int .u64 (q:Nat));have o91:=o90.setCell (p:=⟨w.heap.size+1,1,none⟩) (by show w.heap.size<=w.heap.size+1;omega) (.int .u64 0);have o92:=o91.setCell (p:=⟨w.heap.size+1,2,none⟩) (by show w.heap.size<=w.heap.size+1;omega) (.int .u64 0);have o93:=o92.setCell (p:=⟨w.heap.size+1,3,none⟩) (by show w.heap.size<=w.heap.size+1;omega) (.int .u64 0);obtain ⟨S0,S1,S2,S3,_,_,_,_⟩:=row_four Sr3;exact bodyPost_ret (v := .tuple #[.agg (J19 (.int .u64 (q:Nat))), .int .u64 (r:Nat)]) (by simp [results,Tryz.results175,go_sem,S0,S1,S2,S3]) rfl ⟨rfl,o93⟩
    · obtain ⟨k,rfl⟩:∃ k,i=k+1:=⟨i-1,by omega⟩
      have ek:(((k+1:Nat):Int)-1)=(k:Int):=by omega
      rw [ek];clear ek;have i0:(0:Int)<=(k:Int):=by omega
      have i1:(k:Int)<4:=by omega
      have wk:IntKind.i64.wrap ((k:Int)-1)=(k:Int)-1:=IntWalk.i64_in _ (by omega);by_cases hk:k=0
      · subst hk;have HA:=Lib.hid (show ((J19 (.int .u64 (a:Nat))):Array Value)[0]?=some (.int .u64 (a:Nat)) from rfl);have HST:=Lib.hid (show ((J19 (.int .u64 (a:Nat))):Array Value).setIfInBounds 0 (.int .u64 (q:Nat))=(J19 (.int .u64 (q:Nat))) from rfl);clear i0 i1;have q0:=(row_cell RA 0).trans HA.out;go_upto_region 4 with (go_at_call 248;refine (P1.out _).mono ?_;rintro e w5 ⟨rfl,hb⟩;replace RA:=row_call RA hb;have q2:=(row_cell RA 0).trans HA.out;have q3:=row_free RA 0)
        replace R:=row_other (p:=⟨w,0,none⟩) (row_call R hb) (by show w.heap.size+1≠w.heap.size;omega) (.int .u64 (q:Nat));replace o:=(o.trans (hb.mono o.size)).setCell (p:=⟨w,0,none⟩) (Nat.le_refl _) (.int .u64 (q:Nat));replace RA:=row_set RA 0 (.int .u64 (q:Nat));rw [HST.out] at RA;clear hb q0 q2 q3;go_wp2;go_roundw
        case rel=>exact ⟨0,(q:Nat),(r:Nat),by omega,by go_num,rfl, .inl ⟨rfl,rfl,rfl⟩,RA,R,o⟩
        case measure=>simp [intOf]
      · have HA:=Lib.hid (q4_at (a:Nat) (show 1<=k by omega) (by omega)).1;have HST:=Lib.hid (q4_at (a:Nat) (show 1<=k by omega) (by omega)).2;have q0:=(row_cell RA k).trans HA.out;go_upto_region 4 with (go_at_call 248;refine (P0.out _).mono ?_;rintro e w5 ⟨rfl,hb⟩;replace RA:=row_call RA hb;have q2:=(row_cell RA k).trans HA.out;have q3:=row_free RA k)
        replace R:=row_other (p:=⟨w,k,none⟩) (row_call R hb) (by show w.heap.size+1≠w.heap.size;omega) (.int .u64 0);replace o:=(o.trans (hb.mono o.size)).setCell (p:=⟨w,k,none⟩) (Nat.le_refl _) (.int .u64 0);replace RA:=row_set RA k (.int .u64 0);rw [HST.out] at RA;clear hb q0 q2 q3;go_wp2;go_roundw
        case rel=>exact ⟨k,(a:Nat),0,by omega,by go_num,rfl, .inr ⟨by omega,rfl,rfl⟩,RA,R,o⟩
        case measure=>simp [intOf]<;>omega
end Go.Proofs.YtdipoojjlddohaaGreat
