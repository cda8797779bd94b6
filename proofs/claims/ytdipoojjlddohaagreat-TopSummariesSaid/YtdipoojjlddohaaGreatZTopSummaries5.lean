/- What the law TopSummaries needs, joined of its texts by a program (slim2.py); part 5. -/
import Derived.Test.YtdipoojjlddohaaGreatZTopSummaries1
import Derived.Test.YtdipoojjlddohaaGreatZTopSummaries2
import Derived.Test.YtdipoojjlddohaaGreatZTopSummaries4
set_option linter.unusedVariables false
set_option linter.unusedSimpArgs false
set_option linter.unusedSectionVars false
set_option linter.unnecessarySimpa false
section
/- Configurations: valid ones of each kind, walked. -/
namespace Go.Proofs.YtdipoojjlddohaaGreat
open Go.RowKit
theorem row_eight {w:World} {b:Nat} {t:TypeId} {x0 x1 x2 x3 x4 x5 x6 x7:Value} (h:Row w b t #[x0,x1,x2,x3,x4,x5,x6,x7]):w.cell? ⟨b,0,none⟩=some x0∧w.cell? ⟨b,1,none⟩=some x1∧w.cell? ⟨b,2,none⟩=some x2∧w.cell? ⟨b,3,none⟩=some x3∧w.cell? ⟨b,4,none⟩=some x4∧w.cell? ⟨b,5,none⟩=some x5∧w.cell? ⟨b,6,none⟩=some x6∧w.cell? ⟨b,7,none⟩=some x7∧w.frozen? ⟨b,0,none⟩=false∧w.frozen? ⟨b,1,none⟩=false∧w.frozen? ⟨b,2,none⟩=false∧w.frozen? ⟨b,3,none⟩=false∧w.frozen? ⟨b,4,none⟩=false∧w.frozen? ⟨b,5,none⟩=false∧w.frozen? ⟨b,6,none⟩=false∧w.frozen? ⟨b,7,none⟩=false :=
  ⟨row_cell h 0,row_cell h 1,row_cell h 2,row_cell h 3,row_cell h 4,row_cell h 5,row_cell h 6,row_cell h 7,row_free h 0,row_free h 1,row_free h 2,row_free h 3,row_free h 4,row_free h 5,row_free h 6,row_free h 7⟩
theorem pcin (n lo hi:Int) (w:World) (h0:lo≤n) (h1:n≤hi):Calls Tryz.prog 201 #[.int .i64 n, .int .i64 lo, .int .i64 hi] w fun e w'=>e = .returned (.bool true)∧w'=w:=by
  go_enter Tryz.func201,Tryz.ntmps201
  go_wp2_with fail
  go_ret
  exact ⟨by first | rfl | exact ret_bool (by simp;omega) | exact ret_bool (by simp [*]),rfl⟩
set_option maxRecDepth 100000 in
theorem ptake1 (sb cb ob j:Nat) (cs:Array Value) (x:Value) (w:World) (S:Row w sb 291 #[.pointer (some ⟨cb,j,none⟩)]) (C:Row w cb 27 cs) (O:Row w ob 4 #[.bool true]) (hx:cs[j]?=some x) (n1:cb≠ob) (n2:sb≠ob) (n3:sb≠cb) :
    Calls Tryz.prog 200 #[.bool true, .slice (some ⟨sb,0,none⟩) 1 1, .pointer (some ⟨ob,0,none⟩)] w fun e w'=>e = .returned (.tuple #[])∧w'=(w.setCell ⟨ob,0,none⟩ (.bool true)).setCell ⟨cb,j,none⟩ (.int .i64 0):=by
  obtain ⟨O0,O1⟩:=row_one O
  go_enter Tryz.func200,Tryz.ntmps200
  go_upto_region 1 with (fail)
  have S':=row_other (p:=⟨ob,0,none⟩) S n2 (.bool true)
  have C':=row_other (p:=⟨ob,0,none⟩) C n1 (.bool true)
  generalize hw1:w.setCell ⟨ob,0,none⟩ (.bool true)=w1 at S' C' ⊢
  replace hw1:=Lib.hid hw1
  clear S C O O0 O1
  obtain ⟨S0,_⟩:=row_one S'
  have C0:=(row_cell C' j).trans hx
  have C1:=row_free C' j
  clear S' C'
  go_wp2
  go_loopw [6,13] (fun _ i wr=>(i = .int .i64 0∧wr=w1)∨(i = .int .i64 1∧wr=w1.setCell ⟨cb,j,none⟩ (.int .i64 0))) (fun _ i _=>2-(intOf i).toNat)
  case atStart=>exact .inl ⟨rfl,rfl⟩
  case round =>
    rcases hrel with ⟨rfl,rfl⟩ | ⟨rfl,rfl⟩
    · go_wp2
      go_roundw
      case rel=>exact .inr ⟨by go_num,by first | rfl | trivial⟩
      case measure=>simp [intOf]
    · go_wp2
      go_end0
      exact ⟨rfl,by rw [hw1.out]⟩
set_option maxRecDepth 100000 in
set_option maxHeartbeats 2000000 in
theorem pcfgCount (kk cp wd:Int) (w:World) (hkk0:1≤kk) (hkk1:kk≤64) (hcp0:1≤cp) (hcp1:cp≤65536) (hwd0:1≤wd) (hwd1:wd≤1048576):Calls Tryz.prog 108 #[.agg #[.int .i64 2, .int .i64 0, .int .i64 wd, .int .i64 kk, .int .i64 cp, .int .i64 0, .int .i64 0, .int .i64 0]] w fun e w'=>e = .returned (.int .i64 0)∧Below w.heap.size w w':=by
  have Pkk:=Lib.hid (fun w=>pcin kk 1 64 w hkk0 hkk1)
  have Pcp:=Lib.hid (fun w=>pcin cp 1 65536 w hcp0 hcp1)
  have Pwd:=Lib.hid (fun w=>pcin wd 1 1048576 w hwd0 hwd1)
  clear hkk0 hkk1 hcp0 hcp1 hwd0 hwd1
  go_enter Tryz.func108,Tryz.ntmps108
  go_upto_region 4 with (fail)
  have C:Row ((w.alloc (.cells #[.int .i64 2, .int .i64 0, .int .i64 wd, .int .i64 kk, .int .i64 cp, .int .i64 0, .int .i64 0, .int .i64 0] 27)).alloc (.cells #[.bool true] 4)) (w.heap.size) 27 #[.int .i64 2, .int .i64 0, .int .i64 wd, .int .i64 kk, .int .i64 cp, .int .i64 0, .int .i64 0, .int .i64 0]:=row_alloc (row_new rfl) _
  have O:Row ((w.alloc (.cells #[.int .i64 2, .int .i64 0, .int .i64 wd, .int .i64 kk, .int .i64 cp, .int .i64 0, .int .i64 0, .int .i64 0] 27)).alloc (.cells #[.bool true] 4)) (w.heap.size+1) 4 #[.bool true]:=row_new (by simp)
  have o:Below w.heap.size w ((w.alloc (.cells #[.int .i64 2, .int .i64 0, .int .i64 wd, .int .i64 kk, .int .i64 cp, .int .i64 0, .int .i64 0, .int .i64 0] 27)).alloc (.cells #[.bool true] 4)):=by (repeat (first | exact Below.refl _ _ | refine Below.setCell ?_ (by (try simp)<;>omega) _ | refine Below.alloc ?_ (by (try simp)<;>omega) _ | refine Below.drew ?_ | refine Below.trans ?_ (Below.mono (by assumption) (by (try simp)<;>omega))))
  generalize ((w.alloc (.cells #[.int .i64 2, .int .i64 0, .int .i64 wd, .int .i64 kk, .int .i64 cp, .int .i64 0, .int .i64 0, .int .i64 0] 27)).alloc (.cells #[.bool true] 4))=w1 at C O o ⊢
  obtain ⟨C0,C1,C2,C3,C4,C5,C6,C7,Cf0,Cf1,Cf2,Cf3,Cf4,Cf5,Cf6,Cf7⟩:=row_eight C
  obtain ⟨O0,Of0⟩:=row_one O
  go_wp2_with fail
  refine (Pkk.out _).mono ?_
  rintro e wx ⟨rfl,hx⟩
  obtain rfl:=hx.symm
  go_wp2_with fail
  have S:Row (w1.alloc (.cells #[.pointer (some ⟨w.heap.size,3,none⟩)] 291)) w1.heap.size 291 #[.pointer (some ⟨w.heap.size,3,none⟩)]:=row_new rfl
  have zs:=row_lt O
  replace C:=row_alloc C (.cells #[.pointer (some ⟨w.heap.size,3,none⟩)] 291)
  replace O:=row_alloc O (.cells #[.pointer (some ⟨w.heap.size,3,none⟩)] 291)
  replace o:=o.alloc o.size (.cells #[.pointer (some ⟨w.heap.size,3,none⟩)] 291)
  generalize w1.alloc (.cells #[.pointer (some ⟨w.heap.size,3,none⟩)] 291)=w2 at S C O o ⊢
  generalize w1.heap.size=sb at S zs ⊢
  refine (ptake1 sb (w.heap.size) (w.heap.size+1) 3 #[.int .i64 2, .int .i64 0, .int .i64 wd, .int .i64 kk, .int .i64 cp, .int .i64 0, .int .i64 0, .int .i64 0] (.int .i64 kk) w2 S C O rfl (by omega) (by omega) (by omega)).mono ?_
  rintro e w3 ⟨rfl,hw3⟩
  replace C:Row w3 (w.heap.size) 27 #[.int .i64 2, .int .i64 0, .int .i64 wd, .int .i64 0, .int .i64 cp, .int .i64 0, .int .i64 0, .int .i64 0]:=by rw [hw3];exact row_set (row_other (p:=⟨w.heap.size+1,0,none⟩) C (by show w.heap.size≠w.heap.size+1;omega) (.bool true)) 3 (.int .i64 0)
  replace O:Row w3 (w.heap.size+1) 4 #[.bool true]:=by rw [hw3];exact row_other (p:=⟨w.heap.size,3,none⟩) (row_set O 0 (.bool true)) (by show w.heap.size+1≠w.heap.size;omega) (.int .i64 0)
  replace o:Below w.heap.size w w3:=by rw [hw3];exact (o.setCell (p:=⟨w.heap.size+1,0,none⟩) (by show w.heap.size≤w.heap.size+1;omega) (.bool true)).setCell (p:=⟨w.heap.size,3,none⟩) (Nat.le_refl _) (.int .i64 0)
  clear hw3 S zs C0 C1 C2 C3 C4 C5 C6 C7 Cf0 Cf1 Cf2 Cf3 Cf4 Cf5 Cf6 Cf7 O0 Of0
  obtain ⟨w1,hw1⟩:∃ x,x=w3:=⟨_,rfl⟩
  rw [← hw1] at C O o ⊢
  clear hw1 w3
  obtain ⟨C0,C1,C2,C3,C4,C5,C6,C7,Cf0,Cf1,Cf2,Cf3,Cf4,Cf5,Cf6,Cf7⟩:=row_eight C
  obtain ⟨O0,Of0⟩:=row_one O
  go_wp2_with fail
  refine (Pcp.out _).mono ?_
  rintro e wx ⟨rfl,hx⟩
  obtain rfl:=hx.symm
  go_wp2_with fail
  have S:Row (w1.alloc (.cells #[.pointer (some ⟨w.heap.size,4,none⟩)] 291)) w1.heap.size 291 #[.pointer (some ⟨w.heap.size,4,none⟩)]:=row_new rfl
  have zs:=row_lt O
  replace C:=row_alloc C (.cells #[.pointer (some ⟨w.heap.size,4,none⟩)] 291)
  replace O:=row_alloc O (.cells #[.pointer (some ⟨w.heap.size,4,none⟩)] 291)
  replace o:=o.alloc o.size (.cells #[.pointer (some ⟨w.heap.size,4,none⟩)] 291)
  generalize w1.alloc (.cells #[.pointer (some ⟨w.heap.size,4,none⟩)] 291)=w2 at S C O o ⊢
  generalize w1.heap.size=sb at S zs ⊢
  refine (ptake1 sb (w.heap.size) (w.heap.size+1) 4 #[.int .i64 2, .int .i64 0, .int .i64 wd, .int .i64 0, .int .i64 cp, .int .i64 0, .int .i64 0, .int .i64 0] (.int .i64 cp) w2 S C O rfl (by omega) (by omega) (by omega)).mono ?_
  rintro e w3 ⟨rfl,hw3⟩
  replace C:Row w3 (w.heap.size) 27 #[.int .i64 2, .int .i64 0, .int .i64 wd, .int .i64 0, .int .i64 0, .int .i64 0, .int .i64 0, .int .i64 0]:=by rw [hw3];exact row_set (row_other (p:=⟨w.heap.size+1,0,none⟩) C (by show w.heap.size≠w.heap.size+1;omega) (.bool true)) 4 (.int .i64 0)
  replace O:Row w3 (w.heap.size+1) 4 #[.bool true]:=by rw [hw3];exact row_other (p:=⟨w.heap.size,4,none⟩) (row_set O 0 (.bool true)) (by show w.heap.size+1≠w.heap.size;omega) (.int .i64 0)
  replace o:Below w.heap.size w w3:=by rw [hw3];exact (o.setCell (p:=⟨w.heap.size+1,0,none⟩) (by show w.heap.size≤w.heap.size+1;omega) (.bool true)).setCell (p:=⟨w.heap.size,4,none⟩) (Nat.le_refl _) (.int .i64 0)
  clear hw3 S zs C0 C1 C2 C3 C4 C5 C6 C7 Cf0 Cf1 Cf2 Cf3 Cf4 Cf5 Cf6 Cf7 O0 Of0
  obtain ⟨w1,hw1⟩:∃ x,x=w3:=⟨_,rfl⟩
  rw [← hw1] at C O o ⊢
  clear hw1 w3
  obtain ⟨C0,C1,C2,C3,C4,C5,C6,C7,Cf0,Cf1,Cf2,Cf3,Cf4,Cf5,Cf6,Cf7⟩:=row_eight C
  obtain ⟨O0,Of0⟩:=row_one O
  go_wp2_with fail
  refine (Pwd.out _).mono ?_
  rintro e wx ⟨rfl,hx⟩
  obtain rfl:=hx.symm
  go_upto_region 36 with (fail)
  replace C:=row_set (row_other (p:=⟨w.heap.size+1,0,none⟩) C (by show w.heap.size≠w.heap.size+1;omega) (.bool true)) 2 (.int .i64 0)
  replace O:=row_other (p:=⟨w.heap.size,2,none⟩) (row_set O 0 (.bool true)) (by show w.heap.size+1≠w.heap.size;omega) (.int .i64 0)
  replace o:=(o.setCell (p:=⟨w.heap.size+1,0,none⟩) (by show w.heap.size≤w.heap.size+1;omega) (.bool true)).setCell (p:=⟨w.heap.size,2,none⟩) (Nat.le_refl _) (.int .i64 0)
  replace C:Row ((w1.setCell ⟨w.heap.size+1,0,none⟩ (.bool true)).setCell ⟨w.heap.size,2,none⟩ (.int .i64 0)) (w.heap.size) 27 #[.int .i64 2, .int .i64 0, .int .i64 0, .int .i64 0, .int .i64 0, .int .i64 0, .int .i64 0, .int .i64 0]:=C
  replace O:Row ((w1.setCell ⟨w.heap.size+1,0,none⟩ (.bool true)).setCell ⟨w.heap.size,2,none⟩ (.int .i64 0)) (w.heap.size+1) 4 #[.bool true]:=O
  generalize (w1.setCell ⟨w.heap.size+1,0,none⟩ (.bool true)).setCell ⟨w.heap.size,2,none⟩ (.int .i64 0)=w2 at C O o ⊢
  clear C0 C1 C2 C3 C4 C5 C6 C7 Cf0 Cf1 Cf2 Cf3 Cf4 Cf5 Cf6 Cf7 O0 Of0
  obtain ⟨C0,C1,C2,C3,C4,C5,C6,C7,Cf0,Cf1,Cf2,Cf3,Cf4,Cf5,Cf6,Cf7⟩:=row_eight C
  obtain ⟨O0,Of0⟩:=row_one O
  go_wp2
  go_ret
  exact ⟨rfl,o⟩
set_option maxRecDepth 100000 in
set_option maxHeartbeats 2000000 in
theorem pcfgQuantile (kk cp wd:Int) (w:World) (hkk0:1≤kk) (hkk1:kk≤64) (hcp0:1≤cp) (hcp1:cp≤65536) (hwd0:1≤wd) (hwd1:wd≤1048576):Calls Tryz.prog 108 #[.agg #[.int .i64 11, .int .i64 0, .int .i64 wd, .int .i64 kk, .int .i64 cp, .int .i64 0, .int .i64 0, .int .i64 0]] w fun e w'=>e = .returned (.int .i64 0)∧Below w.heap.size w w':=by
  have Pkk:=Lib.hid (fun w=>pcin kk 1 64 w hkk0 hkk1)
  have Pcp:=Lib.hid (fun w=>pcin cp 1 65536 w hcp0 hcp1)
  have Pwd:=Lib.hid (fun w=>pcin wd 1 1048576 w hwd0 hwd1)
  clear hkk0 hkk1 hcp0 hcp1 hwd0 hwd1
  go_enter Tryz.func108,Tryz.ntmps108
  go_upto_region 4 with (fail)
  have C:Row ((w.alloc (.cells #[.int .i64 11, .int .i64 0, .int .i64 wd, .int .i64 kk, .int .i64 cp, .int .i64 0, .int .i64 0, .int .i64 0] 27)).alloc (.cells #[.bool true] 4)) (w.heap.size) 27 #[.int .i64 11, .int .i64 0, .int .i64 wd, .int .i64 kk, .int .i64 cp, .int .i64 0, .int .i64 0, .int .i64 0]:=row_alloc (row_new rfl) _
  have O:Row ((w.alloc (.cells #[.int .i64 11, .int .i64 0, .int .i64 wd, .int .i64 kk, .int .i64 cp, .int .i64 0, .int .i64 0, .int .i64 0] 27)).alloc (.cells #[.bool true] 4)) (w.heap.size+1) 4 #[.bool true]:=row_new (by simp)
  have o:Below w.heap.size w ((w.alloc (.cells #[.int .i64 11, .int .i64 0, .int .i64 wd, .int .i64 kk, .int .i64 cp, .int .i64 0, .int .i64 0, .int .i64 0] 27)).alloc (.cells #[.bool true] 4)):=by (repeat (first | exact Below.refl _ _ | refine Below.setCell ?_ (by (try simp)<;>omega) _ | refine Below.alloc ?_ (by (try simp)<;>omega) _ | refine Below.drew ?_ | refine Below.trans ?_ (Below.mono (by assumption) (by (try simp)<;>omega))))
  generalize ((w.alloc (.cells #[.int .i64 11, .int .i64 0, .int .i64 wd, .int .i64 kk, .int .i64 cp, .int .i64 0, .int .i64 0, .int .i64 0] 27)).alloc (.cells #[.bool true] 4))=w1 at C O o ⊢
  obtain ⟨C0,C1,C2,C3,C4,C5,C6,C7,Cf0,Cf1,Cf2,Cf3,Cf4,Cf5,Cf6,Cf7⟩:=row_eight C
  obtain ⟨O0,Of0⟩:=row_one O
  go_wp2_with fail
  refine (Pkk.out _).mono ?_
  rintro e wx ⟨rfl,hx⟩
  obtain rfl:=hx.symm
  go_wp2_with fail
  have S:Row (w1.alloc (.cells #[.pointer (some ⟨w.heap.size,3,none⟩)] 291)) w1.heap.size 291 #[.pointer (some ⟨w.heap.size,3,none⟩)]:=row_new rfl
  have zs:=row_lt O
  replace C:=row_alloc C (.cells #[.pointer (some ⟨w.heap.size,3,none⟩)] 291)
  replace O:=row_alloc O (.cells #[.pointer (some ⟨w.heap.size,3,none⟩)] 291)
  replace o:=o.alloc o.size (.cells #[.pointer (some ⟨w.heap.size,3,none⟩)] 291)
  generalize w1.alloc (.cells #[.pointer (some ⟨w.heap.size,3,none⟩)] 291)=w2 at S C O o ⊢
  generalize w1.heap.size=sb at S zs ⊢
  refine (ptake1 sb (w.heap.size) (w.heap.size+1) 3 #[.int .i64 11, .int .i64 0, .int .i64 wd, .int .i64 kk, .int .i64 cp, .int .i64 0, .int .i64 0, .int .i64 0] (.int .i64 kk) w2 S C O rfl (by omega) (by omega) (by omega)).mono ?_
  rintro e w3 ⟨rfl,hw3⟩
  replace C:Row w3 (w.heap.size) 27 #[.int .i64 11, .int .i64 0, .int .i64 wd, .int .i64 0, .int .i64 cp, .int .i64 0, .int .i64 0, .int .i64 0]:=by rw [hw3];exact row_set (row_other (p:=⟨w.heap.size+1,0,none⟩) C (by show w.heap.size≠w.heap.size+1;omega) (.bool true)) 3 (.int .i64 0)
  replace O:Row w3 (w.heap.size+1) 4 #[.bool true]:=by rw [hw3];exact row_other (p:=⟨w.heap.size,3,none⟩) (row_set O 0 (.bool true)) (by show w.heap.size+1≠w.heap.size;omega) (.int .i64 0)
  replace o:Below w.heap.size w w3:=by rw [hw3];exact (o.setCell (p:=⟨w.heap.size+1,0,none⟩) (by show w.heap.size≤w.heap.size+1;omega) (.bool true)).setCell (p:=⟨w.heap.size,3,none⟩) (Nat.le_refl _) (.int .i64 0)
  clear hw3 S zs C0 C1 C2 C3 C4 C5 C6 C7 Cf0 Cf1 Cf2 Cf3 Cf4 Cf5 Cf6 Cf7 O0 Of0
  obtain ⟨w1,hw1⟩:∃ x,x=w3:=⟨_,rfl⟩
  rw [← hw1] at C O o ⊢
  clear hw1 w3
  obtain ⟨C0,C1,C2,C3,C4,C5,C6,C7,Cf0,Cf1,Cf2,Cf3,Cf4,Cf5,Cf6,Cf7⟩:=row_eight C
  obtain ⟨O0,Of0⟩:=row_one O
  go_wp2_with fail
  refine (Pcp.out _).mono ?_
  rintro e wx ⟨rfl,hx⟩
  obtain rfl:=hx.symm
  go_wp2_with fail
  have S:Row (w1.alloc (.cells #[.pointer (some ⟨w.heap.size,4,none⟩)] 291)) w1.heap.size 291 #[.pointer (some ⟨w.heap.size,4,none⟩)]:=row_new rfl
  have zs:=row_lt O
  replace C:=row_alloc C (.cells #[.pointer (some ⟨w.heap.size,4,none⟩)] 291)
  replace O:=row_alloc O (.cells #[.pointer (some ⟨w.heap.size,4,none⟩)] 291)
  replace o:=o.alloc o.size (.cells #[.pointer (some ⟨w.heap.size,4,none⟩)] 291)
  generalize w1.alloc (.cells #[.pointer (some ⟨w.heap.size,4,none⟩)] 291)=w2 at S C O o ⊢
  generalize w1.heap.size=sb at S zs ⊢
  refine (ptake1 sb (w.heap.size) (w.heap.size+1) 4 #[.int .i64 11, .int .i64 0, .int .i64 wd, .int .i64 0, .int .i64 cp, .int .i64 0, .int .i64 0, .int .i64 0] (.int .i64 cp) w2 S C O rfl (by omega) (by omega) (by omega)).mono ?_
  rintro e w3 ⟨rfl,hw3⟩
  replace C:Row w3 (w.heap.size) 27 #[.int .i64 11, .int .i64 0, .int .i64 wd, .int .i64 0, .int .i64 0, .int .i64 0, .int .i64 0, .int .i64 0]:=by rw [hw3];exact row_set (row_other (p:=⟨w.heap.size+1,0,none⟩) C (by show w.heap.size≠w.heap.size+1;omega) (.bool true)) 4 (.int .i64 0)
  replace O:Row w3 (w.heap.size+1) 4 #[.bool true]:=by rw [hw3];exact row_other (p:=⟨w.heap.size,4,none⟩) (row_set O 0 (.bool true)) (by show w.heap.size+1≠w.heap.size;omega) (.int .i64 0)
  replace o:Below w.heap.size w w3:=by rw [hw3];exact (o.setCell (p:=⟨w.heap.size+1,0,none⟩) (by show w.heap.size≤w.heap.size+1;omega) (.bool true)).setCell (p:=⟨w.heap.size,4,none⟩) (Nat.le_refl _) (.int .i64 0)
  clear hw3 S zs C0 C1 C2 C3 C4 C5 C6 C7 Cf0 Cf1 Cf2 Cf3 Cf4 Cf5 Cf6 Cf7 O0 Of0
  obtain ⟨w1,hw1⟩:∃ x,x=w3:=⟨_,rfl⟩
  rw [← hw1] at C O o ⊢
  clear hw1 w3
  obtain ⟨C0,C1,C2,C3,C4,C5,C6,C7,Cf0,Cf1,Cf2,Cf3,Cf4,Cf5,Cf6,Cf7⟩:=row_eight C
  obtain ⟨O0,Of0⟩:=row_one O
  go_wp2_with fail
  refine (Pwd.out _).mono ?_
  rintro e wx ⟨rfl,hx⟩
  obtain rfl:=hx.symm
  go_upto_region 36 with (fail)
  replace C:=row_set (row_other (p:=⟨w.heap.size+1,0,none⟩) C (by show w.heap.size≠w.heap.size+1;omega) (.bool true)) 2 (.int .i64 0)
  replace O:=row_other (p:=⟨w.heap.size,2,none⟩) (row_set O 0 (.bool true)) (by show w.heap.size+1≠w.heap.size;omega) (.int .i64 0)
  replace o:=(o.setCell (p:=⟨w.heap.size+1,0,none⟩) (by show w.heap.size≤w.heap.size+1;omega) (.bool true)).setCell (p:=⟨w.heap.size,2,none⟩) (Nat.le_refl _) (.int .i64 0)
  replace C:Row ((w1.setCell ⟨w.heap.size+1,0,none⟩ (.bool true)).setCell ⟨w.heap.size,2,none⟩ (.int .i64 0)) (w.heap.size) 27 #[.int .i64 11, .int .i64 0, .int .i64 0, .int .i64 0, .int .i64 0, .int .i64 0, .int .i64 0, .int .i64 0]:=C
  replace O:Row ((w1.setCell ⟨w.heap.size+1,0,none⟩ (.bool true)).setCell ⟨w.heap.size,2,none⟩ (.int .i64 0)) (w.heap.size+1) 4 #[.bool true]:=O
  generalize (w1.setCell ⟨w.heap.size+1,0,none⟩ (.bool true)).setCell ⟨w.heap.size,2,none⟩ (.int .i64 0)=w2 at C O o ⊢
  clear C0 C1 C2 C3 C4 C5 C6 C7 Cf0 Cf1 Cf2 Cf3 Cf4 Cf5 Cf6 Cf7 O0 Of0
  obtain ⟨C0,C1,C2,C3,C4,C5,C6,C7,Cf0,Cf1,Cf2,Cf3,Cf4,Cf5,Cf6,Cf7⟩:=row_eight C
  obtain ⟨O0,Of0⟩:=row_one O
  go_wp2
  go_ret
  exact ⟨rfl,o⟩
end Go.Proofs.YtdipoojjlddohaaGreat
end
