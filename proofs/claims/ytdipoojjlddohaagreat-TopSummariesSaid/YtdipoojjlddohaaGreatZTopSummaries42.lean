/- What the law TopSummaries needs, joined of its texts by a program (slim2.py); part 42. -/
import Derived.Test.YtdipoojjlddohaaGreatZTopSummaries1
import Derived.Test.YtdipoojjlddohaaGreatZTopSummaries40
set_option linter.unusedVariables false
set_option linter.unusedSimpArgs false
set_option linter.unusedSectionVars false
set_option linter.unnecessarySimpa false
section
/- Intervals of whole numbers meet: bounds.least, most, Meet, walked. -/
namespace Go.Proofs.YtdipoojjlddohaaGreat
open Go.RowKit
theorem icmpW (a b:Nat):icmp ((a:Int)*((1:Nat):Int)) ((b:Int)*((1:Nat):Int))=if a<b then -1 else if a=b then 0 else 1:=by
  unfold icmp
  by_cases h:a<b
  · rw [if_pos (by omega),if_pos h]
  · by_cases h2:a=b
    · rw [if_neg (by omega),if_pos (by omega),if_neg h,if_pos h2]
    · rw [if_neg (by omega),if_neg (by omega),if_neg h,if_neg h2]
theorem pleastW_a (a b:Nat) (w:World) (HC:RowKit.Hid (∀ w,Calls Tryz.prog 55 #[.agg #[.int .i64 (a:Nat), .int .i64 1], .agg #[.int .i64 (b:Nat), .int .i64 1]] w fun e w'=>e = .returned (.int .i64 (-1))∧Below w.heap.size w w')):Calls Tryz.prog 54 #[.agg #[.int .i64 (a:Nat), .int .i64 1], .agg #[.int .i64 (b:Nat), .int .i64 1]] w fun e w'=>e = .returned (.agg #[.int .i64 (a:Nat), .int .i64 1])∧Below w.heap.size w w':=by
  go_enter Tryz.func54,Tryz.ntmps54
  go_upto_region 1 with (fail)
  have X:Row (((w.alloc (.cells #[.int .i64 (a:Nat), .int .i64 1] 62)).alloc (.cells #[.int .i64 (b:Nat), .int .i64 1] 62)).alloc (.cells #[.int .i64 0, .int .i64 0] 62)) w.heap.size 62 #[.int .i64 (a:Nat), .int .i64 1]:=row_alloc (row_alloc (row_new rfl) _) _
  have Y:Row (((w.alloc (.cells #[.int .i64 (a:Nat), .int .i64 1] 62)).alloc (.cells #[.int .i64 (b:Nat), .int .i64 1] 62)).alloc (.cells #[.int .i64 0, .int .i64 0] 62)) (w.heap.size+1) 62 #[.int .i64 (b:Nat), .int .i64 1]:=row_alloc (row_new (by simp)) _
  have R:Row (((w.alloc (.cells #[.int .i64 (a:Nat), .int .i64 1] 62)).alloc (.cells #[.int .i64 (b:Nat), .int .i64 1] 62)).alloc (.cells #[.int .i64 0, .int .i64 0] 62)) (w.heap.size+2) 62 #[.int .i64 0, .int .i64 0]:=row_new (by simp)
  have o:Below w.heap.size w (((w.alloc (.cells #[.int .i64 (a:Nat), .int .i64 1] 62)).alloc (.cells #[.int .i64 (b:Nat), .int .i64 1] 62)).alloc (.cells #[.int .i64 0, .int .i64 0] 62)):=by (repeat (first | exact Below.refl _ _ | refine Below.setCell ?_ (by (try simp)<;>omega) _ | refine Below.alloc ?_ (by (try simp)<;>omega) _ | refine Below.drew ?_ | refine Below.trans ?_ (Below.mono (by assumption) (by (try simp)<;>omega))))
  generalize (((w.alloc (.cells #[.int .i64 (a:Nat), .int .i64 1] 62)).alloc (.cells #[.int .i64 (b:Nat), .int .i64 1] 62)).alloc (.cells #[.int .i64 0, .int .i64 0] 62))=w0 at X Y R o ⊢
  obtain ⟨X0,X1,Xf0,Xf1⟩:=row_two X
  obtain ⟨Y0,Y1,Yf0,Yf1⟩:=row_two Y
  go_wp2_with fail
  refine (HC.out _).mono ?_
  rintro e w1 ⟨rfl,hb⟩
  replace X:=row_call X hb
  replace Y:=row_call Y hb
  replace R:=row_call R hb
  replace o:=o.trans (hb.mono o.size)
  clear hb X0 X1 Xf0 Xf1 Y0 Y1 Yf0 Yf1
  obtain ⟨X0,X1,Xf0,Xf1⟩:=row_two X
  obtain ⟨Y0,Y1,Yf0,Yf1⟩:=row_two Y
  obtain ⟨R0,R1,Rf0,Rf1⟩:=row_two R
  go_wp2
  have Sr0:=row_set R 0 (.int .i64 (a:Nat))
  have Sr1:=row_set Sr0 1 (.int .i64 1)
  have o90:=o.setCell (p:=⟨w.heap.size+2,0,none⟩) (by show w.heap.size≤w.heap.size+2;omega) (.int .i64 (a:Nat))
  have o91:=o90.setCell (p:=⟨w.heap.size+2,1,none⟩) (by show w.heap.size≤w.heap.size+2;omega) (.int .i64 1)
  obtain ⟨S0,S1,_,_⟩:=row_two Sr1
  exact bodyPost_ret (v := .agg #[.int .i64 (a:Nat), .int .i64 1]) (by simp [results,Tryz.results54,go_sem,S0,S1]) rfl ⟨rfl,o91⟩
theorem pleastW_b (a b:Nat) (w:World) (HC:RowKit.Hid (∀ w,Calls Tryz.prog 55 #[.agg #[.int .i64 (a:Nat), .int .i64 1], .agg #[.int .i64 (b:Nat), .int .i64 1]] w fun e w'=>e = .returned (.int .i64 (0))∧Below w.heap.size w w')):Calls Tryz.prog 54 #[.agg #[.int .i64 (a:Nat), .int .i64 1], .agg #[.int .i64 (b:Nat), .int .i64 1]] w fun e w'=>e = .returned (.agg #[.int .i64 (a:Nat), .int .i64 1])∧Below w.heap.size w w':=by
  go_enter Tryz.func54,Tryz.ntmps54
  go_upto_region 1 with (fail)
  have X:Row (((w.alloc (.cells #[.int .i64 (a:Nat), .int .i64 1] 62)).alloc (.cells #[.int .i64 (b:Nat), .int .i64 1] 62)).alloc (.cells #[.int .i64 0, .int .i64 0] 62)) w.heap.size 62 #[.int .i64 (a:Nat), .int .i64 1]:=row_alloc (row_alloc (row_new rfl) _) _
  have Y:Row (((w.alloc (.cells #[.int .i64 (a:Nat), .int .i64 1] 62)).alloc (.cells #[.int .i64 (b:Nat), .int .i64 1] 62)).alloc (.cells #[.int .i64 0, .int .i64 0] 62)) (w.heap.size+1) 62 #[.int .i64 (b:Nat), .int .i64 1]:=row_alloc (row_new (by simp)) _
  have R:Row (((w.alloc (.cells #[.int .i64 (a:Nat), .int .i64 1] 62)).alloc (.cells #[.int .i64 (b:Nat), .int .i64 1] 62)).alloc (.cells #[.int .i64 0, .int .i64 0] 62)) (w.heap.size+2) 62 #[.int .i64 0, .int .i64 0]:=row_new (by simp)
  have o:Below w.heap.size w (((w.alloc (.cells #[.int .i64 (a:Nat), .int .i64 1] 62)).alloc (.cells #[.int .i64 (b:Nat), .int .i64 1] 62)).alloc (.cells #[.int .i64 0, .int .i64 0] 62)):=by (repeat (first | exact Below.refl _ _ | refine Below.setCell ?_ (by (try simp)<;>omega) _ | refine Below.alloc ?_ (by (try simp)<;>omega) _ | refine Below.drew ?_ | refine Below.trans ?_ (Below.mono (by assumption) (by (try simp)<;>omega))))
  generalize (((w.alloc (.cells #[.int .i64 (a:Nat), .int .i64 1] 62)).alloc (.cells #[.int .i64 (b:Nat), .int .i64 1] 62)).alloc (.cells #[.int .i64 0, .int .i64 0] 62))=w0 at X Y R o ⊢
  obtain ⟨X0,X1,Xf0,Xf1⟩:=row_two X
  obtain ⟨Y0,Y1,Yf0,Yf1⟩:=row_two Y
  go_wp2_with fail
  refine (HC.out _).mono ?_
  rintro e w1 ⟨rfl,hb⟩
  replace X:=row_call X hb
  replace Y:=row_call Y hb
  replace R:=row_call R hb
  replace o:=o.trans (hb.mono o.size)
  clear hb X0 X1 Xf0 Xf1 Y0 Y1 Yf0 Yf1
  obtain ⟨X0,X1,Xf0,Xf1⟩:=row_two X
  obtain ⟨Y0,Y1,Yf0,Yf1⟩:=row_two Y
  obtain ⟨R0,R1,Rf0,Rf1⟩:=row_two R
  go_wp2
  have Sr0:=row_set R 0 (.int .i64 (a:Nat))
  have Sr1:=row_set Sr0 1 (.int .i64 1)
  have o90:=o.setCell (p:=⟨w.heap.size+2,0,none⟩) (by show w.heap.size≤w.heap.size+2;omega) (.int .i64 (a:Nat))
  have o91:=o90.setCell (p:=⟨w.heap.size+2,1,none⟩) (by show w.heap.size≤w.heap.size+2;omega) (.int .i64 1)
  obtain ⟨S0,S1,_,_⟩:=row_two Sr1
  exact bodyPost_ret (v := .agg #[.int .i64 (a:Nat), .int .i64 1]) (by simp [results,Tryz.results54,go_sem,S0,S1]) rfl ⟨rfl,o91⟩
theorem pleastW_c (a b:Nat) (w:World) (HC:RowKit.Hid (∀ w,Calls Tryz.prog 55 #[.agg #[.int .i64 (a:Nat), .int .i64 1], .agg #[.int .i64 (b:Nat), .int .i64 1]] w fun e w'=>e = .returned (.int .i64 (1))∧Below w.heap.size w w')):Calls Tryz.prog 54 #[.agg #[.int .i64 (a:Nat), .int .i64 1], .agg #[.int .i64 (b:Nat), .int .i64 1]] w fun e w'=>e = .returned (.agg #[.int .i64 (b:Nat), .int .i64 1])∧Below w.heap.size w w':=by
  go_enter Tryz.func54,Tryz.ntmps54
  go_upto_region 1 with (fail)
  have X:Row (((w.alloc (.cells #[.int .i64 (a:Nat), .int .i64 1] 62)).alloc (.cells #[.int .i64 (b:Nat), .int .i64 1] 62)).alloc (.cells #[.int .i64 0, .int .i64 0] 62)) w.heap.size 62 #[.int .i64 (a:Nat), .int .i64 1]:=row_alloc (row_alloc (row_new rfl) _) _
  have Y:Row (((w.alloc (.cells #[.int .i64 (a:Nat), .int .i64 1] 62)).alloc (.cells #[.int .i64 (b:Nat), .int .i64 1] 62)).alloc (.cells #[.int .i64 0, .int .i64 0] 62)) (w.heap.size+1) 62 #[.int .i64 (b:Nat), .int .i64 1]:=row_alloc (row_new (by simp)) _
  have R:Row (((w.alloc (.cells #[.int .i64 (a:Nat), .int .i64 1] 62)).alloc (.cells #[.int .i64 (b:Nat), .int .i64 1] 62)).alloc (.cells #[.int .i64 0, .int .i64 0] 62)) (w.heap.size+2) 62 #[.int .i64 0, .int .i64 0]:=row_new (by simp)
  have o:Below w.heap.size w (((w.alloc (.cells #[.int .i64 (a:Nat), .int .i64 1] 62)).alloc (.cells #[.int .i64 (b:Nat), .int .i64 1] 62)).alloc (.cells #[.int .i64 0, .int .i64 0] 62)):=by (repeat (first | exact Below.refl _ _ | refine Below.setCell ?_ (by (try simp)<;>omega) _ | refine Below.alloc ?_ (by (try simp)<;>omega) _ | refine Below.drew ?_ | refine Below.trans ?_ (Below.mono (by assumption) (by (try simp)<;>omega))))
  generalize (((w.alloc (.cells #[.int .i64 (a:Nat), .int .i64 1] 62)).alloc (.cells #[.int .i64 (b:Nat), .int .i64 1] 62)).alloc (.cells #[.int .i64 0, .int .i64 0] 62))=w0 at X Y R o ⊢
  obtain ⟨X0,X1,Xf0,Xf1⟩:=row_two X
  obtain ⟨Y0,Y1,Yf0,Yf1⟩:=row_two Y
  go_wp2_with fail
  refine (HC.out _).mono ?_
  rintro e w1 ⟨rfl,hb⟩
  replace X:=row_call X hb
  replace Y:=row_call Y hb
  replace R:=row_call R hb
  replace o:=o.trans (hb.mono o.size)
  clear hb X0 X1 Xf0 Xf1 Y0 Y1 Yf0 Yf1
  obtain ⟨X0,X1,Xf0,Xf1⟩:=row_two X
  obtain ⟨Y0,Y1,Yf0,Yf1⟩:=row_two Y
  obtain ⟨R0,R1,Rf0,Rf1⟩:=row_two R
  go_wp2
  have Sr0:=row_set R 0 (.int .i64 (b:Nat))
  have Sr1:=row_set Sr0 1 (.int .i64 1)
  have o90:=o.setCell (p:=⟨w.heap.size+2,0,none⟩) (by show w.heap.size≤w.heap.size+2;omega) (.int .i64 (b:Nat))
  have o91:=o90.setCell (p:=⟨w.heap.size+2,1,none⟩) (by show w.heap.size≤w.heap.size+2;omega) (.int .i64 1)
  obtain ⟨S0,S1,_,_⟩:=row_two Sr1
  exact bodyPost_ret (v := .agg #[.int .i64 (b:Nat), .int .i64 1]) (by simp [results,Tryz.results54,go_sem,S0,S1]) rfl ⟨rfl,o91⟩
theorem pleastW {a b:Nat} (ha:a<4611686018427387904) (hb:b<4611686018427387904) (w:World):Calls Tryz.prog 54 #[.agg #[.int .i64 (a:Nat), .int .i64 1], .agg #[.int .i64 (b:Nat), .int .i64 1]] w fun e w'=>e = .returned (.agg #[.int .i64 (min a b:Nat), .int .i64 1])∧Below w.heap.size w w':=by
  have P:=fun w=>pcmpR (ratOK_one ha) (ratOK_one hb) w
  rw [icmpW] at P
  rcases Nat.lt_trichotomy a b with h | h | h
  · rw [if_pos h] at P
    rw [show min a b=a by omega]
    exact pleastW_a a b w (Lib.hid P)
  · rw [if_neg (by omega),if_pos h] at P
    rw [show min a b=a by omega]
    exact pleastW_b a b w (Lib.hid P)
  · rw [if_neg (by omega),if_neg (by omega)] at P
    rw [show min a b=b by omega]
    exact pleastW_c a b w (Lib.hid P)
theorem pmostW_a (a b:Nat) (w:World) (HC:RowKit.Hid (∀ w,Calls Tryz.prog 55 #[.agg #[.int .i64 (a:Nat), .int .i64 1], .agg #[.int .i64 (b:Nat), .int .i64 1]] w fun e w'=>e = .returned (.int .i64 (-1))∧Below w.heap.size w w')):Calls Tryz.prog 53 #[.agg #[.int .i64 (a:Nat), .int .i64 1], .agg #[.int .i64 (b:Nat), .int .i64 1]] w fun e w'=>e = .returned (.agg #[.int .i64 (b:Nat), .int .i64 1])∧Below w.heap.size w w':=by
  go_enter Tryz.func53,Tryz.ntmps53
  go_upto_region 1 with (fail)
  have X:Row (((w.alloc (.cells #[.int .i64 (a:Nat), .int .i64 1] 62)).alloc (.cells #[.int .i64 (b:Nat), .int .i64 1] 62)).alloc (.cells #[.int .i64 0, .int .i64 0] 62)) w.heap.size 62 #[.int .i64 (a:Nat), .int .i64 1]:=row_alloc (row_alloc (row_new rfl) _) _
  have Y:Row (((w.alloc (.cells #[.int .i64 (a:Nat), .int .i64 1] 62)).alloc (.cells #[.int .i64 (b:Nat), .int .i64 1] 62)).alloc (.cells #[.int .i64 0, .int .i64 0] 62)) (w.heap.size+1) 62 #[.int .i64 (b:Nat), .int .i64 1]:=row_alloc (row_new (by simp)) _
  have R:Row (((w.alloc (.cells #[.int .i64 (a:Nat), .int .i64 1] 62)).alloc (.cells #[.int .i64 (b:Nat), .int .i64 1] 62)).alloc (.cells #[.int .i64 0, .int .i64 0] 62)) (w.heap.size+2) 62 #[.int .i64 0, .int .i64 0]:=row_new (by simp)
  have o:Below w.heap.size w (((w.alloc (.cells #[.int .i64 (a:Nat), .int .i64 1] 62)).alloc (.cells #[.int .i64 (b:Nat), .int .i64 1] 62)).alloc (.cells #[.int .i64 0, .int .i64 0] 62)):=by (repeat (first | exact Below.refl _ _ | refine Below.setCell ?_ (by (try simp)<;>omega) _ | refine Below.alloc ?_ (by (try simp)<;>omega) _ | refine Below.drew ?_ | refine Below.trans ?_ (Below.mono (by assumption) (by (try simp)<;>omega))))
  generalize (((w.alloc (.cells #[.int .i64 (a:Nat), .int .i64 1] 62)).alloc (.cells #[.int .i64 (b:Nat), .int .i64 1] 62)).alloc (.cells #[.int .i64 0, .int .i64 0] 62))=w0 at X Y R o ⊢
  obtain ⟨X0,X1,Xf0,Xf1⟩:=row_two X
  obtain ⟨Y0,Y1,Yf0,Yf1⟩:=row_two Y
  go_wp2_with fail
  refine (HC.out _).mono ?_
  rintro e w1 ⟨rfl,hb⟩
  replace X:=row_call X hb
  replace Y:=row_call Y hb
  replace R:=row_call R hb
  replace o:=o.trans (hb.mono o.size)
  clear hb X0 X1 Xf0 Xf1 Y0 Y1 Yf0 Yf1
  obtain ⟨X0,X1,Xf0,Xf1⟩:=row_two X
  obtain ⟨Y0,Y1,Yf0,Yf1⟩:=row_two Y
  obtain ⟨R0,R1,Rf0,Rf1⟩:=row_two R
  go_wp2
  have Sr0:=row_set R 0 (.int .i64 (b:Nat))
  have Sr1:=row_set Sr0 1 (.int .i64 1)
  have o90:=o.setCell (p:=⟨w.heap.size+2,0,none⟩) (by show w.heap.size≤w.heap.size+2;omega) (.int .i64 (b:Nat))
  have o91:=o90.setCell (p:=⟨w.heap.size+2,1,none⟩) (by show w.heap.size≤w.heap.size+2;omega) (.int .i64 1)
  obtain ⟨S0,S1,_,_⟩:=row_two Sr1
  exact bodyPost_ret (v := .agg #[.int .i64 (b:Nat), .int .i64 1]) (by simp [results,Tryz.results53,go_sem,S0,S1]) rfl ⟨rfl,o91⟩
theorem pmostW_b (a b:Nat) (w:World) (HC:RowKit.Hid (∀ w,Calls Tryz.prog 55 #[.agg #[.int .i64 (a:Nat), .int .i64 1], .agg #[.int .i64 (b:Nat), .int .i64 1]] w fun e w'=>e = .returned (.int .i64 (0))∧Below w.heap.size w w')):Calls Tryz.prog 53 #[.agg #[.int .i64 (a:Nat), .int .i64 1], .agg #[.int .i64 (b:Nat), .int .i64 1]] w fun e w'=>e = .returned (.agg #[.int .i64 (a:Nat), .int .i64 1])∧Below w.heap.size w w':=by
  go_enter Tryz.func53,Tryz.ntmps53
  go_upto_region 1 with (fail)
  have X:Row (((w.alloc (.cells #[.int .i64 (a:Nat), .int .i64 1] 62)).alloc (.cells #[.int .i64 (b:Nat), .int .i64 1] 62)).alloc (.cells #[.int .i64 0, .int .i64 0] 62)) w.heap.size 62 #[.int .i64 (a:Nat), .int .i64 1]:=row_alloc (row_alloc (row_new rfl) _) _
  have Y:Row (((w.alloc (.cells #[.int .i64 (a:Nat), .int .i64 1] 62)).alloc (.cells #[.int .i64 (b:Nat), .int .i64 1] 62)).alloc (.cells #[.int .i64 0, .int .i64 0] 62)) (w.heap.size+1) 62 #[.int .i64 (b:Nat), .int .i64 1]:=row_alloc (row_new (by simp)) _
  have R:Row (((w.alloc (.cells #[.int .i64 (a:Nat), .int .i64 1] 62)).alloc (.cells #[.int .i64 (b:Nat), .int .i64 1] 62)).alloc (.cells #[.int .i64 0, .int .i64 0] 62)) (w.heap.size+2) 62 #[.int .i64 0, .int .i64 0]:=row_new (by simp)
  have o:Below w.heap.size w (((w.alloc (.cells #[.int .i64 (a:Nat), .int .i64 1] 62)).alloc (.cells #[.int .i64 (b:Nat), .int .i64 1] 62)).alloc (.cells #[.int .i64 0, .int .i64 0] 62)):=by (repeat (first | exact Below.refl _ _ | refine Below.setCell ?_ (by (try simp)<;>omega) _ | refine Below.alloc ?_ (by (try simp)<;>omega) _ | refine Below.drew ?_ | refine Below.trans ?_ (Below.mono (by assumption) (by (try simp)<;>omega))))
  generalize (((w.alloc (.cells #[.int .i64 (a:Nat), .int .i64 1] 62)).alloc (.cells #[.int .i64 (b:Nat), .int .i64 1] 62)).alloc (.cells #[.int .i64 0, .int .i64 0] 62))=w0 at X Y R o ⊢
  obtain ⟨X0,X1,Xf0,Xf1⟩:=row_two X
  obtain ⟨Y0,Y1,Yf0,Yf1⟩:=row_two Y
  go_wp2_with fail
  refine (HC.out _).mono ?_
  rintro e w1 ⟨rfl,hb⟩
  replace X:=row_call X hb
  replace Y:=row_call Y hb
  replace R:=row_call R hb
  replace o:=o.trans (hb.mono o.size)
  clear hb X0 X1 Xf0 Xf1 Y0 Y1 Yf0 Yf1
  obtain ⟨X0,X1,Xf0,Xf1⟩:=row_two X
  obtain ⟨Y0,Y1,Yf0,Yf1⟩:=row_two Y
  obtain ⟨R0,R1,Rf0,Rf1⟩:=row_two R
  go_wp2
  have Sr0:=row_set R 0 (.int .i64 (a:Nat))
  have Sr1:=row_set Sr0 1 (.int .i64 1)
  have o90:=o.setCell (p:=⟨w.heap.size+2,0,none⟩) (by show w.heap.size≤w.heap.size+2;omega) (.int .i64 (a:Nat))
  have o91:=o90.setCell (p:=⟨w.heap.size+2,1,none⟩) (by show w.heap.size≤w.heap.size+2;omega) (.int .i64 1)
  obtain ⟨S0,S1,_,_⟩:=row_two Sr1
  exact bodyPost_ret (v := .agg #[.int .i64 (a:Nat), .int .i64 1]) (by simp [results,Tryz.results53,go_sem,S0,S1]) rfl ⟨rfl,o91⟩
theorem pmostW_c (a b:Nat) (w:World) (HC:RowKit.Hid (∀ w,Calls Tryz.prog 55 #[.agg #[.int .i64 (a:Nat), .int .i64 1], .agg #[.int .i64 (b:Nat), .int .i64 1]] w fun e w'=>e = .returned (.int .i64 (1))∧Below w.heap.size w w')):Calls Tryz.prog 53 #[.agg #[.int .i64 (a:Nat), .int .i64 1], .agg #[.int .i64 (b:Nat), .int .i64 1]] w fun e w'=>e = .returned (.agg #[.int .i64 (a:Nat), .int .i64 1])∧Below w.heap.size w w':=by
  go_enter Tryz.func53,Tryz.ntmps53
  go_upto_region 1 with (fail)
  have X:Row (((w.alloc (.cells #[.int .i64 (a:Nat), .int .i64 1] 62)).alloc (.cells #[.int .i64 (b:Nat), .int .i64 1] 62)).alloc (.cells #[.int .i64 0, .int .i64 0] 62)) w.heap.size 62 #[.int .i64 (a:Nat), .int .i64 1]:=row_alloc (row_alloc (row_new rfl) _) _
  have Y:Row (((w.alloc (.cells #[.int .i64 (a:Nat), .int .i64 1] 62)).alloc (.cells #[.int .i64 (b:Nat), .int .i64 1] 62)).alloc (.cells #[.int .i64 0, .int .i64 0] 62)) (w.heap.size+1) 62 #[.int .i64 (b:Nat), .int .i64 1]:=row_alloc (row_new (by simp)) _
  have R:Row (((w.alloc (.cells #[.int .i64 (a:Nat), .int .i64 1] 62)).alloc (.cells #[.int .i64 (b:Nat), .int .i64 1] 62)).alloc (.cells #[.int .i64 0, .int .i64 0] 62)) (w.heap.size+2) 62 #[.int .i64 0, .int .i64 0]:=row_new (by simp)
  have o:Below w.heap.size w (((w.alloc (.cells #[.int .i64 (a:Nat), .int .i64 1] 62)).alloc (.cells #[.int .i64 (b:Nat), .int .i64 1] 62)).alloc (.cells #[.int .i64 0, .int .i64 0] 62)):=by (repeat (first | exact Below.refl _ _ | refine Below.setCell ?_ (by (try simp)<;>omega) _ | refine Below.alloc ?_ (by (try simp)<;>omega) _ | refine Below.drew ?_ | refine Below.trans ?_ (Below.mono (by assumption) (by (try simp)<;>omega))))
  generalize (((w.alloc (.cells #[.int .i64 (a:Nat), .int .i64 1] 62)).alloc (.cells #[.int .i64 (b:Nat), .int .i64 1] 62)).alloc (.cells #[.int .i64 0, .int .i64 0] 62))=w0 at X Y R o ⊢
  obtain ⟨X0,X1,Xf0,Xf1⟩:=row_two X
  obtain ⟨Y0,Y1,Yf0,Yf1⟩:=row_two Y
  go_wp2_with fail
  refine (HC.out _).mono ?_
  rintro e w1 ⟨rfl,hb⟩
  replace X:=row_call X hb
  replace Y:=row_call Y hb
  replace R:=row_call R hb
  replace o:=o.trans (hb.mono o.size)
  clear hb X0 X1 Xf0 Xf1 Y0 Y1 Yf0 Yf1
  obtain ⟨X0,X1,Xf0,Xf1⟩:=row_two X
  obtain ⟨Y0,Y1,Yf0,Yf1⟩:=row_two Y
  obtain ⟨R0,R1,Rf0,Rf1⟩:=row_two R
  go_wp2
  have Sr0:=row_set R 0 (.int .i64 (a:Nat))
  have Sr1:=row_set Sr0 1 (.int .i64 1)
  have o90:=o.setCell (p:=⟨w.heap.size+2,0,none⟩) (by show w.heap.size≤w.heap.size+2;omega) (.int .i64 (a:Nat))
  have o91:=o90.setCell (p:=⟨w.heap.size+2,1,none⟩) (by show w.heap.size≤w.heap.size+2;omega) (.int .i64 1)
  obtain ⟨S0,S1,_,_⟩:=row_two Sr1
  exact bodyPost_ret (v := .agg #[.int .i64 (a:Nat), .int .i64 1]) (by simp [results,Tryz.results53,go_sem,S0,S1]) rfl ⟨rfl,o91⟩
theorem pmostW {a b:Nat} (ha:a<4611686018427387904) (hb:b<4611686018427387904) (w:World):Calls Tryz.prog 53 #[.agg #[.int .i64 (a:Nat), .int .i64 1], .agg #[.int .i64 (b:Nat), .int .i64 1]] w fun e w'=>e = .returned (.agg #[.int .i64 (max a b:Nat), .int .i64 1])∧Below w.heap.size w w':=by
  have P:=fun w=>pcmpR (ratOK_one ha) (ratOK_one hb) w
  rw [icmpW] at P
  rcases Nat.lt_trichotomy a b with h | h | h
  · rw [if_pos h] at P
    rw [show max a b=b by omega]
    exact pmostW_a a b w (Lib.hid P)
  · rw [if_neg (by omega),if_pos h] at P
    rw [show max a b=a by omega]
    exact pmostW_b a b w (Lib.hid P)
  · rw [if_neg (by omega),if_neg (by omega)] at P
    rw [show max a b=a by omega]
    exact pmostW_c a b w (Lib.hid P)
set_option maxRecDepth 100000 in
set_option maxHeartbeats 4000000 in
theorem pmeet {l1 m1 h1 l2 m2 h2:Nat} (b1:BndOK l1 1 m1 1 h1 1) (b2:BndOK l2 1 m2 1 h2 1) (hle:max l1 l2≤min h1 h2) (w:World):Calls Tryz.prog 13 #[.agg #[.int .i64 (l1:Nat), .int .i64 1, .int .i64 (m1:Nat), .int .i64 1, .int .i64 (h1:Nat), .int .i64 1], .agg #[.int .i64 (l2:Nat), .int .i64 1, .int .i64 (m2:Nat), .int .i64 1, .int .i64 (h2:Nat), .int .i64 1]] w fun e w'=>e = .returned (.tuple #[.agg #[.int .i64 (max l1 l2:Nat), .int .i64 1, .int .i64 (min (max m1 (max l1 l2)) (min h1 h2):Nat), .int .i64 1, .int .i64 (min h1 h2:Nat), .int .i64 1], .bool true])∧Below w.heap.size w w':=by
  have PV1:RowKit.Hid (∀ w,Calls Tryz.prog 14 #[.agg #[.int .i64 (l1:Nat), .int .i64 1, .int .i64 (m1:Nat), .int .i64 1, .int .i64 (h1:Nat), .int .i64 1]] w fun e w'=>e = .returned (.bool true)∧Below w.heap.size w w'):=Lib.hid (fun w=>pbvalid b1 w)
  have PV2:RowKit.Hid (∀ w,Calls Tryz.prog 14 #[.agg #[.int .i64 (l2:Nat), .int .i64 1, .int .i64 (m2:Nat), .int .i64 1, .int .i64 (h2:Nat), .int .i64 1]] w fun e w'=>e = .returned (.bool true)∧Below w.heap.size w w'):=Lib.hid (fun w=>pbvalid b2 w)
  have q1:=b1.lo.1
  have q2:=b2.lo.1
  have q3:=b1.hi.1
  have q4:=b2.hi.1
  have q5:=b1.md.1
  have PL:=fun w=>pmostW q1 q2 w
  have PH:=fun w=>pleastW q3 q4 w
  have PM:=fun w=>pmostW q5 (show max l1 l2<4611686018427387904 by omega) w
  have PN:=fun w=>pleastW (show max m1 (max l1 l2)<4611686018427387904 by omega) (show min h1 h2<4611686018427387904 by omega) w
  obtain ⟨r4,i4,P4⟩:=pleR (ratOK_one (show max l1 l2<4611686018427387904 by omega)) (ratOK_one (show min h1 h2<4611686018427387904 by omega)) (by omega)
  clear b1 b2 hle q1 q2 q3 q4 q5
  generalize min (max m1 (max l1 l2)) (min h1 h2)=md at PN ⊢
  generalize max m1 (max l1 l2)=mx at PM PN
  generalize max l1 l2=lo at *
  generalize min h1 h2=hi at *
  replace PL:=Lib.hid PL
  replace PH:=Lib.hid PH
  replace PM:=Lib.hid PM
  replace PN:=Lib.hid PN
  have P4:RowKit.Hid (∀ w,Calls Tryz.prog 55 #[.agg #[.int .i64 (lo:Nat), .int .i64 1], .agg #[.int .i64 (hi:Nat), .int .i64 1]] w fun e w'=>e = .returned (.int .i64 r4)∧Below w.heap.size w w'):=Lib.hid P4
  have i5:¬ 0<r4:=by omega
  go_enter Tryz.func13,Tryz.ntmps13
  go_upto_region 1 with (fail)
  have X:Row (((w.alloc (.cells #[.int .i64 (l1:Nat), .int .i64 1, .int .i64 (m1:Nat), .int .i64 1, .int .i64 (h1:Nat), .int .i64 1] 64)).alloc (.cells #[.int .i64 (l2:Nat), .int .i64 1, .int .i64 (m2:Nat), .int .i64 1, .int .i64 (h2:Nat), .int .i64 1] 64)).alloc (.cells #[.int .i64 0, .int .i64 0, .int .i64 0, .int .i64 0, .int .i64 0, .int .i64 0] 64)) (w.heap.size) 64 #[.int .i64 (l1:Nat), .int .i64 1, .int .i64 (m1:Nat), .int .i64 1, .int .i64 (h1:Nat), .int .i64 1]:=row_alloc (row_alloc (row_new rfl) _) _
  have Y:Row (((w.alloc (.cells #[.int .i64 (l1:Nat), .int .i64 1, .int .i64 (m1:Nat), .int .i64 1, .int .i64 (h1:Nat), .int .i64 1] 64)).alloc (.cells #[.int .i64 (l2:Nat), .int .i64 1, .int .i64 (m2:Nat), .int .i64 1, .int .i64 (h2:Nat), .int .i64 1] 64)).alloc (.cells #[.int .i64 0, .int .i64 0, .int .i64 0, .int .i64 0, .int .i64 0, .int .i64 0] 64)) (w.heap.size+1) 64 #[.int .i64 (l2:Nat), .int .i64 1, .int .i64 (m2:Nat), .int .i64 1, .int .i64 (h2:Nat), .int .i64 1]:=row_alloc (row_new (by simp)) _
  have R:Row (((w.alloc (.cells #[.int .i64 (l1:Nat), .int .i64 1, .int .i64 (m1:Nat), .int .i64 1, .int .i64 (h1:Nat), .int .i64 1] 64)).alloc (.cells #[.int .i64 (l2:Nat), .int .i64 1, .int .i64 (m2:Nat), .int .i64 1, .int .i64 (h2:Nat), .int .i64 1] 64)).alloc (.cells #[.int .i64 0, .int .i64 0, .int .i64 0, .int .i64 0, .int .i64 0, .int .i64 0] 64)) (w.heap.size+2) 64 #[.int .i64 0, .int .i64 0, .int .i64 0, .int .i64 0, .int .i64 0, .int .i64 0]:=row_new (by simp)
  have o:Below w.heap.size w (((w.alloc (.cells #[.int .i64 (l1:Nat), .int .i64 1, .int .i64 (m1:Nat), .int .i64 1, .int .i64 (h1:Nat), .int .i64 1] 64)).alloc (.cells #[.int .i64 (l2:Nat), .int .i64 1, .int .i64 (m2:Nat), .int .i64 1, .int .i64 (h2:Nat), .int .i64 1] 64)).alloc (.cells #[.int .i64 0, .int .i64 0, .int .i64 0, .int .i64 0, .int .i64 0, .int .i64 0] 64)):=by (repeat (first | exact Below.refl _ _ | refine Below.setCell ?_ (by (try simp)<;>omega) _ | refine Below.alloc ?_ (by (try simp)<;>omega) _ | refine Below.drew ?_ | refine Below.trans ?_ (Below.mono (by assumption) (by (try simp)<;>omega))))
  generalize (((w.alloc (.cells #[.int .i64 (l1:Nat), .int .i64 1, .int .i64 (m1:Nat), .int .i64 1, .int .i64 (h1:Nat), .int .i64 1] 64)).alloc (.cells #[.int .i64 (l2:Nat), .int .i64 1, .int .i64 (m2:Nat), .int .i64 1, .int .i64 (h2:Nat), .int .i64 1] 64)).alloc (.cells #[.int .i64 0, .int .i64 0, .int .i64 0, .int .i64 0, .int .i64 0, .int .i64 0] 64))=w0 at X Y R o ⊢
  obtain ⟨X0,X1,X2,X3,X4,X5,Xf0,Xf1,Xf2,Xf3,Xf4,Xf5⟩:=row_six X
  go_wp2_with fail
  refine (PV1.out _).mono ?_
  rintro e w1 ⟨rfl,hb⟩
  replace X:=row_call X hb
  replace Y:=row_call Y hb
  replace R:=row_call R hb
  replace o:=o.trans (hb.mono o.size)
  clear hb X0 Xf0 X1 Xf1 X2 Xf2 X3 Xf3 X4 Xf4 X5 Xf5
  obtain ⟨Y0,Y1,Y2,Y3,Y4,Y5,Yf0,Yf1,Yf2,Yf3,Yf4,Yf5⟩:=row_six Y
  go_wp2_with fail
  refine (PV2.out _).mono ?_
  rintro e w2 ⟨rfl,hb⟩
  replace X:=row_call X hb
  replace Y:=row_call Y hb
  replace R:=row_call R hb
  replace o:=o.trans (hb.mono o.size)
  clear hb Y0 Yf0 Y1 Yf1 Y2 Yf2 Y3 Yf3 Y4 Yf4 Y5 Yf5
  have zx:=row_lt X
  have zy:=row_lt Y
  have rlt:=row_lt R
  go_upto_region 3 with (fail)
  refine wp_region_free2 [0,1,2,3,4,5,6,7,8,9] [] [0,1,2,3,4,5,6,7,8,9,10,11] (10,62,#[.int .i64 0, .int .i64 0]) (11,62,#[.int .i64 0, .int .i64 0]) 6 7 12 (fun w'=>Row w' (w.heap.size) 64 #[.int .i64 (l1:Nat), .int .i64 1, .int .i64 (m1:Nat), .int .i64 1, .int .i64 (h1:Nat), .int .i64 1]∧Row w' (w.heap.size+1) 64 #[.int .i64 (l2:Nat), .int .i64 1, .int .i64 (m2:Nat), .int .i64 1, .int .i64 (h2:Nat), .int .i64 1]∧Row w' (w.heap.size+2) 64 #[.int .i64 0, .int .i64 0, .int .i64 0, .int .i64 0, .int .i64 0, .int .i64 0]∧Below w.heap.size w w') (by kernel_rfl) (by kernel_rfl) ⟨_,_,rfl,rfl,rfl,fun ρ w'=>by go_simp⟩ ⟨_,_,rfl,rfl,rfl,fun ρ w'=>by go_simp⟩ rfl rfl (by simp) (by simp) (fun _ h=>⟨row_alloc h.1 _,row_alloc h.2.1 _,row_alloc h.2.2.1 _,h.2.2.2.alloc h.2.2.2.size _⟩) (fun _ h=>⟨row_alloc h.1 _,row_alloc h.2.1 _,row_alloc h.2.2.1 _,h.2.2.2.alloc h.2.2.2.size _⟩) (fun _ _ d _ _ h=>by cases d<;>exact h) ?_ ?_
  · exact ⟨X,Y,R,o.drew⟩
  (refine plan_pure ?_ rfl rfl (fun w'=>?_) ?_;rotate_left;(go_simp;try with_reducible rfl);simp only [put9])
  (refine plan_val ?_ rfl rfl rfl (fun w' hS=>?_) ?_;rotate_left;(obtain ⟨X0,X1,X2,X3,X4,X5,Xf0,Xf1,Xf2,Xf3,Xf4,Xf5⟩:=row_six hS.1;obtain ⟨Y0,Y1,Y2,Y3,Y4,Y5,Yf0,Yf1,Yf2,Yf3,Yf4,Yf5⟩:=row_six hS.2.1;go_simp;try with_reducible rfl);simp only [put9])
  (refine plan_pure ?_ rfl rfl (fun w'=>?_) ?_;rotate_left;(go_simp;try with_reducible rfl);simp only [put9])
  (refine plan_val ?_ rfl rfl rfl (fun w' hS=>?_) ?_;rotate_left;(obtain ⟨X0,X1,X2,X3,X4,X5,Xf0,Xf1,Xf2,Xf3,Xf4,Xf5⟩:=row_six hS.1;obtain ⟨Y0,Y1,Y2,Y3,Y4,Y5,Yf0,Yf1,Yf2,Yf3,Yf4,Yf5⟩:=row_six hS.2.1;go_simp;try with_reducible rfl);simp only [put9])
  refine plan_call (.agg #[.int .i64 (lo:Nat), .int .i64 1]) 53 #[.agg #[.int .i64 (l1:Nat), .int .i64 1], .agg #[.int .i64 (l2:Nat), .int .i64 1]] rfl rfl rfl (fun _ _ h hb=>⟨row_call h.1 hb,row_call h.2.1 hb,row_call h.2.2.1 hb,h.2.2.2.trans (hb.mono h.2.2.2.size)⟩) (fun w' hS=>by obtain ⟨X0,X1,X2,X3,X4,X5,Xf0,Xf1,Xf2,Xf3,Xf4,Xf5⟩:=row_six hS.1;obtain ⟨Y0,Y1,Y2,Y3,Y4,Y5,Yf0,Yf1,Yf2,Yf3,Yf4,Yf5⟩:=row_six hS.2.1;go_simp) (fun w' hS=>PL.out w') ?_
  simp only [put9]
  (refine plan_pure ?_ rfl rfl (fun w'=>?_) ?_;rotate_left;(go_simp;try with_reducible rfl);simp only [put9])
  (refine plan_val ?_ rfl rfl rfl (fun w' hS=>?_) ?_;rotate_left;(obtain ⟨X0,X1,X2,X3,X4,X5,Xf0,Xf1,Xf2,Xf3,Xf4,Xf5⟩:=row_six hS.1;obtain ⟨Y0,Y1,Y2,Y3,Y4,Y5,Yf0,Yf1,Yf2,Yf3,Yf4,Yf5⟩:=row_six hS.2.1;go_simp;try with_reducible rfl);simp only [put9])
  (refine plan_pure ?_ rfl rfl (fun w'=>?_) ?_;rotate_left;(go_simp;try with_reducible rfl);simp only [put9])
  (refine plan_val ?_ rfl rfl rfl (fun w' hS=>?_) ?_;rotate_left;(obtain ⟨X0,X1,X2,X3,X4,X5,Xf0,Xf1,Xf2,Xf3,Xf4,Xf5⟩:=row_six hS.1;obtain ⟨Y0,Y1,Y2,Y3,Y4,Y5,Yf0,Yf1,Yf2,Yf3,Yf4,Yf5⟩:=row_six hS.2.1;go_simp;try with_reducible rfl);simp only [put9])
  refine plan_call (.agg #[.int .i64 (hi:Nat), .int .i64 1]) 54 #[.agg #[.int .i64 (h1:Nat), .int .i64 1], .agg #[.int .i64 (h2:Nat), .int .i64 1]] rfl rfl rfl (fun _ _ h hb=>⟨row_call h.1 hb,row_call h.2.1 hb,row_call h.2.2.1 hb,h.2.2.2.trans (hb.mono h.2.2.2.size)⟩) (fun w' hS=>by obtain ⟨X0,X1,X2,X3,X4,X5,Xf0,Xf1,Xf2,Xf3,Xf4,Xf5⟩:=row_six hS.1;obtain ⟨Y0,Y1,Y2,Y3,Y4,Y5,Yf0,Yf1,Yf2,Yf3,Yf4,Yf5⟩:=row_six hS.2.1;go_simp) (fun w' hS=>PH.out w') ?_
  simp only [put9]
  refine plan_nil ?_
  intro g1 g2 w3 L hr1 hr2 hne hg1 hg2
  simp only [List.drop_succ_cons,List.drop_zero]
  try simp only [put9]
  obtain ⟨X',Y',R',o'⟩:=L
  clear X Y R o
  have n1:w.heap.size+2≠g1:=by omega
  have n2:w.heap.size+2≠g2:=by omega
  have n3:w.heap.size≠g1:=by omega
  have n4:w.heap.size≠g2:=by omega
  have n5:w.heap.size≤g1:=by omega
  have n6:w.heap.size≤g2:=by omega
  obtain ⟨A0,A1,Af0,Af1⟩:=row_two hr1
  obtain ⟨C0,C1,Cf0,Cf1⟩:=row_two hr2
  go_upto_region 4 with (fail)
  have Rg:=row_two_other (c:=g2) (u := .int .i64 (hi:Nat)) (v := .int .i64 1) (row_two_set (u := .int .i64 (lo:Nat)) (v := .int .i64 1) hr1) hne
  have Rk:=row_two_set (u := .int .i64 (hi:Nat)) (v := .int .i64 1) (row_two_other (c:=g1) (u := .int .i64 (lo:Nat)) (v := .int .i64 1) hr2 (Ne.symm hne))
  have X:=row_two_other (c:=g2) (u := .int .i64 (hi:Nat)) (v := .int .i64 1) (row_two_other (c:=g1) (u := .int .i64 (lo:Nat)) (v := .int .i64 1) X' n3) n4
  have R:=row_two_other (c:=g2) (u := .int .i64 (hi:Nat)) (v := .int .i64 1) (row_two_other (c:=g1) (u := .int .i64 (lo:Nat)) (v := .int .i64 1) R' n1) n2
  have o:=(((o'.setCell (p:=⟨g1,0,none⟩) n5 (.int .i64 (lo:Nat))).setCell (p:=⟨g1,1,none⟩) n5 (.int .i64 1)).setCell (p:=⟨g2,0,none⟩) n6 (.int .i64 (hi:Nat))).setCell (p:=⟨g2,1,none⟩) n6 (.int .i64 1)
  generalize (((w3.setCell ⟨g1,0,none⟩ (.int .i64 (lo:Nat))).setCell ⟨g1,1,none⟩ (.int .i64 1)).setCell ⟨g2,0,none⟩ (.int .i64 (hi:Nat))).setCell ⟨g2,1,none⟩ (.int .i64 1)=w5 at Rg Rk X R o ⊢
  clear hr1 hr2 X' Y' R' o' A0 A1 Af0 Af1 C0 C1 Cf0 Cf1
  obtain ⟨A0,A1,Af0,Af1⟩:=row_two Rg
  obtain ⟨C0,C1,Cf0,Cf1⟩:=row_two Rk
  go_wp2_with fail
  refine (P4.out _).mono ?_
  rintro e w6 ⟨rfl,hb⟩
  replace X:=row_call X hb
  replace R:=row_call R hb
  replace Rg:=row_call Rg hb
  replace Rk:=row_call Rk hb
  replace o:=o.trans (hb.mono o.size)
  clear hb A0 Af0 A1 Af1 C0 Cf0 C1 Cf1
  go_upto_region 6 with (fail)
  refine wp_region_free0 [0,1,2,3,4,5,6,7,8] [] [0,1,2,3,4,5,6,7,8] 9 (fun w'=>Row w' (w.heap.size) 64 #[.int .i64 (l1:Nat), .int .i64 1, .int .i64 (m1:Nat), .int .i64 1, .int .i64 (h1:Nat), .int .i64 1]∧Row w' (w.heap.size+2) 64 #[.int .i64 0, .int .i64 0, .int .i64 0, .int .i64 0, .int .i64 0, .int .i64 0]∧Row w' (g1) 62 #[.int .i64 (lo:Nat), .int .i64 1]∧Row w' (g2) 62 #[.int .i64 (hi:Nat), .int .i64 1]∧Below w.heap.size w w') (by kernel_rfl) (by kernel_rfl) (fun _ _ d _ _ h=>by cases d<;>exact h) ?_ ?_
  · exact ⟨X,R,Rg,Rk,o.drew⟩
  (refine plan_val ?_ rfl rfl rfl (fun w' hS=>?_) ?_;rotate_left;(obtain ⟨X0,X1,X2,X3,X4,X5,Xf0,Xf1,Xf2,Xf3,Xf4,Xf5⟩:=row_six hS.1;obtain ⟨A0,A1,Af0,Af1⟩:=row_two hS.2.2.1;obtain ⟨C0,C1,Cf0,Cf1⟩:=row_two hS.2.2.2.1;go_simp;try with_reducible rfl);simp only [put9])
  (refine plan_pure ?_ rfl rfl (fun w'=>?_) ?_;rotate_left;(go_simp;try with_reducible rfl);simp only [put9])
  (refine plan_val ?_ rfl rfl rfl (fun w' hS=>?_) ?_;rotate_left;(obtain ⟨X0,X1,X2,X3,X4,X5,Xf0,Xf1,Xf2,Xf3,Xf4,Xf5⟩:=row_six hS.1;obtain ⟨A0,A1,Af0,Af1⟩:=row_two hS.2.2.1;obtain ⟨C0,C1,Cf0,Cf1⟩:=row_two hS.2.2.2.1;go_simp;try with_reducible rfl);simp only [put9])
  (refine plan_val ?_ rfl rfl rfl (fun w' hS=>?_) ?_;rotate_left;(obtain ⟨X0,X1,X2,X3,X4,X5,Xf0,Xf1,Xf2,Xf3,Xf4,Xf5⟩:=row_six hS.1;obtain ⟨A0,A1,Af0,Af1⟩:=row_two hS.2.2.1;obtain ⟨C0,C1,Cf0,Cf1⟩:=row_two hS.2.2.2.1;go_simp;try with_reducible rfl);simp only [put9])
  refine plan_call (.agg #[.int .i64 (mx:Nat), .int .i64 1]) 53 #[.agg #[.int .i64 (m1:Nat), .int .i64 1], .agg #[.int .i64 (lo:Nat), .int .i64 1]] rfl rfl rfl (fun _ _ h hb=>⟨row_call h.1 hb,row_call h.2.1 hb,row_call h.2.2.1 hb,row_call h.2.2.2.1 hb,h.2.2.2.2.trans (hb.mono h.2.2.2.2.size)⟩) (fun w' hS=>by obtain ⟨X0,X1,X2,X3,X4,X5,Xf0,Xf1,Xf2,Xf3,Xf4,Xf5⟩:=row_six hS.1;obtain ⟨A0,A1,Af0,Af1⟩:=row_two hS.2.2.1;obtain ⟨C0,C1,Cf0,Cf1⟩:=row_two hS.2.2.2.1;go_simp) (fun w' hS=>PM.out w') ?_
  simp only [put9]
  (refine plan_val ?_ rfl rfl rfl (fun w' hS=>?_) ?_;rotate_left;(obtain ⟨X0,X1,X2,X3,X4,X5,Xf0,Xf1,Xf2,Xf3,Xf4,Xf5⟩:=row_six hS.1;obtain ⟨A0,A1,Af0,Af1⟩:=row_two hS.2.2.1;obtain ⟨C0,C1,Cf0,Cf1⟩:=row_two hS.2.2.2.1;go_simp;try with_reducible rfl);simp only [put9])
  refine plan_call (.agg #[.int .i64 (md:Nat), .int .i64 1]) 54 #[.agg #[.int .i64 (mx:Nat), .int .i64 1], .agg #[.int .i64 (hi:Nat), .int .i64 1]] rfl rfl rfl (fun _ _ h hb=>⟨row_call h.1 hb,row_call h.2.1 hb,row_call h.2.2.1 hb,row_call h.2.2.2.1 hb,h.2.2.2.2.trans (hb.mono h.2.2.2.2.size)⟩) (fun w' hS=>by obtain ⟨X0,X1,X2,X3,X4,X5,Xf0,Xf1,Xf2,Xf3,Xf4,Xf5⟩:=row_six hS.1;obtain ⟨A0,A1,Af0,Af1⟩:=row_two hS.2.2.1;obtain ⟨C0,C1,Cf0,Cf1⟩:=row_two hS.2.2.2.1;go_simp) (fun w' hS=>PN.out w') ?_
  simp only [put9]
  (refine plan_val ?_ rfl rfl rfl (fun w' hS=>?_) ?_;rotate_left;(obtain ⟨X0,X1,X2,X3,X4,X5,Xf0,Xf1,Xf2,Xf3,Xf4,Xf5⟩:=row_six hS.1;obtain ⟨A0,A1,Af0,Af1⟩:=row_two hS.2.2.1;obtain ⟨C0,C1,Cf0,Cf1⟩:=row_two hS.2.2.2.1;go_simp;try with_reducible rfl);simp only [put9])
  (refine plan_pure ?_ rfl rfl (fun w'=>?_) ?_;rotate_left;(go_simp;try with_reducible rfl);simp only [put9])
  refine plan_nil ?_
  intro w7 L7
  simp only [List.drop_succ_cons,List.drop_zero]
  try simp only [put9]
  obtain ⟨X',R',Rg',Rk',o'⟩:=L7
  clear X R Rg Rk o
  obtain ⟨R0,R1,R2,R3,R4,R5,Rf0,Rf1,Rf2,Rf3,Rf4,Rf5⟩:=row_six R'
  go_wp2
  have Sr0:=row_set R' 0 (.int .i64 (lo:Nat))
  have Sr1:=row_set Sr0 1 (.int .i64 1)
  have Sr2:=row_set Sr1 2 (.int .i64 (md:Nat))
  have Sr3:=row_set Sr2 3 (.int .i64 1)
  have Sr4:=row_set Sr3 4 (.int .i64 (hi:Nat))
  have Sr5:=row_set Sr4 5 (.int .i64 1)
  have o90:=o'.setCell (p:=⟨w.heap.size+2,0,none⟩) (by show w.heap.size≤w.heap.size+2;omega) (.int .i64 (lo:Nat))
  have o91:=o90.setCell (p:=⟨w.heap.size+2,1,none⟩) (by show w.heap.size≤w.heap.size+2;omega) (.int .i64 1)
  have o92:=o91.setCell (p:=⟨w.heap.size+2,2,none⟩) (by show w.heap.size≤w.heap.size+2;omega) (.int .i64 (md:Nat))
  have o93:=o92.setCell (p:=⟨w.heap.size+2,3,none⟩) (by show w.heap.size≤w.heap.size+2;omega) (.int .i64 1)
  have o94:=o93.setCell (p:=⟨w.heap.size+2,4,none⟩) (by show w.heap.size≤w.heap.size+2;omega) (.int .i64 (hi:Nat))
  have o95:=o94.setCell (p:=⟨w.heap.size+2,5,none⟩) (by show w.heap.size≤w.heap.size+2;omega) (.int .i64 1)
  obtain ⟨S0,S1,S2,S3,S4,S5,_,_,_,_,_,_⟩:=row_six Sr5
  exact bodyPost_ret (v := .tuple #[.agg #[.int .i64 (lo:Nat), .int .i64 1, .int .i64 (md:Nat), .int .i64 1, .int .i64 (hi:Nat), .int .i64 1], .bool true]) (by simp [results,Tryz.results13,go_sem,S0,S1,S2,S3,S4,S5]) rfl ⟨rfl,o95⟩
end Go.Proofs.YtdipoojjlddohaaGreat
end
