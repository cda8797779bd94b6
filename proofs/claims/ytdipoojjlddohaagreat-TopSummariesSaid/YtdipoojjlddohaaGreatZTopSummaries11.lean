/- What the law TopSummaries needs, joined of its texts by a program (slim2.py); part 11. -/
import Derived.Test.YtdipoojjlddohaaGreatZTopSummaries1
import Derived.Test.YtdipoojjlddohaaGreatZTopSummaries2
import Derived.Test.YtdipoojjlddohaaGreatZTopSummaries3
import Derived.Test.YtdipoojjlddohaaGreatZTopSummaries6
import Derived.Test.YtdipoojjlddohaaGreatZTopSummaries7
import Derived.Test.YtdipoojjlddohaaGreatZTopSummaries8
import Derived.Test.YtdipoojjlddohaaGreatZTopSummaries10
set_option linter.unusedVariables false
set_option linter.unusedSimpArgs false
set_option linter.unusedSectionVars false
set_option linter.unnecessarySimpa false
section
/- Marks of smooth histograms: words; small functions. -/
namespace Go.Proofs.YtdipoojjlddohaaGreat
open Go.RowKit
def mcells (l:List Mk):List Value:=l.flatMap fun m=>[.int .i64 m.seq, .int .i64 m.t, .int .i64 m.n, .int .i64 m.s, .int .i64 m.q, .int .i64 m.lo, .int .i64 m.hi]
def I64 (x:Int):Prop := -9223372036854775808≤x∧x≤9223372036854775807
def M64 (m:Mk):Prop:=I64 m.seq∧I64 m.t∧I64 m.n∧I64 m.s∧I64 m.q∧I64 m.lo∧I64 m.hi
def MkCells (w:World) (a:Addr) (m:Mk):Prop:=w.cell? a=some (.int .i64 m.seq)∧w.cell? ⟨a.block,a.off+1,none⟩=some (.int .i64 m.t)∧w.cell? ⟨a.block,a.off+2,none⟩=some (.int .i64 m.n)∧w.cell? ⟨a.block,a.off+3,none⟩=some (.int .i64 m.s)∧w.cell? ⟨a.block,a.off+4,none⟩=some (.int .i64 m.q)∧w.cell? ⟨a.block,a.off+5,none⟩=some (.int .i64 m.lo)∧w.cell? ⟨a.block,a.off+6,none⟩=some (.int .i64 m.hi)
section
variable {w w':World} {B m:Nat} {A:Option Addr} {l:List Mk}
end
structure MIn (A:Option Addr) (m c:Nat) (l:List Mk) (w:World):Prop where
  reads:Reads w w.heap.size 7 A m (mcells l)
  mB:∀ i,M64 (mkAt l i)
  mc:m≤c
  cB:c≤maxLen
section
variable {w w':World} {m c:Nat} {A:Option Addr} {l:List Mk}
end
theorem mul_small {n x:Int} (h0:0≤n) (h1:n≤65536) (h2 : -4096≤x) (h3:x≤4096) : -268435456≤n*x∧n*x≤268435456:=by
  constructor
  · have:n*(-4096)≤n*x:=Int.mul_le_mul_of_nonneg_left h2 h0
    omega
  · have:n*x≤n*4096:=Int.mul_le_mul_of_nonneg_left h3 h0
    omega
theorem pfits_0 (n lo hi s q:Int) (w:World) (hn0:0≤n) (hn1:n≤65536) (l0 : -4096≤lo) (l1:lo≤4096) (g0 : -4096≤hi) (g1:hi≤4096)  (h:s<n*lo):Calls Tryz.prog 268 #[.int .i64 n, .int .i64 lo, .int .i64 hi, .int .i64 s, .int .i64 q] w fun e w'=>e = .returned (.bool false)∧w'=w:=by
  have b1:=mul_small hn0 hn1 l0 l1
  have b2:=mul_small hn0 hn1 g0 g1
  have wl:IntKind.i64.wrap (n*lo)=n*lo:=IntWalk.i64_in _ (by omega)
  have wh:IntKind.i64.wrap (n*hi)=n*hi:=IntWalk.i64_in _ (by omega)
  have wn2:IntKind.i64.wrap (n*4096)=n*4096:=IntWalk.i64_in _ (by omega)
  have wn3:IntKind.i64.wrap (n*4096*4096)=n*4096*4096:=IntWalk.i64_in _ (by omega)
  go_enter Tryz.func268,Tryz.ntmps268
  go_wp2_with fail
  go_ret
  exact ⟨by first | rfl | exact ret_bool (by simp;omega) | exact ret_bool (by simp [*]),rfl⟩
theorem ptick_2 (now:Int) (w:World)  (h0:0≤now) (h1:now≤16777216):Calls Tryz.prog 230 #[.int .i64 now] w fun e w'=>e = .returned (.bool true)∧w'=w:=by
  go_enter Tryz.func230,Tryz.ntmps230
  go_wp2_with fail
  go_ret
  exact ⟨by first | rfl | exact ret_bool (by simp;omega),rfl⟩
theorem pfirst_yes (now wd:Int) (w:World) (n0:0≤now) (n1:now≤16777216) (d0:1≤wd) (d1:wd≤1048576) (h:0≤now-wd+1):Calls Tryz.prog 160 #[.int .i64 now, .int .i64 wd] w fun e w'=>e = .returned (.int .i64 (now-wd+1))∧w'=w:=by
  have PT:=Lib.hid (fun w=>ptick_2 now w n0 n1)
  have w1:IntKind.i64.wrap (now-wd)=now-wd:=IntWalk.i64_in _ (by omega)
  have w2:IntKind.i64.wrap (now-wd+1)=now-wd+1:=IntWalk.i64_in _ (by omega)
  go_enter Tryz.func160,Tryz.ntmps160
  go_wp2_with (go_at_call 230;with_reducible refine (PT.out _).mono ?_;rintro e w9 ⟨rfl,h9⟩;obtain rfl:=h9.symm)
  go_ret
  exact ⟨by first | rfl | exact ret_i64 (by omega),rfl⟩
theorem pfirst_no (now wd:Int) (w:World) (n0:0≤now) (n1:now≤16777216) (d0:1≤wd) (d1:wd≤1048576) (h:now-wd+1<0):Calls Tryz.prog 160 #[.int .i64 now, .int .i64 wd] w fun e w'=>e = .returned (.int .i64 0)∧w'=w:=by
  have PT:=Lib.hid (fun w=>ptick_2 now w n0 n1)
  have w1:IntKind.i64.wrap (now-wd)=now-wd:=IntWalk.i64_in _ (by omega)
  have w2:IntKind.i64.wrap (now-wd+1)=now-wd+1:=IntWalk.i64_in _ (by omega)
  go_enter Tryz.func160,Tryz.ntmps160
  go_wp2_with (go_at_call 230;with_reducible refine (PT.out _).mono ?_;rintro e w9 ⟨rfl,h9⟩;obtain rfl:=h9.symm)
  go_ret
  exact ⟨by first | rfl | exact ret_i64 (by omega),rfl⟩
theorem plive_yes_true (now wd t:Int) (w:World) (n0:0≤now) (n1:now≤16777216) (d0:1≤wd) (d1:wd≤1048576) (t0:0≤t) (t1:t≤now) (h:0≤now-wd+1) (hl:now-wd<t):Calls Tryz.prog 137 #[.int .i64 now, .int .i64 wd, .int .i64 t] w fun e w'=>e = .returned (.bool true)∧w'=w:=by
  have PT:=Lib.hid (fun w=>ptick_2 t w t0 (by omega))
  have PF:=Lib.hid (fun w=>pfirst_yes now wd w n0 n1 d0 d1 h)
  go_enter Tryz.func137,Tryz.ntmps137
  go_wp2_with (first | (go_at_call 230;with_reducible refine (PT.out _).mono ?_;rintro e w9 ⟨rfl,h9⟩;obtain rfl:=h9.symm) | (go_at_call 160;with_reducible refine (PF.out _).mono ?_;rintro e w9 ⟨rfl,h9⟩;obtain rfl:=h9.symm))
  go_ret
  exact ⟨by first | rfl | exact ret_bool (by simp;omega),rfl⟩
theorem plive_yes_false (now wd t:Int) (w:World) (n0:0≤now) (n1:now≤16777216) (d0:1≤wd) (d1:wd≤1048576) (t0:0≤t) (t1:t≤now) (h:0≤now-wd+1) (hl:¬ now-wd<t):Calls Tryz.prog 137 #[.int .i64 now, .int .i64 wd, .int .i64 t] w fun e w'=>e = .returned (.bool false)∧w'=w:=by
  have PT:=Lib.hid (fun w=>ptick_2 t w t0 (by omega))
  have PF:=Lib.hid (fun w=>pfirst_yes now wd w n0 n1 d0 d1 h)
  go_enter Tryz.func137,Tryz.ntmps137
  go_wp2_with (first | (go_at_call 230;with_reducible refine (PT.out _).mono ?_;rintro e w9 ⟨rfl,h9⟩;obtain rfl:=h9.symm) | (go_at_call 160;with_reducible refine (PF.out _).mono ?_;rintro e w9 ⟨rfl,h9⟩;obtain rfl:=h9.symm))
  go_ret
  exact ⟨by first | rfl | exact ret_bool (by simp;omega),rfl⟩
theorem plive_no_true (now wd t:Int) (w:World) (n0:0≤now) (n1:now≤16777216) (d0:1≤wd) (d1:wd≤1048576) (t0:0≤t) (t1:t≤now) (h:now-wd+1<0) (hl:now-wd<t):Calls Tryz.prog 137 #[.int .i64 now, .int .i64 wd, .int .i64 t] w fun e w'=>e = .returned (.bool true)∧w'=w:=by
  have PT:=Lib.hid (fun w=>ptick_2 t w t0 (by omega))
  have PF:=Lib.hid (fun w=>pfirst_no now wd w n0 n1 d0 d1 h)
  go_enter Tryz.func137,Tryz.ntmps137
  go_wp2_with (first | (go_at_call 230;with_reducible refine (PT.out _).mono ?_;rintro e w9 ⟨rfl,h9⟩;obtain rfl:=h9.symm) | (go_at_call 160;with_reducible refine (PF.out _).mono ?_;rintro e w9 ⟨rfl,h9⟩;obtain rfl:=h9.symm))
  go_ret
  exact ⟨by first | rfl | exact ret_bool (by simp;omega),rfl⟩
theorem plive (now wd t:Int) (w:World) (n0:0≤now) (n1:now≤16777216) (d0:1≤wd) (d1:wd≤1048576) (t0:0≤t) (t1:t≤now):Calls Tryz.prog 137 #[.int .i64 now, .int .i64 wd, .int .i64 t] w fun e w'=>e = .returned (.bool (decide (now-wd<t)))∧w'=w:=by
  by_cases h:0≤now-wd+1
  · by_cases hl:now-wd<t
    · rw [decide_eq_true hl]
      exact plive_yes_true now wd t w n0 n1 d0 d1 t0 t1 h hl
    · rw [decide_eq_false hl]
      exact plive_yes_false now wd t w n0 n1 d0 d1 t0 t1 h hl
  · rw [decide_eq_true (by omega)]
    exact plive_no_true now wd t w n0 n1 d0 d1 t0 t1 (by omega) (by omega)
end Go.Proofs.YtdipoojjlddohaaGreat
end
section
/- Intervals of integers, walked (out of AskB). -/
namespace Go.Proofs.YtdipoojjlddohaaGreat
open Go.RowKit
theorem and_xor (a:Nat):∀ b,2*(a &&& b)+(a ^^^ b)=a+b:=by
  induction a using Nat.strongRecOn with
  | _ a ih =>
    intro b
    by_cases h:a=0
    · subst h;simp
    · have i:=ih (a / 2) (by omega) (b / 2)
      have h1:=Nat.and_div_two (a:=a) (b:=b)
      have h2:=Nat.xor_div_two (a:=a) (b:=b)
      have h3:=Nat.and_mod_two_eq_one (a:=a) (b:=b)
      have h4:=Nat.xor_mod_two_eq_one (a:=a) (b:=b)
      rw [← h1,← h2] at i
      generalize (a &&& b)=x at *
      generalize (a ^^^ b)=y at *
      omega
theorem i64_small (n:Int) (h0:0≤n) (h1:n<2 ^ 62):IntKind.i64.wrap n=n:=IntWalk.i64_in _ (by omega)
theorem bits_xor (a b:Nat) (ha:a<2 ^ 62) (hb:b<2 ^ 62):bits .xor .i64 a b=((a ^^^ b:Nat):Int):=by
  have ha':a % 2 ^ IntKind.i64.bits=a:=Nat.mod_eq_of_lt (Nat.lt_of_lt_of_le ha (by decide))
  have hb':b % 2 ^ IntKind.i64.bits=b:=Nat.mod_eq_of_lt (Nat.lt_of_lt_of_le hb (by decide))
  simp only [bits,BitVec.ofInt_natCast,BitVec.toNat_xor,BitVec.toNat_ofNat,ha',hb']
  exact i64_small _ (Int.natCast_nonneg _) (by exact_mod_cast Nat.xor_lt_two_pow ha hb)
theorem mid_is {lo hi:Nat} (h:hi≤4398046511104) (h2:lo≤hi):∃ x y:Nat,bits .and .i64 (lo:Int) (hi:Int)=(x:Int)∧bits .xor .i64 (lo:Int) (hi:Int)=(y:Int)∧(x:Int)+(y:Int) / 2=((lo+hi) / 2:Nat):=by
  refine ⟨lo &&& hi,lo ^^^ hi,(bits_nat .i64 62 (by decide) i64_small lo hi (by omega) (by omega)).1,bits_xor lo hi (by omega) (by omega),?_⟩
  have:=and_xor lo hi
  omega
theorem pratio (n:Int) (w:World):Calls Tryz.prog 57 #[.int .i64 n] w fun e w'=>e = .returned (.agg #[.int .i64 n, .int .i64 1])∧Below w.heap.size w w':=by
  go_enter Tryz.func57,Tryz.ntmps57
  go_wp2
  exact bodyPost_ret (v := .agg #[.int .i64 n, .int .i64 1]) (by simp [results,Tryz.results57,go_sem]) rfl ⟨rfl,by (repeat (first | exact Below.refl _ _ | refine Below.setCell ?_ (by (try simp)<;>omega) _ | refine Below.alloc ?_ (by (try simp)<;>omega) _ | refine Below.drew ?_ | refine Below.trans ?_ (Below.mono (by assumption) (by (try simp)<;>omega))))⟩
theorem rratio (n:Int) (w:World):Calls Tryz.prog 59 #[.int .i64 n] w fun e w'=>e = .returned (.agg #[.int .i64 n, .int .i64 1])∧Below w.heap.size w w':=by
  go_enter Tryz.func59,Tryz.ntmps59
  go_wp2
  exact bodyPost_ret (v := .agg #[.int .i64 n, .int .i64 1]) (by simp [results,Tryz.results59,go_sem]) rfl ⟨rfl,by (repeat (first | exact Below.refl _ _ | refine Below.setCell ?_ (by (try simp)<;>omega) _ | refine Below.alloc ?_ (by (try simp)<;>omega) _ | refine Below.drew ?_ | refine Below.trans ?_ (Below.mono (by assumption) (by (try simp)<;>omega))))⟩
theorem row_six_of {w:World} {b:Nat} {t:TypeId} {x0 x1 x2 x3 x4 x5:Value} (h:Row w b t #[x0,x1,x2,x3,x4,x5]):w.cell? ⟨b,0,none⟩=some x0∧w.cell? ⟨b,1,none⟩=some x1∧w.cell? ⟨b,2,none⟩=some x2∧w.cell? ⟨b,3,none⟩=some x3∧w.cell? ⟨b,4,none⟩=some x4∧w.cell? ⟨b,5,none⟩=some x5:=by
  obtain ⟨h0,h1,h2,h3,h4,h5,_⟩:=row_six h
  exact ⟨h0,h1,h2,h3,h4,h5⟩
theorem below_six {B b:Nat} {w0 w:World} (h:Below B w0 w) (hb:B≤b) (u0 u1 u2 u3 u4 u5:Value):Below B w0 ((((((w.setCell ⟨b,0,none⟩ u0).setCell ⟨b,1,none⟩ u1).setCell ⟨b,2,none⟩ u2).setCell ⟨b,3,none⟩ u3).setCell ⟨b,4,none⟩ u4).setCell ⟨b,5,none⟩ u5) :=
  (((((h.setCell (p:=⟨b,0,none⟩) hb u0).setCell (p:=⟨b,1,none⟩) hb u1).setCell (p:=⟨b,2,none⟩) hb u2).setCell (p:=⟨b,3,none⟩) hb u3).setCell (p:=⟨b,4,none⟩) hb u4).setCell (p:=⟨b,5,none⟩) hb u5
theorem pwhole (lo hi:Nat) (h:lo≤hi) (hB:hi≤4398046511104) (w:World):Calls Tryz.prog 139 #[.int .i64 lo, .int .i64 hi] w fun e w'=>e = .returned (.tuple #[.agg #[.int .i64 lo, .int .i64 1, .int .i64 ((lo+hi) / 2:Nat), .int .i64 1, .int .i64 hi, .int .i64 1], .bool true])∧Below w.heap.size w w':=by
  have h1:¬ (hi:Int)<(lo:Int):=by omega
  obtain ⟨x,y,e1,e2,e3⟩:=mid_is hB h
  have e4:wrap64 ((x:Int)+(y:Int) / 2)=((lo+hi) / 2:Nat):=by rw [e3];exact IntWalk.wrap64_in _ (by omega)
  generalize (lo+hi) / 2=md at e3 e4 ⊢
  clear e3
  have P1:=Lib.hid (fun w=>pratio (lo:Int) w)
  have P2:=Lib.hid (fun w=>pratio (md:Int) w)
  have P3:=Lib.hid (fun w=>pratio (hi:Int) w)
  go_enter Tryz.func139,Tryz.ntmps139
  go_wp2_with fail
  refine (P1.out _).mono ?_
  rintro e w1 ⟨rfl,hb1⟩
  have r:Row w1 w.heap.size 64 #[.int .i64 0, .int .i64 0, .int .i64 0, .int .i64 0, .int .i64 0, .int .i64 0]:=row_call (row_new rfl) hb1
  have o:Below w.heap.size w w1:=((Below.refl _ _).alloc (Nat.le_refl _) _).trans (hb1.mono (by simp))
  clear hb1
  go_wp2_with fail
  refine (P2.out _).mono ?_
  rintro e w2 ⟨rfl,hb2⟩
  replace r:=row_call r hb2
  replace o:=o.trans (hb2.mono o.size)
  clear hb2
  go_wp2_with fail
  refine (P3.out _).mono ?_
  rintro e w3 ⟨rfl,hb3⟩
  replace r:=row_call r hb3
  replace o:=o.trans (hb3.mono o.size)
  clear hb3
  obtain ⟨R0,R1,R2,R3,R4,R5,Rf0,Rf1,Rf2,Rf3,Rf4,Rf5⟩:=row_six r
  go_wp2
  exact bodyPost_ret (v := .tuple #[.agg #[.int .i64 lo, .int .i64 1, .int .i64 md, .int .i64 1, .int .i64 hi, .int .i64 1], .bool true]) (by simp [results,Tryz.results139,go_sem,R0,R1,R2,R3,R4,R5]) rfl ⟨rfl,below_six o (Nat.le_refl _) _ _ _ _ _ _⟩
end Go.Proofs.YtdipoojjlddohaaGreat
end
section
/- Bounds: ratios in lowest terms, walked. -/
namespace Go.Proofs.YtdipoojjlddohaaGreat
open Go.RowKit
theorem rabsN (a:Nat) (h:a<9223372036854775808) (w:World):Calls Tryz.prog 244 #[.int .i64 (a:Nat)] w fun e w'=>e = .returned (.int .u64 (a:Nat))∧w'=w:=by
  have t0:¬ (a:Int)<0:=by omega
  have wa:IntKind.u64.wrap (a:Int)=(a:Int):=IntWalk.u64_in _ (by omega)
  clear h
  go_enter Tryz.func244,Tryz.ntmps244
  go_wp2
  go_ret
  exact ⟨rfl,rfl⟩
set_option maxHeartbeats 2000000 in
theorem pratval (a b:Nat) (w:World) (ha:a<9223372036854775808) (hb0:1≤b) (hb:b<9223372036854775808) (hg:Nat.gcd a b=1):Calls Tryz.prog 56 #[.agg #[.int .i64 (a:Nat), .int .i64 (b:Nat)]] w fun e w'=>e = .returned (.bool true)∧Below w.heap.size w w':=by
  have PZ:=Lib.hid (fun w=>psize a ha w)
  have PA:=Lib.hid (fun w=>pof a (by omega) w)
  have PB:=Lib.hid (fun w=>pof b (by omega) w)
  have PO:=Lib.hid (fun w=>pof 1 (by omega) w)
  have PG:=fun w=>pgcd a b (by unfold big;omega) (by unfold big;omega) w
  rw [hg] at PG
  replace PG:=Lib.hid PG
  have i1:(1:Int)≤(b:Int):=by omega
  have d1:decide ((1:Int)≤(b:Int))=true:=decide_eq_true i1
  have wb:IntKind.u64.wrap (b:Int)=(b:Int):=IntWalk.u64_in _ (by omega)
  clear hg
  go_enter Tryz.func56,Tryz.ntmps56
  go_upto_region 1 with (fail)
  have X:Row (w.alloc (.cells #[.int .i64 (a:Nat), .int .i64 (b:Nat)] 62)) w.heap.size 62 #[.int .i64 (a:Nat), .int .i64 (b:Nat)]:=row_new rfl
  have o:Below w.heap.size w (w.alloc (.cells #[.int .i64 (a:Nat), .int .i64 (b:Nat)] 62)):=by (repeat (first | exact Below.refl _ _ | refine Below.setCell ?_ (by (try simp)<;>omega) _ | refine Below.alloc ?_ (by (try simp)<;>omega) _ | refine Below.drew ?_ | refine Below.trans ?_ (Below.mono (by assumption) (by (try simp)<;>omega))))
  generalize (w.alloc (.cells #[.int .i64 (a:Nat), .int .i64 (b:Nat)] 62))=w1 at X o ⊢
  refine wp_region_free0 [0,1,2,3,4,5,6,7,8,9,10,11,12,13,14,15] [] [0,1,2,3,4,5,6,7,8,9,10,11,12,13,14,15] 16 (fun w'=>Row w' (w.heap.size) 62 #[.int .i64 (a:Nat), .int .i64 (b:Nat)]∧Below w.heap.size w w') (by kernel_rfl) (by kernel_rfl) (fun _ _ d _ _ h=>by cases d<;>exact h) ?_ ?_
  · exact ⟨X,o.drew⟩
  (refine plan_pure ?_ rfl rfl (fun w'=>?_) ?_;rotate_left;(go_simp;try with_reducible rfl);simp only [put9])
  (refine plan_val ?_ rfl rfl rfl (fun w' hS=>?_) ?_;rotate_left;(obtain ⟨X0,X1,Xf0,Xf1⟩:=row_two hS.1;go_simp;try with_reducible rfl);simp only [put9])
  (refine plan_pure ?_ rfl rfl (fun w'=>?_) ?_;rotate_left;(go_simp;try with_reducible rfl);simp only [put9])
  (refine plan_pure ?_ rfl rfl (fun w'=>?_) ?_;rotate_left;(go_simp;try with_reducible rfl);simp only [put9])
  (refine plan_pure ?_ rfl rfl (fun w'=>?_) ?_;rotate_left;(go_simp;try with_reducible rfl);simp only [put9])
  (refine plan_val ?_ rfl rfl rfl (fun w' hS=>?_) ?_;rotate_left;(obtain ⟨X0,X1,Xf0,Xf1⟩:=row_two hS.1;go_simp;try with_reducible rfl);simp only [put9])
  refine plan_call (.int .u64 (a:Nat)) 155 #[.int .i64 (a:Nat)] rfl rfl rfl (fun _ _ h hb=>⟨row_call h.1 hb,h.2.trans (hb.mono h.2.size)⟩) (fun w' hS=>by obtain ⟨X0,X1,Xf0,Xf1⟩:=row_two hS.1;go_simp) (fun w' hS=>(PZ.out w').mono fun _ _ h=>⟨h.1,by rw [h.2];exact Below.refl _ _⟩) ?_
  simp only [put9]
  refine plan_call (W a) 76 #[.int .u64 (a:Nat)] rfl rfl rfl (fun _ _ h hb=>⟨row_call h.1 hb,h.2.trans (hb.mono h.2.size)⟩) (fun w' hS=>by obtain ⟨X0,X1,Xf0,Xf1⟩:=row_two hS.1;go_simp) (fun w' hS=>PA.out w') ?_
  simp only [put9]
  (refine plan_pure ?_ rfl rfl (fun w'=>?_) ?_;rotate_left;(go_simp;try with_reducible rfl);simp only [put9])
  (refine plan_val ?_ rfl rfl rfl (fun w' hS=>?_) ?_;rotate_left;(obtain ⟨X0,X1,Xf0,Xf1⟩:=row_two hS.1;go_simp;try with_reducible rfl);simp only [put9])
  (refine plan_pure ?_ rfl rfl (fun w'=>?_) ?_;rotate_left;(go_simp;try with_reducible rfl);simp only [put9])
  refine plan_call (W b) 76 #[.int .u64 (b:Nat)] rfl rfl rfl (fun _ _ h hb=>⟨row_call h.1 hb,h.2.trans (hb.mono h.2.size)⟩) (fun w' hS=>by obtain ⟨X0,X1,Xf0,Xf1⟩:=row_two hS.1;go_simp) (fun w' hS=>PB.out w') ?_
  simp only [put9]
  refine plan_call (W 1) 154 #[W a,W b] rfl rfl rfl (fun _ _ h hb=>⟨row_call h.1 hb,h.2.trans (hb.mono h.2.size)⟩) (fun w' hS=>by obtain ⟨X0,X1,Xf0,Xf1⟩:=row_two hS.1;go_simp) (fun w' hS=>PG.out w') ?_
  simp only [put9]
  refine plan_call (W 1) 76 #[.int .u64 1] rfl rfl rfl (fun _ _ h hb=>⟨row_call h.1 hb,h.2.trans (hb.mono h.2.size)⟩) (fun w' hS=>by obtain ⟨X0,X1,Xf0,Xf1⟩:=row_two hS.1;go_simp) (fun w' hS=>PO.out w') ?_
  simp only [put9]
  (refine plan_pure ?_ rfl rfl (fun w'=>?_) ?_;rotate_left;(go_simp;try with_reducible rfl);simp only [put9])
  (refine plan_pure ?_ rfl rfl (fun w'=>?_) ?_;rotate_left;(go_simp;try with_reducible rfl);simp only [put9])
  refine plan_nil ?_
  intro w3 L
  simp only [List.drop_succ_cons,List.drop_zero]
  try simp only [put9]
  have o2:=L.2
  clear L X o
  go_wp2
  go_ret
  exact ⟨rfl,o2⟩
set_option maxHeartbeats 2000000 in
theorem rratval (a b:Nat) (w:World) (ha:a<9223372036854775808) (hb0:1≤b) (hb:b<9223372036854775808) (hg:Nat.gcd a b=1):Calls Tryz.prog 156 #[.agg #[.int .i64 (a:Nat), .int .i64 (b:Nat)]] w fun e w'=>e = .returned (.bool true)∧Below w.heap.size w w':=by
  have PZ:=Lib.hid (fun w=>rabsN a ha w)
  have PA:=Lib.hid (fun w=>rof a (by omega) w)
  have PB:=Lib.hid (fun w=>rof b (by omega) w)
  have PO:=Lib.hid (fun w=>rof 1 (by omega) w)
  have PG:=fun w=>rgcd a b (by unfold big;omega) (by unfold big;omega) w
  rw [hg] at PG
  replace PG:=Lib.hid PG
  have i1:(1:Int)≤(b:Int):=by omega
  have d1:decide ((1:Int)≤(b:Int))=true:=decide_eq_true i1
  have wb:IntKind.u64.wrap (b:Int)=(b:Int):=IntWalk.u64_in _ (by omega)
  clear hg
  go_enter Tryz.func156,Tryz.ntmps156
  go_upto_region 1 with (fail)
  have X:Row (w.alloc (.cells #[.int .i64 (a:Nat), .int .i64 (b:Nat)] 62)) w.heap.size 62 #[.int .i64 (a:Nat), .int .i64 (b:Nat)]:=row_new rfl
  have o:Below w.heap.size w (w.alloc (.cells #[.int .i64 (a:Nat), .int .i64 (b:Nat)] 62)):=by (repeat (first | exact Below.refl _ _ | refine Below.setCell ?_ (by (try simp)<;>omega) _ | refine Below.alloc ?_ (by (try simp)<;>omega) _ | refine Below.drew ?_ | refine Below.trans ?_ (Below.mono (by assumption) (by (try simp)<;>omega))))
  generalize (w.alloc (.cells #[.int .i64 (a:Nat), .int .i64 (b:Nat)] 62))=w1 at X o ⊢
  refine wp_region_free0 [0,1,2,3,4,5,6,7,8,9,10,11,12,13,14,15] [] [0,1,2,3,4,5,6,7,8,9,10,11,12,13,14,15] 16 (fun w'=>Row w' (w.heap.size) 62 #[.int .i64 (a:Nat), .int .i64 (b:Nat)]∧Below w.heap.size w w') (by kernel_rfl) (by kernel_rfl) (fun _ _ d _ _ h=>by cases d<;>exact h) ?_ ?_
  · exact ⟨X,o.drew⟩
  (refine plan_pure ?_ rfl rfl (fun w'=>?_) ?_;rotate_left;(go_simp;try with_reducible rfl);simp only [put9])
  (refine plan_val ?_ rfl rfl rfl (fun w' hS=>?_) ?_;rotate_left;(obtain ⟨X0,X1,Xf0,Xf1⟩:=row_two hS.1;go_simp;try with_reducible rfl);simp only [put9])
  (refine plan_pure ?_ rfl rfl (fun w'=>?_) ?_;rotate_left;(go_simp;try with_reducible rfl);simp only [put9])
  (refine plan_pure ?_ rfl rfl (fun w'=>?_) ?_;rotate_left;(go_simp;try with_reducible rfl);simp only [put9])
  (refine plan_pure ?_ rfl rfl (fun w'=>?_) ?_;rotate_left;(go_simp;try with_reducible rfl);simp only [put9])
  (refine plan_val ?_ rfl rfl rfl (fun w' hS=>?_) ?_;rotate_left;(obtain ⟨X0,X1,Xf0,Xf1⟩:=row_two hS.1;go_simp;try with_reducible rfl);simp only [put9])
  refine plan_call (.int .u64 (a:Nat)) 244 #[.int .i64 (a:Nat)] rfl rfl rfl (fun _ _ h hb=>⟨row_call h.1 hb,h.2.trans (hb.mono h.2.size)⟩) (fun w' hS=>by obtain ⟨X0,X1,Xf0,Xf1⟩:=row_two hS.1;go_simp) (fun w' hS=>(PZ.out w').mono fun _ _ h=>⟨h.1,by rw [h.2];exact Below.refl _ _⟩) ?_
  simp only [put9]
  refine plan_call (W a) 243 #[.int .u64 (a:Nat)] rfl rfl rfl (fun _ _ h hb=>⟨row_call h.1 hb,h.2.trans (hb.mono h.2.size)⟩) (fun w' hS=>by obtain ⟨X0,X1,Xf0,Xf1⟩:=row_two hS.1;go_simp) (fun w' hS=>PA.out w') ?_
  simp only [put9]
  (refine plan_pure ?_ rfl rfl (fun w'=>?_) ?_;rotate_left;(go_simp;try with_reducible rfl);simp only [put9])
  (refine plan_val ?_ rfl rfl rfl (fun w' hS=>?_) ?_;rotate_left;(obtain ⟨X0,X1,Xf0,Xf1⟩:=row_two hS.1;go_simp;try with_reducible rfl);simp only [put9])
  (refine plan_pure ?_ rfl rfl (fun w'=>?_) ?_;rotate_left;(go_simp;try with_reducible rfl);simp only [put9])
  refine plan_call (W b) 243 #[.int .u64 (b:Nat)] rfl rfl rfl (fun _ _ h hb=>⟨row_call h.1 hb,h.2.trans (hb.mono h.2.size)⟩) (fun w' hS=>by obtain ⟨X0,X1,Xf0,Xf1⟩:=row_two hS.1;go_simp) (fun w' hS=>PB.out w') ?_
  simp only [put9]
  refine plan_call (W 1) 242 #[W a,W b] rfl rfl rfl (fun _ _ h hb=>⟨row_call h.1 hb,h.2.trans (hb.mono h.2.size)⟩) (fun w' hS=>by obtain ⟨X0,X1,Xf0,Xf1⟩:=row_two hS.1;go_simp) (fun w' hS=>PG.out w') ?_
  simp only [put9]
  refine plan_call (W 1) 243 #[.int .u64 1] rfl rfl rfl (fun _ _ h hb=>⟨row_call h.1 hb,h.2.trans (hb.mono h.2.size)⟩) (fun w' hS=>by obtain ⟨X0,X1,Xf0,Xf1⟩:=row_two hS.1;go_simp) (fun w' hS=>PO.out w') ?_
  simp only [put9]
  (refine plan_pure ?_ rfl rfl (fun w'=>?_) ?_;rotate_left;(go_simp;try with_reducible rfl);simp only [put9])
  (refine plan_pure ?_ rfl rfl (fun w'=>?_) ?_;rotate_left;(go_simp;try with_reducible rfl);simp only [put9])
  refine plan_nil ?_
  intro w3 L
  simp only [List.drop_succ_cons,List.drop_zero]
  try simp only [put9]
  have o2:=L.2
  clear L X o
  go_wp2
  go_ret
  exact ⟨rfl,o2⟩
theorem pexactR (a b:Nat) (w:World) (ha:a<9223372036854775808) (hb0:1≤b) (hb:b<9223372036854775808) (hg:Nat.gcd a b=1):Calls Tryz.prog 85 #[.agg #[.int .i64 (a:Nat), .int .i64 (b:Nat)]] w fun e w'=>e = .returned (.agg #[.int .i64 (a:Nat), .int .i64 (b:Nat), .int .i64 (a:Nat), .int .i64 (b:Nat), .int .i64 (a:Nat), .int .i64 (b:Nat)])∧Below w.heap.size w w':=by
  have PV:=Lib.hid (fun w=>pratval a b w ha hb0 hb hg)
  clear ha hb0 hb hg
  go_enter Tryz.func85,Tryz.ntmps85
  go_wp2_with fail
  have X:Row ((w.alloc (.cells #[.int .i64 (a:Nat), .int .i64 (b:Nat)] 62)).alloc (.cells #[.int .i64 0, .int .i64 0, .int .i64 0, .int .i64 0, .int .i64 0, .int .i64 0] 64)) w.heap.size 62 #[.int .i64 (a:Nat), .int .i64 (b:Nat)]:=row_alloc (row_new rfl) _
  have R:Row ((w.alloc (.cells #[.int .i64 (a:Nat), .int .i64 (b:Nat)] 62)).alloc (.cells #[.int .i64 0, .int .i64 0, .int .i64 0, .int .i64 0, .int .i64 0, .int .i64 0] 64)) (w.heap.size+1) 64 #[.int .i64 0, .int .i64 0, .int .i64 0, .int .i64 0, .int .i64 0, .int .i64 0]:=row_new (by simp)
  have o:Below w.heap.size w ((w.alloc (.cells #[.int .i64 (a:Nat), .int .i64 (b:Nat)] 62)).alloc (.cells #[.int .i64 0, .int .i64 0, .int .i64 0, .int .i64 0, .int .i64 0, .int .i64 0] 64)):=by (repeat (first | exact Below.refl _ _ | refine Below.setCell ?_ (by (try simp)<;>omega) _ | refine Below.alloc ?_ (by (try simp)<;>omega) _ | refine Below.drew ?_ | refine Below.trans ?_ (Below.mono (by assumption) (by (try simp)<;>omega))))
  generalize ((w.alloc (.cells #[.int .i64 (a:Nat), .int .i64 (b:Nat)] 62)).alloc (.cells #[.int .i64 0, .int .i64 0, .int .i64 0, .int .i64 0, .int .i64 0, .int .i64 0] 64))=w1 at X R o ⊢
  refine (PV.out _).mono ?_
  rintro e w2 ⟨rfl,hb2⟩
  replace X:=row_call X hb2
  replace R:=row_call R hb2
  replace o:=o.trans (hb2.mono o.size)
  clear hb2
  obtain ⟨X0,X1,Xf0,Xf1⟩:=row_two X
  obtain ⟨R0,R1,R2,R3,R4,R5,Rf0,Rf1,Rf2,Rf3,Rf4,Rf5⟩:=row_six R
  go_wp2
  exact bodyPost_ret (v := .agg #[.int .i64 (a:Nat), .int .i64 (b:Nat), .int .i64 (a:Nat), .int .i64 (b:Nat), .int .i64 (a:Nat), .int .i64 (b:Nat)]) (by simp [results,Tryz.results85,go_sem,R0,R1,R2,R3,R4,R5]) rfl ⟨rfl,below_six o (by omega) _ _ _ _ _ _⟩
theorem rexactR (a b:Nat) (w:World) (ha:a<9223372036854775808) (hb0:1≤b) (hb:b<9223372036854775808) (hg:Nat.gcd a b=1):Calls Tryz.prog 58 #[.agg #[.int .i64 (a:Nat), .int .i64 (b:Nat)]] w fun e w'=>e = .returned (.agg #[.int .i64 (a:Nat), .int .i64 (b:Nat), .int .i64 (a:Nat), .int .i64 (b:Nat), .int .i64 (a:Nat), .int .i64 (b:Nat)])∧Below w.heap.size w w':=by
  have PV:=Lib.hid (fun w=>rratval a b w ha hb0 hb hg)
  clear ha hb0 hb hg
  go_enter Tryz.func58,Tryz.ntmps58
  go_wp2_with fail
  have X:Row ((w.alloc (.cells #[.int .i64 (a:Nat), .int .i64 (b:Nat)] 62)).alloc (.cells #[.int .i64 0, .int .i64 0, .int .i64 0, .int .i64 0, .int .i64 0, .int .i64 0] 64)) w.heap.size 62 #[.int .i64 (a:Nat), .int .i64 (b:Nat)]:=row_alloc (row_new rfl) _
  have R:Row ((w.alloc (.cells #[.int .i64 (a:Nat), .int .i64 (b:Nat)] 62)).alloc (.cells #[.int .i64 0, .int .i64 0, .int .i64 0, .int .i64 0, .int .i64 0, .int .i64 0] 64)) (w.heap.size+1) 64 #[.int .i64 0, .int .i64 0, .int .i64 0, .int .i64 0, .int .i64 0, .int .i64 0]:=row_new (by simp)
  have o:Below w.heap.size w ((w.alloc (.cells #[.int .i64 (a:Nat), .int .i64 (b:Nat)] 62)).alloc (.cells #[.int .i64 0, .int .i64 0, .int .i64 0, .int .i64 0, .int .i64 0, .int .i64 0] 64)):=by (repeat (first | exact Below.refl _ _ | refine Below.setCell ?_ (by (try simp)<;>omega) _ | refine Below.alloc ?_ (by (try simp)<;>omega) _ | refine Below.drew ?_ | refine Below.trans ?_ (Below.mono (by assumption) (by (try simp)<;>omega))))
  generalize ((w.alloc (.cells #[.int .i64 (a:Nat), .int .i64 (b:Nat)] 62)).alloc (.cells #[.int .i64 0, .int .i64 0, .int .i64 0, .int .i64 0, .int .i64 0, .int .i64 0] 64))=w1 at X R o ⊢
  refine (PV.out _).mono ?_
  rintro e w2 ⟨rfl,hb2⟩
  replace X:=row_call X hb2
  replace R:=row_call R hb2
  replace o:=o.trans (hb2.mono o.size)
  clear hb2
  obtain ⟨X0,X1,Xf0,Xf1⟩:=row_two X
  obtain ⟨R0,R1,R2,R3,R4,R5,Rf0,Rf1,Rf2,Rf3,Rf4,Rf5⟩:=row_six R
  go_wp2
  exact bodyPost_ret (v := .agg #[.int .i64 (a:Nat), .int .i64 (b:Nat), .int .i64 (a:Nat), .int .i64 (b:Nat), .int .i64 (a:Nat), .int .i64 (b:Nat)]) (by simp [results,Tryz.results58,go_sem,R0,R1,R2,R3,R4,R5]) rfl ⟨rfl,below_six o (by omega) _ _ _ _ _ _⟩
end Go.Proofs.YtdipoojjlddohaaGreat
end
section
/- Lists of buckets: insertions, expiry, the question, walked. -/
namespace Go.Proofs.YtdipoojjlddohaaGreat
open Go.RowKit
set_option maxRecDepth 100000 in
theorem pbIns (A:Option Addr) (m c:Nat) (l:List Bk) (k:Nat) (t:Int) (w:World) (hin:BIn A m c l w) (hv:BV k l) (k1:1≤k) (k2:k≤128) (hm:m≤1000000) (t0:0≤t) (t1:t≤16777216) (ht:∀ b∈l,b.t≤t) (hT:btot l+1≤1073741824) :
    Calls Tryz.prog 211 #[.slice A m c, .int .i64 (k:Nat), .int .i64 t] w (BRet (Ins k l t 1) w):=by
  obtain ⟨ib,hib,iz0,iz1,iz2⟩:=info_parts info_bk
  have PV:=Lib.hid (fun w' (hb:Below w.heap.size w w')=>pbvalidL A m c l k w' (hin.below hb) hv ⟨k1,k2⟩ hm)
  have PM:=Lib.hid (fun w' (hb:Below w.heap.size w w')=>pbmay A m c l t w' (hin.below hb) t0 t1 ht)
  have PT:=Lib.hid (fun w' (hb:Below w.heap.size w w')=>pbtotal A m c l w' (hin.below hb) hv.lev (by omega))
  have PI:=Lib.hid (fun w' g c2 (h:Own w' 318 2 g m c2 (bcells l)) (hg:w.heap.size≤g) (hw:w.heap.size≤w'.heap.size)=>pbinsert w.heap.size (.slice (some ⟨g,0,none⟩) m c2) m l k t w' (h.row hg) hw hv k1 k2 t0 t1 ht hT)
  have hT2:decide ((1073741824:Int)≤(btot l:Int))=false:=decide_eq_false (by omega)
  have RD0:=hin.reads
  generalize btot l=N at PT hT2
  clear hT hv ht hin
  go_enter Tryz.func211,Tryz.ntmps211
  go_wp2_with fail
  refine (PV.out _ (Below.refl _ _)).mono ?_
  rintro e w1 ⟨rfl,o⟩
  go_wp2_with fail
  refine (PM.out _ o).mono ?_
  rintro e w2 ⟨rfl,hb⟩
  replace o:=o.trans (hb.mono o.size)
  clear hb
  go_wp2_with fail
  refine (PT.out _ o).mono ?_
  rintro e w3 ⟨rfl,hb⟩
  replace o:=o.trans (hb.mono o.size)
  clear hb
  have RD:=RD0.below o
  go_wp2_with (at_builtin;refine wpList_clone rfl _ _ 30 rfl 318 ib (.agg #[.int .i64 0, .int .i64 0]) 2 16 Tryz.underlying30 hib iz0 iz1 iz2 rfl (by decide) rfl w.heap.size A m c (bcells l) rfl RD o.size (bcells_one _) (by unfold maxLen;omega) (by omega) ?_;intro g c2 w4 own4 hg4 hb4 hz4)
  refine (PI.out _ _ _ own4 (by have:=o.size;omega) (by have:=o.size;omega)).mono ?_
  rintro e w5 ⟨v5,n5,l5,rfl,own5,hI,hb5⟩
  obtain ⟨A5,c5,rfl,rd5,h1,h2,h3⟩:=orow_forms own5
  replace o:=(o.trans (hb4.mono o.size)).trans hb5
  replace hI:=Lib.hid hI
  go_wp2
  go_ret
  exact ⟨A5,n5,c5,l5,rfl,⟨rd5,h1,h2⟩,hI.out,o,fun a e=>(h3 a e).1⟩
end Go.Proofs.YtdipoojjlddohaaGreat
end
section
/- Lists of buckets: expiry, the question, walked. -/
namespace Go.Proofs.YtdipoojjlddohaaGreat
open Go.RowKit
def lenE:Value→Nat
  | .slice _ n _=>n
  | _=>0
def ExpP (l:List Bk) (fst:Int) (l':List Bk):Prop:=∃ j,l'=l.drop j∧(∀ b∈l.take j,b.t<fst)∧∀ b∈l.drop j,fst≤b.t
def qLo (l:List Bk):Nat:=if l=[] then 0 else btot l-2 ^ topL l+1
def qV (lo hi:Nat):Value := .agg #[.int .i64 (lo:Nat), .int .i64 1, .int .i64 ((lo+hi) / 2:Nat), .int .i64 1, .int .i64 (hi:Nat), .int .i64 1]
set_option maxRecDepth 100000 in
set_option maxHeartbeats 4000000 in
theorem pbQuery (A:Option Addr) (m c:Nat) (l:List Bk) (w:World) (hin:BIn A m c l w) (hv:∀ b∈l,b.lv≤30) (hT:btot l≤1073741824) :
    Calls Tryz.prog 134 #[.slice A m c] w fun e w'=>e = .returned (qV (qLo l) (btot l))∧Below w.heap.size w w':=by
  have hln:=hin.len
  by_cases m0:m=0
  · obtain rfl:l=[]:=List.eq_nil_of_length_eq_zero (by omega)
    have m0b:((m:Int) == 0)=true:=by simp;omega
    have P1:=Lib.hid (fun w=>pratio 0 w)
    have P2:=Lib.hid (fun w=>pexactR 0 1 w (by decide) (by decide) (by decide) (by decide))
    clear hin hv hT hln m0
    rw [show qV (qLo []) (btot []) = .agg #[.int .i64 0, .int .i64 1, .int .i64 0, .int .i64 1, .int .i64 0, .int .i64 1] from rfl]
    go_enter Tryz.func134,Tryz.ntmps134
    go_upto_region 1 with (fail)
    have R:Row (w.alloc (.cells #[.int .i64 0, .int .i64 0, .int .i64 0, .int .i64 0, .int .i64 0, .int .i64 0] 64)) w.heap.size 64 #[.int .i64 0, .int .i64 0, .int .i64 0, .int .i64 0, .int .i64 0, .int .i64 0]:=row_new rfl
    have o:Below w.heap.size w (w.alloc (.cells #[.int .i64 0, .int .i64 0, .int .i64 0, .int .i64 0, .int .i64 0, .int .i64 0] 64)):=by (repeat (first | exact Below.refl _ _ | refine Below.setCell ?_ (by (try simp)<;>omega) _ | refine Below.alloc ?_ (by (try simp)<;>omega) _ | refine Below.drew ?_ | refine Below.trans ?_ (Below.mono (by assumption) (by (try simp)<;>omega))))
    generalize w.alloc (.cells #[.int .i64 0, .int .i64 0, .int .i64 0, .int .i64 0, .int .i64 0, .int .i64 0] 64)=w1 at R o ⊢
    go_wp2_with fail
    refine (P1.out _).mono ?_
    rintro e w2 ⟨rfl,hb⟩
    replace R:=row_call R hb
    replace o:=o.trans (hb.mono o.size)
    clear hb
    go_wp2_with fail
    refine (P2.out _).mono ?_
    rintro e w3 ⟨rfl,hb⟩
    replace R:=row_call R hb
    replace o:=o.trans (hb.mono o.size)
    clear hb
    obtain ⟨R0,R1,R2,R3,R4,R5,Rf0,Rf1,Rf2,Rf3,Rf4,Rf5⟩:=row_six R
    go_wp2
    have S:=row_six_of (row_set (row_set (row_set (row_set (row_set (row_set R 0 (.int .i64 0)) 1 (.int .i64 1)) 2 (.int .i64 0)) 3 (.int .i64 1)) 4 (.int .i64 0)) 5 (.int .i64 1))
    obtain ⟨S0,S1,S2,S3,S4,S5⟩:=S
    exact bodyPost_ret (v := .agg #[.int .i64 0, .int .i64 1, .int .i64 0, .int .i64 1, .int .i64 0, .int .i64 1]) (by simp [results,Tryz.results134,go_sem,S0,S1,S2,S3,S4,S5]) rfl ⟨rfl,below_six o (Nat.le_refl _) _ _ _ _ _ _⟩
  · obtain ⟨ad,rfl,hadb,hi0⟩:=hin.reads.bk (i:=0) (by omega)
    have hi0:BkCells w ad (bkAt l 0):=hi0
    have hne:l≠[]:=fun e=>by subst e;simp at hln;omega
    have m0b:((m:Int) == 0)=false:=by simp;omega
    have vB:=hv _ (bk_mem (l:=l) (i:=0) (by omega))
    have hle:=tot_mem (bk_mem (l:=l) (i:=0) (by omega))
    have PT:=Lib.hid (fun w' (hb:Below w.heap.size w w')=>pbtotal (some ad) m c l w' (hin.below hb) hv hT)
    have hq:qV (qLo l) (btot l)=qV (btot l-2 ^ (bkAt l 0).lv+1) (btot l):=by unfold qLo topL;rw [if_neg hne]
    rw [hq]
    have PL:=fun w=>pblevel ((bkAt l 0).lv:Nat) w (by omega) (by omega)
    obtain ⟨c0,c1⟩:=hi0
    generalize btot l=N at PT hle hT ⊢
    generalize (bkAt l 0).lv=tp at c1 vB hle PL ⊢
    replace PL:=Lib.hid PL
    have p1:=Nat.one_le_two_pow (n:=tp)
    have sw:RowKit.Hid (RowKit.wrap64 (2 ^ tp)=((2 ^ tp:Nat):Int)):=Lib.hid (by
      have e:((2:Int) ^ tp)=((2 ^ tp:Nat):Int):=by simp
      rw [e]
      exact IntWalk.wrap64_in _ (by omega))
    have PW:=fun w=>pwhole (N-2 ^ tp+1) N (by omega) (by omega) w
    unfold qV
    have i0:(0:Int)<(m:Int):=by omega
    have v0:(0:Int)≤(tp:Int):=by omega
    clear c0 hin hv hq hne m0 hln
    generalize hP:2 ^ tp=P at sw p1 hle PW ⊢
    have LO:RowKit.Hid (((N-P+1:Nat):Int)=(N:Int)-(P:Int)+1):=Lib.hid (by omega)
    generalize (N-P+1+N) / 2=md at PW ⊢
    generalize N-P+1=lo at PW LO ⊢
    replace PW:=Lib.hid PW
    clear hP
    have o:=Below.refl w.heap.size w
    go_enter Tryz.func134,Tryz.ntmps134
    go_upto_region 1 with (fail)
    have R:Row (w.alloc (.cells #[.int .i64 0, .int .i64 0, .int .i64 0, .int .i64 0, .int .i64 0, .int .i64 0] 64)) w.heap.size 64 #[.int .i64 0, .int .i64 0, .int .i64 0, .int .i64 0, .int .i64 0, .int .i64 0]:=row_new rfl
    replace o:=o.alloc o.size (.cells #[.int .i64 0, .int .i64 0, .int .i64 0, .int .i64 0, .int .i64 0, .int .i64 0] 64)
    generalize w.alloc (.cells #[.int .i64 0, .int .i64 0, .int .i64 0, .int .i64 0, .int .i64 0, .int .i64 0] 64)=w1 at R o ⊢
    go_wp2_with fail
    refine (PT.out _ o).mono ?_
    rintro e w2 ⟨rfl,hb⟩
    replace R:=row_call R hb
    replace o:=o.trans (hb.mono o.size)
    clear hb PT
    replace c1:=(o.cell (p:=⟨ad.block,ad.off+1,none⟩) hadb).trans c1
    go_upto_region 6 with (go_at_call 228;with_reducible refine (PL.out _).mono ?_;rintro e w9 ⟨rfl,h9⟩;obtain rfl:=h9.symm)
    rw [sw.out]
    clear PL sw c1
    go_wp2_with fail
    rw [← LO.out]
    refine (PW.out _).mono ?_
    rintro e w3 ⟨rfl,hb⟩
    replace R:=row_call R hb
    replace o:=o.trans (hb.mono o.size)
    clear hb PW
    go_upto_region 7 with (fail)
    have B:Row (w3.alloc (.cells #[.int .i64 (lo:Nat), .int .i64 1, .int .i64 (md:Nat), .int .i64 1, .int .i64 (N:Nat), .int .i64 1] 64)) w3.heap.size 64 #[.int .i64 (lo:Nat), .int .i64 1, .int .i64 (md:Nat), .int .i64 1, .int .i64 (N:Nat), .int .i64 1]:=row_new rfl
    replace R:=row_alloc R (.cells #[.int .i64 (lo:Nat), .int .i64 1, .int .i64 (md:Nat), .int .i64 1, .int .i64 (N:Nat), .int .i64 1] 64)
    replace o:=o.alloc o.size (.cells #[.int .i64 (lo:Nat), .int .i64 1, .int .i64 (md:Nat), .int .i64 1, .int .i64 (N:Nat), .int .i64 1] 64)
    generalize w3.alloc (.cells #[.int .i64 (lo:Nat), .int .i64 1, .int .i64 (md:Nat), .int .i64 1, .int .i64 (N:Nat), .int .i64 1] 64)=w4 at R B o ⊢
    generalize w3.heap.size=bb at B ⊢
    obtain ⟨R0,R1,R2,R3,R4,R5,Rf0,Rf1,Rf2,Rf3,Rf4,Rf5⟩:=row_six R
    obtain ⟨B0,B1,B2,B3,B4,B5,Bf0,Bf1,Bf2,Bf3,Bf4,Bf5⟩:=row_six B
    go_wp2
    have S:=row_six_of (row_set (row_set (row_set (row_set (row_set (row_set R 0 (.int .i64 (lo:Nat))) 1 (.int .i64 1)) 2 (.int .i64 (md:Nat))) 3 (.int .i64 1)) 4 (.int .i64 (N:Nat))) 5 (.int .i64 1))
    obtain ⟨S0,S1,S2,S3,S4,S5⟩:=S
    exact bodyPost_ret (v := .agg #[.int .i64 (lo:Nat), .int .i64 1, .int .i64 (md:Nat), .int .i64 1, .int .i64 (N:Nat), .int .i64 1]) (by simp [results,Tryz.results134,go_sem,S0,S1,S2,S3,S4,S5]) rfl ⟨rfl,below_six o (Nat.le_refl _) _ _ _ _ _ _⟩
end Go.Proofs.YtdipoojjlddohaaGreat
end
