/- What the law TopRelative needs, joined of its texts by a program (slim2.py); part 44. -/
import Derived.Test.YtdipoojjlddohaaGreatZTopRelative1
import Derived.Test.YtdipoojjlddohaaGreatZTopRelative4
import Derived.Test.YtdipoojjlddohaaGreatZTopRelative5
import Derived.Test.YtdipoojjlddohaaGreatZTopRelative7
import Derived.Test.YtdipoojjlddohaaGreatZTopRelative12
import Derived.Test.YtdipoojjlddohaaGreatZTopRelative15
import Derived.Test.YtdipoojjlddohaaGreatZTopRelative23
import Derived.Test.YtdipoojjlddohaaGreatZTopRelative25
import Derived.Test.YtdipoojjlddohaaGreatZTopRelative26
import Derived.Test.YtdipoojjlddohaaGreatZTopRelative43
set_option linter.unusedVariables false
set_option linter.unusedSimpArgs false
set_option linter.unusedSectionVars false
set_option linter.unnecessarySimpa false
set_option maxRecDepth 100000
namespace Go.Proofs.YtdipoojjlddohaaGreat
open MC
open MT
open Go.RowKit
theorem rsmost_1 (k cap:Int) (w:World) (h:1<=k/\k<=64/\1<=cap/\cap<=65536):Calls Tryz.prog 92 #[.int .i64 1,k,cap] w (Rd (.int .i64 (mostS 1 k cap)) w):=by
  rw [show mostS 1 k cap=2*k*(Lib.bitLen (cap:Int).toNat:Nat)+2 by unfold mostS;rw [if_pos ⟨by decide,h⟩];rfl];have hb:(((cap:Int).toNat:Nat):Int)=cap:=by omega
  have PB:=fun w=>rbits (cap:Int).toNat (by omega) w;rw [hb] at PB;have bb:Lib.bitLen (cap:Int).toNat<=64:=bits_le 64 _;generalize Lib.bitLen (cap:Int).toNat=b at PB bb |-
  replace PB:=Lib.hid PB;have PG:=fun w=>rmayk k w;rw [decide_eq_true ⟨h.1,h.2.1⟩] at PG;replace PG:=Lib.hid PG;have PA:=fun w=>rmayaggD 1 w;rw [decide_eq_true (by decide)] at PA;replace PA:=Lib.hid PA;have t0:¬ cap<1:=by omega
  have t1:¬ (65536:Int)<cap:=by omega
  have mm:0<=2*k*(b:Int)/\2*k*(b:Int)<=128*64:=⟨Int.mul_nonneg (by omega) (by omega),Int.mul_le_mul (by omega) (by omega) (by omega) (by decide)⟩
  have w1:IntKind.i64.wrap (2*k)=2*k:=IntWalk.i64_in _ (by omega);have w2:IntKind.i64.wrap (2*k*(b:Int))=2*k*(b:Int):=IntWalk.i64_in _ (by omega);have w3:IntKind.i64.wrap (2*k*(b:Int)+2)=2*k*(b:Int)+2:=IntWalk.i64_in _ (by omega);clear h hb mm bb;go_enter Tryz.func92,Tryz.ntmps92;go_wp2_with (first | (go_at_call 186;with_reducible refine (PG.out _).mono ?_;rintro e w9 ⟨rfl,h9⟩;obtain rfl:=h9.symm) | (go_at_call 185;with_reducible refine (PA.out _).mono ?_;rintro e w9 ⟨rfl,h9⟩;obtain rfl:=h9.symm) | (go_at_call 184;with_reducible refine (PB.out _).mono ?_;rintro e w9 ⟨rfl,h9⟩;obtain rfl:=h9.symm));go_ret;exact ⟨rfl,rfl⟩
theorem rsmost_2 (k cap:Int) (w:World) (h:1<=k/\k<=64/\1<=cap/\cap<=65536):Calls Tryz.prog 92 #[.int .i64 2,k,cap] w (Rd (.int .i64 (mostS 2 k cap)) w):=by
  rw [show mostS 2 k cap=2*k*(Lib.bitLen (cap*4096:Int).toNat:Nat)+2 by unfold mostS;rw [if_pos ⟨by decide,h⟩];rfl];have hb:(((cap*4096:Int).toNat:Nat):Int)=cap*4096:=by omega
  have PB:=fun w=>rbits (cap*4096:Int).toNat (by omega) w;rw [hb] at PB;have bb:Lib.bitLen (cap*4096:Int).toNat<=64:=bits_le 64 _;generalize Lib.bitLen (cap*4096:Int).toNat=b at PB bb |-
  replace PB:=Lib.hid PB;have PG:=fun w=>rmayk k w;rw [decide_eq_true ⟨h.1,h.2.1⟩] at PG;replace PG:=Lib.hid PG;have PA:=fun w=>rmayaggD 2 w;rw [decide_eq_true (by decide)] at PA;replace PA:=Lib.hid PA;have t0:¬ cap<1:=by omega
  have t1:¬ (65536:Int)<cap:=by omega
  have mm:0<=2*k*(b:Int)/\2*k*(b:Int)<=128*64:=⟨Int.mul_nonneg (by omega) (by omega),Int.mul_le_mul (by omega) (by omega) (by omega) (by decide)⟩
  have w1:IntKind.i64.wrap (2*k)=2*k:=IntWalk.i64_in _ (by omega);have w2:IntKind.i64.wrap (2*k*(b:Int))=2*k*(b:Int):=IntWalk.i64_in _ (by omega);have w3:IntKind.i64.wrap (2*k*(b:Int)+2)=2*k*(b:Int)+2:=IntWalk.i64_in _ (by omega);have wt:IntKind.i64.wrap (cap*4096)=cap*4096:=IntWalk.i64_in _ (by omega);clear h hb mm bb;go_enter Tryz.func92,Tryz.ntmps92;go_wp2_with (first | (go_at_call 186;with_reducible refine (PG.out _).mono ?_;rintro e w9 ⟨rfl,h9⟩;obtain rfl:=h9.symm) | (go_at_call 185;with_reducible refine (PA.out _).mono ?_;rintro e w9 ⟨rfl,h9⟩;obtain rfl:=h9.symm) | (go_at_call 184;with_reducible refine (PB.out _).mono ?_;rintro e w9 ⟨rfl,h9⟩;obtain rfl:=h9.symm));go_ret;exact ⟨rfl,rfl⟩
theorem rsmost_3 (k cap:Int) (w:World) (h:1<=k/\k<=64/\1<=cap/\cap<=65536):Calls Tryz.prog 92 #[.int .i64 3,k,cap] w (Rd (.int .i64 (mostS 3 k cap)) w):=by
  rw [show mostS 3 k cap=2*k*(Lib.bitLen (cap*16777216:Int).toNat:Nat)+2 by unfold mostS;rw [if_pos ⟨by decide,h⟩];rfl];have hb:(((cap*16777216:Int).toNat:Nat):Int)=cap*16777216:=by omega
  have PB:=fun w=>rbits (cap*16777216:Int).toNat (by omega) w;rw [hb] at PB;have bb:Lib.bitLen (cap*16777216:Int).toNat<=64:=bits_le 64 _;generalize Lib.bitLen (cap*16777216:Int).toNat=b at PB bb |-
  replace PB:=Lib.hid PB;have PG:=fun w=>rmayk k w;rw [decide_eq_true ⟨h.1,h.2.1⟩] at PG;replace PG:=Lib.hid PG;have PA:=fun w=>rmayaggD 3 w;rw [decide_eq_true (by decide)] at PA;replace PA:=Lib.hid PA;have t0:¬ cap<1:=by omega
  have t1:¬ (65536:Int)<cap:=by omega
  have mm:0<=2*k*(b:Int)/\2*k*(b:Int)<=128*64:=⟨Int.mul_nonneg (by omega) (by omega),Int.mul_le_mul (by omega) (by omega) (by omega) (by decide)⟩
  have w1:IntKind.i64.wrap (2*k)=2*k:=IntWalk.i64_in _ (by omega);have w2:IntKind.i64.wrap (2*k*(b:Int))=2*k*(b:Int):=IntWalk.i64_in _ (by omega);have w3:IntKind.i64.wrap (2*k*(b:Int)+2)=2*k*(b:Int)+2:=IntWalk.i64_in _ (by omega);have wt0:IntKind.i64.wrap (cap*4096)=cap*4096:=IntWalk.i64_in _ (by omega);have wt1:IntKind.i64.wrap (cap*4096*4096)=cap*16777216:=by rw [IntWalk.i64_in _ (by omega)];omega
  have wt:IntKind.i64.wrap (cap*16777216)=cap*16777216:=IntWalk.i64_in _ (by omega);clear h hb mm bb;go_enter Tryz.func92,Tryz.ntmps92;go_wp2_with (first | (go_at_call 186;with_reducible refine (PG.out _).mono ?_;rintro e w9 ⟨rfl,h9⟩;obtain rfl:=h9.symm) | (go_at_call 185;with_reducible refine (PA.out _).mono ?_;rintro e w9 ⟨rfl,h9⟩;obtain rfl:=h9.symm) | (go_at_call 184;with_reducible refine (PB.out _).mono ?_;rintro e w9 ⟨rfl,h9⟩;obtain rfl:=h9.symm));go_ret;exact ⟨rfl,rfl⟩
theorem rsmost_4 (k cap:Int) (w:World) (h:1<=k/\k<=64/\1<=cap/\cap<=65536):Calls Tryz.prog 92 #[.int .i64 4,k,cap] w (Rd (.int .i64 (mostS 4 k cap)) w):=by
  rw [show mostS 4 k cap=2*k*(Lib.bitLen (8192:Int).toNat:Nat)+2 by unfold mostS;rw [if_pos ⟨by decide,h⟩];rfl];have hb:(((8192:Int).toNat:Nat):Int)=8192:=by omega
  have PB:=fun w=>rbits (8192:Int).toNat (by omega) w;rw [hb] at PB;have bb:Lib.bitLen (8192:Int).toNat<=64:=bits_le 64 _;generalize Lib.bitLen (8192:Int).toNat=b at PB bb |-
  replace PB:=Lib.hid PB;have PG:=fun w=>rmayk k w;rw [decide_eq_true ⟨h.1,h.2.1⟩] at PG;replace PG:=Lib.hid PG;have PA:=fun w=>rmayaggD 4 w;rw [decide_eq_true (by decide)] at PA;replace PA:=Lib.hid PA;have t0:¬ cap<1:=by omega
  have t1:¬ (65536:Int)<cap:=by omega
  have mm:0<=2*k*(b:Int)/\2*k*(b:Int)<=128*64:=⟨Int.mul_nonneg (by omega) (by omega),Int.mul_le_mul (by omega) (by omega) (by omega) (by decide)⟩
  have w1:IntKind.i64.wrap (2*k)=2*k:=IntWalk.i64_in _ (by omega);have w2:IntKind.i64.wrap (2*k*(b:Int))=2*k*(b:Int):=IntWalk.i64_in _ (by omega);have w3:IntKind.i64.wrap (2*k*(b:Int)+2)=2*k*(b:Int)+2:=IntWalk.i64_in _ (by omega);clear h hb mm bb;go_enter Tryz.func92,Tryz.ntmps92;go_wp2_with (first | (go_at_call 186;with_reducible refine (PG.out _).mono ?_;rintro e w9 ⟨rfl,h9⟩;obtain rfl:=h9.symm) | (go_at_call 185;with_reducible refine (PA.out _).mono ?_;rintro e w9 ⟨rfl,h9⟩;obtain rfl:=h9.symm) | (go_at_call 184;with_reducible refine (PB.out _).mono ?_;rintro e w9 ⟨rfl,h9⟩;obtain rfl:=h9.symm));go_ret;exact ⟨rfl,rfl⟩
theorem rsmost_a (agg k cap:Int) (w:World) (h:¬ (1<=agg/\agg<=4)):Calls Tryz.prog 92 #[agg,k,cap] w (Rd (.int .i64 (mostS agg k cap)) w):=by
  rw [show mostS agg k cap=0 by unfold mostS;rw [if_neg (fun a=>h a.1)]];have PA:=fun w=>rmayaggD agg w;rw [decide_eq_false h] at PA;replace PA:=Lib.hid PA;go_enter Tryz.func92,Tryz.ntmps92;go_wp2_with (first | (go_at_call 185;with_reducible refine (PA.out _).mono ?_;rintro e w9 ⟨rfl,h9⟩;obtain rfl:=h9.symm));go_ret;exact ⟨rfl,rfl⟩
theorem rsmost_b (agg k cap:Int) (w:World) (hA:1<=agg/\agg<=4) (h:¬ (1<=k/\k<=64)):Calls Tryz.prog 92 #[agg,k,cap] w (Rd (.int .i64 (mostS agg k cap)) w):=by
  rw [show mostS agg k cap=0 by unfold mostS;rw [if_neg (fun a=>h ⟨a.2.1,a.2.2.1⟩)]];have PA:=fun w=>rmayaggD agg w;rw [decide_eq_true hA] at PA;replace PA:=Lib.hid PA;have PG:=fun w=>rmayk k w;rw [decide_eq_false h] at PG;replace PG:=Lib.hid PG;go_enter Tryz.func92,Tryz.ntmps92;go_wp2_with (first | (go_at_call 185;with_reducible refine (PA.out _).mono ?_;rintro e w9 ⟨rfl,h9⟩;obtain rfl:=h9.symm) | (go_at_call 186;with_reducible refine (PG.out _).mono ?_;rintro e w9 ⟨rfl,h9⟩;obtain rfl:=h9.symm));go_ret;exact ⟨rfl,rfl⟩
theorem rsmost_c (agg k cap:Int) (w:World) (hA:1<=agg/\agg<=4) (hK:1<=k/\k<=64) (h:cap<1):Calls Tryz.prog 92 #[agg,k,cap] w (Rd (.int .i64 (mostS agg k cap)) w):=by
  rw [show mostS agg k cap=0 by unfold mostS;rw [if_neg (fun a=>by have:=a.2.2.2.1;omega)]];have PA:=fun w=>rmayaggD agg w;rw [decide_eq_true hA] at PA;replace PA:=Lib.hid PA;have PG:=fun w=>rmayk k w;rw [decide_eq_true hK] at PG;replace PG:=Lib.hid PG;have t0:decide (cap<1)=true:=decide_eq_true h;go_enter Tryz.func92,Tryz.ntmps92;go_wp2_with (first | (go_at_call 185;with_reducible refine (PA.out _).mono ?_;rintro e w9 ⟨rfl,h9⟩;obtain rfl:=h9.symm) | (go_at_call 186;with_reducible refine (PG.out _).mono ?_;rintro e w9 ⟨rfl,h9⟩;obtain rfl:=h9.symm));go_ret;exact ⟨rfl,rfl⟩
theorem rsmost_d (agg k cap:Int) (w:World) (hA:1<=agg/\agg<=4) (hK:1<=k/\k<=64) (h0:1<=cap) (h:65536<cap):Calls Tryz.prog 92 #[agg,k,cap] w (Rd (.int .i64 (mostS agg k cap)) w):=by
  rw [show mostS agg k cap=0 by unfold mostS;rw [if_neg (fun a=>by have:=a.2.2.2.2;omega)]];have PA:=fun w=>rmayaggD agg w;rw [decide_eq_true hA] at PA;replace PA:=Lib.hid PA;have PG:=fun w=>rmayk k w;rw [decide_eq_true hK] at PG;replace PG:=Lib.hid PG;have t0:¬ cap<1:=by omega
  have t1:65536<cap:=h;go_enter Tryz.func92,Tryz.ntmps92;go_wp2_with (first | (go_at_call 185;with_reducible refine (PA.out _).mono ?_;rintro e w9 ⟨rfl,h9⟩;obtain rfl:=h9.symm) | (go_at_call 186;with_reducible refine (PG.out _).mono ?_;rintro e w9 ⟨rfl,h9⟩;obtain rfl:=h9.symm));go_ret;exact ⟨rfl,rfl⟩
theorem rsmost_no (agg k cap:Int) (w:World) (h:¬ ((1<=agg/\agg<=4)/\1<=k/\k<=64/\1<=cap/\cap<=65536)):Calls Tryz.prog 92 #[agg,k,cap] w (Rd (.int .i64 (mostS agg k cap)) w):=by
  by_cases hA:1<=agg/\agg<=4
  · by_cases hK:1<=k/\k<=64
    · by_cases h1:cap<1
      · exact rsmost_c agg k cap w hA hK h1
      · exact rsmost_d agg k cap w hA hK (by omega) (by omega)
    · exact rsmost_b agg k cap w hA hK
  · exact rsmost_a agg k cap w hA
theorem rsmost (agg k cap:Int) (w:World):Calls Tryz.prog 92 #[agg,k,cap] w (Rd (.int .i64 (mostS agg k cap)) w):=by
  by_cases hA:1<=agg/\agg<=4
  · by_cases h:1<=k/\k<=64/\1<=cap/\cap<=65536
    · have h4:agg=1∨agg=2∨agg=3∨agg=4:=by omega
      rcases h4 with rfl | rfl | rfl | rfl
      · exact rsmost_1 k cap w h
      · exact rsmost_2 k cap w h
      · exact rsmost_3 k cap w h
      · exact rsmost_4 k cap w h
    · exact rsmost_no agg k cap w (fun a=>h a.2)
  · exact rsmost_no agg k cap w (fun a=>hA a.1)
set_option maxRecDepth 100000 in
set_option maxHeartbeats 4000000 in
theorem precords (x0 x1 x2 x3 x4 x5 x6 x7 x8 x9 x10 x12 x13 x14 x15 x17 x18 x19 x20 x21 x23 x24 x25 x26 x27 x28 x30 x31 x32 x33 x34 x36 x37 x38 x40 x42 x43 x44 x45 x48 x49 x50 x52 x53 x54 x55:Value) (A1 A2 A3 A4:Option Addr) (m1 m2 m3 m4 c1 c2 c3 c4:Nat) (h1:m1<=100000) (h2:m2<=100000) (h3:m3<=100000) (h4:m4<=100000) (w:World) (HV:RowKit.Hid (∀ w',Below w w w'->Calls Tryz.prog 39 #[.agg #[x0,x1,x2,x3,x4,x5,x6,x7,x8,x9,x10, .slice none 0 0,x12,x13,x14,x15, .slice A1 m1 c1,x17,x18,x19,x20,x21, .slice A2 m2 c2,x23,x24,x25,x26,x27,x28, .slice A3 m3 c3,x30,x31,x32,x33,x34, .slice A4 m4 c4,x36,x37,x38, .slice none 0 0,x40, .slice none 0 0,x42,x43,x44,x45, .slice none 0 0, .slice none 0 0,x48,x49,x50, .slice none 0 0,x52,x53,x54,x55, .slice none 0 0]] w' (Rr (.int .i64 0) w'))):Calls Tryz.prog 30 #[.agg #[x0,x1,x2,x3,x4,x5,x6,x7,x8,x9,x10, .slice none 0 0,x12,x13,x14,x15, .slice A1 m1 c1,x17,x18,x19,x20,x21, .slice A2 m2 c2,x23,x24,x25,x26,x27,x28, .slice A3 m3 c3,x30,x31,x32,x33,x34, .slice A4 m4 c4,x36,x37,x38, .slice none 0 0,x40, .slice none 0 0,x42,x43,x44,x45, .slice none 0 0, .slice none 0 0,x48,x49,x50, .slice none 0 0,x52,x53,x54,x55, .slice none 0 0]] w (Rr (.int .i64 (m1+m2+m3+m4:Nat)) w):=by
  have k1:IntKind.i64.wrap (m1:Int)=m1:=IntWalk.i64_in _ (by omega);have k2:IntKind.i64.wrap ((m1:Int)+m2)=(m1:Int)+m2:=IntWalk.i64_in _ (by omega);have k3:IntKind.i64.wrap ((m1:Int)+m2+m3)=(m1:Int)+m2+m3:=IntWalk.i64_in _ (by omega);have k4:IntKind.i64.wrap ((m1:Int)+m2+m3+m4)=(m1:Int)+m2+m3+m4:=IntWalk.i64_in _ (by omega);go_enter Tryz.func30,Tryz.ntmps30;go_upto_region 1 with (fail)
  refine start1 (fun w1 X o=>?_);go_wp2_with (with_reducible refine wpList_lsyn_g X rfl rfl _ rfl rfl ?_);refine (HV.out _ o).mono ?_;rintro e w2 ⟨rfl,hb⟩;replace X:=row_call X hb;replace o:=o.trans (hb.mono o.size);clear hb HV;have q11:=rc9 X 11;have q16:=rc9 X 16;have q22:=rc9 X 22;have q29:=rc9 X 29;have q35:=rc9 X 35;have q39:=rc9 X 39;have q41:=rc9 X 41;have q46:=rc9 X 46;have q47:=rc9 X 47;have q51:=rc9 X 51;have q56:=rc9 X 56;clear X;go_wp2;go_loopw [3,59] (fun n i wr=>wr=w2/\i = .int .i64 0/\n = .int .i64 ((m1:Int)+m2+m3+m4)) (fun _ _ _=>0)
  case atStart=>exact ⟨rfl,rfl,rfl⟩
  case round =>
    obtain ⟨rfl,rfl,rfl⟩:=hrel;go_wp2;go_loopw [3,73] (fun n i w3=>w3=wr/\i = .int .i64 0/\n = .int .i64 ((m1:Int)+m2+m3+m4)) (fun _ _ _=>0)
    case atStart=>exact ⟨rfl,rfl,rfl⟩
    case round =>
      obtain ⟨rfl,rfl,rfl⟩:=hrel;go_wp2;go_ret;exact ⟨by simp,o⟩
theorem rmayk10 (k:Int) (w:World) (h0:1<=k) (h1:k<=128):Calls Tryz.prog 183 #[k] w (Rd (.bool true) w):=by
  go_enter Tryz.func183,Tryz.ntmps183;go_wp2_with fail;go_ret;exact ⟨by first | rfl | simp,rfl⟩
theorem rmost10 (k cap:Nat) (w:World) (h0:1<=k) (h1:k<=64) (h2:cap<=65536):Calls Tryz.prog 91 #[.int .i64 (k:Nat), .int .i64 (cap:Nat)] w (Rd (.int .i64 ((k+1)*Lib.bitLen cap:Nat)) w):=by
  have PM:=Lib.hid (fun w=>rmayk10 (k:Nat) w (by omega) (by omega));have PB:=fun w=>rbits cap (by omega) w;have hb:Lib.bitLen cap<=64:=bits_le 64 cap;generalize Lib.bitLen cap=b at PB hb |-
  replace PB:=Lib.hid PB;have hq:(k+1)*b<=65*64:=Nat.mul_le_mul (by omega) hb;have w1:IntKind.i64.wrap ((k:Int)+1)=(k:Int)+1:=IntWalk.i64_in _ (by omega)
  have w2:IntKind.i64.wrap (((k:Int)+1)*(b:Int))=(((k+1)*b:Nat):Int):=by
    rw [show ((k:Int)+1)*(b:Int)=(((k+1)*b:Nat):Int) by rw [Int.natCast_mul,Int.natCast_add];rfl];exact IntWalk.i64_in _ (by omega)
  generalize (((k+1)*b:Nat):Int)=r at w2 |-
  go_enter Tryz.func91,Tryz.ntmps91;go_wp2_with (first | (go_at_call 183;with_reducible refine (PM.out _).mono ?_;rintro e w9 ⟨rfl,h9⟩;obtain rfl:=h9.symm) | (go_at_call 184;with_reducible refine (PB.out _).mono ?_;rintro e w9 ⟨rfl,h9⟩;obtain rfl:=h9.symm));go_ret;exact ⟨rfl,rfl⟩
set_option maxRecDepth 100000 in
set_option maxHeartbeats 1000000 in
theorem rrangesCount (wd:Int) (k cap:Nat) (hw:1<=wd/\wd<=1048576) (hk:1<=k/\k<=64) (hc:1<=cap/\cap<=65536) (w:World):Calls Tryz.prog 182 #[.agg (J23 wd (k:Nat) (cap:Nat))] w (Rr (.bool true) w):=by
  have PY:=fun w=>rmay wd (cap:Nat) 0 w;rw [decide_eq_true (by omega)] at PY;have PK:=fun w=>rmayk (k:Nat) w;rw [decide_eq_true (by omega)] at PK;replace PY:=Lib.hid PY;replace PK:=Lib.hid PK;go_enter Tryz.func182,Tryz.ntmps182;go_upto_region 1 with (fail)
  have X:Row (w.alloc (.cells (J23 wd (k:Nat) (cap:Nat)) 27)) w.heap.size 27 (J23 wd (k:Nat) (cap:Nat)):=row_new rfl;have o:Below w w (w.alloc (.cells (J23 wd (k:Nat) (cap:Nat)) 27)):=bel9;generalize (w.alloc (.cells (J23 wd (k:Nat) (cap:Nat)) 27))=w1 at X o |-
  cases r8 X;go_wp2_with (first | (go_at_call 252;with_reducible refine (PY.out _).mono ?_;rintro e w9 ⟨rfl,h9⟩;obtain rfl:=h9.symm) | (go_at_call 186;with_reducible refine (PK.out _).mono ?_;rintro e w9 ⟨rfl,h9⟩;obtain rfl:=h9.symm));go_ret;exact ⟨by first | rfl | exact ret_bool (by simp) | simp,o⟩
set_option maxRecDepth 100000 in
set_option maxHeartbeats 2000000 in
theorem rval24Count (wd:Int) (k cap:Nat) (hw:1<=wd/\wd<=1048576) (hk:1<=k/\k<=64) (hc:1<=cap/\cap<=65536) (w:World):Calls Tryz.prog 90 #[.agg (J23 wd (k:Nat) (cap:Nat))] w (Rr (.int .i64 0) w):=by
  have PP:=Lib.hid (fun w=>pplainCount 0 wd (k:Nat) (cap:Nat) 0 0 0 w);have PR:=Lib.hid (fun w=>rrangesCount wd k cap hw hk hc w);go_enter Tryz.func90,Tryz.ntmps90;go_upto_region 1 with (fail)
  have X:Row (w.alloc (.cells (J23 wd (k:Nat) (cap:Nat)) 27)) w.heap.size 27 (J23 wd (k:Nat) (cap:Nat)):=row_new rfl;have o:Below w w (w.alloc (.cells (J23 wd (k:Nat) (cap:Nat)) 27)):=bel9;generalize (w.alloc (.cells (J23 wd (k:Nat) (cap:Nat)) 27))=w1 at X o |-
  refine wp_region_free0 [0,1,2,3,4,5,6,7] [] [0,1,2,3,4,5,6,7] 8 (fun w'=>Below w1 w1 w') (by kernel_rfl) (by kernel_rfl) (fun _ _ d _ _ h=>by cases d<;>exact h) ?_ ?_
  · exact (Below.refl _ _).drew
  iterate 2 (refine plv rfl rfl rfl (fun w' hS=>by cases r8 (row_call X hS);exact gs9) ?_;simp only [put9])
  refine plan_call (.agg (J23 wd (k:Nat) (cap:Nat))) 60 #[.agg (J23 wd (k:Nat) (cap:Nat))] rfl rfl rfl (fun _ _ h hb=>h.trans (hb.mono h.size)) (fun w' hS=>by cases r8 (row_call X hS);go_simp) (fun w' hS=>PP.out w') ?_;simp only [put9];iterate 2 (refine plp rfl rfl ?_;simp only [put9])
  (refine plv rfl rfl rfl (fun w' hS=>by cases r8 (row_call X hS);exact gs9) ?_;simp only [put9]);refine plan_call (.bool true) 182 #[.agg (J23 wd (k:Nat) (cap:Nat))] rfl rfl rfl (fun _ _ h hb=>h.trans (hb.mono h.size)) (fun w' hS=>by cases r8 (row_call X hS);go_simp) (fun w' hS=>PR.out w') ?_;simp only [put9];(refine plp rfl rfl ?_;simp only [put9]);refine plan_nil ?_;intro w3 L3;simp only [List.drop_succ_cons,List.drop_zero];try simp only [put9]
  replace o:=o.trans (L3.mono o.size);clear X L3;go_wp2;go_ret;exact ⟨rfl,o⟩
set_option maxRecDepth 100000 in
set_option maxHeartbeats 1000000 in
theorem rrec24Count (wd:Int) (k cap:Nat) (hw:1<=wd/\wd<=1048576) (hk:1<=k/\k<=64) (hc:1<=cap/\cap<=65536) (w:World):Calls Tryz.prog 31 #[.agg (J23 wd (k:Nat) (cap:Nat))] w (Rr (.int .i64 ((k+1)*Lib.bitLen cap:Nat)) w):=by
  have PV:=Lib.hid (fun w=>rval24Count wd k cap hw hk hc w);have PM:=Lib.hid (fun w=>rmost10 k cap w hk.1 hk.2 hc.2);go_enter Tryz.func31,Tryz.ntmps31;go_upto_region 1 with (fail)
  have X:Row (w.alloc (.cells (J23 wd (k:Nat) (cap:Nat)) 27)) w.heap.size 27 (J23 wd (k:Nat) (cap:Nat)):=row_new rfl;have o:Below w w (w.alloc (.cells (J23 wd (k:Nat) (cap:Nat)) 27)):=bel9;generalize (w.alloc (.cells (J23 wd (k:Nat) (cap:Nat)) 27))=w1 at X o |-
  obtain ⟨X0,X1,X2,X3,X4,X5,X6,X7,Xf0,Xf1,Xf2,Xf3,Xf4,Xf5,Xf6,Xf7⟩:=row_eight X;go_wp2_with fail;refine (PV.out _).mono ?_;rintro e w2 ⟨rfl,hb⟩;replace X:=row_call X hb;replace o:=o.trans (hb.mono o.size);clear hb PV X0 Xf0 X1 Xf1 X2 Xf2 X3 Xf3 X4 Xf4 X5 Xf5 X6 Xf6 X7 Xf7;obtain ⟨X0,X1,X2,X3,X4,X5,X6,X7,Xf0,Xf1,Xf2,Xf3,Xf4,Xf5,Xf6,Xf7⟩:=row_eight X;go_wp2_with (go_at_call 91;with_reducible refine (PM.out _).mono ?_;rintro e w9 ⟨rfl,h9⟩;obtain rfl:=h9.symm);go_ret;exact ⟨rfl,o⟩
set_option maxRecDepth 100000 in
set_option maxHeartbeats 1000000 in
theorem rrangesSum (wd:Int) (k cap mx:Nat) (hw:1<=wd/\wd<=1048576) (hk:1<=k/\k<=64) (hc:1<=cap/\cap<=65536) (hm:1<=mx/\mx<=1024) (w:World):Calls Tryz.prog 182 #[.agg (J22 wd (k:Nat) (cap:Nat) (mx:Nat))] w (Rr (.bool true) w):=by
  have PY:=fun w=>rmay wd (cap:Nat) 0 w;rw [decide_eq_true (by omega)] at PY;have PK:=fun w=>rmayk (k:Nat) w;rw [decide_eq_true (by omega)] at PK;have m1:(1:Int)<=(mx:Int):=by omega
  have m3:1<=mx:=by omega
  have m2:(mx:Int)<=1024:=by omega
  replace PY:=Lib.hid PY;replace PK:=Lib.hid PK;go_enter Tryz.func182,Tryz.ntmps182;go_upto_region 1 with (fail)
  have X:Row (w.alloc (.cells (J22 wd (k:Nat) (cap:Nat) (mx:Nat)) 27)) w.heap.size 27 (J22 wd (k:Nat) (cap:Nat) (mx:Nat)):=row_new rfl;have o:Below w w (w.alloc (.cells (J22 wd (k:Nat) (cap:Nat) (mx:Nat)) 27)):=bel9;generalize (w.alloc (.cells (J22 wd (k:Nat) (cap:Nat) (mx:Nat)) 27))=w1 at X o |-
  cases r8 X;go_wp2_with (first | (go_at_call 252;with_reducible refine (PY.out _).mono ?_;rintro e w9 ⟨rfl,h9⟩;obtain rfl:=h9.symm) | (go_at_call 186;with_reducible refine (PK.out _).mono ?_;rintro e w9 ⟨rfl,h9⟩;obtain rfl:=h9.symm));go_ret;exact ⟨by first | rfl | exact ret_bool (by simp) | simp,o⟩
set_option maxRecDepth 100000 in
set_option maxHeartbeats 2000000 in
theorem rval24Sum (wd:Int) (k cap mx:Nat) (hw:1<=wd/\wd<=1048576) (hk:1<=k/\k<=64) (hc:1<=cap/\cap<=65536) (hm:1<=mx/\mx<=1024) (w:World):Calls Tryz.prog 90 #[.agg (J22 wd (k:Nat) (cap:Nat) (mx:Nat))] w (Rr (.int .i64 0) w):=by
  have PP:=Lib.hid (fun w=>pplainSum 0 wd (k:Nat) (cap:Nat) 0 0 (mx:Nat) w);have PR:=Lib.hid (fun w=>rrangesSum wd k cap mx hw hk hc hm w);go_enter Tryz.func90,Tryz.ntmps90;go_upto_region 1 with (fail)
  have X:Row (w.alloc (.cells (J22 wd (k:Nat) (cap:Nat) (mx:Nat)) 27)) w.heap.size 27 (J22 wd (k:Nat) (cap:Nat) (mx:Nat)):=row_new rfl;have o:Below w w (w.alloc (.cells (J22 wd (k:Nat) (cap:Nat) (mx:Nat)) 27)):=bel9;generalize (w.alloc (.cells (J22 wd (k:Nat) (cap:Nat) (mx:Nat)) 27))=w1 at X o |-
  refine wp_region_free0 [0,1,2,3,4,5,6,7] [] [0,1,2,3,4,5,6,7] 8 (fun w'=>Below w1 w1 w') (by kernel_rfl) (by kernel_rfl) (fun _ _ d _ _ h=>by cases d<;>exact h) ?_ ?_
  · exact (Below.refl _ _).drew
  iterate 2 (refine plv rfl rfl rfl (fun w' hS=>by cases r8 (row_call X hS);exact gs9) ?_;simp only [put9])
  refine plan_call (.agg (J22 wd (k:Nat) (cap:Nat) (mx:Nat))) 60 #[.agg (J22 wd (k:Nat) (cap:Nat) (mx:Nat))] rfl rfl rfl (fun _ _ h hb=>h.trans (hb.mono h.size)) (fun w' hS=>by cases r8 (row_call X hS);go_simp) (fun w' hS=>PP.out w') ?_;simp only [put9];iterate 2 (refine plp rfl rfl ?_;simp only [put9])
  (refine plv rfl rfl rfl (fun w' hS=>by cases r8 (row_call X hS);exact gs9) ?_;simp only [put9]);refine plan_call (.bool true) 182 #[.agg (J22 wd (k:Nat) (cap:Nat) (mx:Nat))] rfl rfl rfl (fun _ _ h hb=>h.trans (hb.mono h.size)) (fun w' hS=>by cases r8 (row_call X hS);go_simp) (fun w' hS=>PR.out w') ?_;simp only [put9];(refine plp rfl rfl ?_;simp only [put9]);refine plan_nil ?_;intro w3 L3;simp only [List.drop_succ_cons,List.drop_zero];try simp only [put9]
  replace o:=o.trans (L3.mono o.size);clear X L3;go_wp2;go_ret;exact ⟨rfl,o⟩
set_option maxRecDepth 100000 in
set_option maxHeartbeats 1000000 in
theorem rrec24Sum (wd:Int) (k cap mx:Nat) (hw:1<=wd/\wd<=1048576) (hk:1<=k/\k<=64) (hc:1<=cap/\cap<=65536) (hm:1<=mx/\mx<=1024) (w:World):Calls Tryz.prog 31 #[.agg (J22 wd (k:Nat) (cap:Nat) (mx:Nat))] w (Rr (.int .i64 ((k+1)*Lib.bitLen cap:Nat)) w):=by
  have PV:=Lib.hid (fun w=>rval24Sum wd k cap mx hw hk hc hm w);have PM:=Lib.hid (fun w=>rmost10 k cap w hk.1 hk.2 hc.2);go_enter Tryz.func31,Tryz.ntmps31;go_upto_region 1 with (fail)
  have X:Row (w.alloc (.cells (J22 wd (k:Nat) (cap:Nat) (mx:Nat)) 27)) w.heap.size 27 (J22 wd (k:Nat) (cap:Nat) (mx:Nat)):=row_new rfl;have o:Below w w (w.alloc (.cells (J22 wd (k:Nat) (cap:Nat) (mx:Nat)) 27)):=bel9;generalize (w.alloc (.cells (J22 wd (k:Nat) (cap:Nat) (mx:Nat)) 27))=w1 at X o |-
  obtain ⟨X0,X1,X2,X3,X4,X5,X6,X7,Xf0,Xf1,Xf2,Xf3,Xf4,Xf5,Xf6,Xf7⟩:=row_eight X;go_wp2_with fail;refine (PV.out _).mono ?_;rintro e w2 ⟨rfl,hb⟩;replace X:=row_call X hb;replace o:=o.trans (hb.mono o.size);clear hb PV X0 Xf0 X1 Xf1 X2 Xf2 X3 Xf3 X4 Xf4 X5 Xf5 X6 Xf6 X7 Xf7;obtain ⟨X0,X1,X2,X3,X4,X5,X6,X7,Xf0,Xf1,Xf2,Xf3,Xf4,Xf5,Xf6,Xf7⟩:=row_eight X;go_wp2_with (go_at_call 91;with_reducible refine (PM.out _).mono ?_;rintro e w9 ⟨rfl,h9⟩;obtain rfl:=h9.symm);go_ret;exact ⟨rfl,o⟩
set_option maxRecDepth 100000 in
set_option maxHeartbeats 1000000 in
theorem rrangesSmooth (agg wd k cap:Int) (hw:1<=wd/\wd<=1048576) (hk:1<=k/\k<=64) (hc:1<=cap/\cap<=65536) (ha:1<=agg/\agg<=4) (w:World):Calls Tryz.prog 182 #[.agg (J32 agg wd k cap)] w (Rr (.bool true) w):=by
  have PY:=fun w=>rmay wd cap 0 w;rw [decide_eq_true (by omega)] at PY;have PK:=fun w=>rmayk k w;rw [decide_eq_true (by omega)] at PK;have PA:=fun w=>rmayagg agg w;rw [decide_eq_true ha] at PA;replace PA:=Lib.hid PA;replace PY:=Lib.hid PY;replace PK:=Lib.hid PK;go_enter Tryz.func182,Tryz.ntmps182;go_upto_region 1 with (fail)
  have X:Row (w.alloc (.cells (J32 agg wd k cap) 27)) w.heap.size 27 (J32 agg wd k cap):=row_new rfl;have o:Below w w (w.alloc (.cells (J32 agg wd k cap) 27)):=bel9;generalize (w.alloc (.cells (J32 agg wd k cap) 27))=w1 at X o |-
  cases r8 X;go_wp2_with (first | (go_at_call 252;with_reducible refine (PY.out _).mono ?_;rintro e w9 ⟨rfl,h9⟩;obtain rfl:=h9.symm) | (go_at_call 186;with_reducible refine (PK.out _).mono ?_;rintro e w9 ⟨rfl,h9⟩;obtain rfl:=h9.symm) | (go_at_call 185;with_reducible refine (PA.out _).mono ?_;rintro e w9 ⟨rfl,h9⟩;obtain rfl:=h9.symm));go_ret;exact ⟨by first | rfl | exact ret_bool (by simp) | simp,o⟩
set_option maxRecDepth 100000 in
set_option maxHeartbeats 2000000 in
theorem rval24Smooth (agg wd k cap:Int) (hw:1<=wd/\wd<=1048576) (hk:1<=k/\k<=64) (hc:1<=cap/\cap<=65536) (ha:1<=agg/\agg<=4) (w:World):Calls Tryz.prog 90 #[.agg (J32 agg wd k cap)] w (Rr (.int .i64 0) w):=by
  have PP:=Lib.hid (fun w=>pplainSmooth agg wd k cap 0 0 0 w);have PR:=Lib.hid (fun w=>rrangesSmooth agg wd k cap hw hk hc ha w);go_enter Tryz.func90,Tryz.ntmps90;go_upto_region 1 with (fail)
  have X:Row (w.alloc (.cells (J32 agg wd k cap) 27)) w.heap.size 27 (J32 agg wd k cap):=row_new rfl;have o:Below w w (w.alloc (.cells (J32 agg wd k cap) 27)):=bel9;generalize (w.alloc (.cells (J32 agg wd k cap) 27))=w1 at X o |-
  refine wp_region_free0 [0,1,2,3,4,5,6,7] [] [0,1,2,3,4,5,6,7] 8 (fun w'=>Below w1 w1 w') (by kernel_rfl) (by kernel_rfl) (fun _ _ d _ _ h=>by cases d<;>exact h) ?_ ?_
  · exact (Below.refl _ _).drew
  iterate 2 (refine plv rfl rfl rfl (fun w' hS=>by cases r8 (row_call X hS);exact gs9) ?_;simp only [put9])
  refine plan_call (.agg (J32 agg wd k cap)) 60 #[.agg (J32 agg wd k cap)] rfl rfl rfl (fun _ _ h hb=>h.trans (hb.mono h.size)) (fun w' hS=>by cases r8 (row_call X hS);go_simp) (fun w' hS=>PP.out w') ?_;simp only [put9];iterate 2 (refine plp rfl rfl ?_;simp only [put9])
  (refine plv rfl rfl rfl (fun w' hS=>by cases r8 (row_call X hS);exact gs9) ?_;simp only [put9]);refine plan_call (.bool true) 182 #[.agg (J32 agg wd k cap)] rfl rfl rfl (fun _ _ h hb=>h.trans (hb.mono h.size)) (fun w' hS=>by cases r8 (row_call X hS);go_simp) (fun w' hS=>PR.out w') ?_;simp only [put9];(refine plp rfl rfl ?_;simp only [put9]);refine plan_nil ?_;intro w3 L3;simp only [List.drop_succ_cons,List.drop_zero];try simp only [put9]
  replace o:=o.trans (L3.mono o.size);clear X L3;go_wp2;go_ret;exact ⟨rfl,o⟩
set_option maxRecDepth 100000 in
set_option maxHeartbeats 1000000 in
theorem rrec24Smooth (agg wd k cap:Int) (hw:1<=wd/\wd<=1048576) (hk:1<=k/\k<=64) (hc:1<=cap/\cap<=65536) (ha:1<=agg/\agg<=4) (w:World):Calls Tryz.prog 31 #[.agg (J32 agg wd k cap)] w (Rr (.int .i64 (mostS agg k cap)) w):=by
  have PV:=Lib.hid (fun w=>rval24Smooth agg wd k cap hw hk hc ha w);have PM:=Lib.hid (fun w=>rsmost agg k cap w);go_enter Tryz.func31,Tryz.ntmps31;go_upto_region 1 with (fail)
  have X:Row (w.alloc (.cells (J32 agg wd k cap) 27)) w.heap.size 27 (J32 agg wd k cap):=row_new rfl;have o:Below w w (w.alloc (.cells (J32 agg wd k cap) 27)):=bel9;generalize (w.alloc (.cells (J32 agg wd k cap) 27))=w1 at X o |-
  obtain ⟨X0,X1,X2,X3,X4,X5,X6,X7,Xf0,Xf1,Xf2,Xf3,Xf4,Xf5,Xf6,Xf7⟩:=row_eight X;go_wp2_with fail;refine (PV.out _).mono ?_;rintro e w2 ⟨rfl,hb⟩;replace X:=row_call X hb;replace o:=o.trans (hb.mono o.size);clear hb PV X0 Xf0 X1 Xf1 X2 Xf2 X3 Xf3 X4 Xf4 X5 Xf5 X6 Xf6 X7 Xf7;obtain ⟨X0,X1,X2,X3,X4,X5,X6,X7,Xf0,Xf1,Xf2,Xf3,Xf4,Xf5,Xf6,Xf7⟩:=row_eight X;go_wp2_with (go_at_call 92;with_reducible refine (PM.out _).mono ?_;rintro e w9 ⟨rfl,h9⟩;obtain rfl:=h9.symm);go_ret;exact ⟨rfl,o⟩
set_option maxRecDepth 100000 in
set_option maxHeartbeats 1000000 in
theorem rrangesSpread (wd k cap:Int) (hw:1<=wd/\wd<=1048576) (hk:1<=k/\k<=64) (hc:1<=cap/\cap<=65536) (w:World):Calls Tryz.prog 182 #[.agg (J28 wd k cap)] w (Rr (.bool true) w):=by
  have PY:=fun w=>rmay wd cap 0 w;rw [decide_eq_true (by omega)] at PY;have PK:=fun w=>rmayk k w;rw [decide_eq_true (by omega)] at PK;replace PY:=Lib.hid PY;replace PK:=Lib.hid PK;go_enter Tryz.func182,Tryz.ntmps182;go_upto_region 1 with (fail)
  have X:Row (w.alloc (.cells (J28 wd k cap) 27)) w.heap.size 27 (J28 wd k cap):=row_new rfl;have o:Below w w (w.alloc (.cells (J28 wd k cap) 27)):=bel9;generalize (w.alloc (.cells (J28 wd k cap) 27))=w1 at X o |-
  cases r8 X;go_wp2_with (first | (go_at_call 252;with_reducible refine (PY.out _).mono ?_;rintro e w9 ⟨rfl,h9⟩;obtain rfl:=h9.symm) | (go_at_call 186;with_reducible refine (PK.out _).mono ?_;rintro e w9 ⟨rfl,h9⟩;obtain rfl:=h9.symm));go_ret;exact ⟨by first | rfl | exact ret_bool (by simp) | simp,o⟩
set_option maxRecDepth 100000 in
set_option maxHeartbeats 2000000 in
theorem rval24Spread (wd k cap:Int) (hw:1<=wd/\wd<=1048576) (hk:1<=k/\k<=64) (hc:1<=cap/\cap<=65536) (w:World):Calls Tryz.prog 90 #[.agg (J28 wd k cap)] w (Rr (.int .i64 0) w):=by
  have PP:=Lib.hid (fun w=>pplainSpread 0 wd k cap 0 0 0 w);have PR:=Lib.hid (fun w=>rrangesSpread wd k cap hw hk hc w);go_enter Tryz.func90,Tryz.ntmps90;go_upto_region 1 with (fail)
  have X:Row (w.alloc (.cells (J28 wd k cap) 27)) w.heap.size 27 (J28 wd k cap):=row_new rfl;have o:Below w w (w.alloc (.cells (J28 wd k cap) 27)):=bel9;generalize (w.alloc (.cells (J28 wd k cap) 27))=w1 at X o |-
  refine wp_region_free0 [0,1,2,3,4,5,6,7] [] [0,1,2,3,4,5,6,7] 8 (fun w'=>Below w1 w1 w') (by kernel_rfl) (by kernel_rfl) (fun _ _ d _ _ h=>by cases d<;>exact h) ?_ ?_
  · exact (Below.refl _ _).drew
  iterate 2 (refine plv rfl rfl rfl (fun w' hS=>by cases r8 (row_call X hS);exact gs9) ?_;simp only [put9])
  refine plan_call (.agg (J28 wd k cap)) 60 #[.agg (J28 wd k cap)] rfl rfl rfl (fun _ _ h hb=>h.trans (hb.mono h.size)) (fun w' hS=>by cases r8 (row_call X hS);go_simp) (fun w' hS=>PP.out w') ?_;simp only [put9];iterate 2 (refine plp rfl rfl ?_;simp only [put9])
  (refine plv rfl rfl rfl (fun w' hS=>by cases r8 (row_call X hS);exact gs9) ?_;simp only [put9]);refine plan_call (.bool true) 182 #[.agg (J28 wd k cap)] rfl rfl rfl (fun _ _ h hb=>h.trans (hb.mono h.size)) (fun w' hS=>by cases r8 (row_call X hS);go_simp) (fun w' hS=>PR.out w') ?_;simp only [put9];(refine plp rfl rfl ?_;simp only [put9]);refine plan_nil ?_;intro w3 L3;simp only [List.drop_succ_cons,List.drop_zero];try simp only [put9]
  replace o:=o.trans (L3.mono o.size);clear X L3;go_wp2;go_ret;exact ⟨rfl,o⟩
set_option maxRecDepth 100000 in
set_option maxHeartbeats 1000000 in
theorem rrec24Spread (wd k cap:Int) (hw:1<=wd/\wd<=1048576) (hk:1<=k/\k<=64) (hc:1<=cap/\cap<=65536) (w:World):Calls Tryz.prog 31 #[.agg (J28 wd k cap)] w (Rr (.int .i64 (mostV k cap)) w):=by
  have PV:=Lib.hid (fun w=>rval24Spread wd k cap hw hk hc w);have PM:=Lib.hid (fun w=>rmost k cap w);go_enter Tryz.func31,Tryz.ntmps31;go_upto_region 1 with (fail)
  have X:Row (w.alloc (.cells (J28 wd k cap) 27)) w.heap.size 27 (J28 wd k cap):=row_new rfl;have o:Below w w (w.alloc (.cells (J28 wd k cap) 27)):=bel9;generalize (w.alloc (.cells (J28 wd k cap) 27))=w1 at X o |-
  obtain ⟨X0,X1,X2,X3,X4,X5,X6,X7,Xf0,Xf1,Xf2,Xf3,Xf4,Xf5,Xf6,Xf7⟩:=row_eight X;go_wp2_with fail;refine (PV.out _).mono ?_;rintro e w2 ⟨rfl,hb⟩;replace X:=row_call X hb;replace o:=o.trans (hb.mono o.size);clear hb PV X0 Xf0 X1 Xf1 X2 Xf2 X3 Xf3 X4 Xf4 X5 Xf5 X6 Xf6 X7 Xf7;obtain ⟨X0,X1,X2,X3,X4,X5,X6,X7,Xf0,Xf1,Xf2,Xf3,Xf4,Xf5,Xf6,Xf7⟩:=row_eight X;go_wp2_with (go_at_call 93;with_reducible refine (PM.out _).mono ?_;rintro e w9 ⟨rfl,h9⟩;obtain rfl:=h9.symm);go_ret;exact ⟨rfl,o⟩
theorem bk_lower {k:Nat} {l:List Bk} (h:BV k l):∀ n,(l.filter fun b=>decide (b.lv<n)).length<=(k+1)*n
  | 0=>by simp
  | n+1=>by
    have ih:=bk_lower h n;have hm:=h.most n
    have step:∀ a:List Bk,(a.filter fun b=>decide (b.lv<n+1)).length=(a.filter fun b=>decide (b.lv<n)).length+cnt a n:=by
      intro a
      induction a with
      | nil=>simp [cnt_nil]
      | cons x a ih =>
        rw [cnt_cons];rcases Nat.lt_trichotomy x.lv n with g | g | g
        · rw [List.filter_cons_of_pos (by simp;omega),List.filter_cons_of_pos (by simpa using g),List.length_cons,List.length_cons,ih,if_neg (by omega)];omega
        · rw [List.filter_cons_of_pos (by simp;omega),List.filter_cons_of_neg (by simp;omega),List.length_cons,ih,if_pos g];omega
        · rw [List.filter_cons_of_neg (by simp;omega),List.filter_cons_of_neg (by simp;omega),ih,if_neg (by omega)];simp
    rw [step,Nat.mul_add];omega
theorem bk_few {k cap:Nat} {l:List Bk} (h:BV k l) (hc:btot l<=cap) (hs:cap<=65536):l.length<=(k+1)*Lib.bitLen cap:=by
  cases l with
  | nil=>exact Nat.zero_le _
  | cons x l =>
    have h1:=bk_lower h (x.lv+1)
    have h2:((x :: l).filter fun b=>decide (b.lv<x.lv+1))=x :: l:=List.filter_eq_self.2 fun b hb=>by
      have:=top_mem h.ord b hb;rw [topL_cons] at this;simp;omega
    rw [h2] at h1;have h3:=tot_mem (l:=x :: l) (b:=x) (by simp)
    have h4:x.lv+1<=Lib.bitLen cap:=by
      by_cases e:x.lv+1<=Lib.bitLen cap
      · exact e
      · have:=bitLen_gt cap (by omega);have h6:2 ^ Lib.bitLen cap<=2 ^ x.lv:=Nat.pow_le_pow_right (by omega) (by omega);omega
    exact Nat.le_trans h1 (Nat.mul_le_mul_left _ h4)
end Go.Proofs.YtdipoojjlddohaaGreat
