/- What the law TopExact needs, joined of its texts by a program (slim2.py); part 41. -/
import Derived.Test.YtdipoojjlddohaaGreatZTopExact1
import Derived.Test.YtdipoojjlddohaaGreatZTopExact3
import Derived.Test.YtdipoojjlddohaaGreatZTopExact40
set_option linter.unusedVariables false
set_option linter.unusedSimpArgs false
set_option linter.unusedSectionVars false
set_option linter.unnecessarySimpa false
section
/- Counters that halve: a step of the clock, walked. -/
set_option maxRecDepth 100000
namespace Go.Proofs.YtdipoojjlddohaaGreat
open Go.RowKit Go.Shelf
theorem ctick_yes (t:Int) (h0:0≤t) (h1:t≤16777216) (w:World):Calls Tryz.prog 230 #[.int .i64 t] w fun e w'=>e = .returned (.bool true)∧w'=w:=by
  go_enter Tryz.func230,Tryz.ntmps230
  go_wp2
  go_ret
  exact ⟨rfl,rfl⟩
theorem cadv_ok (now tt9:Int) (h0:0≤now) (h1:now≤16777216) (h2:now≤tt9) (h3:tt9≤16777216) (w:World):Calls Tryz.prog 157 #[.int .i64 now, .int .i64 tt9] w fun e w'=>e = .returned (.tuple #[.int .i64 tt9, .int .i64 0])∧w'=w:=by
  go_enter Tryz.func157,Tryz.ntmps157
  go_wp2_with (go_at_call 230;refine (ctick_yes _ h0 h1 _).mono ?_;rintro e w9 ⟨rfl,rfl⟩)
  go_ret2
  exact ⟨rfl,rfl⟩
theorem copy_clear {zs:List Int} {k n d:Nat} (hk:k=min d zs.length) (hn:n=zs.length) :
    List.replicate k (Value.int .i64 0) ++ (splice (zs.map (Value.int .i64)) k ((zs.map (Value.int .i64)).take (n-k))).drop k=(hshift zs d).map (Value.int .i64):=by
  subst hn
  rw [← hshift_min,← hk]
  have hle:k≤zs.length:=by omega
  unfold splice
  rw [List.drop_append_of_le_length (by simp [hle]),List.drop_of_length_le (by simp;omega)]
  simp only [List.nil_append,List.map_append,List.map_replicate,List.map_take]
  rw [List.drop_of_length_le (by simp;omega)]
  simp
theorem shift_bound {zs:List Int} (h:∀ k, -9223372036854775808≤zs.getD k 0∧zs.getD k 0≤9223372036854775807) (d k:Nat) : -9223372036854775808≤(hshift zs d).getD k 0∧(hshift zs d).getD k 0≤9223372036854775807:=by
  by_cases hk:k<zs.length
  · rw [hshift_at hk]
    split
    · exact ⟨by decide,by decide⟩
    · exact h _
  · rw [List.getD_eq_getElem?_getD,List.getElem?_eq_none (by rw [hshift_len];omega)]
    exact ⟨by decide,by decide⟩
theorem sz_i64:(Tryz.prog.info? 2).map (·.size)=some 1:=by kernel_rfl
theorem zero_i64 (w:World):(zeroValue 2).run Tryz.prog w = .ok (.int .i64 0) w:=by kernel_rfl
set_option maxHeartbeats 1000000 in
theorem phadv_ok (now:Int) (A:Option Addr) (n c:Nat) (zs:List Int) (tt9:Int) (w:World) (hin:HIn now A n c zs w) (hv:hvalE now zs=0) (h1:now≤tt9) (h2:tt9≤16777216) :
    Calls Tryz.prog 70 #[.agg #[.int .i64 now, .slice A n c], .int .i64 tt9] w fun e w'=>HRet (hadv now zs tt9) w e w':=by
  rw [hadv_ok hv h1 h2]
  have P:=fun w1 (hb:Below w.heap.size w w1)=>phval now A n c zs w1 ((hin.reads.below hb).more hb.size) hin.nowB hin.zsB hin.nB
  rw [hv] at P
  have P:=Lib.hid P
  have V:=hvalid_of hv
  have hl:=hin.len
  have hn0:=V.2.2.1
  have hn1:=V.2.2.2.1
  have HR:=Lib.hid hin
  have hlen2:n≤64:=by omega
  have hlen1:1≤n:=by omega
  obtain ⟨i0,hi,iz0,iz1,iz2⟩:=info_parts info_i64
  have d0:0≤tt9-now:=by omega
  have d1:tt9-now≤16777216:=by omega
  clear hv hin hl V
  go_enter Tryz.func70,Tryz.ntmps70
  go_wp2_with (first | (go_at_call 143;with_reducible refine (P.out _ (by (repeat (first | exact Below.refl _ _ | refine Below.setCell ?_ (by (try simp)<;>omega) _ | refine Below.alloc ?_ (by (try simp)<;>omega) _ | refine Below.drew ?_ | refine Below.trans ?_ (Below.mono (by assumption) (by (try simp)<;>omega)))))).mono ?_;rintro e w1 ⟨rfl,hb1⟩;have hz1:=hb1.size;(try simp at hz1);have o1:Below w.heap.size w w1:=(by (repeat (first | exact Below.refl _ _ | refine Below.setCell ?_ (by (try simp)<;>omega) _ | refine Below.alloc ?_ (by (try simp)<;>omega) _ | refine Below.drew ?_ | refine Below.trans ?_ (Below.mono (by assumption) (by (try simp)<;>omega)))));have q1_0:w.heap.size<w1.heap.size:=(by omega);have r1_0:Row w1 (w.heap.size) 45 #[.int .i64 now, .slice A n c]:=row_call (by (repeat (first | assumption | (refine row_new ?_;(first | (simp;done) | omega)) | refine row_alloc ?_ _ | refine row_drew ?_ | refine row_call ?_ (by assumption)))) hb1;obtain ⟨c1_0a,c1_0b,f1_0a,f1_0b⟩:=row_two r1_0;have q1_1:w.heap.size+1<w1.heap.size:=(by omega);have r1_1:Row w1 (w.heap.size+1) 45 #[.int .i64 0, .slice none 0 0]:=row_call (by (repeat (first | assumption | (refine row_new ?_;(first | (simp;done) | omega)) | refine row_alloc ?_ _ | refine row_drew ?_ | refine row_call ?_ (by assumption)))) hb1;obtain ⟨c1_1a,c1_1b,f1_1a,f1_1b⟩:=row_two r1_1) | (go_at_call 157;with_reducible refine (cadv_ok _ _ hn0 hn1 h1 h2 _).mono ?_;rintro e w9 ⟨rfl,rfl⟩) | (at_builtin;refine wpList_clone rfl _ _ 43 rfl 2 i0 (.int .i64 0) 1 8 Tryz.underlying43 hi iz0 iz1 iz2 rfl (by decide) rfl w.heap.size A n c (zs.map (Value.int .i64)) rfl (HR.out.reads.below o1) o1.size (ints_oneCell _ _) (by show n≤9223372036854775807;omega) (by omega) ?_;intro g c2 w2 own2 hg2 hb2 hz2;have o2:Below w.heap.size w w2:=(by (repeat (first | exact Below.refl _ _ | refine Below.setCell ?_ (by (try simp)<;>omega) _ | refine Below.alloc ?_ (by (try simp)<;>omega) _ | refine Below.drew ?_ | refine Below.trans ?_ (Below.mono (by assumption) (by (try simp)<;>omega)))));have q2_0:w.heap.size<w2.heap.size:=(by omega);have r2_0:Row w2 (w.heap.size) 45 #[.int .i64 now, .slice A n c]:=row_call (by (repeat (first | assumption | (refine row_new ?_;(first | (simp;done) | omega)) | refine row_alloc ?_ _ | refine row_drew ?_ | refine row_call ?_ (by assumption)))) hb2;obtain ⟨c2_0a,c2_0b,f2_0a,f2_0b⟩:=row_two r2_0;have q2_1:w.heap.size+1<w2.heap.size:=(by omega);have r2_1:Row w2 (w.heap.size+1) 45 #[.int .i64 0, .slice none 0 0]:=row_call (by (repeat (first | assumption | (refine row_new ?_;(first | (simp;done) | omega)) | refine row_alloc ?_ _ | refine row_drew ?_ | refine row_call ?_ (by assumption)))) hb2;obtain ⟨c2_1a,c2_1b,f2_1a,f2_1b⟩:=row_two r2_1;have hne:g≠w.heap.size:=(by omega);have hne1:g≠w.heap.size+1:=(by omega)))
  obtain ⟨k,hk,hkn,hkd⟩:∃ k:Nat,min (tt9-now) (n:Int)=(k:Int)∧k≤n∧k=min (tt9-now).toNat n:=⟨min (tt9-now).toNat n,by omega,by omega,rfl⟩
  rw [hk]
  have HK:=Lib.hid hkd
  have rdA:=HR.out.reads.below o2
  have L:Row w2 (w.heap.size) 45 #[.int .i64 now, .slice A n c]∧Row w2 (w.heap.size+1) 45 #[.int .i64 0, .slice none 0 0]∧Own w2 2 1 g n c2 (zs.map (Value.int .i64))∧Reads w2 w.heap.size 1 A n (zs.map (Value.int .i64))∧Below w.heap.size w w2:=⟨r2_0,r2_1,own2,rdA,o2⟩
  clear hkd hk
  refine wp_region_free0 [0,1,3,2,4] [] [0,1,2,3,4] 5 (fun w'=>Row w' (w.heap.size) 45 #[.int .i64 now, .slice A n c]∧Row w' (w.heap.size+1) 45 #[.int .i64 0, .slice none 0 0]∧Own w' 2 1 g n c2 (zs.map (Value.int .i64))∧Reads w' w.heap.size 1 A n (zs.map (Value.int .i64))∧Below w.heap.size w w') (by kernel_rfl) (by kernel_rfl) (fun _ _ d _ _ h=>by cases d<;>exact h) ?_ ?_
  · exact ⟨L.1,L.2.1,L.2.2.1,L.2.2.2.1,L.2.2.2.2.drew⟩
  (refine plan_pure ?_ rfl rfl (fun w'=>?_) ?_;rotate_left;(go_simp;try with_reducible rfl);simp only [put9])
  (refine plan_pure ?_ rfl rfl (fun w'=>?_) ?_;rotate_left;(go_simp;try with_reducible rfl);simp only [put9])
  (refine plan_pure ?_ rfl rfl (fun w'=>?_) ?_;rotate_left;(go_simp;try with_reducible rfl);simp only [put9])
  (refine plan_pure ?_ rfl rfl (fun w'=>?_) ?_;rotate_left;(go_simp;try with_reducible rfl);simp only [put9])
  (refine plan_val ?_ rfl rfl rfl (fun w' hS=>?_) ?_;rotate_left;(obtain ⟨A00,A01,A02,A03⟩:=row_two hS.1;have nc:=hS.2.2.1.cap;go_simp;try with_reducible rfl);simp only [put9])
  refine plan_nil ?_
  intro w3 L3
  simp only [List.drop_succ_cons,List.drop_zero]
  try simp only [put9]
  obtain ⟨r3_0,r3_1,own3,rd3,o3⟩:=L3
  have nc:=own3.cap
  refine wpList_copy_vec rfl _ _ 43 43 rfl 2 Tryz.underlying43 sz_i64 own3 hkn _ _ rfl (fun h0=>?_) w.heap.size A n c rfl rd3 (ints_oneCell _ _) ?_
  · rw [if_neg (by omega)]
  intro w4 own4 hb4
  obtain ⟨hcl,own5,hb5⟩:=run_clear_own (P:=Tryz.prog) (cc:=c2) (t:=43) Tryz.underlying43 zero_i64 rfl rfl own4 hkn
  generalize w4.setCells g 0 (List.replicate k (Value.int .i64 0))=w5 at hcl own5 hb5
  have q0:w.heap.size<g:=by omega
  have q1:w.heap.size+1<g:=by omega
  have r5_0:=row_below (row_below r3_0 hb4 q0) hb5 q0
  have r5_1:=row_below (row_below r3_1 hb4 q1) hb5 q1
  obtain ⟨c5_0a,c5_0b,f5_0a,f5_0b⟩:=row_two r5_0
  obtain ⟨c5_1a,c5_1b,f5_1a,f5_1b⟩:=row_two r5_1
  have o5:Below w.heap.size w w5:=o3.trans ((hb4.trans hb5).mono (by omega))
  have kc:(k:Int)≤(c2:Int):=by omega
  have own5:Own w5 2 1 g n c2 ((hshift zs (tt9-now).toNat).map (Value.int .i64)):=by
    rw [copy_clear (by rw [HR.out.len];exact HK.out) HR.out.len.symm] at own5
    exact own5
  clear own4 own3 rd3 hb4 hb5 r3_0 r3_1 L rdA
  generalize (if c2=k then some (⟨g,0,none⟩:Addr) else some ⟨g,k,none⟩)=dp
  go_wp2
  have ow:=(own5.other (by simp;omega) (.int .i64 tt9) (p:=⟨w.heap.size+1,0,none⟩)).other (by simp;omega) (.slice (some ⟨g,0,none⟩) n c2) (p:=⟨w.heap.size+1,1,none⟩)
  exact bodyPost_ret (v := .tuple #[.agg #[.int .i64 tt9, .slice (some ⟨g,0,none⟩) n c2], .int .i64 0]) (by simp [results,Tryz.results70,go_sem,c5_1a,c5_1b]) rfl (hret_own ow ⟨by omega,by omega⟩ (shift_bound HR.out.zsB _) (by (repeat (first | exact Below.refl _ _ | refine Below.setCell ?_ (by (try simp)<;>omega) _ | refine Below.alloc ?_ (by (try simp)<;>omega) _ | refine Below.drew ?_ | refine Below.trans ?_ (Below.mono (by assumption) (by (try simp)<;>omega))))) (by first | omega | (simp;done) | (simp;omega)))
end Go.Proofs.YtdipoojjlddohaaGreat
end
section
/- The empty counter and the counter of the items of two: plain. -/
namespace Go.Proofs.YtdipoojjlddohaaGreat
def hnew (a now:Int):HOut:=if a<1∨64<a∨now<0∨16777216<now then hzero 1 else ⟨now,List.replicate a.toNat 0,0⟩
theorem hnew_yes {a now:Int} (h0:1≤a) (h1:a≤64) (h2:0≤now) (h3:now≤16777216):hnew a now=⟨now,List.replicate a.toNat 0,0⟩:=by unfold hnew;rw [if_neg (by omega)]
def hsum (xs ys:List Int) (e:Nat):Int:=xs.getD e 0+ys.getD e 0
def hsums (xs ys:List Int) (k:Nat):List Int:=(List.range k).map (hsum xs ys)
def hpart (xs ys:List Int) (k:Nat):List Int:=(List.range xs.length).map fun e=>if e<k then hsum xs ys e else xs.getD e 0
def hfits (xs ys:List Int):Bool:=decide (∀ e,e<xs.length→hsum xs ys e≤1099511627776)
def hmerE (now:Int) (xs:List Int) (now':Int) (ys:List Int):Int :=
  if hvalE now xs=0 then if hvalE now' ys=0 then if now≠now'∨xs.length≠ys.length then 1 else if hfits xs ys=true then 0 else 6 else 2 else 2
def hmer (now:Int) (xs:List Int) (now':Int) (ys:List Int):HOut:=if hmerE now xs now' ys=0 then ⟨now,hsums xs ys xs.length,0⟩ else hzero (hmerE now xs now' ys)
section
variable {now now':Int} {xs ys:List Int}
end
end Go.Proofs.YtdipoojjlddohaaGreat
end
section
/- Counters that halve: the empty counter, two counters compared, the counter of the items of two, walked. -/
set_option maxRecDepth 100000
namespace Go.Proofs.YtdipoojjlddohaaGreat
open Go.RowKit Go.Shelf
theorem phnew_ok (a now:Int) (w:World) (h0:1≤a) (h1:a≤64) (h2:0≤now) (h3:now≤16777216):Calls Tryz.prog 115 #[.int .i64 a, .int .i64 now] w fun e w'=>HRet (hnew a now) w e w':=by
  rw [hnew_yes h0 h1 h2 h3]
  obtain ⟨n,rfl⟩:∃ n:Nat,a=(n:Int):=⟨a.toNat,by omega⟩
  obtain ⟨i0,hi,iz0,iz1,iz2⟩:=info_parts info_i64
  obtain ⟨w2,hmk,own2,hb2⟩:=make_vec (w.alloc (.cells #[.int .i64 0, .slice none 0 0] 45)) Tryz.underlying43 hi iz0 iz1 iz2 rfl .i64 .i64 n (by omega) (by unfold maxLen;omega)
  have hz2:=hb2.size
  simp at hz2
  have o2:Below w.heap.size w w2:=((Below.refl _ _).alloc (Nat.le_refl _) _).trans (hb2.mono (by simp))
  have r2:Row w2 w.heap.size 45 #[.int .i64 0, .slice none 0 0]:=row_call (row_new rfl) hb2
  obtain ⟨X0,X1,X2,X3⟩:=row_two r2
  have n1:(1:Int)≤(n:Int):=h0
  have n2:n≤64:=by omega
  have OW:=Lib.hid own2
  clear own2 h0
  go_enter Tryz.func115,Tryz.ntmps115
  go_wp2_with fail
  have ow:=(OW.out.other (by simp) (.int .i64 now) (p:=⟨w.heap.size,0,none⟩)).other (by simp) (.slice (some ⟨w.heap.size+1,0,none⟩) n n) (p:=⟨w.heap.size,1,none⟩)
  rw [World.size_alloc] at ow
  rw [show List.replicate n (Value.int .i64 0)=(List.replicate (n:Int).toNat (0:Int)).map (Value.int .i64) from by simp] at ow
  exact bodyPost_ret (v := .tuple #[.agg #[.int .i64 now, .slice (some ⟨w.heap.size+1,0,none⟩) n n], .int .i64 0]) (by simp [results,Tryz.results115,go_sem,X0,X1]) rfl (hret_own ow ⟨by omega,by omega⟩ (fun k=>by simp only [List.getD_eq_getElem?_getD,List.getElem?_replicate];split<;>exact ⟨by decide,by decide⟩) (by (repeat (first | exact Below.refl _ _ | refine Below.setCell ?_ (by (try simp)<;>omega) _ | refine Below.alloc ?_ (by (try simp)<;>omega) _ | refine Below.drew ?_ | refine Below.trans ?_ (Below.mono (by assumption) (by (try simp)<;>omega))))) (by first | omega | (simp;done) | (simp;omega)))
end Go.Proofs.YtdipoojjlddohaaGreat
end
section
/- The answer of a counter that halves: plain. -/
namespace Go.Proofs.YtdipoojjlddohaaGreat
def hhorn (zs:List Int):Nat→Nat
  | 0=>0
  | k+1=>2*hhorn zs k+(zs.getD k 0).toNat
def hwide (zs:List Int) (n:Nat):Nat→Nat
  | 0=>0
  | k+1=>hwide zs n k+(zs.getD k 0).toNat*2 ^ (n-1-k)
theorem hhorn_lt {zs:List Int} {n:Nat} (h:∀ e,e<n→0≤zs.getD e 0∧zs.getD e 0≤1099511627776):∀ k,k≤n→hhorn zs k+1099511627776≤1099511627776*2 ^ k
  | 0,_=>by simp [hhorn]
  | k+1,hk=>by
    have ih:=hhorn_lt h k (by omega)
    have:=h k (by omega)
    have:(zs.getD k 0).toNat≤1099511627776:=by omega
    unfold hhorn
    rw [Nat.pow_succ]
    omega
theorem hhorn_big {zs:List Int} {n:Nat} (h:∀ e,e<n→0≤zs.getD e 0∧zs.getD e 0≤1099511627776) (hn:n≤64) (k:Nat) (hk:k≤n):hhorn zs k+1099511627776≤20282409603651670423947251286016:=by
  have h1:=hhorn_lt h k hk
  have h2:2 ^ k≤2 ^ 64:=Nat.pow_le_pow_right (by decide) (by omega)
  have h3:1099511627776*2 ^ k≤1099511627776*2 ^ 64:=Nat.mul_le_mul_left _ h2
  have h4:(1099511627776*2 ^ 64:Nat)=20282409603651670423947251286016:=by decide
  omega
theorem hwide_eq (zs:List Int) (n:Nat):∀ k,k≤n→hwide zs n k=hhorn zs k*2 ^ (n-k)
  | 0,_=>by simp [hwide,hhorn]
  | k+1,hk=>by
    unfold hwide hhorn
    rw [hwide_eq zs n k (by omega),show n-k=(n-(k+1))+1 by omega,show n-1-k=n-(k+1) by omega,Nat.pow_succ,Nat.add_mul]
    congr 1
    rw [Nat.mul_comm 2 (hhorn zs k),Nat.mul_assoc,Nat.mul_comm 2]
theorem hwide_last (zs:List Int) (n:Nat):hwide zs n n=hhorn zs n:=by rw [hwide_eq zs n n (Nat.le_refl _)];simp
theorem hwide_le (zs:List Int) (n:Nat):∀ k j,k+j≤n→hwide zs n k≤hwide zs n (k+j)
  | k,0,_=>Nat.le_refl _
  | k,j+1,h=>Nat.le_trans (hwide_le zs n k j (by omega)) (by rw [← Nat.add_assoc];exact Nat.le_add_right _ _)
theorem hwide_big {zs:List Int} {n:Nat} (h:∀ e,e<n→0≤zs.getD e 0∧zs.getD e 0≤1099511627776) (hn:n≤64) (k:Nat) (hk:k≤n):hwide zs n k<20282409603651670423947251286016:=by
  have h1:=hwide_le zs n k (n-k) (by omega)
  rw [show k+(n-k)=n by omega,hwide_last] at h1
  have:=hhorn_big h hn n (Nat.le_refl _)
  omega
theorem pow_big {n:Nat} (hn:n≤64):2 ^ (n-1)<18446744073709551617:=by
  have h2:2 ^ (n-1)≤2 ^ 64:=Nat.pow_le_pow_right (by decide) (by omega)
  have h4:(2 ^ 64:Nat)=18446744073709551616:=by decide
  omega
structure AOut where
  num:Nat
  den:Nat
  f:Int
def hask (now:Int) (zs:List Int):AOut:=if hvalE now zs=0 then ⟨hhorn zs zs.length,2 ^ (zs.length-1),0⟩ else ⟨0,0,2⟩
theorem hask_ok {now:Int} {zs:List Int} (h:hvalE now zs=0):hask now zs=⟨hhorn zs zs.length,2 ^ (zs.length-1),0⟩:=by unfold hask;simp [h]
end Go.Proofs.YtdipoojjlddohaaGreat
end
section
/- Counters that halve: the answer, walked. -/
set_option maxRecDepth 100000
namespace Go.Proofs.YtdipoojjlddohaaGreat
open Go.RowKit Go.Shelf
abbrev FR (x y:Nat):Value := .agg #[.int .u64 (hi x), .int .u64 (lo x), .int .u64 (hi y), .int .u64 (lo y)]
theorem wc_zero:(Wc 0:Array Value)=#[.int .u64 0, .int .u64 0]:=by rw [Wc,hi_0,lo_0]
set_option maxHeartbeats 4000000 in
theorem phask_ok (now:Int) (A:Option Addr) (n c:Nat) (zs:List Int) (w:World) (hin:HIn now A n c zs w) (hv:hvalE now zs=0):Calls Tryz.prog 46 #[.agg #[.int .i64 now, .slice A n c]] w fun e w'=>e = .returned (.tuple #[FR (hask now zs).num (hask now zs).den, .int .i64 (hask now zs).f])∧Below w.heap.size w w':=by
  have V:=hvalid_of hv
  have hl:=hin.len
  rw [hask_ok hv,hl]
  show Calls _ _ _ _ fun e w'=>e = .returned (.tuple #[FR (hhorn zs n) (2 ^ (n-1)), .int .i64 0])∧Below w.heap.size w w'
  have P:=fun w1 (hb:Below w.heap.size w w1)=>phval now A n c zs w1 ((hin.reads.below hb).more hb.size) hin.nowB hin.zsB hin.nB
  rw [hv] at P
  have P:=Lib.hid P
  have hlen1:1≤n:=by omega
  have hlen2:n≤64:=by omega
  have BX:=Lib.hid (fun e (he:e<n)=>V.2.2.2.2 e (by omega))
  have HR:=Lib.hid hin
  have dB:=pow_big hlen2
  have hdn:leftN 1 ((n:Int)-1)=2 ^ (n-1):=by unfold leftN;rw [Nat.one_mul];congr 1;omega
  have PD:=fun w=>pleft 1 ((n:Int)-1) (by decide) ⟨by omega,by omega⟩ w
  have hly:=left_yes (a:=1) (n:=(n:Int)-1) (by omega) (by rw [hdn];exact Nat.lt_of_lt_of_le dB (by decide))
  rw [hly.1,hly.2,hdn] at PD
  have PD:=Lib.hid PD
  generalize hdnn:2 ^ (n-1)=dn at PD ⊢
  have PO1:=Lib.hid (fun w=>pof 1 (by decide) w)
  clear hv hin hl V hly hdn dB hdnn
  go_enter Tryz.func46,Tryz.ntmps46
  go_wp2_with (first | (go_at_call 143;with_reducible refine (P.out _ (by (repeat (first | exact Below.refl _ _ | refine Below.setCell ?_ (by (try simp)<;>omega) _ | refine Below.alloc ?_ (by (try simp)<;>omega) _ | refine Below.drew ?_ | refine Below.trans ?_ (Below.mono (by assumption) (by (try simp)<;>omega)))))).mono ?_;rintro e w1 ⟨rfl,hb1⟩;have hz1:=hb1.size;(try simp at hz1);have o1:Below w.heap.size w w1:=(by (repeat (first | exact Below.refl _ _ | refine Below.setCell ?_ (by (try simp)<;>omega) _ | refine Below.alloc ?_ (by (try simp)<;>omega) _ | refine Below.drew ?_ | refine Below.trans ?_ (Below.mono (by assumption) (by (try simp)<;>omega)))));have q1_0:w.heap.size<w1.heap.size:=(by omega);have r1_0:Row w1 (w.heap.size) 45 #[.int .i64 now, .slice A n c]:=row_call (by (repeat (first | assumption | (refine row_new ?_;(first | (simp;done) | omega)) | refine row_alloc ?_ _ | refine row_drew ?_ | refine row_call ?_ (by assumption)))) hb1;obtain ⟨c1_0a,c1_0b,f1_0a,f1_0b⟩:=row_two r1_0;have q1_1:w.heap.size+1<w1.heap.size:=(by omega);have r1_1:Row w1 (w.heap.size+1) 69 #[.int .u64 0, .int .u64 0, .int .u64 0, .int .u64 0]:=row_call (by (repeat (first | assumption | (refine row_new ?_;(first | (simp;done) | omega)) | refine row_alloc ?_ _ | refine row_drew ?_ | refine row_call ?_ (by assumption)))) hb1;obtain ⟨c1_1a,c1_1b,c1_1c,c1_1d,f1_1a,f1_1b,f1_1c,f1_1d⟩:=row_four r1_1))
  have L1:=row_alloc r1_0 (.cells #[.int .u64 0, .int .u64 0] 67)
  have L2:=row_alloc r1_1 (.cells #[.int .u64 0, .int .u64 0] 67)
  have L3:Row (w1.alloc (.cells #[.int .u64 0, .int .u64 0] 67)) w1.heap.size 67 (Wc (hhorn zs 0)):=by
    rw [hhorn,wc_zero]
    exact row_new rfl
  have L4:=o1.alloc o1.size (.cells #[.int .u64 0, .int .u64 0] 67)
  have g51:w1.heap.size≠w.heap.size:=by omega
  have g52:w1.heap.size≠w.heap.size+1:=by omega
  have g53:w.heap.size≤w1.heap.size:=by omega
  generalize w1.alloc (.cells #[.int .u64 0, .int .u64 0] 67)=w2 at L1 L2 L3 L4 ⊢
  generalize w1.heap.size=g5 at L3 g51 g52 g53 ⊢
  clear P r1_0 r1_1 o1
  go_loopw [19] (fun i wr=>∃ k:Nat,k≤n∧i = .int .i64 (k:Nat)∧Row wr (w.heap.size) 45 #[.int .i64 now, .slice A n c]∧Row wr (w.heap.size+1) 69 #[.int .u64 0, .int .u64 0, .int .u64 0, .int .u64 0]∧Row wr g5 67 (Wc (hhorn zs k))∧Below w.heap.size w wr) (fun i _=>n-(intOf i).toNat)
  case atStart=>exact ⟨0,by omega,rfl,L1,L2,L3,L4⟩
  case round =>
    obtain ⟨k,hk,rfl,L1,L2,L3,L4⟩:=hrel
    by_cases hlt:k<n
    · obtain ⟨ad,rfl,hadb,hcell0⟩:=HR.out.reads.num hlt
      have hcell:=(L4.cell (by rw [block_of_add];exact hadb)).trans hcell0
      have hb1:=BX.out k hlt
      have hb2:=hhorn_big BX.out hlen2 k hk
      have hst:hhorn zs (k+1)=2*hhorn zs k+(zs.getD k 0).toNat:=rfl
      obtain ⟨sn,hsn⟩:∃ sn:Nat,zs.getD k 0=(sn:Int):=⟨(zs.getD k 0).toNat,by omega⟩
      rw [hsn] at hcell hb1 hst
      rw [Int.toNat_natCast] at hst
      generalize hhorn zs k=s at L3 hb2 hst
      have hq:leftN s 1=2*s:=by unfold leftN;rw [show (1:Int).toNat=1 from rfl,Nat.pow_one,Nat.mul_comm]
      have PL:=fun w=>pleft s 1 (by unfold big;omega) ⟨by decide,by decide⟩ w
      have hly:=left_yes (a:=s) (n:=1) (by decide) (by rw [hq];unfold big;omega)
      rw [hly.1,hly.2,hq] at PL
      have PA:=fun w=>padd_fits (2*s) sn (by unfold big;omega) (by unfold big;omega) (by unfold big;omega) w
      rw [← hst] at PA
      generalize 2*s=a at PL PA
      generalize hr0:hhorn zs (k+1)=r at PA
      have HRR:=Lib.hid hr0
      have PL:=Lib.hid PL
      have PA:=Lib.hid PA
      have PO:=Lib.hid (fun w=>pof sn (by omega) w)
      obtain ⟨s1,s2⟩:=hb1
      have i1:(k:Int)<(n:Int):=by omega
      obtain ⟨X0,X1,X2,X3⟩:=row_two L3
      clear hst hly hq hsn hcell0 hr0 hb2
      go_upto_region 9 with (go_at_call 75;refine (PL.out _).mono ?_;rintro e w5 ⟨rfl,hb5⟩;have hz5:=hb5.size;have r5:=row_call L3 hb5;have r5a:=row_call L1 hb5;have r5b:=row_call L2 hb5;have o5:=L4.trans (hb5.mono L4.size);obtain ⟨Y0,Y1,Y2,Y3⟩:=row_two r5)
      have wsn:IntKind.u64.wrap (sn:Int)=(sn:Int):=IntWalk.u64_in _ (by omega)
      have L:Row ((w5.setCell ⟨g5,0,none⟩ (.int .u64 (hi a))).setCell ⟨g5,1,none⟩ (.int .u64 (lo a))) (w.heap.size) 45 #[.int .i64 now, .slice (some ad) n c]∧Row ((w5.setCell ⟨g5,0,none⟩ (.int .u64 (hi a))).setCell ⟨g5,1,none⟩ (.int .u64 (lo a))) (w.heap.size+1) 69 #[.int .u64 0, .int .u64 0, .int .u64 0, .int .u64 0]∧Row ((w5.setCell ⟨g5,0,none⟩ (.int .u64 (hi a))).setCell ⟨g5,1,none⟩ (.int .u64 (lo a))) g5 67 (Wc a)∧Below w.heap.size w ((w5.setCell ⟨g5,0,none⟩ (.int .u64 (hi a))).setCell ⟨g5,1,none⟩ (.int .u64 (lo a))):=⟨row_two_other r5a g51.symm,row_two_other r5b g52.symm,row_two_set r5,(o5.setCell g53 _).setCell g53 _⟩
      generalize ((w5.setCell ⟨g5,0,none⟩ (.int .u64 (hi a))).setCell ⟨g5,1,none⟩ (.int .u64 (lo a)))=w8 at L ⊢
      clear L1 L2 L3 L4 r5 r5a r5b o5 hb5
      refine wp_region_free0 [0,1,2,3,4,5,7,6] [7] [0,1,2,3,4,5,6] 8 (fun w'=>Row w' (w.heap.size) 45 #[.int .i64 now, .slice (some ad) n c]∧Row w' (w.heap.size+1) 69 #[.int .u64 0, .int .u64 0, .int .u64 0, .int .u64 0]∧Row w' g5 67 (Wc a)∧Below w.heap.size w w') (by kernel_rfl) (by kernel_rfl) (fun _ _ d _ _ h=>by cases d<;>exact h) ?_ ?_
      · exact ⟨L.1,L.2.1,L.2.2.1,L.2.2.2.drew⟩
      (refine plan_val ?_ rfl rfl rfl (fun w' hS=>?_) ?_;rotate_left;(obtain ⟨A20,A21,A22,A23⟩:=row_two hS.2.2.1;go_simp;try with_reducible rfl);simp only [put9])
      (refine plan_pure ?_ rfl rfl (fun w'=>?_) ?_;rotate_left;(go_simp;try with_reducible rfl);simp only [put9])
      (refine plan_pure ?_ rfl rfl (fun w'=>?_) ?_;rotate_left;(go_simp;try with_reducible rfl);simp only [put9])
      refine plan_call (W sn) 76 #[.int .u64 (sn:Nat)] rfl rfl rfl (fun _ _ h hb=>⟨row_call h.1 hb,row_call h.2.1 hb,row_call h.2.2.1 hb,h.2.2.2.trans (hb.mono h.2.2.2.size)⟩) (fun w' hS=>by obtain ⟨A20,A21,A22,A23⟩:=row_two hS.2.2.1;go_simp) (fun w' hS=>PO.out w') ?_
      simp only [put9]
      refine plan_call (.tuple #[W r, .bool true]) 77 #[W a,W sn] rfl rfl rfl (fun _ _ h hb=>⟨row_call h.1 hb,row_call h.2.1 hb,row_call h.2.2.1 hb,h.2.2.2.trans (hb.mono h.2.2.2.size)⟩) (fun w' hS=>by obtain ⟨A20,A21,A22,A23⟩:=row_two hS.2.2.1;go_simp) (fun w' hS=>PA.out w') ?_
      simp only [put9]
      (refine plan_pure ?_ rfl rfl (fun w'=>?_) ?_;rotate_left;(go_simp;try with_reducible rfl);simp only [put9])
      (refine plan_pure ?_ rfl rfl (fun w'=>?_) ?_;rotate_left;(go_simp;try with_reducible rfl);simp only [put9])
      (refine plan_pure ?_ rfl rfl (fun w'=>?_) ?_;rotate_left;(go_simp;try with_reducible rfl);simp only [put9])
      refine plan_nil ?_
      intro w6 L6
      simp only [List.drop_succ_cons,List.drop_zero]
      try simp only [put9]

      obtain ⟨L7,L8,L9,L10⟩:=L6
      obtain ⟨X0,X1,X2,X3⟩:=row_two L9
      have L11:Row ((w6.setCell ⟨g5,0,none⟩ (.int .u64 (hi r))).setCell ⟨g5,1,none⟩ (.int .u64 (lo r))) g5 67 (Wc (hhorn zs (k+1))):=by rw [HRR.out];exact row_two_set L9
      have L12:Row ((w6.setCell ⟨g5,0,none⟩ (.int .u64 (hi r))).setCell ⟨g5,1,none⟩ (.int .u64 (lo r))) w.heap.size 45 #[.int .i64 now, .slice (some ad) n c]:=row_two_other L7 g51.symm
      have L13:Row ((w6.setCell ⟨g5,0,none⟩ (.int .u64 (hi r))).setCell ⟨g5,1,none⟩ (.int .u64 (lo r))) (w.heap.size+1) 69 #[.int .u64 0, .int .u64 0, .int .u64 0, .int .u64 0]:=row_two_other L8 g52.symm
      have L14:Below w.heap.size w ((w6.setCell ⟨g5,0,none⟩ (.int .u64 (hi r))).setCell ⟨g5,1,none⟩ (.int .u64 (lo r))):=(L10.setCell g53 _).setCell g53 _
      clear L7 L8 L9 L10 L wsn
      go_wp2
      go_roundw
      case rel=>exact ⟨k+1,by omega,by go_num,L12,L13,L11,L14⟩
      case measure=>simp [intOf];omega
    · have i1:¬ (k:Int)<(n:Int):=by omega
      obtain rfl:k=n:=by omega
      go_upto_region 11 with (fail)
      have wsn:IntKind.i64.wrap ((k:Int)-1)=(k:Int)-1:=IntWalk.i64_in _ (by omega)
      generalize hs0:hhorn zs k=s at L3
      have HSS:=Lib.hid hs0
      clear hs0
      have L:Row wr (w.heap.size) 45 #[.int .i64 now, .slice A k c]∧Row wr (w.heap.size+1) 69 #[.int .u64 0, .int .u64 0, .int .u64 0, .int .u64 0]∧Row wr g5 67 (Wc s)∧Below w.heap.size w wr:=⟨L1,L2,L3,L4⟩
      have z1:=row_lt L1
      have z2:=row_lt L2
      have z3:=row_lt L3
      clear L1 L2 L3 L4
      refine wp_region_free1 [0,1,2,3,4,5,6,8,7] [8] [0,1,2,3,4,5,6,7,9] (9,67,#[.int .u64 0, .int .u64 0]) 8 10 (fun w'=>Row w' (w.heap.size) 45 #[.int .i64 now, .slice A k c]∧Row w' (w.heap.size+1) 69 #[.int .u64 0, .int .u64 0, .int .u64 0, .int .u64 0]∧Row w' g5 67 (Wc s)∧Below w.heap.size w w') (by kernel_rfl) (by kernel_rfl) ⟨_,_,rfl,rfl,rfl,fun ρ w'=>by go_simp⟩ rfl (by simp) (fun _ h=>⟨row_alloc h.1 _,row_alloc h.2.1 _,row_alloc h.2.2.1 _,h.2.2.2.alloc h.2.2.2.size _⟩) (fun _ _ d _ _ h=>by cases d<;>exact h) ?_ ?_
      · exact ⟨L.1,L.2.1,L.2.2.1,L.2.2.2.drew⟩
      refine plan_call (W 1) 76 #[.int .u64 (1:Nat)] rfl rfl rfl (fun _ _ h hb=>⟨row_call h.1 hb,row_call h.2.1 hb,row_call h.2.2.1 hb,h.2.2.2.trans (hb.mono h.2.2.2.size)⟩) (fun w' hS=>by obtain ⟨A00,A01,A02,A03⟩:=row_two hS.1;go_simp) (fun w' hS=>PO1.out w') ?_
      simp only [put9]
      (refine plan_pure ?_ rfl rfl (fun w'=>?_) ?_;rotate_left;(go_simp;try with_reducible rfl);simp only [put9])
      (refine plan_val ?_ rfl rfl rfl (fun w' hS=>?_) ?_;rotate_left;(obtain ⟨A00,A01,A02,A03⟩:=row_two hS.1;go_simp;try with_reducible rfl);simp only [put9])
      (refine plan_val ?_ rfl rfl rfl (fun w' hS=>?_) ?_;rotate_left;(obtain ⟨A00,A01,A02,A03⟩:=row_two hS.1;go_simp;try with_reducible rfl);simp only [put9])
      (refine plan_pure ?_ rfl rfl (fun w'=>?_) ?_;rotate_left;(go_simp;try with_reducible rfl);simp only [put9])
      refine plan_call (.tuple #[W dn, .bool true]) 75 #[W 1, .int .i64 ((k:Int)-1)] rfl rfl rfl (fun _ _ h hb=>⟨row_call h.1 hb,row_call h.2.1 hb,row_call h.2.2.1 hb,h.2.2.2.trans (hb.mono h.2.2.2.size)⟩) (fun w' hS=>by obtain ⟨A00,A01,A02,A03⟩:=row_two hS.1;go_simp) (fun w' hS=>PD.out w') ?_
      simp only [put9]
      (refine plan_pure ?_ rfl rfl (fun w'=>?_) ?_;rotate_left;(go_simp;try with_reducible rfl);simp only [put9])
      (refine plan_pure ?_ rfl rfl (fun w'=>?_) ?_;rotate_left;(go_simp;try with_reducible rfl);simp only [put9])
      (refine plan_pure ?_ rfl rfl (fun w'=>?_) ?_;rotate_left;(go_simp;try with_reducible rfl);simp only [put9])
      refine plan_nil ?_
      intro g8 w7 L7 hr8 hg8
      simp only [List.drop_succ_cons,List.drop_zero]
      try simp only [put9]

      obtain ⟨L8,L9,L10,L11⟩:=L7
      have g81:g8≠w.heap.size:=by omega
      have g82:g8≠w.heap.size+1:=by omega
      have g83:g8≠g5:=by omega
      have g84:w.heap.size≤g8:=by omega
      obtain ⟨Y0,Y1,Y2,Y3⟩:=row_two hr8
      go_upto_region 12 with (fail)
      have M1:=row_two_set (u := .int .u64 (hi dn)) (v := .int .u64 (lo dn)) hr8
      have M2:=row_two_other (u := .int .u64 (hi dn)) (v := .int .u64 (lo dn)) L10 g83.symm
      have M3:=row_two_other (u := .int .u64 (hi dn)) (v := .int .u64 (lo dn)) L9 g82.symm
      have M4:Below w.heap.size w ((w7.setCell ⟨g8,0,none⟩ (.int .u64 (hi dn))).setCell ⟨g8,1,none⟩ (.int .u64 (lo dn))):=(L11.setCell g84 _).setCell g84 _
      generalize ((w7.setCell ⟨g8,0,none⟩ (.int .u64 (hi dn))).setCell ⟨g8,1,none⟩ (.int .u64 (lo dn)))=w9 at M1 M2 M3 M4 ⊢
      obtain ⟨A0,A1,_,_⟩:=row_two M1
      obtain ⟨B0,B1,_,_⟩:=row_two M2
      obtain ⟨C0,C1,C2,C3,D0,D1,D2,D3⟩:=row_four M3
      clear L8 L9 L10 L11 L hr8 Y0 Y1 Y2 Y3
      go_wp2
      exact bodyPost_ret (v := .tuple #[FR s dn, .int .i64 0]) (by simp [results,Tryz.results46,go_sem,C0,C1,C2,C3,FR]) rfl ⟨by rw [HSS.out],by (repeat (first | exact Below.refl _ _ | refine Below.setCell ?_ (by (try simp)<;>omega) _ | refine Below.alloc ?_ (by (try simp)<;>omega) _ | refine Below.drew ?_ | refine Below.trans ?_ (Below.mono (by assumption) (by (try simp)<;>omega))))⟩
end Go.Proofs.YtdipoojjlddohaaGreat
end
section
/- Several steps of the clock are one; a counter stays valid: plain. -/
namespace Go.Proofs.YtdipoojjlddohaaGreat
theorem sumOK_mk {now s:Int} {e:Nat} (h:0≤s∧s≤1099511627776∧(s=0∨(e:Int)≤now)):sumOK now e s=true:=by
  unfold sumOK
  simpa only [decide_eq_true_eq] using h
end Go.Proofs.YtdipoojjlddohaaGreat
end
