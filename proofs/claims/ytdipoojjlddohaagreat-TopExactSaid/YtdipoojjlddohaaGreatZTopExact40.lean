/- What the law TopExact needs, joined of its texts by a program (slim2.py); part 40. -/
import Derived.Test.YtdipoojjlddohaaGreatZTopExact1
import Derived.Test.YtdipoojjlddohaaGreatZTopExact4
import Derived.Test.YtdipoojjlddohaaGreatZTopExact5
import Derived.Test.YtdipoojjlddohaaGreatZTopExact9
import Derived.Test.YtdipoojjlddohaaGreatZTopExact10
import Derived.Test.YtdipoojjlddohaaGreatZTopExact39
set_option linter.unusedVariables false
set_option linter.unusedSimpArgs false
set_option linter.unusedSectionVars false
set_option linter.unnecessarySimpa false
section
/- Products with powers of two, walked: the program and the reference. -/
namespace Go.Proofs.YtdipoojjlddohaaGreat
open Go.RowKit Go.Shelf
set_option maxHeartbeats 2000000 in
theorem pleft (a:Nat) (n:Int) (ha:a<big) (hn : -9223372036854775808≤n∧n≤9223372036854775807) (w:World) :
    Calls Tryz.prog 75 #[W a, .int .i64 n] w fun e w'=>e = .returned (.tuple #[W (leftV a n), .bool (leftB a n)])∧Below w.heap.size w w':=by
  obtain ⟨n1,n2⟩:=hn
  by_cases h0:n<0
  · obtain ⟨v1,v2⟩:=left_no (a:=a) (n:=n) (by omega)
    rw [v1,v2]
    clear v1 v2
    go_enter Tryz.func75,Tryz.ntmps75
    go_wp2
    simp [bodyPost,results,Tryz.results75,go_sem]
    refine ⟨⟨rfl,rfl⟩,?_⟩
    (repeat (first | exact Below.refl _ _ | refine Below.setCell ?_ (by (try simp)<;>omega) _ | refine Below.alloc ?_ (by (try simp)<;>omega) _ | refine Below.drew ?_ | refine Below.trans ?_ (Below.mono (by assumption) (by (try simp)<;>omega))))
  · have h0':0≤n:=by omega
    by_cases hz:a=0
    · subst hz
      obtain ⟨v1,v2⟩:=left_yes (a:=0) (n:=n) h0' (by unfold leftN;rw [Nat.zero_mul];decide)
      have v3:leftN 0 n=0:=by unfold leftN;rw [Nat.zero_mul]
      rw [v1,v2,v3]
      clear v1 v2 v3
      go_enter Tryz.func75,Tryz.ntmps75
      go_wp2_with (go_at_call 163;refine (pzero 0 _).mono ?_;rintro e w1 ⟨rfl,hb1⟩;have hz1:=hb1.size;(try simp at hz1);have q1_0:w.heap.size<w1.heap.size:=(by omega);have r1_0:Row w1 (w.heap.size) 67 (Wc 0):=row_call (by (repeat (first | assumption | (refine row_new ?_;(first | (simp;done) | omega)) | refine row_alloc ?_ _ | refine row_drew ?_ | refine row_call ?_ (by assumption)))) hb1;obtain ⟨c1_0a,c1_0b,f1_0a,f1_0b⟩:=row_two r1_0;have q1_1:w.heap.size+1<w1.heap.size:=(by omega);have r1_1:Row w1 (w.heap.size+1) 67 #[.int .u64 0, .int .u64 0]:=row_call (by (repeat (first | assumption | (refine row_new ?_;(first | (simp;done) | omega)) | refine row_alloc ?_ _ | refine row_drew ?_ | refine row_call ?_ (by assumption)))) hb1;obtain ⟨c1_1a,c1_1b,f1_1a,f1_1b⟩:=row_two r1_1)
      simp [bodyPost,results,Tryz.results75,go_sem,c1_1a,c1_1b]
      (repeat (first | exact Below.refl _ _ | refine Below.setCell ?_ (by (try simp)<;>omega) _ | refine Below.alloc ?_ (by (try simp)<;>omega) _ | refine Below.drew ?_ | refine Below.trans ?_ (Below.mono (by assumption) (by (try simp)<;>omega))))
    · have hd:decide (a=0)=false:=by simpa using hz
      have hfit:=left_fits hz ha h0'
      have l0:=blenI_0 a
      have l1:=blenI_128 ha
      by_cases hf:leftN a n<big
      · obtain ⟨v1,v2⟩:=left_yes h0' hf
        rw [v1,v2]
        have hc:decide (128-blenI a<n)=false:=by have:=hfit.1 hf;simp;omega
        clear v1 v2
        by_cases h64:64≤n
        · obtain ⟨E1,E2⟩:=left_hi64 h64 hf
          obtain ⟨b1,b2⟩:=lo_word a
          have HE:=Lib.hid E2
          have n3:n≤128:=by have:=hfit.1 hf;omega
          clear E2 hf hfit
          go_enter Tryz.func75,Tryz.ntmps75
          go_wp2_with (first | (go_at_call 163;refine (pzero a _).mono ?_;rintro e w1 ⟨rfl,hb1⟩;have hz1:=hb1.size;(try simp at hz1);have q1_0:w.heap.size<w1.heap.size:=(by omega);have r1_0:Row w1 (w.heap.size) 67 (Wc a):=row_call (by (repeat (first | assumption | (refine row_new ?_;(first | (simp;done) | omega)) | refine row_alloc ?_ _ | refine row_drew ?_ | refine row_call ?_ (by assumption)))) hb1;obtain ⟨c1_0a,c1_0b,f1_0a,f1_0b⟩:=row_two r1_0;have q1_1:w.heap.size+1<w1.heap.size:=(by omega);have r1_1:Row w1 (w.heap.size+1) 67 #[.int .u64 0, .int .u64 0]:=row_call (by (repeat (first | assumption | (refine row_new ?_;(first | (simp;done) | omega)) | refine row_alloc ?_ _ | refine row_drew ?_ | refine row_call ?_ (by assumption)))) hb1;obtain ⟨c1_1a,c1_1b,f1_1a,f1_1b⟩:=row_two r1_1) | (go_at_call 164;refine (pbits a ha _).mono ?_;rintro e w2 ⟨rfl,hb2⟩;have hz2:=hb2.size;(try simp at hz2);have q2_0:w.heap.size<w2.heap.size:=(by omega);have r2_0:Row w2 (w.heap.size) 67 (Wc a):=row_call (by (repeat (first | assumption | (refine row_new ?_;(first | (simp;done) | omega)) | refine row_alloc ?_ _ | refine row_drew ?_ | refine row_call ?_ (by assumption)))) hb2;obtain ⟨c2_0a,c2_0b,f2_0a,f2_0b⟩:=row_two r2_0;have q2_1:w.heap.size+1<w2.heap.size:=(by omega);have r2_1:Row w2 (w.heap.size+1) 67 #[.int .u64 0, .int .u64 0]:=row_call (by (repeat (first | assumption | (refine row_new ?_;(first | (simp;done) | omega)) | refine row_alloc ?_ _ | refine row_drew ?_ | refine row_call ?_ (by assumption)))) hb2;obtain ⟨c2_1a,c2_1b,f2_1a,f2_1b⟩:=row_two r2_1))
          simp [bodyPost,results,Tryz.results75,go_sem,c2_1a,c2_1b,HE.out]
          (repeat (first | exact Below.refl _ _ | refine Below.setCell ?_ (by (try simp)<;>omega) _ | refine Below.alloc ?_ (by (try simp)<;>omega) _ | refine Below.drew ?_ | refine Below.trans ?_ (Below.mono (by assumption) (by (try simp)<;>omega))))
        · obtain ⟨E1,E2⟩:=left_lo64 h0' (by omega) hf
          obtain ⟨b1,b2⟩:=lo_word a
          obtain ⟨b3,b4⟩:=hi_word ha
          have n3:n<64:=by omega
          have t64:decide (64≤n)=false:=by simpa using h64
          clear hf hfit h64
          go_enter Tryz.func75,Tryz.ntmps75
          go_wp2_with (first | (go_at_call 163;refine (pzero a _).mono ?_;rintro e w1 ⟨rfl,hb1⟩;have hz1:=hb1.size;(try simp at hz1);have q1_0:w.heap.size<w1.heap.size:=(by omega);have r1_0:Row w1 (w.heap.size) 67 (Wc a):=row_call (by (repeat (first | assumption | (refine row_new ?_;(first | (simp;done) | omega)) | refine row_alloc ?_ _ | refine row_drew ?_ | refine row_call ?_ (by assumption)))) hb1;obtain ⟨c1_0a,c1_0b,f1_0a,f1_0b⟩:=row_two r1_0;have q1_1:w.heap.size+1<w1.heap.size:=(by omega);have r1_1:Row w1 (w.heap.size+1) 67 #[.int .u64 0, .int .u64 0]:=row_call (by (repeat (first | assumption | (refine row_new ?_;(first | (simp;done) | omega)) | refine row_alloc ?_ _ | refine row_drew ?_ | refine row_call ?_ (by assumption)))) hb1;obtain ⟨c1_1a,c1_1b,f1_1a,f1_1b⟩:=row_two r1_1) | (go_at_call 164;refine (pbits a ha _).mono ?_;rintro e w2 ⟨rfl,hb2⟩;have hz2:=hb2.size;(try simp at hz2);have q2_0:w.heap.size<w2.heap.size:=(by omega);have r2_0:Row w2 (w.heap.size) 67 (Wc a):=row_call (by (repeat (first | assumption | (refine row_new ?_;(first | (simp;done) | omega)) | refine row_alloc ?_ _ | refine row_drew ?_ | refine row_call ?_ (by assumption)))) hb2;obtain ⟨c2_0a,c2_0b,f2_0a,f2_0b⟩:=row_two r2_0;have q2_1:w.heap.size+1<w2.heap.size:=(by omega);have r2_1:Row w2 (w.heap.size+1) 67 #[.int .u64 0, .int .u64 0]:=row_call (by (repeat (first | assumption | (refine row_new ?_;(first | (simp;done) | omega)) | refine row_alloc ?_ _ | refine row_drew ?_ | refine row_call ?_ (by assumption)))) hb2;obtain ⟨c2_1a,c2_1b,f2_1a,f2_1b⟩:=row_two r2_1))
          simp [bodyPost,results,Tryz.results75,go_sem,c2_1a,c2_1b]
          (repeat (first | exact Below.refl _ _ | refine Below.setCell ?_ (by (try simp)<;>omega) _ | refine Below.alloc ?_ (by (try simp)<;>omega) _ | refine Below.drew ?_ | refine Below.trans ?_ (Below.mono (by assumption) (by (try simp)<;>omega))))
      · obtain ⟨v1,v2⟩:=left_no (a:=a) (n:=n) (fun h=>hf h.2)
        rw [v1,v2]
        have hc:128-blenI a<n:=by rw [hfit] at hf;omega
        clear v1 v2 hfit hf
        go_enter Tryz.func75,Tryz.ntmps75
        go_wp2_with (first | (go_at_call 163;refine (pzero a _).mono ?_;rintro e w1 ⟨rfl,hb1⟩;have hz1:=hb1.size;(try simp at hz1);have q1_0:w.heap.size<w1.heap.size:=(by omega);have r1_0:Row w1 (w.heap.size) 67 (Wc a):=row_call (by (repeat (first | assumption | (refine row_new ?_;(first | (simp;done) | omega)) | refine row_alloc ?_ _ | refine row_drew ?_ | refine row_call ?_ (by assumption)))) hb1;obtain ⟨c1_0a,c1_0b,f1_0a,f1_0b⟩:=row_two r1_0;have q1_1:w.heap.size+1<w1.heap.size:=(by omega);have r1_1:Row w1 (w.heap.size+1) 67 #[.int .u64 0, .int .u64 0]:=row_call (by (repeat (first | assumption | (refine row_new ?_;(first | (simp;done) | omega)) | refine row_alloc ?_ _ | refine row_drew ?_ | refine row_call ?_ (by assumption)))) hb1;obtain ⟨c1_1a,c1_1b,f1_1a,f1_1b⟩:=row_two r1_1) | (go_at_call 164;refine (pbits a ha _).mono ?_;rintro e w2 ⟨rfl,hb2⟩;have hz2:=hb2.size;(try simp at hz2);have q2_0:w.heap.size<w2.heap.size:=(by omega);have r2_0:Row w2 (w.heap.size) 67 (Wc a):=row_call (by (repeat (first | assumption | (refine row_new ?_;(first | (simp;done) | omega)) | refine row_alloc ?_ _ | refine row_drew ?_ | refine row_call ?_ (by assumption)))) hb2;obtain ⟨c2_0a,c2_0b,f2_0a,f2_0b⟩:=row_two r2_0;have q2_1:w.heap.size+1<w2.heap.size:=(by omega);have r2_1:Row w2 (w.heap.size+1) 67 #[.int .u64 0, .int .u64 0]:=row_call (by (repeat (first | assumption | (refine row_new ?_;(first | (simp;done) | omega)) | refine row_alloc ?_ _ | refine row_drew ?_ | refine row_call ?_ (by assumption)))) hb2;obtain ⟨c2_1a,c2_1b,f2_1a,f2_1b⟩:=row_two r2_1))
        simp [bodyPost,results,Tryz.results75,go_sem,c2_1a,c2_1b]
        refine ⟨⟨rfl,rfl⟩,?_⟩
        (repeat (first | exact Below.refl _ _ | refine Below.setCell ?_ (by (try simp)<;>omega) _ | refine Below.alloc ?_ (by (try simp)<;>omega) _ | refine Below.drew ?_ | refine Below.trans ?_ (Below.mono (by assumption) (by (try simp)<;>omega))))
end Go.Proofs.YtdipoojjlddohaaGreat
end
section
/- Plain facts on counters that halve: no program is in sight. -/
namespace Go.Proofs.YtdipoojjlddohaaGreat
def sumOK (now:Int) (e:Nat) (s:Int):Bool:=decide (0≤s∧s≤1099511627776∧(s=0∨(e:Int)≤now))
def hvalid (now:Int) (zs:List Int):Bool:=decide (1≤zs.length∧zs.length≤64∧0≤now∧now≤16777216∧∀ e,e<zs.length→sumOK now e (zs.getD e 0)=true)
def hvalE (now:Int) (zs:List Int):Int:=if hvalid now zs=true then 0 else 2
theorem hvalE_yes {now:Int} {zs:List Int} (h:hvalid now zs=true):hvalE now zs=0:=by unfold hvalE;rw [if_pos h]
theorem hvalE_no {now:Int} {zs:List Int} (h:hvalid now zs=false):hvalE now zs=2:=by unfold hvalE;rw [if_neg (by simp [h])]
theorem hvalE_len0 {now:Int} {zs:List Int} (h:zs.length<1):hvalE now zs=2:=hvalE_no (by unfold hvalid;simp;omega)
theorem hvalE_len1 {now:Int} {zs:List Int} (h:64<zs.length):hvalE now zs=2:=hvalE_no (by unfold hvalid;simp;omega)
theorem hvalE_now0 {now:Int} {zs:List Int} (h:now<0):hvalE now zs=2:=hvalE_no (by unfold hvalid;simp;omega)
theorem hvalE_now1 {now:Int} {zs:List Int} (h:16777216<now):hvalE now zs=2:=hvalE_no (by unfold hvalid;simp;omega)
theorem hvalE_bad {now:Int} {zs:List Int} {k:Nat} (hk:k<zs.length) (h:sumOK now k (zs.getD k 0)=false):hvalE now zs=2:=hvalE_no (by
  unfold hvalid
  simp only [decide_eq_false_iff_not]
  intro a
  have:=a.2.2.2.2 k hk
  rw [h] at this
  cases this)
theorem hvalE_all {now:Int} {zs:List Int} (h1:1≤zs.length) (h2:zs.length≤64) (h3:0≤now) (h4:now≤16777216) (h:∀ e,e<zs.length→sumOK now e (zs.getD e 0)=true):hvalE now zs=0:=hvalE_yes (by
  unfold hvalid
  exact decide_eq_true ⟨h1,h2,h3,h4,h⟩)
theorem sumOK_neg {now s:Int} {e:Nat} (h:s<0):sumOK now e s=false:=by unfold sumOK;simp;omega
theorem sumOK_big {now s:Int} {e:Nat} (h:1099511627776<s):sumOK now e s=false:=by unfold sumOK;simp;omega
theorem sumOK_late {now s:Int} {e:Nat} (h0:s≠0) (h:now<(e:Int)):sumOK now e s=false:=by unfold sumOK;simp;omega
theorem sumOK_zero {now:Int} {e:Nat}:sumOK now e 0=true:=by unfold sumOK;simp
theorem sumOK_yes {now s:Int} {e:Nat} (h0:0≤s) (h1:s≤1099511627776) (h:(e:Int)≤now):sumOK now e s=true:=by unfold sumOK;simp;omega
theorem hvalid_of {now:Int} {zs:List Int} (h:hvalE now zs=0):1≤zs.length∧zs.length≤64∧0≤now∧now≤16777216∧∀ e,e<zs.length→0≤zs.getD e 0∧zs.getD e 0≤1099511627776:=by
  unfold hvalE at h
  split at h
  · rename_i k
    unfold hvalid at k
    simp only [decide_eq_true_eq] at k
    refine ⟨k.1,k.2.1,k.2.2.1,k.2.2.2.1,fun e he=>?_⟩
    have:=k.2.2.2.2 e he
    unfold sumOK at this
    simp only [decide_eq_true_eq] at this
    exact ⟨this.1,this.2.1⟩
  · cases h
end Go.Proofs.YtdipoojjlddohaaGreat
end
section
/- The check of a counter that halves, walked: the program and the reference. -/
set_option maxRecDepth 100000
namespace Go.Proofs.YtdipoojjlddohaaGreat
open Go.RowKit Go.Shelf
theorem rtick_neg (t:Int) (h:t<0) (w:World):Calls Tryz.prog 288 #[.int .i64 t] w fun e w'=>e = .returned (.bool false)∧w'=w:=by
  go_enter Tryz.func288,Tryz.ntmps288
  go_wp2
  go_ret
  exact ⟨rfl,rfl⟩
theorem ret_i64H {k:IntKind} {a b:Int} (h:a=b):Ending.returned (.int k a) = .returned (.int k b):=by rw [h]
theorem phval_len0 (now:Int) (A:Option Addr) (n c:Nat) (zs:List Int) (w:World) (hr:Reads w w.heap.size 1 A n (zs.map (Value.int .i64))) (hnow : -9223372036854775808≤now∧now≤9223372036854775807) (hwf:∀ k, -9223372036854775808≤zs.getD k 0∧zs.getD k 0≤9223372036854775807) (hn:n≤9223372036854775807) (h:n<1):Calls Tryz.prog 143 #[.agg #[.int .i64 now, .slice A n c]] w fun e w'=>e = .returned (.int .i64 (hvalE now zs))∧Below w.heap.size w w':=by
  have hl:=hr.num_len
  have E:=Lib.hid (hvalE_len0 (now:=now) (zs:=zs) (by omega))
  clear hr hwf hl
  go_enter Tryz.func143,Tryz.ntmps143
  go_wp2_with fail
  go_ret
  exact ⟨ret_i64H E.out.symm,(Below.refl _ _).alloc (Nat.le_refl _) _⟩
theorem phval_len1 (now:Int) (A:Option Addr) (n c:Nat) (zs:List Int) (w:World) (hr:Reads w w.heap.size 1 A n (zs.map (Value.int .i64))) (hnow : -9223372036854775808≤now∧now≤9223372036854775807) (hwf:∀ k, -9223372036854775808≤zs.getD k 0∧zs.getD k 0≤9223372036854775807) (hn:n≤9223372036854775807) (h:64<n):Calls Tryz.prog 143 #[.agg #[.int .i64 now, .slice A n c]] w fun e w'=>e = .returned (.int .i64 (hvalE now zs))∧Below w.heap.size w w':=by
  have hl:=hr.num_len
  have E:=Lib.hid (hvalE_len1 (now:=now) (zs:=zs) (by omega))
  clear hr hwf hl
  have h1:¬ (n<1):=by omega
  go_enter Tryz.func143,Tryz.ntmps143
  go_wp2_with fail
  go_ret
  exact ⟨ret_i64H E.out.symm,(Below.refl _ _).alloc (Nat.le_refl _) _⟩
theorem phval_now0 (now:Int) (A:Option Addr) (n c:Nat) (zs:List Int) (w:World) (hr:Reads w w.heap.size 1 A n (zs.map (Value.int .i64))) (hnow : -9223372036854775808≤now∧now≤9223372036854775807) (hwf:∀ k, -9223372036854775808≤zs.getD k 0∧zs.getD k 0≤9223372036854775807) (hn:n≤9223372036854775807) (h1:1≤n) (h2:n≤64) (h:now<0):Calls Tryz.prog 143 #[.agg #[.int .i64 now, .slice A n c]] w fun e w'=>e = .returned (.int .i64 (hvalE now zs))∧Below w.heap.size w w':=by
  have hl:=hr.num_len
  have E:=Lib.hid (hvalE_now0 (now:=now) (zs:=zs) h)
  clear hr hwf hl
  go_enter Tryz.func143,Tryz.ntmps143
  go_wp2_with fail
  go_ret
  exact ⟨ret_i64H E.out.symm,(Below.refl _ _).alloc (Nat.le_refl _) _⟩
theorem phval_now1 (now:Int) (A:Option Addr) (n c:Nat) (zs:List Int) (w:World) (hr:Reads w w.heap.size 1 A n (zs.map (Value.int .i64))) (hnow : -9223372036854775808≤now∧now≤9223372036854775807) (hwf:∀ k, -9223372036854775808≤zs.getD k 0∧zs.getD k 0≤9223372036854775807) (hn:n≤9223372036854775807) (h1:1≤n) (h2:n≤64) (h:16777216<now):Calls Tryz.prog 143 #[.agg #[.int .i64 now, .slice A n c]] w fun e w'=>e = .returned (.int .i64 (hvalE now zs))∧Below w.heap.size w w':=by
  have hl:=hr.num_len
  have E:=Lib.hid (hvalE_now1 (now:=now) (zs:=zs) h)
  clear hr hwf hl
  have h':0≤now:=by omega
  go_enter Tryz.func143,Tryz.ntmps143
  go_wp2_with fail
  go_ret
  exact ⟨ret_i64H E.out.symm,(Below.refl _ _).alloc (Nat.le_refl _) _⟩
set_option maxHeartbeats 1000000 in
theorem phval_main (now:Int) (A:Option Addr) (n c:Nat) (zs:List Int) (w:World) (hr:Reads w w.heap.size 1 A n (zs.map (Value.int .i64))) (hnow : -9223372036854775808≤now∧now≤9223372036854775807) (hwf:∀ k, -9223372036854775808≤zs.getD k 0∧zs.getD k 0≤9223372036854775807) (hn:n≤9223372036854775807) (h1:1≤n) (h2:n≤64) (h3:0≤now) (h4:now≤16777216):Calls Tryz.prog 143 #[.agg #[.int .i64 now, .slice A n c]] w fun e w'=>e = .returned (.int .i64 (hvalE now zs))∧Below w.heap.size w w':=by
  have hl:=hr.num_len
  have e1:=Lib.hid hl
  go_enter Tryz.func143,Tryz.ntmps143
  go_wp2_with fail
  have L1:Row (w.alloc (.cells #[.int .i64 now, .slice A n c] 45)) w.heap.size 45 #[.int .i64 now, .slice A n c]:=row_new rfl
  have L2:=hr.alloc (Nat.le_refl _) (.cells #[.int .i64 now, .slice A n c] 45)
  have L3:Below w.heap.size w (w.alloc (.cells #[.int .i64 now, .slice A n c] 45)):=(Below.refl _ _).alloc (Nat.le_refl _) _
  generalize (w.alloc (.cells #[.int .i64 now, .slice A n c] 45))=w2 at L1 L2 L3 ⊢
  obtain ⟨X0,X1,X2,X3⟩:=row_two L1
  clear hr hl
  go_loop [28] (fun i=>∃ k:Nat,k≤n∧i = .int .i64 (k:Nat)∧RowKit.Hid (∀ e,e<k→sumOK now e (zs.getD e 0)=true)) (fun i=>n-(intOf i).toNat)
  case atStart=>exact ⟨0,by omega,rfl,Lib.hid (fun e h=>absurd h (by omega))⟩
  case round =>
    obtain ⟨k,hk,rfl,HA⟩:=hrel
    by_cases hlt:k<n
    · obtain ⟨ad,rfl,hadb,hcell⟩:=L2.num hlt
      have hs:=hwf k
      generalize hz:zs.getD k 0=s at hs hcell
      have HZ:=Lib.hid hz
      clear hz hwf
      have i1:(k:Int)<(n:Int):=by omega
      by_cases c1:s<0
      · have E:=Lib.hid (hvalE_bad (now:=now) (zs:=zs) (k:=k) (by rw [e1.out];exact hlt) (by rw [HZ.out];exact sumOK_neg c1))
        go_wp2
        go_ret
        exact ⟨ret_i64H E.out.symm,L3⟩
      · by_cases c2:1099511627776<s
        · have E:=Lib.hid (hvalE_bad (now:=now) (zs:=zs) (k:=k) (by rw [e1.out];exact hlt) (by rw [HZ.out];exact sumOK_big c2))
          go_wp2
          go_ret
          exact ⟨ret_i64H E.out.symm,L3⟩
        · by_cases c3:now<(k:Int)
          · by_cases c4:s=0
            · subst c4
              have HB:=Lib.hid (fun e (he:e<k+1)=>by
                rcases Nat.lt_or_ge e k with g | g
                · exact HA.out e g
                · rw [show e=k by omega,HZ.out];exact sumOK_zero (now:=now))
              go_wp2
              go_round
              case rel=>exact ⟨k+1,by omega,by go_num,HB⟩
              case measure=>simp [intOf];omega
            · have E:=Lib.hid (hvalE_bad (now:=now) (zs:=zs) (k:=k) (by rw [e1.out];exact hlt) (by rw [HZ.out];exact sumOK_late c4 c3))
              have c4':(s != 0)=true:=by simpa using c4
              clear c4
              go_wp2
              go_ret
              exact ⟨ret_i64H E.out.symm,L3⟩
          · have HB:=Lib.hid (fun e (he:e<k+1)=>by
              rcases Nat.lt_or_ge e k with g | g
              · exact HA.out e g
              · rw [show e=k by omega,HZ.out];exact sumOK_yes (now:=now) (by omega) (by omega) (by omega))
            by_cases c4:s=0
            · subst c4
              go_wp2
              go_round
              case rel=>exact ⟨k+1,by omega,by go_num,HB⟩
              case measure=>simp [intOf];omega
            · have c4':(s != 0)=true:=by simpa using c4
              clear c4
              go_wp2
              go_round
              case rel=>exact ⟨k+1,by omega,by go_num,HB⟩
              case measure=>simp [intOf];omega
    · have i1:¬ (k:Int)<(n:Int):=by omega
      have E:=Lib.hid (hvalE_all (now:=now) (zs:=zs) (by rw [e1.out];omega) (by rw [e1.out];omega) h3 h4 (fun e he=>HA.out e (by rw [e1.out] at he;omega)))
      go_wp2
      go_ret
      exact ⟨ret_i64H E.out.symm,L3⟩
theorem phval (now:Int) (A:Option Addr) (n c:Nat) (zs:List Int) (w:World) (hr:Reads w w.heap.size 1 A n (zs.map (Value.int .i64))) (hnow : -9223372036854775808≤now∧now≤9223372036854775807) (hwf:∀ k, -9223372036854775808≤zs.getD k 0∧zs.getD k 0≤9223372036854775807) (hn:n≤9223372036854775807):Calls Tryz.prog 143 #[.agg #[.int .i64 now, .slice A n c]] w fun e w'=>e = .returned (.int .i64 (hvalE now zs))∧Below w.heap.size w w':=by
  by_cases h1:n<1
  · exact phval_len0 now A n c zs w hr hnow hwf hn h1
  · by_cases h2:64<n
    · exact phval_len1 now A n c zs w hr hnow hwf hn h2
    · by_cases h3:now<0
      · exact phval_now0 now A n c zs w hr hnow hwf hn (by omega) (by omega) h3
      · by_cases h4:16777216<now
        · exact phval_now1 now A n c zs w hr hnow hwf hn (by omega) (by omega) h4
        · exact phval_main now A n c zs w hr hnow hwf hn (by omega) (by omega) (by omega) (by omega)
end Go.Proofs.YtdipoojjlddohaaGreat
end
section
/- What becomes of a counter that halves: plain. -/
namespace Go.Proofs.YtdipoojjlddohaaGreat
structure HOut where
  now:Int
  zs:List Int
  f:Int
def hzero (f:Int):HOut:=⟨0,[],f⟩
def haddE (now:Int) (zs:List Int) (v:Int):Int :=
  if hvalE now zs=0 then if v<0∨4096<v then 4 else if 1099511627776<zs.getD 0 0+v then 6 else 0 else 2
def hadd (now:Int) (zs:List Int) (v:Int):HOut:=if haddE now zs v=0 then ⟨now,zs.set 0 (zs.getD 0 0+v),0⟩ else hzero (haddE now zs v)
theorem hadd_over {now:Int} {zs:List Int} {v:Int} (h:hvalE now zs=0) (h0:0≤v) (h1:v≤4096) (h2:1099511627776<zs.getD 0 0+v):hadd now zs v=hzero 6:=by
  have e:haddE now zs v=6:=by unfold haddE;rw [if_pos h,if_neg (by omega),if_pos h2]
  unfold hadd;simp [e]
theorem hadd_ok {now:Int} {zs:List Int} {v:Int} (h:hvalE now zs=0) (h0:0≤v) (h1:v≤4096) (h2:zs.getD 0 0+v≤1099511627776):hadd now zs v=⟨now,zs.set 0 (zs.getD 0 0+v),0⟩:=by
  have e:haddE now zs v=0:=by unfold haddE;rw [if_pos h,if_neg (by omega),if_neg (by omega)]
  unfold hadd;simp [e]
def hshift (zs:List Int) (by_:Nat):List Int:=(List.replicate by_ 0 ++ zs).take zs.length
def hadvE (now:Int) (zs:List Int) (tt9:Int):Int:=if hvalE now zs=0 then if tt9<now∨16777216<tt9 then 3 else 0 else 2
def hadv (now:Int) (zs:List Int) (tt9:Int):HOut:=if hadvE now zs tt9=0 then ⟨tt9,hshift zs (tt9-now).toNat,0⟩ else hzero (hadvE now zs tt9)
theorem hadv_ok {now:Int} {zs:List Int} {tt9:Int} (h:hvalE now zs=0) (h0:now≤tt9) (h1:tt9≤16777216):hadv now zs tt9=⟨tt9,hshift zs (tt9-now).toNat,0⟩:=by
  have e:hadvE now zs tt9=0:=by unfold hadvE;rw [if_pos h,if_neg (by omega)]
  unfold hadv;simp [e]
theorem hshift_len (zs:List Int) (b:Nat):(hshift zs b).length=zs.length:=by unfold hshift;simp
theorem hshift_at {zs:List Int} {b k:Nat} (hk:k<zs.length):(hshift zs b).getD k 0=if k<b then 0 else zs.getD (k-b) 0:=by
  unfold hshift
  rw [List.getD_eq_getElem?_getD,List.getElem?_take,if_pos hk]
  by_cases h:k<b
  · rw [if_pos h,List.getElem?_append_left (by simpa using h)]
    simp [h]
  · rw [if_neg h,List.getElem?_append_right (by simp;omega)]
    simp [List.getD]
theorem hshift_min (zs:List Int) (b:Nat):List.replicate (min b zs.length) 0 ++ zs.take (zs.length-min b zs.length)=hshift zs b:=by
  apply List.ext_getElem?
  intro k
  unfold hshift
  rw [List.getElem?_take]
  by_cases hk:k<zs.length
  · rw [if_pos hk]
    by_cases h:k<b
    · rw [List.getElem?_append_left (by simp;omega),List.getElem?_append_left (by simpa using h)]
      simp [List.getElem?_replicate,h]
      omega
    · have hm:min b zs.length=b:=by omega
      rw [hm,List.getElem?_append_right (by simp;omega),List.getElem?_append_right (by simp;omega),List.length_replicate,List.getElem?_take,if_pos (by omega)]
  · rw [if_neg hk,List.getElem?_eq_none (by simp;omega)]
def hst (zs:List Int) (d k:Nat):List Int:=(List.range zs.length).map fun i=>if d≤i∧i<k+d then zs.getD (i-d) 0 else 0
end Go.Proofs.YtdipoojjlddohaaGreat
end
section
/- Counters that halve: adding a value, walked. -/
set_option maxRecDepth 100000
namespace Go.Proofs.YtdipoojjlddohaaGreat
open Go.RowKit Go.Shelf
structure HIn (now:Int) (A:Option Addr) (n c:Nat) (zs:List Int) (w:World):Prop where
  reads:Reads w w.heap.size 1 A n (zs.map (Value.int .i64))
  nowB : -9223372036854775808≤now∧now≤9223372036854775807
  zsB:∀ k, -9223372036854775808≤zs.getD k 0∧zs.getD k 0≤9223372036854775807
  nc:n≤c
  cB:c≤maxLen
section
variable {now:Int} {A:Option Addr} {n c:Nat} {zs:List Int} {w w':World}
theorem HIn.nB (h:HIn now A n c zs w):n≤9223372036854775807:=by
  have:=h.nc
  have:=h.cB
  unfold maxLen at *
  omega
theorem HIn.len (h:HIn now A n c zs w):zs.length=n:=h.reads.num_len
theorem hin_zero:HIn 0 none 0 0 [] w:=⟨by simpa using Reads.none_,by decide,by simp [List.getD],Nat.le_refl _,Nat.zero_le _⟩
end
def HRet (r:HOut) (w:World) (e:Ending) (w':World):Prop :=
  ∃ A n c,e = .returned (.tuple #[.agg #[.int .i64 r.now, .slice A n c], .int .i64 r.f])∧HIn r.now A n c r.zs w'∧Below w.heap.size w w'∧∀ a,A=some a→w.heap.size≤a.block
theorem hret_zero {w w':World} {f:Int} (hb:Below w.heap.size w w'):HRet (hzero f) w (.returned (.tuple #[.agg #[.int .i64 0, .slice none 0 0], .int .i64 f])) w':=⟨none,0,0,rfl,hin_zero,hb,fun a h=>by cases h⟩
theorem hret_own {w w':World} {now f:Int} {zs:List Int} {g n c:Nat} (ho:Own w' 2 1 g n c (zs.map (Value.int .i64))) (hnow : -9223372036854775808≤now∧now≤9223372036854775807)
    (hz:∀ k, -9223372036854775808≤zs.getD k 0∧zs.getD k 0≤9223372036854775807) (hb:Below w.heap.size w w') (hg:w.heap.size≤g):HRet ⟨now,zs,f⟩ w (.returned (.tuple #[.agg #[.int .i64 now, .slice (some ⟨g,0,none⟩) n c], .int .i64 f])) w' :=
  ⟨some ⟨g,0,none⟩,n,c,rfl,⟨ho.reads,hnow,hz,ho.cap.1,ho.cap.2⟩,hb,fun a h=>by cases h;exact hg⟩
theorem num_at {zs:List Int} {n k:Nat} {z:Int} (hl:zs.length=n) (hk:k<n) (h:zs.getD k 0=z):(zs.map (Value.int .i64))[k]?=some (.int .i64 z):=by
  subst hl
  subst h
  simp [List.getD,hk]
theorem info_i64:(Tryz.prog.info? 2).map (fun i=>(i.zero,i.size,i.bytes))=some (some (.int .i64 0),1,8):=by kernel_rfl
theorem set_bound {zs:List Int} {v:Int} (h:∀ k, -9223372036854775808≤zs.getD k 0∧zs.getD k 0≤9223372036854775807) (j:Nat) (hv : -9223372036854775808≤v∧v≤9223372036854775807) (k:Nat) :
    -9223372036854775808≤(zs.set j v).getD k 0∧(zs.set j v).getD k 0≤9223372036854775807:=by
  simp only [List.getD_eq_getElem?_getD,List.getElem?_set]
  split
  · split
    · exact hv
    · exact ⟨by decide,by decide⟩
  · exact h k
set_option maxHeartbeats 1000000 in
theorem phadd_over (now:Int) (A:Option Addr) (n c:Nat) (zs:List Int) (v:Int) (w:World) (hin:HIn now A n c zs w) (hv:hvalE now zs=0) (h0:0≤v) (h1:v≤4096) (h2:1099511627776<zs.getD 0 0+v):Calls Tryz.prog 126 #[.agg #[.int .i64 now, .slice A n c], .int .i64 v] w fun e w'=>HRet (hadd now zs v) w e w':=by
  rw [hadd_over hv h0 h1 h2]
  have P:=fun w1 (hb:Below w.heap.size w w1)=>phval now A n c zs w1 ((hin.reads.below hb).more hb.size) hin.nowB hin.zsB hin.nB
  rw [hv] at P
  have P:=Lib.hid P
  have hl:=hin.len
  have V:=hvalid_of hv
  have hlen1:1≤n:=by omega
  have hlen2:n≤64:=by omega
  have V0:=V.2.2.2.2 0 (by omega)
  have HR:=Lib.hid hin
  obtain ⟨ad,hA,hadb,hcell⟩:=hin.reads.num (k:=0) (by omega)
  subst hA
  have hcell:w.cell? ad=some (.int .i64 (zs.getD 0 0)):=hcell
  generalize hz0:zs.getD 0 0=z0 at V0 hcell h2
  have HZ0:=Lib.hid hz0
  have HL:=Lib.hid hl
  have h2':1099511627776-v<z0:=by omega
  have hs1:0≤z0:=V0.1
  have hs2:z0≤1099511627776:=V0.2
  clear hv hin hl V V0 hz0 h2
  go_enter Tryz.func126,Tryz.ntmps126
  go_wp2_with (first | (go_at_call 143;with_reducible refine (P.out _ (by (repeat (first | exact Below.refl _ _ | refine Below.setCell ?_ (by (try simp)<;>omega) _ | refine Below.alloc ?_ (by (try simp)<;>omega) _ | refine Below.drew ?_ | refine Below.trans ?_ (Below.mono (by assumption) (by (try simp)<;>omega)))))).mono ?_;rintro e w1 ⟨rfl,hb1⟩;have hz1:=hb1.size;(try simp at hz1);have o1:Below w.heap.size w w1:=(by (repeat (first | exact Below.refl _ _ | refine Below.setCell ?_ (by (try simp)<;>omega) _ | refine Below.alloc ?_ (by (try simp)<;>omega) _ | refine Below.drew ?_ | refine Below.trans ?_ (Below.mono (by assumption) (by (try simp)<;>omega)))));have q1_0:w.heap.size<w1.heap.size:=(by omega);have r1_0:Row w1 (w.heap.size) 45 #[.int .i64 now, .slice (some ad) n c]:=row_call (by (repeat (first | assumption | (refine row_new ?_;(first | (simp;done) | omega)) | refine row_alloc ?_ _ | refine row_drew ?_ | refine row_call ?_ (by assumption)))) hb1;obtain ⟨c1_0a,c1_0b,f1_0a,f1_0b⟩:=row_two r1_0;have q1_1:w.heap.size+1<w1.heap.size:=(by omega);have r1_1:Row w1 (w.heap.size+1) 45 #[.int .i64 0, .slice none 0 0]:=row_call (by (repeat (first | assumption | (refine row_new ?_;(first | (simp;done) | omega)) | refine row_alloc ?_ _ | refine row_drew ?_ | refine row_call ?_ (by assumption)))) hb1;obtain ⟨c1_1a,c1_1b,f1_1a,f1_1b⟩:=row_two r1_1;have e1_0:=(o1.cell hadb).trans hcell))
  exact bodyPost_ret (v := .tuple #[.agg #[.int .i64 0, .slice none 0 0], .int .i64 6]) (by simp [results,Tryz.results126,go_sem,c1_1a,c1_1b]) rfl (hret_zero (by (repeat (first | exact Below.refl _ _ | refine Below.setCell ?_ (by (try simp)<;>omega) _ | refine Below.alloc ?_ (by (try simp)<;>omega) _ | refine Below.drew ?_ | refine Below.trans ?_ (Below.mono (by assumption) (by (try simp)<;>omega))))))
set_option maxHeartbeats 1000000 in
theorem phadd_ok (now:Int) (A:Option Addr) (n c:Nat) (zs:List Int) (v:Int) (w:World) (hin:HIn now A n c zs w) (hv:hvalE now zs=0) (h0:0≤v) (h1:v≤4096) (h2:zs.getD 0 0+v≤1099511627776) :
    Calls Tryz.prog 126 #[.agg #[.int .i64 now, .slice A n c], .int .i64 v] w fun e w'=>HRet (hadd now zs v) w e w':=by
  rw [hadd_ok hv h0 h1 h2]
  have P:=fun w1 (hb:Below w.heap.size w w1)=>phval now A n c zs w1 ((hin.reads.below hb).more hb.size) hin.nowB hin.zsB hin.nB
  rw [hv] at P
  have P:=Lib.hid P
  have hl:=hin.len
  have V:=hvalid_of hv
  have hlen1:1≤n:=by omega
  have hlen2:n≤64:=by omega
  have V0:=V.2.2.2.2 0 (by omega)
  have HR:=Lib.hid hin
  obtain ⟨ad,hA,hadb,hcell⟩:=hin.reads.num (k:=0) (by omega)
  subst hA
  have hcell:w.cell? ad=some (.int .i64 (zs.getD 0 0)):=hcell
  generalize hz0:zs.getD 0 0=z0 at V0 hcell h2
  have HZ0:=Lib.hid hz0
  have HL:=Lib.hid hl
  have h2':z0≤1099511627776-v:=by omega
  have hs1:0≤z0:=V0.1
  have hs2:z0≤1099511627776:=V0.2
  obtain ⟨i0,hi,iz0,iz1,iz2⟩:=info_parts info_i64
  clear hv hin hl V V0 hz0 h2
  go_enter Tryz.func126,Tryz.ntmps126
  go_wp2_with (first | (go_at_call 143;with_reducible refine (P.out _ (by (repeat (first | exact Below.refl _ _ | refine Below.setCell ?_ (by (try simp)<;>omega) _ | refine Below.alloc ?_ (by (try simp)<;>omega) _ | refine Below.drew ?_ | refine Below.trans ?_ (Below.mono (by assumption) (by (try simp)<;>omega)))))).mono ?_;rintro e w1 ⟨rfl,hb1⟩;have hz1:=hb1.size;(try simp at hz1);have o1:Below w.heap.size w w1:=(by (repeat (first | exact Below.refl _ _ | refine Below.setCell ?_ (by (try simp)<;>omega) _ | refine Below.alloc ?_ (by (try simp)<;>omega) _ | refine Below.drew ?_ | refine Below.trans ?_ (Below.mono (by assumption) (by (try simp)<;>omega)))));have q1_0:w.heap.size<w1.heap.size:=(by omega);have r1_0:Row w1 (w.heap.size) 45 #[.int .i64 now, .slice (some ad) n c]:=row_call (by (repeat (first | assumption | (refine row_new ?_;(first | (simp;done) | omega)) | refine row_alloc ?_ _ | refine row_drew ?_ | refine row_call ?_ (by assumption)))) hb1;obtain ⟨c1_0a,c1_0b,f1_0a,f1_0b⟩:=row_two r1_0;have q1_1:w.heap.size+1<w1.heap.size:=(by omega);have r1_1:Row w1 (w.heap.size+1) 45 #[.int .i64 0, .slice none 0 0]:=row_call (by (repeat (first | assumption | (refine row_new ?_;(first | (simp;done) | omega)) | refine row_alloc ?_ _ | refine row_drew ?_ | refine row_call ?_ (by assumption)))) hb1;obtain ⟨c1_1a,c1_1b,f1_1a,f1_1b⟩:=row_two r1_1;have e1_0:=(o1.cell hadb).trans hcell) | (at_builtin;refine wpList_clone rfl _ _ 43 rfl 2 i0 (.int .i64 0) 1 8 Tryz.underlying43 hi iz0 iz1 iz2 rfl (by decide) rfl w.heap.size (some ad) n c (zs.map (Value.int .i64)) rfl (HR.out.reads.below o1) o1.size (ints_oneCell _ _) (by show n≤9223372036854775807;omega) (by omega) ?_;intro g c2 w2 own2 hg2 hb2 hz2;have o2:Below w.heap.size w w2:=(by (repeat (first | exact Below.refl _ _ | refine Below.setCell ?_ (by (try simp)<;>omega) _ | refine Below.alloc ?_ (by (try simp)<;>omega) _ | refine Below.drew ?_ | refine Below.trans ?_ (Below.mono (by assumption) (by (try simp)<;>omega)))));have q2_0:w.heap.size<w2.heap.size:=(by omega);have r2_0:Row w2 (w.heap.size) 45 #[.int .i64 now, .slice (some ad) n c]:=row_call (by (repeat (first | assumption | (refine row_new ?_;(first | (simp;done) | omega)) | refine row_alloc ?_ _ | refine row_drew ?_ | refine row_call ?_ (by assumption)))) hb2;obtain ⟨c2_0a,c2_0b,f2_0a,f2_0b⟩:=row_two r2_0;have q2_1:w.heap.size+1<w2.heap.size:=(by omega);have r2_1:Row w2 (w.heap.size+1) 45 #[.int .i64 0, .slice none 0 0]:=row_call (by (repeat (first | assumption | (refine row_new ?_;(first | (simp;done) | omega)) | refine row_alloc ?_ _ | refine row_drew ?_ | refine row_call ?_ (by assumption)))) hb2;obtain ⟨c2_1a,c2_1b,f2_1a,f2_1b⟩:=row_two r2_1;have d2:w2.cell? ⟨g,0,none⟩=some (.int .i64 z0):=((own2.cell (j:=0) (by omega)).trans (num_at HL.out (by omega) HZ0.out));have d3:=own2.free 0;have hne:g≠w.heap.size:=(by omega);have hne1:g≠w.heap.size+1:=(by omega)))
  have ow:Own ((((w2.setCell ⟨w.heap.size,1,none⟩ (.slice (some ⟨g,0,none⟩) n c2)).setCell ⟨g,0,none⟩ (.int .i64 (z0+v))).setCell ⟨w.heap.size+1,0,none⟩ (.int .i64 now)).setCell ⟨w.heap.size+1,1,none⟩ (.slice (some ⟨g,0,none⟩) n c2)) 2 1 g n c2 (((zs.set 0 (z0+v)).map (Value.int .i64))):=by
    rw [List.map_set]
    exact ((((own2.other (by simp;omega) _).set 0 (.int .i64 (z0+v))).other (by simp;omega) _).other (by simp;omega) _)
  have ob:Below w.heap.size w ((((w2.setCell ⟨w.heap.size,1,none⟩ (.slice (some ⟨g,0,none⟩) n c2)).setCell ⟨g,0,none⟩ (.int .i64 (z0+v))).setCell ⟨w.heap.size+1,0,none⟩ (.int .i64 now)).setCell ⟨w.heap.size+1,1,none⟩ (.slice (some ⟨g,0,none⟩) n c2)):=by (repeat (first | exact Below.refl _ _ | refine Below.setCell ?_ (by (try simp)<;>omega) _ | refine Below.alloc ?_ (by (try simp)<;>omega) _ | refine Below.drew ?_ | refine Below.trans ?_ (Below.mono (by assumption) (by (try simp)<;>omega))))
  exact bodyPost_ret (v := .tuple #[.agg #[.int .i64 now, .slice (some ⟨g,0,none⟩) n c2], .int .i64 0]) (by simp [results,Tryz.results126,go_sem,c2_1a,c2_1b,hne,hne.symm,hne1,hne1.symm]) rfl (hret_own ow HR.out.nowB (set_bound HR.out.zsB 0 (by omega)) ob (by omega))
end Go.Proofs.YtdipoojjlddohaaGreat
end
