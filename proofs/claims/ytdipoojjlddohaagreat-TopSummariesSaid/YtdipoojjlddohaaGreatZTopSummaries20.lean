/- What the law TopSummaries needs, joined of its texts by a program (slim2.py); part 20. -/
import Derived.Test.YtdipoojjlddohaaGreatZTopSummaries1
import Derived.Test.YtdipoojjlddohaaGreatZTopSummaries19
set_option linter.unusedVariables false
set_option linter.unusedSimpArgs false
set_option linter.unusedSectionVars false
set_option linter.unnecessarySimpa false
section
/- Summaries of a stream: the check, walked. -/
namespace Go.Proofs.YtdipoojjlddohaaGreat
open Go.RowKit
set_option maxRecDepth 100000 in
theorem psval_k0 (k cap n:Int) (A:Option Addr) (m c:Nat) (ts:List Tup) (w:World) (hin:SIn k cap n A m c ts w) (h:k<1):Calls Tryz.prog 147 #[.agg #[.int .i64 k, .int .i64 cap, .int .i64 n, .slice A m c]] w fun e w'=>e = .returned (.int .i64 (svalE k cap n ts))∧Below w.heap.size w w':=by
  have hl:=hin.len
  have E:=Lib.hid (svalE_no (k:=k) (cap:=cap) (n:=n) (ts:=ts) (fun a=>absurd a.1 (by omega)))
  clear hin hl
  go_enter Tryz.func147,Tryz.ntmps147
  go_wp2_with fail
  go_ret
  exact ⟨ret_i64 E.out.symm,by (repeat (first | exact Below.refl _ _ | refine Below.setCell ?_ (by (try simp)<;>omega) _ | refine Below.alloc ?_ (by (try simp)<;>omega) _ | refine Below.drew ?_ | refine Below.trans ?_ (Below.mono (by assumption) (by (try simp)<;>omega))))⟩
set_option maxRecDepth 100000 in
theorem psval_k1 (k cap n:Int) (A:Option Addr) (m c:Nat) (ts:List Tup) (w:World) (hin:SIn k cap n A m c ts w) (h0:1≤k) (h:64<k):Calls Tryz.prog 147 #[.agg #[.int .i64 k, .int .i64 cap, .int .i64 n, .slice A m c]] w fun e w'=>e = .returned (.int .i64 (svalE k cap n ts))∧Below w.heap.size w w':=by
  have hl:=hin.len
  have E:=Lib.hid (svalE_no (k:=k) (cap:=cap) (n:=n) (ts:=ts) (fun a=>absurd a.2.1 (by omega)))
  clear hin hl
  go_enter Tryz.func147,Tryz.ntmps147
  go_wp2_with fail
  go_ret
  exact ⟨ret_i64 E.out.symm,by (repeat (first | exact Below.refl _ _ | refine Below.setCell ?_ (by (try simp)<;>omega) _ | refine Below.alloc ?_ (by (try simp)<;>omega) _ | refine Below.drew ?_ | refine Below.trans ?_ (Below.mono (by assumption) (by (try simp)<;>omega))))⟩
set_option maxRecDepth 100000 in
theorem psval_c0 (k cap n:Int) (A:Option Addr) (m c:Nat) (ts:List Tup) (w:World) (hin:SIn k cap n A m c ts w) (h0:1≤k) (h1:k≤64) (h:cap<2):Calls Tryz.prog 147 #[.agg #[.int .i64 k, .int .i64 cap, .int .i64 n, .slice A m c]] w fun e w'=>e = .returned (.int .i64 (svalE k cap n ts))∧Below w.heap.size w w':=by
  have hl:=hin.len
  have E:=Lib.hid (svalE_no (k:=k) (cap:=cap) (n:=n) (ts:=ts) (fun a=>absurd a.2.2.1 (by omega)))
  clear hin hl
  go_enter Tryz.func147,Tryz.ntmps147
  go_wp2_with fail
  go_ret
  exact ⟨ret_i64 E.out.symm,by (repeat (first | exact Below.refl _ _ | refine Below.setCell ?_ (by (try simp)<;>omega) _ | refine Below.alloc ?_ (by (try simp)<;>omega) _ | refine Below.drew ?_ | refine Below.trans ?_ (Below.mono (by assumption) (by (try simp)<;>omega))))⟩
set_option maxRecDepth 100000 in
theorem psval_c1 (k cap n:Int) (A:Option Addr) (m c:Nat) (ts:List Tup) (w:World) (hin:SIn k cap n A m c ts w) (h0:1≤k) (h1:k≤64) (h2:2≤cap) (h:65536<cap):Calls Tryz.prog 147 #[.agg #[.int .i64 k, .int .i64 cap, .int .i64 n, .slice A m c]] w fun e w'=>e = .returned (.int .i64 (svalE k cap n ts))∧Below w.heap.size w w':=by
  have hl:=hin.len
  have E:=Lib.hid (svalE_no (k:=k) (cap:=cap) (n:=n) (ts:=ts) (fun a=>absurd a.2.2.2.1 (by omega)))
  clear hin hl
  go_enter Tryz.func147,Tryz.ntmps147
  go_wp2_with fail
  go_ret
  exact ⟨ret_i64 E.out.symm,by (repeat (first | exact Below.refl _ _ | refine Below.setCell ?_ (by (try simp)<;>omega) _ | refine Below.alloc ?_ (by (try simp)<;>omega) _ | refine Below.drew ?_ | refine Below.trans ?_ (Below.mono (by assumption) (by (try simp)<;>omega))))⟩
set_option maxRecDepth 100000 in
theorem psval_n0 (k cap n:Int) (A:Option Addr) (m c:Nat) (ts:List Tup) (w:World) (hin:SIn k cap n A m c ts w) (h0:1≤k) (h1:k≤64) (h2:2≤cap) (h3:cap≤65536) (h:n<0):Calls Tryz.prog 147 #[.agg #[.int .i64 k, .int .i64 cap, .int .i64 n, .slice A m c]] w fun e w'=>e = .returned (.int .i64 (svalE k cap n ts))∧Below w.heap.size w w':=by
  have hl:=hin.len
  have E:=Lib.hid (svalE_no (k:=k) (cap:=cap) (n:=n) (ts:=ts) (fun a=>absurd a.2.2.2.2.1 (by omega)))
  clear hin hl
  go_enter Tryz.func147,Tryz.ntmps147
  go_wp2_with fail
  go_ret
  exact ⟨ret_i64 E.out.symm,by (repeat (first | exact Below.refl _ _ | refine Below.setCell ?_ (by (try simp)<;>omega) _ | refine Below.alloc ?_ (by (try simp)<;>omega) _ | refine Below.drew ?_ | refine Below.trans ?_ (Below.mono (by assumption) (by (try simp)<;>omega))))⟩
set_option maxRecDepth 100000 in
theorem psval_n1 (k cap n:Int) (A:Option Addr) (m c:Nat) (ts:List Tup) (w:World) (hin:SIn k cap n A m c ts w) (h0:1≤k) (h1:k≤64) (h2:2≤cap) (h3:cap≤65536) (h4:0≤n) (h:1099511627776<n):Calls Tryz.prog 147 #[.agg #[.int .i64 k, .int .i64 cap, .int .i64 n, .slice A m c]] w fun e w'=>e = .returned (.int .i64 (svalE k cap n ts))∧Below w.heap.size w w':=by
  have hl:=hin.len
  have E:=Lib.hid (svalE_no (k:=k) (cap:=cap) (n:=n) (ts:=ts) (fun a=>absurd a.2.2.2.2.2.1 (by omega)))
  clear hin hl
  go_enter Tryz.func147,Tryz.ntmps147
  go_wp2_with fail
  go_ret
  exact ⟨ret_i64 E.out.symm,by (repeat (first | exact Below.refl _ _ | refine Below.setCell ?_ (by (try simp)<;>omega) _ | refine Below.alloc ?_ (by (try simp)<;>omega) _ | refine Below.drew ?_ | refine Below.trans ?_ (Below.mono (by assumption) (by (try simp)<;>omega))))⟩
set_option maxRecDepth 100000 in
theorem psval_len (k cap n:Int) (A:Option Addr) (m c:Nat) (ts:List Tup) (w:World) (hin:SIn k cap n A m c ts w) (h0:1≤k) (h1:k≤64) (h2:2≤cap) (h3:cap≤65536) (h4:0≤n) (h5:n≤1099511627776) (h:cap<(m:Int)):Calls Tryz.prog 147 #[.agg #[.int .i64 k, .int .i64 cap, .int .i64 n, .slice A m c]] w fun e w'=>e = .returned (.int .i64 (svalE k cap n ts))∧Below w.heap.size w w':=by
  have hl:=hin.len
  have E:=Lib.hid (svalE_no (k:=k) (cap:=cap) (n:=n) (ts:=ts) (fun a=>absurd a.2.2.2.2.2.2.1 (by omega)))
  clear hin hl
  go_enter Tryz.func147,Tryz.ntmps147
  go_wp2_with fail
  go_ret
  exact ⟨ret_i64 E.out.symm,by (repeat (first | exact Below.refl _ _ | refine Below.setCell ?_ (by (try simp)<;>omega) _ | refine Below.alloc ?_ (by (try simp)<;>omega) _ | refine Below.drew ?_ | refine Below.trans ?_ (Below.mono (by assumption) (by (try simp)<;>omega))))⟩
set_option maxRecDepth 100000 in
theorem psval_e0 (k cap n:Int) (A:Option Addr) (m c:Nat) (ts:List Tup) (w:World) (hin:SIn k cap n A m c ts w) (h0:1≤k) (h1:k≤64) (h2:2≤cap) (h3:cap≤65536) (h4:0≤n) (h5:n≤1099511627776) (h6:(m:Int)≤cap) (hn:n=0) (hm:0<m):Calls Tryz.prog 147 #[.agg #[.int .i64 k, .int .i64 cap, .int .i64 n, .slice A m c]] w fun e w'=>e = .returned (.int .i64 (svalE k cap n ts))∧Below w.heap.size w w':=by
  have hl:=hin.len
  have E:=Lib.hid (svalE_no (k:=k) (cap:=cap) (n:=n) (ts:=ts) (fun a=>absurd (a.2.2.2.2.2.2.2.1 hn) (by omega)))
  have hm1:(0:Int)<(m:Int):=by omega
  clear hin hl
  subst hn
  go_enter Tryz.func147,Tryz.ntmps147
  go_wp2_with fail
  go_ret
  exact ⟨ret_i64 E.out.symm,by (repeat (first | exact Below.refl _ _ | refine Below.setCell ?_ (by (try simp)<;>omega) _ | refine Below.alloc ?_ (by (try simp)<;>omega) _ | refine Below.drew ?_ | refine Below.trans ?_ (Below.mono (by assumption) (by (try simp)<;>omega))))⟩
set_option maxRecDepth 100000 in
theorem psval_e1 (k cap n:Int) (A:Option Addr) (m c:Nat) (ts:List Tup) (w:World) (hin:SIn k cap n A m c ts w) (h0:1≤k) (h1:k≤64) (h2:2≤cap) (h3:cap≤65536) (h4:0≤n) (h5:n≤1099511627776) (h6:(m:Int)≤cap) (hn:n=0) (hm:m=0):Calls Tryz.prog 147 #[.agg #[.int .i64 k, .int .i64 cap, .int .i64 n, .slice A m c]] w fun e w'=>e = .returned (.int .i64 (svalE k cap n ts))∧Below w.heap.size w w':=by
  have hl:=hin.len
  have E:=Lib.hid (svalE_yes (k:=k) (cap:=cap) (n:=n) (ts:=ts) ⟨h0,h1,h2,h3,h4,h5,by omega,fun _=>by omega,fun h=>absurd hn h⟩)
  subst hm
  clear hin hl
  subst hn
  go_enter Tryz.func147,Tryz.ntmps147
  go_wp2_with fail
  go_ret
  exact ⟨ret_i64 E.out.symm,by (repeat (first | exact Below.refl _ _ | refine Below.setCell ?_ (by (try simp)<;>omega) _ | refine Below.alloc ?_ (by (try simp)<;>omega) _ | refine Below.drew ?_ | refine Below.trans ?_ (Below.mono (by assumption) (by (try simp)<;>omega))))⟩
set_option maxRecDepth 100000 in
theorem psval_e2 (k cap n:Int) (A:Option Addr) (m c:Nat) (ts:List Tup) (w:World) (hin:SIn k cap n A m c ts w) (h0:1≤k) (h1:k≤64) (h2:2≤cap) (h3:cap≤65536) (h4:0≤n) (h5:n≤1099511627776) (h6:(m:Int)≤cap) (hn:n≠0) (hm:m=0):Calls Tryz.prog 147 #[.agg #[.int .i64 k, .int .i64 cap, .int .i64 n, .slice A m c]] w fun e w'=>e = .returned (.int .i64 (svalE k cap n ts))∧Below w.heap.size w w':=by
  have hl:=hin.len
  have E:=Lib.hid (svalE_no (k:=k) (cap:=cap) (n:=n) (ts:=ts) (fun a=>absurd (a.2.2.2.2.2.2.2.2 hn).1 (by omega)))
  subst hm
  have hn1:(n == 0)=false:=by simpa using hn
  clear hin hl
  clear hn
  go_enter Tryz.func147,Tryz.ntmps147
  go_wp2_with fail
  go_ret
  exact ⟨ret_i64 E.out.symm,by (repeat (first | exact Below.refl _ _ | refine Below.setCell ?_ (by (try simp)<;>omega) _ | refine Below.alloc ?_ (by (try simp)<;>omega) _ | refine Below.drew ?_ | refine Below.trans ?_ (Below.mono (by assumption) (by (try simp)<;>omega))))⟩
set_option maxRecDepth 100000 in
set_option maxHeartbeats 4000000 in
theorem psval_main (k cap n:Int) (A:Option Addr) (m c:Nat) (ts:List Tup) (w:World) (hin:SIn k cap n A m c ts w) (h0:1≤k) (h1:k≤64) (h2:2≤cap) (h3:cap≤65536) (h4:0≤n) (h5:n≤1099511627776) (h6:(m:Int)≤cap) (hn:n≠0) (hm:0<m):Calls Tryz.prog 147 #[.agg #[.int .i64 k, .int .i64 cap, .int .i64 n, .slice A m c]] w fun e w'=>e = .returned (.int .i64 (svalE k cap n ts))∧Below w.heap.size w w':=by
  have hl:=hin.len
  have HN:=Lib.hid hn
  have HL:=Lib.hid hl
  have HR:=Lib.hid hin
  have hn1:(n == 0)=false:=by simpa using hn
  have hm1:(m == 0)=false:=by simp;omega
  have hm2:((m:Int) == 0)=false:=by simp;omega
  have M0:=smost_pos (n:=n) (k:=k)
  have M1:=smost_le h4 h0 hn
  have PM:=fun w=>pmost n k h4 h5 h0 w
  generalize hM:smost n k=M at M0 M1 PM
  have HM:=Lib.hid hM
  have PM:=Lib.hid PM
  have w0:¬ k<1:=by omega
  have w1:¬ 64<k:=by omega
  have w7:¬ cap<2:=by omega
  have w3:¬ 65536<cap:=by omega
  have w4:¬ n<0:=by omega
  have w5:¬ 1099511627776<n:=by omega
  have w6:¬ cap<(m:Int):=by omega
  clear hin hl hn hM
  go_enter Tryz.func147,Tryz.ntmps147
  go_wp2_with (go_at_call 223;refine (PM.out _).mono ?_;rintro e w9 ⟨rfl,rfl⟩)
  have L1:Row (w.alloc (.cells #[.int .i64 k, .int .i64 cap, .int .i64 n, .slice A m c] 53)) w.heap.size 53 #[.int .i64 k, .int .i64 cap, .int .i64 n, .slice A m c]:=row_new rfl
  have L2:Below w.heap.size w (w.alloc (.cells #[.int .i64 k, .int .i64 cap, .int .i64 n, .slice A m c] 53)):=(Below.refl _ _).alloc (Nat.le_refl _) _
  generalize (w.alloc (.cells #[.int .i64 k, .int .i64 cap, .int .i64 n, .slice A m c] 53))=w2 at L1 L2 ⊢
  clear w0 w1 w7 w3 w4 w5 w6
  go_loopw [4,64] (fun s i wr=>∃ j:Nat,j≤m∧i = .int .i64 (j:Nat)∧s = .int .i64 (gsum ts j)∧RowKit.Hid (∀ e,e<j→tOK M ts e=true)∧Row wr w.heap.size 53 #[.int .i64 k, .int .i64 cap, .int .i64 n, .slice A m c]∧Below w.heap.size w wr) (fun _ i _=>m-(intOf i).toNat)
  case atStart=>exact ⟨0,by omega,rfl,rfl,Lib.hid (fun e h=>absurd h (by omega)),L1,L2⟩
  case round =>
    obtain ⟨j,hj,rfl,rfl,HA,L1,L2⟩:=hrel
    by_cases hlt:j<m
    · obtain ⟨ad,rfl,hadb,ht0⟩:=HR.out.reads.tup hlt
      have HT0:=Lib.hid ht0
      obtain ⟨hv,hg,hd⟩:=ht0.below L2 (by rw [block_of_add];exact hadb)
      have i1:(j:Int)<(m:Int):=by omega
      have i2:(0:Int)≤(j:Int):=by omega
      generalize hvv:(tupAt ts j).v=v at hv
      generalize hgg:(tupAt ts j).g=g at hg
      generalize hdd:(tupAt ts j).d=d at hd
      clear ht0
      have GS:=gsum_small HA.out (by omega) M0 (by omega)
      obtain ⟨gs0,gs1⟩:=GS
      go_upto_region 13 with (fail)
      have K1:Row (wr.alloc (.cells #[.int .i64 v, .int .i64 g, .int .i64 d] 311)) wr.heap.size 311 #[.int .i64 v, .int .i64 g, .int .i64 d]:=row_new rfl
      have K2:=row_alloc L1 (.cells #[.int .i64 v, .int .i64 g, .int .i64 d] 311)
      have K3:=L2.alloc L2.size (.cells #[.int .i64 v, .int .i64 g, .int .i64 d] 311)
      generalize hss:gsum ts j=ss at gs0 gs1 ⊢
      have HSS:=Lib.hid hss
      have HV:=Lib.hid hvv
      have HG:=Lib.hid hgg
      have HD:=Lib.hid hdd
      generalize (wr.alloc (.cells #[.int .i64 v, .int .i64 g, .int .i64 d] 311))=w3 at K1 K2 K3 ⊢
      generalize wr.heap.size=tb at K1 ⊢
      clear L1 L2 hv hg hd hvv hgg hdd hss
      by_cases c1:v < -4096
      · have E:=Lib.hid (svalE_bad (k:=k) (cap:=cap) HN.out (i:=j) (by rw [HL.out];exact hlt) (by rw [HM.out];exact tOK_no (fun a=>absurd a.1 (by rw [HV.out];omega))))
        have L:Row w3 tb 311 #[.int .i64 v, .int .i64 g, .int .i64 d]∧Row w3 w.heap.size 53 #[.int .i64 k, .int .i64 cap, .int .i64 n, .slice (some ad) m c]∧Below w.heap.size w w3:=⟨K1,K2,K3⟩
        clear K1 K2 K3
        refine wp_region_free0 [0,1,2,3,4,5,6,7,8,9,10,11,12,13,14,15,16,17,18,19,20,21,22] [] [0,1,2,3,4,5,6,7,8,9,10,11,12,13,14,15,16,17,18,19,20,21,22] 23 (fun w'=>Row w' tb 311 #[.int .i64 v, .int .i64 g, .int .i64 d]∧Row w' w.heap.size 53 #[.int .i64 k, .int .i64 cap, .int .i64 n, .slice (some ad) m c]∧Below w.heap.size w w') (by kernel_rfl) (by kernel_rfl) (fun _ _ d _ _ h=>by cases d<;>exact h) ?_ ?_
        · exact ⟨L.1,L.2.1,L.2.2.drew⟩
        (refine plan_pure ?_ rfl rfl (fun w'=>?_) ?_;rotate_left;(go_simp;try with_reducible rfl);simp only [put9])
        (refine plan_val ?_ rfl rfl rfl (fun w' hS=>?_) ?_;rotate_left;(obtain ⟨B0,B1,B2,B3,B4,B5⟩:=row_three hS.1;obtain ⟨A0,A1,A2,A3,_,_,_,_⟩:=row_four hS.2.1;go_simp;try with_reducible rfl);simp only [put9])
        (refine plan_pure ?_ rfl rfl (fun w'=>?_) ?_;rotate_left;(go_simp;try with_reducible rfl);simp only [put9])
        (refine plan_pure ?_ rfl rfl (fun w'=>?_) ?_;rotate_left;(go_simp;try with_reducible rfl);simp only [put9])
        refine plan_not rfl rfl ?_
        simp only [put9]
        refine plan_not rfl rfl ?_
        simp only [put9]
        refine plan_not rfl rfl ?_
        simp only [put9]
        (refine plan_pure ?_ rfl rfl (fun w'=>?_) ?_;rotate_left;(go_simp;try with_reducible rfl);simp only [put9])
        (refine plan_pure ?_ rfl rfl (fun w'=>?_) ?_;rotate_left;(go_simp;try with_reducible rfl);simp only [put9])
        refine plan_not rfl rfl ?_
        simp only [put9]
        refine plan_not rfl rfl ?_
        simp only [put9]
        refine plan_not rfl rfl ?_
        simp only [put9]
        refine plan_not rfl rfl ?_
        simp only [put9]
        refine plan_not rfl rfl ?_
        simp only [put9]
        refine plan_not rfl rfl ?_
        simp only [put9]
        refine plan_not rfl rfl ?_
        simp only [put9]
        refine plan_not rfl rfl ?_
        simp only [put9]
        refine plan_not rfl rfl ?_
        simp only [put9]
        refine plan_not rfl rfl ?_
        simp only [put9]
        refine plan_not rfl rfl ?_
        simp only [put9]
        refine plan_not rfl rfl ?_
        simp only [put9]
        refine plan_not rfl rfl ?_
        simp only [put9]
        refine plan_not rfl rfl ?_
        simp only [put9]
        refine plan_nil ?_
        intro w4 L4
        simp only [List.drop_succ_cons,List.drop_zero]
        try simp only [put9]
        clear L
        have o4:=L4.2.2
        clear L4
        go_wp2
        go_ret
        exact ⟨ret_i64 E.out.symm,o4⟩
      · by_cases c2:4096<v
        · have E:=Lib.hid (svalE_bad (k:=k) (cap:=cap) HN.out (i:=j) (by rw [HL.out];exact hlt) (by rw [HM.out];exact tOK_no (fun a=>absurd a.2.1 (by rw [HV.out];omega))))
          have L:Row w3 tb 311 #[.int .i64 v, .int .i64 g, .int .i64 d]∧Row w3 w.heap.size 53 #[.int .i64 k, .int .i64 cap, .int .i64 n, .slice (some ad) m c]∧Below w.heap.size w w3:=⟨K1,K2,K3⟩
          clear K1 K2 K3
          refine wp_region_free0 [0,1,2,3,4,5,6,7,8,9,10,11,12,13,14,15,16,17,18,19,20,21,22] [] [0,1,2,3,4,5,6,7,8,9,10,11,12,13,14,15,16,17,18,19,20,21,22] 23 (fun w'=>Row w' tb 311 #[.int .i64 v, .int .i64 g, .int .i64 d]∧Row w' w.heap.size 53 #[.int .i64 k, .int .i64 cap, .int .i64 n, .slice (some ad) m c]∧Below w.heap.size w w') (by kernel_rfl) (by kernel_rfl) (fun _ _ d _ _ h=>by cases d<;>exact h) ?_ ?_
          · exact ⟨L.1,L.2.1,L.2.2.drew⟩
          (refine plan_pure ?_ rfl rfl (fun w'=>?_) ?_;rotate_left;(go_simp;try with_reducible rfl);simp only [put9])
          (refine plan_val ?_ rfl rfl rfl (fun w' hS=>?_) ?_;rotate_left;(obtain ⟨B0,B1,B2,B3,B4,B5⟩:=row_three hS.1;obtain ⟨A0,A1,A2,A3,_,_,_,_⟩:=row_four hS.2.1;go_simp;try with_reducible rfl);simp only [put9])
          (refine plan_pure ?_ rfl rfl (fun w'=>?_) ?_;rotate_left;(go_simp;try with_reducible rfl);simp only [put9])
          (refine plan_pure ?_ rfl rfl (fun w'=>?_) ?_;rotate_left;(go_simp;try with_reducible rfl);simp only [put9])
          (refine plan_pure ?_ rfl rfl (fun w'=>?_) ?_;rotate_left;(go_simp;try with_reducible rfl);simp only [put9])
          (refine plan_val ?_ rfl rfl rfl (fun w' hS=>?_) ?_;rotate_left;(obtain ⟨B0,B1,B2,B3,B4,B5⟩:=row_three hS.1;obtain ⟨A0,A1,A2,A3,_,_,_,_⟩:=row_four hS.2.1;go_simp;try with_reducible rfl);simp only [put9])
          (refine plan_pure ?_ rfl rfl (fun w'=>?_) ?_;rotate_left;(go_simp;try with_reducible rfl);simp only [put9])
          (refine plan_pure ?_ rfl rfl (fun w'=>?_) ?_;rotate_left;(go_simp;try with_reducible rfl);simp only [put9])
          (refine plan_pure ?_ rfl rfl (fun w'=>?_) ?_;rotate_left;(go_simp;try with_reducible rfl);simp only [put9])
          refine plan_not rfl rfl ?_
          simp only [put9]
          refine plan_not rfl rfl ?_
          simp only [put9]
          refine plan_not rfl rfl ?_
          simp only [put9]
          refine plan_not rfl rfl ?_
          simp only [put9]
          refine plan_not rfl rfl ?_
          simp only [put9]
          refine plan_not rfl rfl ?_
          simp only [put9]
          refine plan_not rfl rfl ?_
          simp only [put9]
          refine plan_not rfl rfl ?_
          simp only [put9]
          refine plan_not rfl rfl ?_
          simp only [put9]
          refine plan_not rfl rfl ?_
          simp only [put9]
          refine plan_not rfl rfl ?_
          simp only [put9]
          refine plan_not rfl rfl ?_
          simp only [put9]
          refine plan_not rfl rfl ?_
          simp only [put9]
          refine plan_not rfl rfl ?_
          simp only [put9]
          refine plan_nil ?_
          intro w4 L4
          simp only [List.drop_succ_cons,List.drop_zero]
          try simp only [put9]
          clear L
          have o4:=L4.2.2
          clear L4
          go_wp2
          go_ret
          exact ⟨ret_i64 E.out.symm,o4⟩
        · by_cases hj0:j=0
          · subst hj0
            have O3:RowKit.Hid ((0:Nat)=0∨(tupAt ts (0-1)).v≤(tupAt ts 0).v):=Lib.hid (Or.inl rfl)
            have L:Row w3 tb 311 #[.int .i64 v, .int .i64 g, .int .i64 d]∧Row w3 w.heap.size 53 #[.int .i64 k, .int .i64 cap, .int .i64 n, .slice (some ad) m c]∧Below w.heap.size w w3:=⟨K1,K2,K3⟩
            clear K1 K2 K3
            refine wp_region_free0 [0,1,2,3,4,5,6,7,8,9,10,11,12,13,14,15,16,17,18,19,20,21,22] [] [0,1,2,3,4,5,6,7,8,9,10,11,12,13,14,15,16,17,18,19,20,21,22] 23 (fun w'=>Row w' tb 311 #[.int .i64 v, .int .i64 g, .int .i64 d]∧Row w' w.heap.size 53 #[.int .i64 k, .int .i64 cap, .int .i64 n, .slice (some ad) m c]∧Below w.heap.size w w') (by kernel_rfl) (by kernel_rfl) (fun _ _ d _ _ h=>by cases d<;>exact h) ?_ ?_
            · exact ⟨L.1,L.2.1,L.2.2.drew⟩
            (refine plan_pure ?_ rfl rfl (fun w'=>?_) ?_;rotate_left;(go_simp;try with_reducible rfl);simp only [put9])
            (refine plan_val ?_ rfl rfl rfl (fun w' hS=>?_) ?_;rotate_left;(obtain ⟨B0,B1,B2,B3,B4,B5⟩:=row_three hS.1;obtain ⟨A0,A1,A2,A3,_,_,_,_⟩:=row_four hS.2.1;go_simp;try with_reducible rfl);simp only [put9])
            (refine plan_pure ?_ rfl rfl (fun w'=>?_) ?_;rotate_left;(go_simp;try with_reducible rfl);simp only [put9])
            (refine plan_pure ?_ rfl rfl (fun w'=>?_) ?_;rotate_left;(go_simp;try with_reducible rfl);simp only [put9])
            (refine plan_pure ?_ rfl rfl (fun w'=>?_) ?_;rotate_left;(go_simp;try with_reducible rfl);simp only [put9])
            (refine plan_val ?_ rfl rfl rfl (fun w' hS=>?_) ?_;rotate_left;(obtain ⟨B0,B1,B2,B3,B4,B5⟩:=row_three hS.1;obtain ⟨A0,A1,A2,A3,_,_,_,_⟩:=row_four hS.2.1;go_simp;try with_reducible rfl);simp only [put9])
            (refine plan_pure ?_ rfl rfl (fun w'=>?_) ?_;rotate_left;(go_simp;try with_reducible rfl);simp only [put9])
            (refine plan_pure ?_ rfl rfl (fun w'=>?_) ?_;rotate_left;(go_simp;try with_reducible rfl);simp only [put9])
            (refine plan_pure ?_ rfl rfl (fun w'=>?_) ?_;rotate_left;(go_simp;try with_reducible rfl);simp only [put9])
            (refine plan_pure ?_ rfl rfl (fun w'=>?_) ?_;rotate_left;(go_simp;try with_reducible rfl);simp only [put9])
            (refine plan_pure ?_ rfl rfl (fun w'=>?_) ?_;rotate_left;(go_simp;try with_reducible rfl);simp only [put9])
            (refine plan_pure ?_ rfl rfl (fun w'=>?_) ?_;rotate_left;(go_simp;try with_reducible rfl);simp only [put9])
            refine plan_not rfl rfl ?_
            simp only [put9]
            refine plan_not rfl rfl ?_
            simp only [put9]
            refine plan_not rfl rfl ?_
            simp only [put9]
            refine plan_not rfl rfl ?_
            simp only [put9]
            refine plan_not rfl rfl ?_
            simp only [put9]
            refine plan_not rfl rfl ?_
            simp only [put9]
            refine plan_not rfl rfl ?_
            simp only [put9]
            refine plan_not rfl rfl ?_
            simp only [put9]
            refine plan_not rfl rfl ?_
            simp only [put9]
            refine plan_not rfl rfl ?_
            simp only [put9]
            (refine plan_pure ?_ rfl rfl (fun w'=>?_) ?_;rotate_left;(go_simp;try with_reducible rfl);simp only [put9])
            refine plan_nil ?_
            intro w4 L4
            simp only [List.drop_succ_cons,List.drop_zero]
            try simp only [put9]
            clear L
            have o4:=L4.2.2
            have r4:=L4.1
            have x4:=L4.2.1
            clear L4
            obtain ⟨B0,B1,B2,B3,B4,B5⟩:=row_three r4
            by_cases e0:g<1
            · have E:=Lib.hid (svalE_bad (k:=k) (cap:=cap) HN.out (i:=0) (by rw [HL.out];exact hlt) (by rw [HM.out];exact tOK_no (fun a=>absurd a.2.2.2.1 (by rw [HG.out];omega))))
              go_wp2
              go_ret
              exact ⟨ret_i64 E.out.symm,o4⟩
            · have e0':1≤g:=by omega
              clear e0
              by_cases e1:d<0
              · have E:=Lib.hid (svalE_bad (k:=k) (cap:=cap) HN.out (i:=0) (by rw [HL.out];exact hlt) (by rw [HM.out];exact tOK_no (fun a=>absurd a.2.2.2.2.1 (by rw [HD.out];omega))))
                go_wp2
                go_ret
                exact ⟨ret_i64 E.out.symm,o4⟩
              · have e1':0≤d:=by omega
                clear e1
                by_cases e2:M<g
                · have E:=Lib.hid (svalE_bad (k:=k) (cap:=cap) HN.out (i:=0) (by rw [HL.out];exact hlt) (by rw [HM.out];exact tOK_no (fun a=>absurd a.2.2.2.2.2.1 (by rw [HG.out];omega))))
                  go_wp2
                  go_ret
                  exact ⟨ret_i64 E.out.symm,o4⟩
                · have e2':g≤M:=by omega
                  clear e2
                  by_cases e3:M-g<d
                  · have E:=Lib.hid (svalE_bad (k:=k) (cap:=cap) HN.out (i:=0) (by rw [HL.out];exact hlt) (by rw [HM.out];exact tOK_no (fun a=>absurd a.2.2.2.2.2.2 (by rw [HD.out,HG.out];omega))))
                    go_wp2
                    go_ret
                    exact ⟨ret_i64 E.out.symm,o4⟩
                  · have e3':d≤M-g:=by omega
                    clear e3
                    have HB:=Lib.hid (fun e (he:e<0+1)=>by
                      rcases Nat.lt_or_ge e 0 with g1 | g1
                      · exact HA.out e g1
                      · rw [show e=0 by omega];exact tOK_mk ⟨by rw [HV.out];omega,by rw [HV.out];omega,O3.out,by rw [HG.out];omega,by rw [HD.out];omega,by rw [HG.out];omega,by rw [HD.out,HG.out];omega⟩)
                    have HS2:RowKit.Hid (gsum ts (0+1)=ss+g):=Lib.hid (by rw [gsum,HSS.out,HG.out])
                    go_wp2
                    go_roundw
                    case rel=>exact ⟨0+1,by omega,by go_num,by rw [HS2.out],HB,x4,o4⟩
                    case measure=>simp [intOf];omega
          · obtain ⟨p,hp⟩:∃ p:Nat,j=p+1:=⟨j-1,by omega⟩
            have HP:=Lib.hid hp
            have ht1:=HR.out.reads.tup (i:=p) (by omega)
            obtain ⟨ad',ea,_,ht1⟩:=ht1
            obtain rfl:ad=ad':=by injection ea with ea
            obtain ⟨hq,_,_⟩:=ht1.below K3 (by rw [block_of_add];exact hadb)
            have HPV:RowKit.Hid ((tupAt ts (j-1)).v=(tupAt ts p).v):=Lib.hid (by rw [hp];rfl)
            generalize hqq:(tupAt ts p).v=pv at hq HPV
            have wj:IntKind.i64.wrap ((j:Int)-1)=(p:Int):=by rw [IntWalk.i64_in _ (by omega)];omega
            have jp:(0:Int)<(j:Int):=by omega
            have jn:0<j:=by omega
            have p1:(p:Int)<(m:Int):=by omega
            have p0:(0:Int)≤(p:Int):=by omega
            clear ht1 hqq hp ea hj0
            by_cases c3:v<pv
            · have E:=Lib.hid (svalE_bad (k:=k) (cap:=cap) HN.out (i:=j) (by rw [HL.out];exact hlt) (by rw [HM.out];exact tOK_no (fun a=>by rcases a.2.2.1 with a1 | a1<;>(have:=HP.out;(try rw [HPV.out,HV.out] at a1);omega))))
              have L:Row w3 tb 311 #[.int .i64 v, .int .i64 g, .int .i64 d]∧Row w3 w.heap.size 53 #[.int .i64 k, .int .i64 cap, .int .i64 n, .slice (some ad) m c]∧w3.cell? (ad.add (p*3))=some (.int .i64 pv)∧Below w.heap.size w w3:=⟨K1,K2,hq,K3⟩
              clear K1 K2 hq K3
              refine wp_region_free0 [0,1,2,3,4,5,6,7,8,9,10,11,12,13,14,15,16,17,18,19,20,21,22] [] [0,1,2,3,4,5,6,7,8,9,10,11,12,13,14,15,16,17,18,19,20,21,22] 23 (fun w'=>Row w' tb 311 #[.int .i64 v, .int .i64 g, .int .i64 d]∧Row w' w.heap.size 53 #[.int .i64 k, .int .i64 cap, .int .i64 n, .slice (some ad) m c]∧w'.cell? (ad.add (p*3))=some (.int .i64 pv)∧Below w.heap.size w w') (by kernel_rfl) (by kernel_rfl) (fun _ _ d _ _ h=>by cases d<;>exact h) ?_ ?_
              · exact ⟨L.1,L.2.1,L.2.2.1,L.2.2.2.drew⟩
              (refine plan_pure ?_ rfl rfl (fun w'=>?_) ?_;rotate_left;(go_simp;try with_reducible rfl);simp only [put9])
              (refine plan_val ?_ rfl rfl rfl (fun w' hS=>?_) ?_;rotate_left;(obtain ⟨B0,B1,B2,B3,B4,B5⟩:=row_three hS.1;obtain ⟨A0,A1,A2,A3,_,_,_,_⟩:=row_four hS.2.1;have hq9:=hS.2.2.1;go_simp;try with_reducible rfl);simp only [put9])
              (refine plan_pure ?_ rfl rfl (fun w'=>?_) ?_;rotate_left;(go_simp;try with_reducible rfl);simp only [put9])
              (refine plan_pure ?_ rfl rfl (fun w'=>?_) ?_;rotate_left;(go_simp;try with_reducible rfl);simp only [put9])
              (refine plan_pure ?_ rfl rfl (fun w'=>?_) ?_;rotate_left;(go_simp;try with_reducible rfl);simp only [put9])
              (refine plan_val ?_ rfl rfl rfl (fun w' hS=>?_) ?_;rotate_left;(obtain ⟨B0,B1,B2,B3,B4,B5⟩:=row_three hS.1;obtain ⟨A0,A1,A2,A3,_,_,_,_⟩:=row_four hS.2.1;have hq9:=hS.2.2.1;go_simp;try with_reducible rfl);simp only [put9])
              (refine plan_pure ?_ rfl rfl (fun w'=>?_) ?_;rotate_left;(go_simp;try with_reducible rfl);simp only [put9])
              (refine plan_pure ?_ rfl rfl (fun w'=>?_) ?_;rotate_left;(go_simp;try with_reducible rfl);simp only [put9])
              (refine plan_pure ?_ rfl rfl (fun w'=>?_) ?_;rotate_left;(go_simp;try with_reducible rfl);simp only [put9])
              (refine plan_pure ?_ rfl rfl (fun w'=>?_) ?_;rotate_left;(go_simp;try with_reducible rfl);simp only [put9])
              (refine plan_pure ?_ rfl rfl (fun w'=>?_) ?_;rotate_left;(go_simp;try with_reducible rfl);simp only [put9])
              (refine plan_pure ?_ rfl rfl (fun w'=>?_) ?_;rotate_left;(go_simp;try with_reducible rfl);simp only [put9])
              (refine plan_pure ?_ rfl rfl (fun w'=>?_) ?_;rotate_left;(go_simp;try with_reducible rfl);simp only [put9])
              (refine plan_val ?_ rfl rfl rfl (fun w' hS=>?_) ?_;rotate_left;(obtain ⟨B0,B1,B2,B3,B4,B5⟩:=row_three hS.1;obtain ⟨A0,A1,A2,A3,_,_,_,_⟩:=row_four hS.2.1;have hq9:=hS.2.2.1;go_simp;try with_reducible rfl);simp only [put9])
              (refine plan_pure ?_ rfl rfl (fun w'=>?_) ?_;rotate_left;(go_simp;try with_reducible rfl);simp only [put9])
              (refine plan_pure ?_ rfl rfl (fun w'=>?_) ?_;rotate_left;(go_simp;try with_reducible rfl);simp only [put9])
              (refine plan_pure ?_ rfl rfl (fun w'=>?_) ?_;rotate_left;(go_simp;try with_reducible rfl);simp only [put9])
              (refine plan_pure ?_ rfl rfl (fun w'=>?_) ?_;rotate_left;(go_simp;try with_reducible rfl);simp only [put9])
              (refine plan_val ?_ rfl rfl rfl (fun w' hS=>?_) ?_;rotate_left;(obtain ⟨B0,B1,B2,B3,B4,B5⟩:=row_three hS.1;obtain ⟨A0,A1,A2,A3,_,_,_,_⟩:=row_four hS.2.1;have hq9:=hS.2.2.1;go_simp;try with_reducible rfl);simp only [put9])
              (refine plan_pure ?_ rfl rfl (fun w'=>?_) ?_;rotate_left;(go_simp;try with_reducible rfl);simp only [put9])
              (refine plan_val ?_ rfl rfl rfl (fun w' hS=>?_) ?_;rotate_left;(obtain ⟨B0,B1,B2,B3,B4,B5⟩:=row_three hS.1;obtain ⟨A0,A1,A2,A3,_,_,_,_⟩:=row_four hS.2.1;have hq9:=hS.2.2.1;go_simp;try with_reducible rfl);simp only [put9])
              (refine plan_pure ?_ rfl rfl (fun w'=>?_) ?_;rotate_left;(go_simp;try with_reducible rfl);simp only [put9])
              (refine plan_pure ?_ rfl rfl (fun w'=>?_) ?_;rotate_left;(go_simp;try with_reducible rfl);simp only [put9])
              refine plan_nil ?_
              intro w4 L4
              simp only [List.drop_succ_cons,List.drop_zero]
              try simp only [put9]
              clear L
              have o4:=L4.2.2.2
              clear L4
              go_wp2
              go_ret
              exact ⟨ret_i64 E.out.symm,o4⟩
            · have O3:RowKit.Hid (j=0∨(tupAt ts (j-1)).v≤(tupAt ts j).v):=Lib.hid (Or.inr (by rw [HPV.out,HV.out];omega))
              have L:Row w3 tb 311 #[.int .i64 v, .int .i64 g, .int .i64 d]∧Row w3 w.heap.size 53 #[.int .i64 k, .int .i64 cap, .int .i64 n, .slice (some ad) m c]∧w3.cell? (ad.add (p*3))=some (.int .i64 pv)∧Below w.heap.size w w3:=⟨K1,K2,hq,K3⟩
              clear K1 K2 hq K3
              refine wp_region_free0 [0,1,2,3,4,5,6,7,8,9,10,11,12,13,14,15,16,17,18,19,20,21,22] [] [0,1,2,3,4,5,6,7,8,9,10,11,12,13,14,15,16,17,18,19,20,21,22] 23 (fun w'=>Row w' tb 311 #[.int .i64 v, .int .i64 g, .int .i64 d]∧Row w' w.heap.size 53 #[.int .i64 k, .int .i64 cap, .int .i64 n, .slice (some ad) m c]∧w'.cell? (ad.add (p*3))=some (.int .i64 pv)∧Below w.heap.size w w') (by kernel_rfl) (by kernel_rfl) (fun _ _ d _ _ h=>by cases d<;>exact h) ?_ ?_
              · exact ⟨L.1,L.2.1,L.2.2.1,L.2.2.2.drew⟩
              (refine plan_pure ?_ rfl rfl (fun w'=>?_) ?_;rotate_left;(go_simp;try with_reducible rfl);simp only [put9])
              (refine plan_val ?_ rfl rfl rfl (fun w' hS=>?_) ?_;rotate_left;(obtain ⟨B0,B1,B2,B3,B4,B5⟩:=row_three hS.1;obtain ⟨A0,A1,A2,A3,_,_,_,_⟩:=row_four hS.2.1;have hq9:=hS.2.2.1;go_simp;try with_reducible rfl);simp only [put9])
              (refine plan_pure ?_ rfl rfl (fun w'=>?_) ?_;rotate_left;(go_simp;try with_reducible rfl);simp only [put9])
              (refine plan_pure ?_ rfl rfl (fun w'=>?_) ?_;rotate_left;(go_simp;try with_reducible rfl);simp only [put9])
              (refine plan_pure ?_ rfl rfl (fun w'=>?_) ?_;rotate_left;(go_simp;try with_reducible rfl);simp only [put9])
              (refine plan_val ?_ rfl rfl rfl (fun w' hS=>?_) ?_;rotate_left;(obtain ⟨B0,B1,B2,B3,B4,B5⟩:=row_three hS.1;obtain ⟨A0,A1,A2,A3,_,_,_,_⟩:=row_four hS.2.1;have hq9:=hS.2.2.1;go_simp;try with_reducible rfl);simp only [put9])
              (refine plan_pure ?_ rfl rfl (fun w'=>?_) ?_;rotate_left;(go_simp;try with_reducible rfl);simp only [put9])
              (refine plan_pure ?_ rfl rfl (fun w'=>?_) ?_;rotate_left;(go_simp;try with_reducible rfl);simp only [put9])
              (refine plan_pure ?_ rfl rfl (fun w'=>?_) ?_;rotate_left;(go_simp;try with_reducible rfl);simp only [put9])
              (refine plan_pure ?_ rfl rfl (fun w'=>?_) ?_;rotate_left;(go_simp;try with_reducible rfl);simp only [put9])
              (refine plan_pure ?_ rfl rfl (fun w'=>?_) ?_;rotate_left;(go_simp;try with_reducible rfl);simp only [put9])
              (refine plan_pure ?_ rfl rfl (fun w'=>?_) ?_;rotate_left;(go_simp;try with_reducible rfl);simp only [put9])
              (refine plan_pure ?_ rfl rfl (fun w'=>?_) ?_;rotate_left;(go_simp;try with_reducible rfl);simp only [put9])
              (refine plan_val ?_ rfl rfl rfl (fun w' hS=>?_) ?_;rotate_left;(obtain ⟨B0,B1,B2,B3,B4,B5⟩:=row_three hS.1;obtain ⟨A0,A1,A2,A3,_,_,_,_⟩:=row_four hS.2.1;have hq9:=hS.2.2.1;go_simp;try with_reducible rfl);simp only [put9])
              (refine plan_pure ?_ rfl rfl (fun w'=>?_) ?_;rotate_left;(go_simp;try with_reducible rfl);simp only [put9])
              (refine plan_pure ?_ rfl rfl (fun w'=>?_) ?_;rotate_left;(go_simp;try with_reducible rfl);simp only [put9])
              (refine plan_pure ?_ rfl rfl (fun w'=>?_) ?_;rotate_left;(go_simp;try with_reducible rfl);simp only [put9])
              (refine plan_pure ?_ rfl rfl (fun w'=>?_) ?_;rotate_left;(go_simp;try with_reducible rfl);simp only [put9])
              (refine plan_val ?_ rfl rfl rfl (fun w' hS=>?_) ?_;rotate_left;(obtain ⟨B0,B1,B2,B3,B4,B5⟩:=row_three hS.1;obtain ⟨A0,A1,A2,A3,_,_,_,_⟩:=row_four hS.2.1;have hq9:=hS.2.2.1;go_simp;try with_reducible rfl);simp only [put9])
              (refine plan_pure ?_ rfl rfl (fun w'=>?_) ?_;rotate_left;(go_simp;try with_reducible rfl);simp only [put9])
              (refine plan_val ?_ rfl rfl rfl (fun w' hS=>?_) ?_;rotate_left;(obtain ⟨B0,B1,B2,B3,B4,B5⟩:=row_three hS.1;obtain ⟨A0,A1,A2,A3,_,_,_,_⟩:=row_four hS.2.1;have hq9:=hS.2.2.1;go_simp;try with_reducible rfl);simp only [put9])
              (refine plan_pure ?_ rfl rfl (fun w'=>?_) ?_;rotate_left;(go_simp;try with_reducible rfl);simp only [put9])
              (refine plan_pure ?_ rfl rfl (fun w'=>?_) ?_;rotate_left;(go_simp;try with_reducible rfl);simp only [put9])
              refine plan_nil ?_
              intro w4 L4
              simp only [List.drop_succ_cons,List.drop_zero]
              try simp only [put9]
              clear L
              have o4:=L4.2.2.2
              have r4:=L4.1
              have x4:=L4.2.1
              clear L4
              obtain ⟨B0,B1,B2,B3,B4,B5⟩:=row_three r4
              by_cases e0:g<1
              · have E:=Lib.hid (svalE_bad (k:=k) (cap:=cap) HN.out (i:=j) (by rw [HL.out];exact hlt) (by rw [HM.out];exact tOK_no (fun a=>absurd a.2.2.2.1 (by rw [HG.out];omega))))
                go_wp2
                go_ret
                exact ⟨ret_i64 E.out.symm,o4⟩
              · have e0':1≤g:=by omega
                clear e0
                by_cases e1:d<0
                · have E:=Lib.hid (svalE_bad (k:=k) (cap:=cap) HN.out (i:=j) (by rw [HL.out];exact hlt) (by rw [HM.out];exact tOK_no (fun a=>absurd a.2.2.2.2.1 (by rw [HD.out];omega))))
                  go_wp2
                  go_ret
                  exact ⟨ret_i64 E.out.symm,o4⟩
                · have e1':0≤d:=by omega
                  clear e1
                  by_cases e2:M<g
                  · have E:=Lib.hid (svalE_bad (k:=k) (cap:=cap) HN.out (i:=j) (by rw [HL.out];exact hlt) (by rw [HM.out];exact tOK_no (fun a=>absurd a.2.2.2.2.2.1 (by rw [HG.out];omega))))
                    go_wp2
                    go_ret
                    exact ⟨ret_i64 E.out.symm,o4⟩
                  · have e2':g≤M:=by omega
                    clear e2
                    by_cases e3:M-g<d
                    · have E:=Lib.hid (svalE_bad (k:=k) (cap:=cap) HN.out (i:=j) (by rw [HL.out];exact hlt) (by rw [HM.out];exact tOK_no (fun a=>absurd a.2.2.2.2.2.2 (by rw [HD.out,HG.out];omega))))
                      go_wp2
                      go_ret
                      exact ⟨ret_i64 E.out.symm,o4⟩
                    · have e3':d≤M-g:=by omega
                      clear e3
                      have HB:=Lib.hid (fun e (he:e<j+1)=>by
                        rcases Nat.lt_or_ge e j with g1 | g1
                        · exact HA.out e g1
                        · rw [show e=j by omega];exact tOK_mk ⟨by rw [HV.out];omega,by rw [HV.out];omega,O3.out,by rw [HG.out];omega,by rw [HD.out];omega,by rw [HG.out];omega,by rw [HD.out,HG.out];omega⟩)
                      have HS2:RowKit.Hid (gsum ts (j+1)=ss+g):=Lib.hid (by rw [gsum,HSS.out,HG.out])
                      go_wp2
                      go_roundw
                      case rel=>exact ⟨j+1,by omega,by go_num,by rw [HS2.out],HB,x4,o4⟩
                      case measure=>simp [intOf];omega
    · have i1:¬ (j:Int)<(m:Int):=by omega
      obtain rfl:j=m:=by omega
      obtain ⟨q,hq⟩:∃ q:Nat,j=q+1:=⟨j-1,by omega⟩
      have wj:IntKind.i64.wrap ((j:Int)-1)=(q:Int):=by rw [IntWalk.i64_in _ (by omega)];omega
      obtain ⟨ad,rfl,hadb,ht0⟩:=HR.out.reads.tup (i:=0) hm
      obtain ⟨ad',ea,_,ht1⟩:=HR.out.reads.tup (i:=q) (by omega)
      obtain rfl:ad=ad':=by injection ea with ea
      have ht0:TupCells w ad (tupAt ts 0):=ht0
      obtain ⟨a0,a1,a2⟩:=ht0.below L2 hadb
      obtain ⟨b0,b1,b2⟩:=ht1.below L2 (by rw [block_of_add];exact hadb)
      have HQ:RowKit.Hid ((tupAt ts (ts.length-1)).d=(tupAt ts q).d):=Lib.hid (by rw [HL.out,hq];rfl)
      generalize hf1:(tupAt ts 0).g=fg at a1
      generalize hf2:(tupAt ts 0).d=fd at a2
      generalize hf3:(tupAt ts q).d=ld at b2 HQ
      generalize (tupAt ts 0).v=fv at a0
      generalize (tupAt ts q).v=lv at b0
      generalize (tupAt ts q).g=lg at b1
      have HF1:=Lib.hid hf1
      have HF2:=Lib.hid hf2
      generalize hss:gsum ts j=ss
      have HSS:=Lib.hid hss
      obtain ⟨X0,X1,X2,X3,_,_,_,_⟩:=row_four L1
      have q1:(q:Int)<(j:Int):=by omega
      have q0:(0:Int)≤(q:Int):=by omega
      have j0:(0:Int)<(j:Int):=by omega
      have z2:=L2.size
      clear ea ht0 ht1 hf1 hf2 hf3 hss hq
      go_upto_region 19 with (fail)
      go_region_held3 (fun w'=>w'.cell? ⟨w.heap.size,3,none⟩=some (.slice (some ad) j c)∧w'.cell? ⟨w.heap.size,2,none⟩=some (.int .i64 n)∧w'.cell? ad=some (.int .i64 fv)∧w'.cell? ⟨ad.block,ad.off+1,none⟩=some (.int .i64 fg)∧w'.cell? ⟨ad.block,ad.off+2,none⟩=some (.int .i64 fd) ∧
        w'.cell? (ad.add (q*3))=some (.int .i64 lv)∧w'.cell? ⟨(ad.add (q*3)).block,(ad.add (q*3)).off+1,none⟩=some (.int .i64 lg)∧w'.cell? ⟨(ad.add (q*3)).block,(ad.add (q*3)).off+2,none⟩=some (.int .i64 ld)) (go_keep) (fail)
      all_goals
        by_cases d1:ss=n
        · have D1:=Lib.hid d1
          have c1:(ss != n)=false:=by simp [d1]
          clear d1
          by_cases d2:fg=1
          · have D2:=Lib.hid d2
            have c2:(fg != 1)=false:=by simp [d2]
            clear d2
            by_cases d3:fd=0
            · have D3:=Lib.hid d3
              have c3:(fd != 0)=false:=by simp [d3]
              clear d3
              by_cases d4:ld=0
              · have D4:=Lib.hid d4
                have c4:(ld != 0)=false:=by simp [d4]
                clear d4
                have E:=Lib.hid (svalE_yes (k:=k) (cap:=cap) (n:=n) (ts:=ts) ⟨h0,h1,h2,h3,h4,h5,by rw [HL.out];exact h6,fun e=>absurd e HN.out,fun _=>⟨by rw [HL.out];exact hm,fun i hi=>by rw [HM.out];exact HA.out i (by rw [HL.out] at hi;exact hi),by rw [HL.out,HSS.out];exact D1.out,by rw [HF1.out];exact D2.out,by rw [HF2.out];exact D3.out,by rw [HQ.out];exact D4.out⟩⟩)
                go_wp2
                go_ret
                exact ⟨ret_i64 E.out.symm,by (repeat (first | exact Below.refl _ _ | refine Below.setCell ?_ (by (try simp)<;>omega) _ | refine Below.alloc ?_ (by (try simp)<;>omega) _ | refine Below.drew ?_ | refine Below.trans ?_ (Below.mono (by assumption) (by (try simp)<;>omega))))⟩
              · have DD:=Lib.hid d4
                have c4:(ld != 0)=true:=by simpa using d4
                have E:=Lib.hid (svalE_no (k:=k) (cap:=cap) (n:=n) (ts:=ts) (fun a=>absurd (a.2.2.2.2.2.2.2.2 HN.out).2.2.2.2.2 (by rw [HQ.out];exact DD.out)))
                clear d4
                go_wp2
                go_ret
                exact ⟨ret_i64 E.out.symm,by (repeat (first | exact Below.refl _ _ | refine Below.setCell ?_ (by (try simp)<;>omega) _ | refine Below.alloc ?_ (by (try simp)<;>omega) _ | refine Below.drew ?_ | refine Below.trans ?_ (Below.mono (by assumption) (by (try simp)<;>omega))))⟩
            · have DD:=Lib.hid d3
              have c3:(fd != 0)=true:=by simpa using d3
              have E:=Lib.hid (svalE_no (k:=k) (cap:=cap) (n:=n) (ts:=ts) (fun a=>absurd (a.2.2.2.2.2.2.2.2 HN.out).2.2.2.2.1 (by rw [HF2.out];exact DD.out)))
              clear d3
              go_wp2
              go_ret
              exact ⟨ret_i64 E.out.symm,by (repeat (first | exact Below.refl _ _ | refine Below.setCell ?_ (by (try simp)<;>omega) _ | refine Below.alloc ?_ (by (try simp)<;>omega) _ | refine Below.drew ?_ | refine Below.trans ?_ (Below.mono (by assumption) (by (try simp)<;>omega))))⟩
          · have DD:=Lib.hid d2
            have c2:(fg != 1)=true:=by simpa using d2
            have E:=Lib.hid (svalE_no (k:=k) (cap:=cap) (n:=n) (ts:=ts) (fun a=>absurd (a.2.2.2.2.2.2.2.2 HN.out).2.2.2.1 (by rw [HF1.out];exact DD.out)))
            clear d2
            go_wp2
            go_ret
            exact ⟨ret_i64 E.out.symm,by (repeat (first | exact Below.refl _ _ | refine Below.setCell ?_ (by (try simp)<;>omega) _ | refine Below.alloc ?_ (by (try simp)<;>omega) _ | refine Below.drew ?_ | refine Below.trans ?_ (Below.mono (by assumption) (by (try simp)<;>omega))))⟩
        · have DD:=Lib.hid d1
          have c1:(ss != n)=true:=by simpa using d1
          have E:=Lib.hid (svalE_no (k:=k) (cap:=cap) (n:=n) (ts:=ts) (fun a=>absurd (a.2.2.2.2.2.2.2.2 HN.out).2.2.1 (by rw [HL.out,HSS.out];exact DD.out)))
          clear d1
          go_wp2
          go_ret
          exact ⟨ret_i64 E.out.symm,by (repeat (first | exact Below.refl _ _ | refine Below.setCell ?_ (by (try simp)<;>omega) _ | refine Below.alloc ?_ (by (try simp)<;>omega) _ | refine Below.drew ?_ | refine Below.trans ?_ (Below.mono (by assumption) (by (try simp)<;>omega))))⟩
theorem psval (k cap n:Int) (A:Option Addr) (m c:Nat) (ts:List Tup) (w:World) (hin:SIn k cap n A m c ts w):Calls Tryz.prog 147 #[.agg #[.int .i64 k, .int .i64 cap, .int .i64 n, .slice A m c]] w fun e w'=>e = .returned (.int .i64 (svalE k cap n ts))∧Below w.heap.size w w':=by
  by_cases h0:k<1
  · exact psval_k0 k cap n A m c ts w hin h0
  · by_cases h1:64<k
    · exact psval_k1 k cap n A m c ts w hin (by omega) h1
    · by_cases h2:cap<2
      · exact psval_c0 k cap n A m c ts w hin (by omega) (by omega) h2
      · by_cases h3:65536<cap
        · exact psval_c1 k cap n A m c ts w hin (by omega) (by omega) (by omega) h3
        · by_cases h4:n<0
          · exact psval_n0 k cap n A m c ts w hin (by omega) (by omega) (by omega) (by omega) h4
          · by_cases h5:1099511627776<n
            · exact psval_n1 k cap n A m c ts w hin (by omega) (by omega) (by omega) (by omega) (by omega) h5
            · by_cases h6:cap<(m:Int)
              · exact psval_len k cap n A m c ts w hin (by omega) (by omega) (by omega) (by omega) (by omega) (by omega) h6
              · by_cases hn:n=0
                · by_cases hm:m=0
                  · exact psval_e1 k cap n A m c ts w hin (by omega) (by omega) (by omega) (by omega) (by omega) (by omega) (by omega) hn hm
                  · exact psval_e0 k cap n A m c ts w hin (by omega) (by omega) (by omega) (by omega) (by omega) (by omega) (by omega) hn (by omega)
                · by_cases hm:m=0
                  · exact psval_e2 k cap n A m c ts w hin (by omega) (by omega) (by omega) (by omega) (by omega) (by omega) (by omega) hn hm
                  · exact psval_main k cap n A m c ts w hin (by omega) (by omega) (by omega) (by omega) (by omega) (by omega) (by omega) hn (by omega)
end Go.Proofs.YtdipoojjlddohaaGreat
end
