/- What the law TopSummaries needs, joined of its texts by a program (slim2.py); part 22. -/
import Derived.Test.YtdipoojjlddohaaGreatZTopSummaries1
import Derived.Test.YtdipoojjlddohaaGreatZTopSummaries21
set_option linter.unusedVariables false
set_option linter.unusedSimpArgs false
set_option linter.unusedSectionVars false
set_option linter.unnecessarySimpa false
section
/- Summaries of a stream: a value more, walked. -/
namespace Go.Proofs.YtdipoojjlddohaaGreat
open Go.RowKit
theorem Reads.pre {w:World} {B size n:Nat} {A:Option Addr} {xs:List Value} (h:Reads w B size A n xs) {k:Nat} (hk:k≤n):Reads w B size A k (xs.take (k*size)):=by
  refine ⟨by rw [List.length_take,h.1];exact Nat.min_eq_left (Nat.mul_le_mul_right _ hk),fun hn=>?_⟩
  obtain ⟨ad,rfl,hb,hc⟩:=h.2 (by omega)
  refine ⟨ad,rfl,hb,fun j u hu=>hc j u ?_⟩
  rw [List.getElem?_take] at hu
  split at hu
  · exact hu
  · cases hu
theorem pinsert_bad (k cap n:Int) (A:Option Addr) (m c:Nat) (ts:List Tup) (v:Int) (w:World) (hin:SIn k cap n A m c ts w) (hv:svalE k cap n ts=2):Calls Tryz.prog 129 #[.agg #[.int .i64 k, .int .i64 cap, .int .i64 n, .slice A m c], .int .i64 v] w fun e w'=>SRet (sinsert k cap n ts v) w e w':=by
  rw [sinsert_bad hv]
  have P:=fun w1 (hb:Below w.heap.size w w1)=>psval k cap n A m c ts w1 (hin.below hb)
  rw [hv] at P
  have P:=Lib.hid P
  clear hv hin
  go_enter Tryz.func129,Tryz.ntmps129
  go_wp2_with (go_at_call 147;with_reducible refine (P.out _ (by (repeat (first | exact Below.refl _ _ | refine Below.setCell ?_ (by (try simp)<;>omega) _ | refine Below.alloc ?_ (by (try simp)<;>omega) _ | refine Below.drew ?_ | refine Below.trans ?_ (Below.mono (by assumption) (by (try simp)<;>omega)))))).mono ?_;rintro e w1 ⟨rfl,hb1⟩;have hz1:=hb1.size;(try simp at hz1);have o1:Below w.heap.size w w1:=(by (repeat (first | exact Below.refl _ _ | refine Below.setCell ?_ (by (try simp)<;>omega) _ | refine Below.alloc ?_ (by (try simp)<;>omega) _ | refine Below.drew ?_ | refine Below.trans ?_ (Below.mono (by assumption) (by (try simp)<;>omega)))));have q1_0:w.heap.size<w1.heap.size:=(by omega);have r1_0:Row w1 (w.heap.size) 53 #[.int .i64 k, .int .i64 cap, .int .i64 n, .slice A m c]:=row_call (by (repeat (first | assumption | (refine row_new ?_;(first | (simp;done) | omega)) | refine row_alloc ?_ _ | refine row_drew ?_ | refine row_call ?_ (by assumption)))) hb1;obtain ⟨c1_0a,c1_0b,c1_0c,c1_0d,f1_0a,f1_0b,f1_0c,f1_0d⟩:=row_four r1_0;have q1_1:w.heap.size+1<w1.heap.size:=(by omega);have r1_1:Row w1 (w.heap.size+1) 53 #[.int .i64 0, .int .i64 0, .int .i64 0, .slice none 0 0]:=row_call (by (repeat (first | assumption | (refine row_new ?_;(first | (simp;done) | omega)) | refine row_alloc ?_ _ | refine row_drew ?_ | refine row_call ?_ (by assumption)))) hb1;obtain ⟨c1_1a,c1_1b,c1_1c,c1_1d,f1_1a,f1_1b,f1_1c,f1_1d⟩:=row_four r1_1)
  exact bodyPost_ret (v := .tuple #[.agg #[.int .i64 0, .int .i64 0, .int .i64 0, .slice none 0 0], .int .i64 2]) (by simp [results,Tryz.results129,go_sem,c1_1a,c1_1b,c1_1c,c1_1d]) rfl (sret_zero (by (repeat (first | exact Below.refl _ _ | refine Below.setCell ?_ (by (try simp)<;>omega) _ | refine Below.alloc ?_ (by (try simp)<;>omega) _ | refine Below.drew ?_ | refine Below.trans ?_ (Below.mono (by assumption) (by (try simp)<;>omega))))))
theorem pinsert_low (k cap n:Int) (A:Option Addr) (m c:Nat) (ts:List Tup) (v:Int) (w:World) (hin:SIn k cap n A m c ts w) (hv:svalE k cap n ts=0) (h:v < -4096):Calls Tryz.prog 129 #[.agg #[.int .i64 k, .int .i64 cap, .int .i64 n, .slice A m c], .int .i64 v] w fun e w'=>SRet (sinsert k cap n ts v) w e w':=by
  rw [sinsert_range hv (.inl h)]
  have P:=fun w1 (hb:Below w.heap.size w w1)=>psval k cap n A m c ts w1 (hin.below hb)
  rw [hv] at P
  have P:=Lib.hid P
  clear hv hin
  go_enter Tryz.func129,Tryz.ntmps129
  go_wp2_with (go_at_call 147;with_reducible refine (P.out _ (by (repeat (first | exact Below.refl _ _ | refine Below.setCell ?_ (by (try simp)<;>omega) _ | refine Below.alloc ?_ (by (try simp)<;>omega) _ | refine Below.drew ?_ | refine Below.trans ?_ (Below.mono (by assumption) (by (try simp)<;>omega)))))).mono ?_;rintro e w1 ⟨rfl,hb1⟩;have hz1:=hb1.size;(try simp at hz1);have o1:Below w.heap.size w w1:=(by (repeat (first | exact Below.refl _ _ | refine Below.setCell ?_ (by (try simp)<;>omega) _ | refine Below.alloc ?_ (by (try simp)<;>omega) _ | refine Below.drew ?_ | refine Below.trans ?_ (Below.mono (by assumption) (by (try simp)<;>omega)))));have q1_0:w.heap.size<w1.heap.size:=(by omega);have r1_0:Row w1 (w.heap.size) 53 #[.int .i64 k, .int .i64 cap, .int .i64 n, .slice A m c]:=row_call (by (repeat (first | assumption | (refine row_new ?_;(first | (simp;done) | omega)) | refine row_alloc ?_ _ | refine row_drew ?_ | refine row_call ?_ (by assumption)))) hb1;obtain ⟨c1_0a,c1_0b,c1_0c,c1_0d,f1_0a,f1_0b,f1_0c,f1_0d⟩:=row_four r1_0;have q1_1:w.heap.size+1<w1.heap.size:=(by omega);have r1_1:Row w1 (w.heap.size+1) 53 #[.int .i64 0, .int .i64 0, .int .i64 0, .slice none 0 0]:=row_call (by (repeat (first | assumption | (refine row_new ?_;(first | (simp;done) | omega)) | refine row_alloc ?_ _ | refine row_drew ?_ | refine row_call ?_ (by assumption)))) hb1;obtain ⟨c1_1a,c1_1b,c1_1c,c1_1d,f1_1a,f1_1b,f1_1c,f1_1d⟩:=row_four r1_1)
  exact bodyPost_ret (v := .tuple #[.agg #[.int .i64 0, .int .i64 0, .int .i64 0, .slice none 0 0], .int .i64 4]) (by simp [results,Tryz.results129,go_sem,c1_1a,c1_1b,c1_1c,c1_1d]) rfl (sret_zero (by (repeat (first | exact Below.refl _ _ | refine Below.setCell ?_ (by (try simp)<;>omega) _ | refine Below.alloc ?_ (by (try simp)<;>omega) _ | refine Below.drew ?_ | refine Below.trans ?_ (Below.mono (by assumption) (by (try simp)<;>omega))))))
theorem pinsert_high (k cap n:Int) (A:Option Addr) (m c:Nat) (ts:List Tup) (v:Int) (w:World) (hin:SIn k cap n A m c ts w) (hv:svalE k cap n ts=0) (h0 : -4096≤v) (h:4096<v):Calls Tryz.prog 129 #[.agg #[.int .i64 k, .int .i64 cap, .int .i64 n, .slice A m c], .int .i64 v] w fun e w'=>SRet (sinsert k cap n ts v) w e w':=by
  rw [sinsert_range hv (.inr h)]
  have P:=fun w1 (hb:Below w.heap.size w w1)=>psval k cap n A m c ts w1 (hin.below hb)
  rw [hv] at P
  have P:=Lib.hid P
  clear hv hin
  go_enter Tryz.func129,Tryz.ntmps129
  go_wp2_with (go_at_call 147;with_reducible refine (P.out _ (by (repeat (first | exact Below.refl _ _ | refine Below.setCell ?_ (by (try simp)<;>omega) _ | refine Below.alloc ?_ (by (try simp)<;>omega) _ | refine Below.drew ?_ | refine Below.trans ?_ (Below.mono (by assumption) (by (try simp)<;>omega)))))).mono ?_;rintro e w1 ⟨rfl,hb1⟩;have hz1:=hb1.size;(try simp at hz1);have o1:Below w.heap.size w w1:=(by (repeat (first | exact Below.refl _ _ | refine Below.setCell ?_ (by (try simp)<;>omega) _ | refine Below.alloc ?_ (by (try simp)<;>omega) _ | refine Below.drew ?_ | refine Below.trans ?_ (Below.mono (by assumption) (by (try simp)<;>omega)))));have q1_0:w.heap.size<w1.heap.size:=(by omega);have r1_0:Row w1 (w.heap.size) 53 #[.int .i64 k, .int .i64 cap, .int .i64 n, .slice A m c]:=row_call (by (repeat (first | assumption | (refine row_new ?_;(first | (simp;done) | omega)) | refine row_alloc ?_ _ | refine row_drew ?_ | refine row_call ?_ (by assumption)))) hb1;obtain ⟨c1_0a,c1_0b,c1_0c,c1_0d,f1_0a,f1_0b,f1_0c,f1_0d⟩:=row_four r1_0;have q1_1:w.heap.size+1<w1.heap.size:=(by omega);have r1_1:Row w1 (w.heap.size+1) 53 #[.int .i64 0, .int .i64 0, .int .i64 0, .slice none 0 0]:=row_call (by (repeat (first | assumption | (refine row_new ?_;(first | (simp;done) | omega)) | refine row_alloc ?_ _ | refine row_drew ?_ | refine row_call ?_ (by assumption)))) hb1;obtain ⟨c1_1a,c1_1b,c1_1c,c1_1d,f1_1a,f1_1b,f1_1c,f1_1d⟩:=row_four r1_1)
  exact bodyPost_ret (v := .tuple #[.agg #[.int .i64 0, .int .i64 0, .int .i64 0, .slice none 0 0], .int .i64 4]) (by simp [results,Tryz.results129,go_sem,c1_1a,c1_1b,c1_1c,c1_1d]) rfl (sret_zero (by (repeat (first | exact Below.refl _ _ | refine Below.setCell ?_ (by (try simp)<;>omega) _ | refine Below.alloc ?_ (by (try simp)<;>omega) _ | refine Below.drew ?_ | refine Below.trans ?_ (Below.mono (by assumption) (by (try simp)<;>omega))))))
theorem pinsert_full (k cap n:Int) (A:Option Addr) (m c:Nat) (ts:List Tup) (v:Int) (w:World) (hin:SIn k cap n A m c ts w) (hv:svalE k cap n ts=0) (h0 : -4096≤v) (h1:v≤4096) (hn:n=1099511627776):Calls Tryz.prog 129 #[.agg #[.int .i64 k, .int .i64 cap, .int .i64 n, .slice A m c], .int .i64 v] w fun e w'=>SRet (sinsert k cap n ts v) w e w':=by
  rw [sinsert_full hv h0 h1 hn]
  have P:=fun w1 (hb:Below w.heap.size w w1)=>psval k cap n A m c ts w1 (hin.below hb)
  rw [hv] at P
  have P:=Lib.hid P
  have hnb:(n == 1099511627776)=true:=by simpa using hn
  clear hv hin hn
  go_enter Tryz.func129,Tryz.ntmps129
  go_wp2_with (go_at_call 147;with_reducible refine (P.out _ (by (repeat (first | exact Below.refl _ _ | refine Below.setCell ?_ (by (try simp)<;>omega) _ | refine Below.alloc ?_ (by (try simp)<;>omega) _ | refine Below.drew ?_ | refine Below.trans ?_ (Below.mono (by assumption) (by (try simp)<;>omega)))))).mono ?_;rintro e w1 ⟨rfl,hb1⟩;have hz1:=hb1.size;(try simp at hz1);have o1:Below w.heap.size w w1:=(by (repeat (first | exact Below.refl _ _ | refine Below.setCell ?_ (by (try simp)<;>omega) _ | refine Below.alloc ?_ (by (try simp)<;>omega) _ | refine Below.drew ?_ | refine Below.trans ?_ (Below.mono (by assumption) (by (try simp)<;>omega)))));have q1_0:w.heap.size<w1.heap.size:=(by omega);have r1_0:Row w1 (w.heap.size) 53 #[.int .i64 k, .int .i64 cap, .int .i64 n, .slice A m c]:=row_call (by (repeat (first | assumption | (refine row_new ?_;(first | (simp;done) | omega)) | refine row_alloc ?_ _ | refine row_drew ?_ | refine row_call ?_ (by assumption)))) hb1;obtain ⟨c1_0a,c1_0b,c1_0c,c1_0d,f1_0a,f1_0b,f1_0c,f1_0d⟩:=row_four r1_0;have q1_1:w.heap.size+1<w1.heap.size:=(by omega);have r1_1:Row w1 (w.heap.size+1) 53 #[.int .i64 0, .int .i64 0, .int .i64 0, .slice none 0 0]:=row_call (by (repeat (first | assumption | (refine row_new ?_;(first | (simp;done) | omega)) | refine row_alloc ?_ _ | refine row_drew ?_ | refine row_call ?_ (by assumption)))) hb1;obtain ⟨c1_1a,c1_1b,c1_1c,c1_1d,f1_1a,f1_1b,f1_1c,f1_1d⟩:=row_four r1_1)
  exact bodyPost_ret (v := .tuple #[.agg #[.int .i64 0, .int .i64 0, .int .i64 0, .slice none 0 0], .int .i64 5]) (by simp [results,Tryz.results129,go_sem,c1_1a,c1_1b,c1_1c,c1_1d]) rfl (sret_zero (by (repeat (first | exact Below.refl _ _ | refine Below.setCell ?_ (by (try simp)<;>omega) _ | refine Below.alloc ?_ (by (try simp)<;>omega) _ | refine Below.drew ?_ | refine Below.trans ?_ (Below.mono (by assumption) (by (try simp)<;>omega))))))
set_option maxRecDepth 100000 in
set_option maxHeartbeats 4000000 in
theorem pinsert_ok (k cap n:Int) (A:Option Addr) (m c:Nat) (ts:List Tup) (v:Int) (w:World) (hin:SIn k cap n A m c ts w) (hv:svalE k cap n ts=0) (h0 : -4096≤v) (h1:v≤4096) (hn:n≠1099511627776):Calls Tryz.prog 129 #[.agg #[.int .i64 k, .int .i64 cap, .int .i64 n, .slice A m c], .int .i64 v] w fun e w'=>SRet (sinsert k cap n ts v) w e w':=by
  rw [sinsert_ok hv h0 h1 hn]
  have HR:=Lib.hid hin
  have hl:=hin.len
  have V:=of_svalE hv
  obtain ⟨k0,k1,cp0,cp1,n0,n1,mc,_,_⟩:=V
  rw [hl] at mc
  have P:=fun w1 (hb:Below w.heap.size w w1)=>psval k cap n A m c ts w1 (hin.below hb)
  rw [hv] at P
  have P:=Lib.hid P
  have pm:=sat_le v ts
  rw [hl] at pm
  have LOW:=Lib.hid (fun j (h:j<sat v ts)=>sat_low h)
  have HIGH:=Lib.hid (fun (h:sat v ts<ts.length)=>sat_high h)
  have TBS:=Lib.hid (sins_TB hv h0 h1)
  have TBO:=Lib.hid (sval_TB hv)
  have HSI:RowKit.Hid (sins v ts=ts.take (sat v ts) ++ ⟨v,1,sgap v ts⟩ :: ts.drop (sat v ts)):=Lib.hid rfl
  have HGP:RowKit.Hid (sgap v ts=if 0<sat v ts∧sat v ts<ts.length then (tupAt ts (sat v ts)).g+(tupAt ts (sat v ts)).d-1 else 0):=Lib.hid rfl
  have HSL:RowKit.Hid ((sins v ts).length=m+1):=Lib.hid (by rw [sins_len,hl])
  generalize sat v ts=p at pm LOW HIGH HSI HGP
  generalize sgap v ts=gap at HSI HGP
  have hnb:(n == 1099511627776)=false:=by simpa using hn
  have n2:n+1≤1099511627776:=by omega
  have HL:=Lib.hid hl
  have mB:m≤65536:=by omega
  have cB:=hin.mc
  obtain ⟨ii,hii,iz0,iz1,iz2⟩:=info_parts info_tup
  have w0':¬ v < -4096:=by omega
  have w1':¬ 4096<v:=by omega
  clear hin hv hl hn h0 h1
  go_enter Tryz.func129,Tryz.ntmps129
  go_upto_block 0 with (go_at_call 147;with_reducible refine (P.out _ (by (repeat (first | exact Below.refl _ _ | refine Below.setCell ?_ (by (try simp)<;>omega) _ | refine Below.alloc ?_ (by (try simp)<;>omega) _ | refine Below.drew ?_ | refine Below.trans ?_ (Below.mono (by assumption) (by (try simp)<;>omega)))))).mono ?_;rintro e w1 ⟨rfl,hb1⟩;have hz1:=hb1.size;(try simp at hz1);have o1:Below w.heap.size w w1:=(by (repeat (first | exact Below.refl _ _ | refine Below.setCell ?_ (by (try simp)<;>omega) _ | refine Below.alloc ?_ (by (try simp)<;>omega) _ | refine Below.drew ?_ | refine Below.trans ?_ (Below.mono (by assumption) (by (try simp)<;>omega)))));have q1_0:w.heap.size<w1.heap.size:=(by omega);have r1_0:Row w1 (w.heap.size) 53 #[.int .i64 k, .int .i64 cap, .int .i64 n, .slice A m c]:=row_call (by (repeat (first | assumption | (refine row_new ?_;(first | (simp;done) | omega)) | refine row_alloc ?_ _ | refine row_drew ?_ | refine row_call ?_ (by assumption)))) hb1;obtain ⟨c1_0a,c1_0b,c1_0c,c1_0d,f1_0a,f1_0b,f1_0c,f1_0d⟩:=row_four r1_0;have q1_1:w.heap.size+1<w1.heap.size:=(by omega);have r1_1:Row w1 (w.heap.size+1) 53 #[.int .i64 0, .int .i64 0, .int .i64 0, .slice none 0 0]:=row_call (by (repeat (first | assumption | (refine row_new ?_;(first | (simp;done) | omega)) | refine row_alloc ?_ _ | refine row_drew ?_ | refine row_call ?_ (by assumption)))) hb1;obtain ⟨c1_1a,c1_1b,c1_1c,c1_1d,f1_1a,f1_1b,f1_1c,f1_1d⟩:=row_four r1_1)
  go_cut [7] (fun i wx=>i = .int .i64 (p:Nat)∧wx=w1)
  case first =>
    go_wp2_with fail
    go_loopw [7] (fun i wr=>∃ j:Nat,j≤p∧i = .int .i64 (j:Nat)∧wr=w1) (fun i _=>p-(intOf i).toNat)
    case atStart=>exact ⟨0,by omega,rfl,rfl⟩
    case round =>
      obtain ⟨j,hj,rfl,rfl⟩:=hrel
      by_cases hlt:j<m
      · obtain ⟨ad,rfl,hadb,ht0⟩:=HR.out.reads.tup hlt
        obtain ⟨hv,hg,hd⟩:=ht0.below o1 (by rw [block_of_add];exact hadb)
        have i1:(j:Int)<(m:Int):=by omega
        have i2:(0:Int)≤(j:Int):=by omega
        by_cases hjp:j<p
        · have tv:=LOW.out j hjp
          generalize (tupAt ts j).v=tv at hv tv
          go_wp2
          go_roundw
          case rel=>exact ⟨j+1,by omega,by go_num,by trivial⟩
          case measure=>simp [intOf];omega
        · obtain rfl:j=p:=by omega
          have tv:=HIGH.out (by rw [HL.out];exact hlt)
          generalize (tupAt ts j).v=tv at hv tv
          go_wp2
          go_meet
          exact ⟨rfl,rfl⟩
      · have i1:¬ (j:Int)<(m:Int):=by omega
        obtain rfl:j=p:=by omega
        go_wp2
        go_meet
        exact ⟨rfl,rfl⟩
  case rest =>
    obtain ⟨rfl,rfl⟩:=hcut
    go_upto_region 12 with (fail)
    have K1:Row (wc.alloc (.cells #[.int .i64 v, .int .i64 1, .int .i64 0] 311)) wc.heap.size 311 #[.int .i64 v, .int .i64 1, .int .i64 0]:=row_new rfl
    have K2:=row_alloc r1_0 (.cells #[.int .i64 v, .int .i64 1, .int .i64 0] 311)
    have K3:=row_alloc r1_1 (.cells #[.int .i64 v, .int .i64 1, .int .i64 0] 311)
    have K4:=o1.alloc o1.size (.cells #[.int .i64 v, .int .i64 1, .int .i64 0] 311)
    have K5:wc.heap.size<(wc.alloc (.cells #[.int .i64 v, .int .i64 1, .int .i64 0] 311)).heap.size:=row_lt K1
    generalize (wc.alloc (.cells #[.int .i64 v, .int .i64 1, .int .i64 0] 311))=w2 at K1 K2 K3 K4 K5 ⊢
    generalize wc.heap.size=tb at K1 K5 hz1 q1_0 q1_1 ⊢
    clear c1_0a c1_0b c1_0c c1_0d f1_0a f1_0b f1_0c f1_0d c1_1a c1_1b c1_1c c1_1d f1_1a f1_1b f1_1c f1_1d r1_0 r1_1 o1
    go_cut [54] (fun b wx=>b = .bool (decide (0<p∧p<m))∧wx=w2)
    case first =>
      obtain ⟨A0,A1,A2,A3,_,_,_,_⟩:=row_four K2
      by_cases hp0:p=0
      · subst hp0
        go_wp2
        go_meet
        exact ⟨congrArg Value.bool (by simp),rfl⟩
      · have i1:(0:Int)<(p:Int):=by omega
        by_cases hpm:p=m
        · have i2:¬ (p:Int)<(m:Int):=by omega
          clear hpm
          go_wp2
          go_meet
          exact ⟨congrArg Value.bool (by simp;omega),rfl⟩
        · have i2:(p:Int)<(m:Int):=by omega
          go_wp2
          go_meet
          exact ⟨congrArg Value.bool (by simp;omega),rfl⟩
    case rest =>
    obtain ⟨hb,rfl⟩:=hcut
    subst hb
    go_upto_if 54 with (fail)
    go_cut [] (fun wx=>Row wx tb 311 #[.int .i64 v, .int .i64 1, .int .i64 gap]∧Row wx (w.heap.size) 53 #[.int .i64 k, .int .i64 cap, .int .i64 n, .slice A m c]∧Row wx (w.heap.size+1) 53 #[.int .i64 0, .int .i64 0, .int .i64 0, .slice none 0 0]∧Below w.heap.size w wx)
    case first =>
      by_cases hp0:¬ (0<p∧p<m)
      · have gz:gap=0:=by rw [HGP.out,if_neg (by rw [HL.out];exact hp0)]
        have hb:decide (0<p∧p<m)=false:=decide_eq_false hp0
        rw [hb]
        subst gz
        go_wp2
        go_meet
        exact ⟨K1,K2,K3,K4⟩
      · have hp1:0<p∧p<m:=Classical.not_not.1 hp0
        have hb:decide (0<p∧p<m)=true:=decide_eq_true hp1
        rw [hb]
        · have i2:(p:Int)<(m:Int):=by omega
          have i3:(0:Int)≤(p:Int):=by omega
          have gz:gap=(tupAt ts p).g+(tupAt ts p).d-1:=by rw [HGP.out,if_pos (by rw [HL.out];omega)]
          obtain ⟨ad,rfl,hadb,ht0⟩:=HR.out.reads.tup (i:=p) (by omega)
          obtain ⟨hv,hg,hd⟩:=ht0.below K4 (by rw [block_of_add];exact hadb)
          have tb0:=TB_at (by decide) TBO.out p
          unfold TB at tb0
          generalize (tupAt ts p).g=tg at hg gz tb0
          generalize (tupAt ts p).d=td at hd gz tb0
          have wa:IntKind.i64.wrap (tg+td)=tg+td:=IntWalk.i64_in _ (by omega)
          have wb:IntKind.i64.wrap (tg+td-1)=tg+td-1:=IntWalk.i64_in _ (by omega)
          clear tb0 hv ht0
          go_upto_region 13 with (fail)
          have LL:Row wc tb 311 #[.int .i64 v, .int .i64 1, .int .i64 0]∧Row wc (w.heap.size) 53 #[.int .i64 k, .int .i64 cap, .int .i64 n, .slice (some ad) m c]∧wc.cell? ⟨(ad.add (p*3)).block,(ad.add (p*3)).off+1,none⟩=some (.int .i64 tg)∧wc.cell? ⟨(ad.add (p*3)).block,(ad.add (p*3)).off+2,none⟩=some (.int .i64 td)∧Row wc (w.heap.size+1) 53 #[.int .i64 0, .int .i64 0, .int .i64 0, .slice none 0 0]∧Below w.heap.size w wc:=⟨K1,K2,hg,hd,K3,K4⟩
          clear K1 K2 K3 K4 hg hd
          refine wp_region_free0 [0,1,2,3,4,5,6,7,8,9,10,11,12,13,14] [] [0,1,2,3,4,5,6,7,8,9,10,11,12,13,14] 15 (fun w'=>Row w' tb 311 #[.int .i64 v, .int .i64 1, .int .i64 0]∧Row w' (w.heap.size) 53 #[.int .i64 k, .int .i64 cap, .int .i64 n, .slice (some ad) m c]∧w'.cell? ⟨(ad.add (p*3)).block,(ad.add (p*3)).off+1,none⟩=some (.int .i64 tg)∧w'.cell? ⟨(ad.add (p*3)).block,(ad.add (p*3)).off+2,none⟩=some (.int .i64 td)∧Row w' (w.heap.size+1) 53 #[.int .i64 0, .int .i64 0, .int .i64 0, .slice none 0 0]∧Below w.heap.size w w') (by kernel_rfl) (by kernel_rfl) (fun _ _ d _ _ h=>by cases d<;>exact h) ?_ ?_
          · exact ⟨LL.1,LL.2.1,LL.2.2.1,LL.2.2.2.1,LL.2.2.2.2.1,LL.2.2.2.2.2.drew⟩
          (refine plan_pure ?_ rfl rfl (fun w'=>?_) ?_;rotate_left;(go_simp;try with_reducible rfl);simp only [put9])
          (refine plan_val ?_ rfl rfl rfl (fun w' hS=>?_) ?_;rotate_left;(obtain ⟨B0,B1,B2,B3,B4,B5⟩:=row_three hS.1;obtain ⟨A0,A1,A2,A3,_,_,_,_⟩:=row_four hS.2.1;have q1:=hS.2.2.1;have q2:=hS.2.2.2.1;go_simp;try with_reducible rfl);simp only [put9])
          (refine plan_pure ?_ rfl rfl (fun w'=>?_) ?_;rotate_left;(go_simp;try with_reducible rfl);simp only [put9])
          (refine plan_pure ?_ rfl rfl (fun w'=>?_) ?_;rotate_left;(go_simp;try with_reducible rfl);simp only [put9])
          (refine plan_pure ?_ rfl rfl (fun w'=>?_) ?_;rotate_left;(go_simp;try with_reducible rfl);simp only [put9])
          (refine plan_val ?_ rfl rfl rfl (fun w' hS=>?_) ?_;rotate_left;(obtain ⟨B0,B1,B2,B3,B4,B5⟩:=row_three hS.1;obtain ⟨A0,A1,A2,A3,_,_,_,_⟩:=row_four hS.2.1;have q1:=hS.2.2.1;have q2:=hS.2.2.2.1;go_simp;try with_reducible rfl);simp only [put9])
          (refine plan_pure ?_ rfl rfl (fun w'=>?_) ?_;rotate_left;(go_simp;try with_reducible rfl);simp only [put9])
          (refine plan_val ?_ rfl rfl rfl (fun w' hS=>?_) ?_;rotate_left;(obtain ⟨B0,B1,B2,B3,B4,B5⟩:=row_three hS.1;obtain ⟨A0,A1,A2,A3,_,_,_,_⟩:=row_four hS.2.1;have q1:=hS.2.2.1;have q2:=hS.2.2.2.1;go_simp;try with_reducible rfl);simp only [put9])
          (refine plan_pure ?_ rfl rfl (fun w'=>?_) ?_;rotate_left;(go_simp;try with_reducible rfl);simp only [put9])
          (refine plan_pure ?_ rfl rfl (fun w'=>?_) ?_;rotate_left;(go_simp;try with_reducible rfl);simp only [put9])
          (refine plan_pure ?_ rfl rfl (fun w'=>?_) ?_;rotate_left;(go_simp;try with_reducible rfl);simp only [put9])
          (refine plan_val ?_ rfl rfl rfl (fun w' hS=>?_) ?_;rotate_left;(obtain ⟨B0,B1,B2,B3,B4,B5⟩:=row_three hS.1;obtain ⟨A0,A1,A2,A3,_,_,_,_⟩:=row_four hS.2.1;have q1:=hS.2.2.1;have q2:=hS.2.2.2.1;go_simp;try with_reducible rfl);simp only [put9])
          (refine plan_pure ?_ rfl rfl (fun w'=>?_) ?_;rotate_left;(go_simp;try with_reducible rfl);simp only [put9])
          (refine plan_pure ?_ rfl rfl (fun w'=>?_) ?_;rotate_left;(go_simp;try with_reducible rfl);simp only [put9])
          (refine plan_pure ?_ rfl rfl (fun w'=>?_) ?_;rotate_left;(go_simp;try with_reducible rfl);simp only [put9])
          refine plan_nil ?_
          intro w3 L3
          simp only [List.drop_succ_cons,List.drop_zero]
          try simp only [put9]
          clear LL
          have B:=row_set L3.1 2 (.int .i64 (tg+td-1))
          have C:=row_other (p:=⟨tb,2,none⟩) L3.2.1 (by simp;omega) (.int .i64 (tg+td-1))
          have D:=row_other (p:=⟨tb,2,none⟩) L3.2.2.2.2.1 (by simp;omega) (.int .i64 (tg+td-1))
          have E:=L3.2.2.2.2.2.setCell (p:=⟨tb,2,none⟩) (by simp;omega) (.int .i64 (tg+td-1))
          obtain ⟨B0,B1,B2,B3,B4,B5⟩:=row_three L3.1
          go_wp2
          go_meet
          rw [gz]
          exact ⟨B,C,D,E⟩
    case rest =>
      obtain ⟨K1,K2,K3,K4⟩:=hcut
      have zc:=row_lt K1
      have q2_0:w.heap.size<wc.heap.size:=by omega
      have q2_1:w.heap.size+1<wc.heap.size:=by omega
      obtain ⟨A0,A1,A2,A3,_,_,_,_⟩:=row_four K2
      have pc:(p:Int)≤(c:Int):=by omega
      have pc2:p≤c:=by omega
      have i3:(0:Int)≤(p:Int):=by omega
      have rp:=HR.out.reads.pre pm
      rw [tcells_take] at rp
      have RP:=Lib.hid (rp.below K4)
      clear rp
      clear K5
      have rs:=HR.out.reads.cut pm cB
      rw [tcells_drop] at rs
      have RS:=Lib.hid rs
      clear rs
      go_upto_region 15 with (at_builtin;(refine wpList_clone rfl _ _ 51 rfl 311 ii (.agg #[.int .i64 0, .int .i64 0, .int .i64 0]) 3 24 Tryz.underlying51 hii iz0 iz1 iz2 rfl (by decide) rfl w.heap.size A p c (tcells (ts.take p)) rfl RP.out K4.size (tcells_one _) (by unfold maxLen;omega) (by omega) ?_);intro g c2 w4 own4 hg4 hb4 hz4;have R0:=row_call K2 hb4;have R1:=row_call K3 hb4;have RT:=row_call K1 hb4;have o4:=K4.trans (hb4.mono K4.size))
      clear K1 K2 K3 A0 A1 A2 A3 RP
      obtain ⟨A0,A1,A2,A3,_,_,_,_⟩:=row_four R0
      obtain ⟨T0,T1,T2,_,_,_⟩:=row_three RT
      have gw:wc.heap.size≤w4.heap.size:=by omega
      go_region_held3 (fun w'=>w'.cell? ⟨w.heap.size,3,none⟩=some (.slice A m c)∧w'.cell? ⟨tb,0,none⟩=some (.int .i64 v)∧w'.cell? ⟨tb,1,none⟩=some (.int .i64 1)∧w'.cell? ⟨tb,2,none⟩=some (.int .i64 gap)) (go_keep)
        (first | (refine step_append_any _ rfl _ _ 51 rfl w.heap.size 311 ii (.agg #[.int .i64 0, .int .i64 0, .int .i64 0]) 3 24 Tryz.underlying51 hii iz0 iz1 iz2 rfl (by decide) (.slice (some ⟨g,0,none⟩) p c2) p (tcells (ts.take p)) rfl (((own4.alloc _).drew).row (by omega)) (w4.heap.size+1) (some ⟨w4.heap.size,0,none⟩) 1 1 (tcells [⟨v,1,gap⟩]) rfl (by simpa [tcells] using (own_new (w:=w4) (e:=311) (size:=3) (n:=1) (cs:=#[.int .i64 v, .int .i64 1, .int .i64 gap]) rfl (by unfold maxLen;omega) rfl).reads.drew) (tcells_one _) (by unfold maxLen;omega) (by omega) (by simp;omega) ?_;intro v5 w5 own5 gr5 at5;obtain ⟨g5,c5,rfl,hg5,hlt5⟩:=own5.form (by omega);have at5':g5=g∨g5=w4.heap.size+1:=(by simpa [Value.ownBlock] using at5);have U0:=row_grown (row_drew (row_alloc R0 _)) gr5 (by simp [Value.ownBlock];omega);have U1:=row_grown (row_drew (row_alloc R1 _)) gr5 (by simp [Value.ownBlock];omega);have UT:=row_grown (row_drew (row_alloc RT _)) gr5 (by simp [Value.ownBlock];omega);obtain ⟨B0,B1,B2,B3,_,_,_,_⟩:=row_four U0;obtain ⟨D0,D1,D2,_,_,_⟩:=row_three UT;have o5:=below_grown ((o4.alloc o4.size (.cells #[.int .i64 v, .int .i64 1, .int .i64 gap] 311)).drew) gr5 (fun k e=>by simp [Value.ownBlock] at e;omega) (by have:=o4.size;simp;omega)) | (refine step_append_any _ rfl _ _ 51 rfl w.heap.size 311 ii (.agg #[.int .i64 0, .int .i64 0, .int .i64 0]) 3 24 Tryz.underlying51 hii iz0 iz1 iz2 rfl (by decide) (.slice (some ⟨g5,0,none⟩) (p+1) c5) (p+1) (tcells (ts.take p) ++ tcells [⟨v,1,gap⟩]) rfl own5 w.heap.size _ (m-p) (c-p) (tcells (ts.drop p)) rfl (RS.out.below o5) (tcells_one _) (by unfold maxLen;omega) (by omega) o5.size ?_;intro v8 w8 own8 gr8 at8;obtain ⟨g8,c8,rfl,hg8,hlt8⟩:=own8.form (by omega);have at8':g8=g5∨g8=w5.heap.size:=(by simpa [Value.ownBlock] using at8);have V0:=row_grown U0 gr8 (by simp [Value.ownBlock];omega);have V1:=row_grown U1 gr8 (by simp [Value.ownBlock];omega);have VT:=row_grown UT gr8 (by simp [Value.ownBlock];omega);obtain ⟨E0,E1,E2,E3,_,_,_,_⟩:=row_four V0;obtain ⟨F0,F1,F2,_,_,_⟩:=row_three VT;have o8:=below_grown o5 gr8 (fun k e=>by simp [Value.ownBlock] at e;omega) o5.size))
      generalize (if c=p then A else Option.map (fun x=>x.add (p*3)) A)=sA
      generalize hL:p+1+(m-p)=L at own8 ⊢
      have hL2:L=m+1:=by omega
      have es:ts.take p ++ [⟨v,1,gap⟩] ++ ts.drop p=sins v ts:=by rw [HSI.out];simp
      rw [← tcells_append,← tcells_append,es] at own8
      have own8:=(own_of_row own8).1
      have gX:w.heap.size<g8:=by omega
      have gR:w.heap.size+1<g8:=by omega
      clear at8 at8' at5 at5' gr8 gr5 own5 own4 o5 UT U0 U1 VT R0 R1 RT A0 A1 A2 A3 B0 B1 B2 B3 D0 D1 D2 E0 E1 E2 E3 F0 F1 F2 T0 T1 T2 o4 hg4 hb4 hz4 gw hL es K4 RS hg8 hg5 hlt5 hlt8 zc q2_0 q2_1 i3 pc pc2
      have PM:=fun w1=>pmost (n+1) k (by omega) n2 k0 w1
      have M1:=smost_pos (n:=n+1) (k:=k)
      have M2:=smost_le (n:=n+1) (k:=k) (by omega) k0 (by omega)
      have F0:=Lib.hid (fun (h:((sins v ts).length:Int)≤cap)=>sfit_short (k:=k) (n:=n+1) h)
      have F1:=Lib.hid (fun (h:cap<((sins v ts).length:Int)) (h2:((comp (smost (n+1) k) (sins v ts)).length:Int)≤cap)=>sfit_comp (k:=k) (n:=n+1) h h2)
      have F2:=Lib.hid (fun (h:cap<((sins v ts).length:Int)) (h2:cap<((comp (smost (n+1) k) (sins v ts)).length:Int))=>sfit_full (k:=k) (n:=n+1) h h2)
      generalize smost (n+1) k=M at PM M1 M2 F1 F2
      have PC:=Lib.hid (fun w1 (ho:Own w1 311 3 g8 L c8 (tcells (sins v ts)))=>pcompress M g8 L c8 (sins v ts) w1 ho TBS.out (by omega) (by omega) (by omega))
      have PM:=Lib.hid PM
      have TBC:=Lib.hid (comp_TB (m:=M) (by omega) TBS.out)
      have HSL2:RowKit.Hid ((sins v ts).length=L):=Lib.hid (by rw [HSL.out,hL2])
      have LB:L≤65537:=by omega
      clear hL2
      generalize hres:sfit k cap (n+1) (sins v ts)=res at F0 F1 F2
      have HRES:=Lib.hid hres
      clear hres
      generalize sins v ts=sl at own8 F0 F1 F2 PC TBS TBC HSL2
      have wn:IntKind.i64.wrap (n+1)=n+1:=IntWalk.i64_in _ (by omega)
      obtain ⟨A0,A1,A2,A3,B0,B1,B2,B3⟩:=row_four V0
      clear HSI HGP HSL LOW HIGH HL TBO P
      go_upto_region 17 with (fail)
      have V0:Row (w8.setCell ⟨w.heap.size,2,none⟩ (.int .i64 (n+1))) (w.heap.size) 53 #[.int .i64 k, .int .i64 cap, .int .i64 (n+1), .slice A m c]:=row_set V0 2 _
      have V1:=row_other (p:=⟨w.heap.size,2,none⟩) V1 (by simp) (.int .i64 (n+1))
      have own9:=own8.other (p:=⟨w.heap.size,2,none⟩) (by simp;omega) (.int .i64 (n+1))
      have o9:=o8.setCell (p:=⟨w.heap.size,2,none⟩) (Nat.le_refl _) (.int .i64 (n+1))
      generalize (w8.setCell ⟨w.heap.size,2,none⟩ (.int .i64 (n+1)))=w9 at V0 V1 own9 o9 ⊢
      clear A0 A1 A2 A3 B0 B1 B2 B3 own8 o8
      obtain ⟨A0,A1,A2,A3,A4,A5,A6,A7⟩:=row_four V0
      obtain ⟨B0,B1,B2,B3,B4,B5,B6,B7⟩:=row_four V1
      have ne0:g8≠w.heap.size:=by omega
      have ne1:g8≠w.heap.size+1:=by omega
      by_cases hc:(L:Int)≤cap
      · have E:=F0.out (by rw [HSL2.out];exact hc)
        have t1:¬ cap<(L:Int):=by omega
        go_wp2
        have ow:Own ((((((w9).setCell ⟨w.heap.size,3,none⟩ (.slice (some ⟨g8,0,none⟩) L c8)).setCell ⟨w.heap.size+1,0,none⟩ (.int .i64 k)).setCell ⟨w.heap.size+1,1,none⟩ (.int .i64 cap)).setCell ⟨w.heap.size+1,2,none⟩ (.int .i64 (n+1))).setCell ⟨w.heap.size+1,3,none⟩ (.slice (some ⟨g8,0,none⟩) L c8)) 311 3 g8 L c8 (tcells sl) :=
          ((((own9.other (by simp;omega) _).other (by simp;omega) _).other (by simp;omega) _).other (by simp;omega) _).other (by simp;omega) _
        have ob:Below w.heap.size w ((((((w9).setCell ⟨w.heap.size,3,none⟩ (.slice (some ⟨g8,0,none⟩) L c8)).setCell ⟨w.heap.size+1,0,none⟩ (.int .i64 k)).setCell ⟨w.heap.size+1,1,none⟩ (.int .i64 cap)).setCell ⟨w.heap.size+1,2,none⟩ (.int .i64 (n+1))).setCell ⟨w.heap.size+1,3,none⟩ (.slice (some ⟨g8,0,none⟩) L c8)):=by
          (repeat (first | exact Below.refl _ _ | refine Below.setCell ?_ (by (try simp)<;>omega) _ | refine Below.alloc ?_ (by (try simp)<;>omega) _ | refine Below.drew ?_ | refine Below.trans ?_ (Below.mono (by assumption) (by (try simp)<;>omega))))
        exact bodyPost_ret (v := .tuple #[.agg #[.int .i64 k, .int .i64 cap, .int .i64 (n+1), .slice (some ⟨g8,0,none⟩) L c8], .int .i64 0]) (by simp [results,Tryz.results129,go_sem,A0,A1,A2,A3,B0,B1,B2,B3]) rfl (by rw [HRES.out,E];exact sret_own ow (by omega) (by omega) (by omega) TBS.out ob (by omega))
      · have t1:cap<(L:Int):=by omega
        go_upto_region 19 with (first | (go_at_call 223;refine (PM.out _).mono ?_;rintro e w10 ⟨rfl,h9⟩;obtain rfl:=h9.symm) | (go_at_call 222;refine (PC.out _ own9).mono ?_;rintro e w10 ⟨g9,L9,c9,rfl,own10,hg9,hb10⟩))
        have V0:=row_below V0 hb10 gX
        have V1:=row_below V1 hb10 gR
        have o10:=o9.trans (hb10.mono (by omega))
        have l10:=own10.tlen
        clear A0 A1 A2 A3 A4 A5 A6 A7 B0 B1 B2 B3 B4 B5 B6 B7 own9
        obtain ⟨A0,A1,A2,A3,A4,A5,A6,A7⟩:=row_four V0
        obtain ⟨B0,B1,B2,B3,B4,B5,B6,B7⟩:=row_four V1
        have ne2:g9≠w.heap.size:=by omega
        have ne3:g9≠w.heap.size+1:=by omega
        by_cases hd:(L9:Int)≤cap
        · have E:=F1.out (by rw [HSL2.out];exact t1) (by rw [l10];exact hd)
          have t2:¬ cap<(L9:Int):=by omega
          generalize comp M sl=cl at own10 TBC E
          go_wp2
          have ow:Own ((((((w10).setCell ⟨w.heap.size,3,none⟩ (.slice (some ⟨g9,0,none⟩) L9 c9)).setCell ⟨w.heap.size+1,0,none⟩ (.int .i64 k)).setCell ⟨w.heap.size+1,1,none⟩ (.int .i64 cap)).setCell ⟨w.heap.size+1,2,none⟩ (.int .i64 (n+1))).setCell ⟨w.heap.size+1,3,none⟩ (.slice (some ⟨g9,0,none⟩) L9 c9)) 311 3 g9 L9 c9 (tcells cl) :=
            ((((own10.other (by simp;omega) _).other (by simp;omega) _).other (by simp;omega) _).other (by simp;omega) _).other (by simp;omega) _
          have ob:Below w.heap.size w ((((((w10).setCell ⟨w.heap.size,3,none⟩ (.slice (some ⟨g9,0,none⟩) L9 c9)).setCell ⟨w.heap.size+1,0,none⟩ (.int .i64 k)).setCell ⟨w.heap.size+1,1,none⟩ (.int .i64 cap)).setCell ⟨w.heap.size+1,2,none⟩ (.int .i64 (n+1))).setCell ⟨w.heap.size+1,3,none⟩ (.slice (some ⟨g9,0,none⟩) L9 c9)):=by
            (repeat (first | exact Below.refl _ _ | refine Below.setCell ?_ (by (try simp)<;>omega) _ | refine Below.alloc ?_ (by (try simp)<;>omega) _ | refine Below.drew ?_ | refine Below.trans ?_ (Below.mono (by assumption) (by (try simp)<;>omega))))
          exact bodyPost_ret (v := .tuple #[.agg #[.int .i64 k, .int .i64 cap, .int .i64 (n+1), .slice (some ⟨g9,0,none⟩) L9 c9], .int .i64 0]) (by simp [results,Tryz.results129,go_sem,A0,A1,A2,A3,B0,B1,B2,B3]) rfl (by rw [HRES.out,E];exact sret_own ow (by omega) (by omega) (by omega) TBC.out ob (by omega))
        · have E:=F2.out (by rw [HSL2.out];exact t1) (by rw [l10];omega)
          have t2:cap<(L9:Int):=by omega
          go_wp2
          exact bodyPost_ret (v := .tuple #[.agg #[.int .i64 0, .int .i64 0, .int .i64 0, .slice none 0 0], .int .i64 5]) (by simp [results,Tryz.results129,go_sem,B0,B1,B2,B3]) rfl (by rw [HRES.out,E];exact sret_zero (by (repeat (first | exact Below.refl _ _ | refine Below.setCell ?_ (by (try simp)<;>omega) _ | refine Below.alloc ?_ (by (try simp)<;>omega) _ | refine Below.drew ?_ | refine Below.trans ?_ (Below.mono (by assumption) (by (try simp)<;>omega))))))
theorem pinsert (k cap n:Int) (A:Option Addr) (m c:Nat) (ts:List Tup) (v:Int) (w:World) (hin:SIn k cap n A m c ts w):Calls Tryz.prog 129 #[.agg #[.int .i64 k, .int .i64 cap, .int .i64 n, .slice A m c], .int .i64 v] w fun e w'=>SRet (sinsert k cap n ts v) w e w':=by
  rcases svalE_two (k:=k) (cap:=cap) (n:=n) (ts:=ts) with hv | hv
  · by_cases h0:v < -4096
    · exact pinsert_low k cap n A m c ts v w hin hv h0
    · by_cases h1:4096<v
      · exact pinsert_high k cap n A m c ts v w hin hv (by omega) h1
      · by_cases h2:n=1099511627776
        · exact pinsert_full k cap n A m c ts v w hin hv (by omega) (by omega) h2
        · exact pinsert_ok k cap n A m c ts v w hin hv (by omega) (by omega) h2
  · exact pinsert_bad k cap n A m c ts v w hin hv
end Go.Proofs.YtdipoojjlddohaaGreat
end
section
/- Summaries of a stream: merging two, in plain Lean. -/
namespace Go.Proofs.YtdipoojjlddohaaGreat
def shits (first:Bool) (t u:Tup):Bool:=decide (t.v<u.v) || (first && u.v == t.v)
def swid (first:Bool) (t:Tup):List Tup→Tup
  | []=>t
  | u :: b=>if shits first t u=true then { t with d:=t.d+u.g+u.d-1 } else swid first t b
def swids (b:List Tup) (first:Bool) (a:List Tup):List Tup:=a.map fun t=>swid first t b
def smrg:List Tup→List Tup→List Tup
  | [],y=>y
  | x,[]=>x
  | x :: xs,y :: ys=>if x.v≤y.v then x :: smrg xs (y :: ys) else y :: smrg (x :: xs) ys
termination_by x y=>x.length+y.length
theorem drop_tup {ts:List Tup} {i:Nat} (h:i<ts.length):ts.drop i=tupAt ts i :: ts.drop (i+1):=by rw [List.drop_eq_getElem_cons h,tupAt_eq h]
def smerge (k cap n:Int) (ts:List Tup) (k' cap' n':Int) (ts':List Tup):SOut :=
  if svalE k cap n ts=0 then (if svalE k' cap' n' ts'=0 then (if k=k' then (if 1099511627776<n+n' then szero 5 else sfit k (max cap cap') (n+n') (smrg (swids ts' true ts) (swids ts false ts'))) else szero 1) else szero 2) else szero 2
section
variable {k cap n k' cap' n':Int} {ts ts':List Tup}
def TV (t:Tup):Prop := -4096≤t.v∧t.v≤4096∧1≤t.g∧t.g≤1099511627776∧0≤t.d∧t.d≤1099511627776
end
def SAt (ts ts':List Tup) (i j:Nat) (l:List Tup):Prop :=
  l ++ smrg ((swids ts' true ts).drop i) ((swids ts false ts').drop j)=smrg (swids ts' true ts) (swids ts false ts') ∧
  (∀ e,e<j→i<ts.length→(tupAt ts' e).v<(tupAt ts i).v)∧(∀ e,e<i→j<ts'.length→(tupAt ts e).v≤(tupAt ts' j).v)
section
variable {ts ts' l:List Tup} {i j:Nat}
end
end Go.Proofs.YtdipoojjlddohaaGreat
end
