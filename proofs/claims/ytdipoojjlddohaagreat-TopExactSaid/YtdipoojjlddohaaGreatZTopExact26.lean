/- What the law TopExact needs, joined of its texts by a program (slim2.py); part 26. -/
import Derived.Test.YtdipoojjlddohaaGreatZTopExact1
import Derived.Test.YtdipoojjlddohaaGreatZTopExact8
import Derived.Test.YtdipoojjlddohaaGreatZTopExact17
set_option linter.unusedVariables false
set_option linter.unusedSimpArgs false
set_option linter.unusedSectionVars false
set_option linter.unnecessarySimpa false
section
/- Windows, live items and extremes, walked. -/
namespace Go.Proofs.YtdipoojjlddohaaGreat
open Go.RowKit
def mcap (c:Int):Int:=if c % 4=0 then 65536 else if c % 4=1 then 200 else 1+c % 40
theorem liveI_take {now wd:Int} {l:List Itm} {k:Nat} (h:k<l.length):liveI now wd (l.take (k+1))=liveI now wd (l.take k) ++ (if now-wd<(itmAt l k).t∧(itmAt l k).t≤now then [itmAt l k] else []):=by
  rw [List.take_succ_eq_append_getElem h,itm_eq h]
  unfold liveI
  rw [List.filter_append]
  congr 1
  by_cases c:now-wd<(itmAt l k).t∧(itmAt l k).t≤now
  · rw [if_pos c,List.filter_cons_of_pos (by simp;omega)];rfl
  · rw [if_neg c,List.filter_cons_of_neg (by simp;omega)];rfl
theorem liveI_le {now wd:Int} (l:List Itm):(liveI now wd l).length≤l.length:=List.length_filter_le _ _
set_option maxHeartbeats 2000000 in
theorem pliveI (A:Option Addr) (m c:Nat) (l:List Itm) (now wd:Int) (w:World) (hin:Reads w w.heap.size 2 A m (icells l)) (hm:m≤100000) (n0:0≤now) (n1:now≤1099511627776) (d0:0≤wd) (d1:wd≤1099511627776) :
    Calls Tryz.prog 23 #[.slice A m c, .int .i64 now, .int .i64 wd] w fun e w'=>∃ v,e = .returned v∧w'.ownsRow w.heap.size 90 2 v (liveI now wd l).length (icells (liveI now wd l))∧Below w.heap.size w w':=by
  have HR:=Lib.hid hin
  have hl:=hin.itm_len
  obtain ⟨i1,hi1,iz0,iz1,iz2⟩:=info_parts info_itm
  have wnd:IntKind.i64.wrap (now-wd)=now-wd:=IntWalk.i64_in _ (by omega)
  have HL:=Lib.hid hl
  clear hin hl n0 n1 d0 d1
  go_enter Tryz.func23,Tryz.ntmps23
  go_wp2
  go_loopw [7,12] (fun v i wr=>∃ k:Nat,k≤m∧i = .int .i64 (k:Nat)∧wr.ownsRow w.heap.size 90 2 v (liveI now wd (l.take k)).length (icells (liveI now wd (l.take k)))∧Below w.heap.size w wr) (fun _ i _=>m-(intOf i).toNat)
  case atStart=>exact ⟨0,by omega,rfl,by rw [List.take_zero];exact World.ownsRow_nil _ _ _ _,Below.refl _ _⟩
  case round =>
    obtain ⟨k,hk,rfl,own,hb⟩:=hrel
    by_cases hlt:k<m
    · obtain ⟨ad,rfl,hadb,hi0⟩:=HR.out.itm hlt
      obtain ⟨c0,c1⟩:=hi0.below hb (by rw [block_of_add];exact hadb)
      have TK:=liveI_take (now:=now) (wd:=wd) (show k<l.length by rw [HL.out];exact hlt)
      have hq:=liveI_le (now:=now) (wd:=wd) (l.take k)
      rw [List.length_take] at hq
      obtain ⟨q,hqq⟩:∃ q,(liveI now wd (l.take k)).length=q:=⟨_,rfl⟩
      rw [hqq] at own hq
      have QQ:=Lib.hid hqq
      obtain ⟨tk,htk⟩:∃ x,(itmAt l k).t=x:=⟨_,rfl⟩
      obtain ⟨vk,hvk⟩:∃ x,(itmAt l k).v=x:=⟨_,rfl⟩
      rw [show itmAt l k=⟨tk,vk⟩ by rw [← htk,← hvk]] at TK
      rw [htk] at c0
      rw [hvk] at c1
      dsimp only at TK
      have i2:(k:Int)<(m:Int):=by omega
      have i4:(0:Int)≤(k:Int):=by omega
      have zb:=hb.size
      clear htk hvk hqq hi0
      have NX:∀ lv:List Itm,liveI now wd (l.take (k+1))=lv→∀ (x:Value) (wz:World),wz.ownsRow w.heap.size 90 2 x lv.length (icells lv)→wz.ownsRow w.heap.size 90 2 x (liveI now wd (l.take (k+1))).length (icells (liveI now wd (l.take (k+1)))):=fun lv e x wz h=>by rw [e];exact h
      by_cases ct:now-wd<tk
      · by_cases cn:tk≤now
        · rw [if_pos ⟨ct,cn⟩] at TK
          have TKh:=Lib.hid TK
          clear TK
          go_upto_region 6 with (fail)
          have OWN0:=own.alloc (.cells #[.int .i64 tk, .int .i64 vk] 90)
          have T0:Row (wr.alloc (.cells #[.int .i64 tk, .int .i64 vk] 90)) wr.heap.size 90 #[.int .i64 tk, .int .i64 vk]:=row_new rfl
          replace hb:=hb.alloc zb (.cells #[.int .i64 tk, .int .i64 vk] 90)
          have hlt0:=own.lt
          generalize wr.alloc (.cells #[.int .i64 tk, .int .i64 vk] 90)=w5 at OWN0 T0 hb ⊢
          generalize wr.heap.size=tb at T0 zb hlt0 ⊢
          obtain ⟨T1,T2,T3,T4⟩:=row_two T0
          have hbl:=OWN0.lt
          have OWN:=Lib.hid OWN0
          have zb5:=hb.size
          clear own OWN0 T0 c0 c1
          go_wp2_with (at_builtin;refine wpList_push rfl _ _ 22 rfl 90 i1 (.agg #[.int .i64 0, .int .i64 0]) 2 16 Tryz.underlying22 hi1 iz0 iz1 iz2 rfl (by decide) w.heap.size u7 q (icells (liveI now wd (l.take k))) rfl OWN.out #[.int .i64 tk, .int .i64 vk] rfl rfl (by intro u hu;simp at hu;rcases hu with rfl | rfl<;>rfl) (by unfold maxLen;omega) (by omega) (by omega) ?_;intro g' c4 w8 own8 hg8 hat8 hgr8)
          have L8:w8.ownsRow w.heap.size 90 2 (.slice (some ⟨g',0,none⟩) (q+1) c4) (liveI now wd (l.take k) ++ [(⟨tk,vk⟩:Itm)]).length (icells (liveI now wd (l.take k) ++ [(⟨tk,vk⟩:Itm)])):=by
            rw [icells_append,List.length_append,QQ.out]
            exact own8.row hg8
          have L9:Below w.heap.size w w8:=below_grown (hb.alloc zb5 _) hgr8 (fun b e=>(hbl b e).1) (by simp;omega)
          clear own8 hgr8 hat8
          go_roundw
          case rel=>exact ⟨k+1,by omega,by go_num,NX _ TKh.out _ _ L8,L9⟩
          case measure=>simp [intOf];omega
        · rw [if_neg (fun h=>cn h.2),List.append_nil] at TK
          have TKh:=Lib.hid TK
          clear TK
          have QO:=QQ.out
          go_wp2
          go_roundw
          case rel=>exact ⟨k+1,by omega,by go_num,NX _ TKh.out _ _ (by rw [QO];exact own.alloc _),hb.alloc zb _⟩
          case measure=>simp [intOf];omega
      · rw [if_neg (fun h=>ct h.1),List.append_nil] at TK
        have TKh:=Lib.hid TK
        clear TK
        have QO:=QQ.out
        go_wp2
        go_roundw
        case rel=>exact ⟨k+1,by omega,by go_num,NX _ TKh.out _ _ (by rw [QO];exact own.alloc _),hb.alloc zb _⟩
        case measure=>simp [intOf];omega
    · have i2:¬ (k:Int)<(m:Int):=by omega
      obtain rfl:k=m:=by omega
      rw [List.take_of_length_le (by rw [HL.out];exact Nat.le_refl _)] at own
      go_wp2
      go_ret
      exact ⟨_,rfl,own,hb⟩
def tsum (agg:Int) (l:List Itm):Int:=if agg=1 then l.length else if agg=2 then isum l else if agg=3 then isq l else 0
def tone (agg v:Int):Int:=if agg=1 then 1 else if agg=2 then v else if agg=3 then v*v else 0
end Go.Proofs.YtdipoojjlddohaaGreat
end
