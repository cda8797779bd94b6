/- What the law TopSummaries needs, joined of its texts by a program (slim2.py); part 41. -/
import Derived.Test.YtdipoojjlddohaaGreatZTopSummaries1
import Derived.Test.YtdipoojjlddohaaGreatZTopSummaries39
import Derived.Test.YtdipoojjlddohaaGreatZTopSummaries40
set_option linter.unusedVariables false
set_option linter.unusedSimpArgs false
set_option linter.unusedSectionVars false
set_option linter.unnecessarySimpa false
section
/- The rank of a value among items, walked; what the runs of the law TopSummaries leave. -/
namespace Go.Proofs.YtdipoojjlddohaaGreat
open Go.RowKit
theorem cle_step {l:List Itm} {j:Nat} (h:j<l.length) (v:Int):cle ((l.take (j+1)).map (·.v)) v=cle ((l.take j).map (·.v)) v+(if (itmAt l j).v≤v then 1 else 0):=by
  rw [List.take_succ_eq_append_getElem h,List.map_append,cle_append,itm_eq h]
  congr 1
  unfold cle
  by_cases hc:(itmAt l j).v≤v
  · rw [if_pos hc];simp [hc]
  · rw [if_neg hc];simp [hc]
set_option maxHeartbeats 2000000 in
theorem pexrank (A:Option Addr) (m c:Nat) (l:List Itm) (v:Int) (w:World) (hin:Reads w w.heap.size 2 A m (icells l)) (hm:m≤100000):Calls Tryz.prog 18 #[.slice A m c, .int .i64 v] w fun e w'=>e = .returned (.int .i64 (cle (l.map (·.v)) v:Nat))∧Below w.heap.size w w':=by
  have HR:=Lib.hid hin
  have hln:=Lib.hid hin.itm_len
  clear hin
  go_enter Tryz.func18,Tryz.ntmps18
  go_wp2
  go_loopw [5,7,10] (fun u5 _ i wr=>∃ j s:Nat,j≤m∧i = .int .i64 (j:Nat)∧u5 = .int .i64 (s:Nat)∧RowKit.Hid (s=cle ((l.take j).map (·.v)) v)∧s≤j∧Below w.heap.size w wr) (fun _ _ i _=>m-(intOf i).toNat)
  case atStart=>exact ⟨0,0,Nat.zero_le _,rfl,rfl,Lib.hid rfl,Nat.le_refl _,Below.refl _ _⟩
  case round =>
    obtain ⟨j,s,hj,rfl,rfl,HS,hs,o⟩:=hrel
    by_cases hlt:j<m
    · obtain ⟨ad,rfl,hadb,hi0⟩:=HR.out.itm hlt
      obtain ⟨c0,c1⟩:=hi0.below o (by rw [block_of_add];exact hadb)
      have jl:j<l.length:=by rw [hln.out];exact hlt
      have ST:=cle_step jl v
      rw [← HS.out] at ST
      obtain ⟨y,hy⟩:∃ y,itmAt l j=y:=⟨_,rfl⟩
      rw [hy] at c0 c1 ST
      obtain ⟨tj,vj⟩:=y
      dsimp only at c0 c1 ST
      have i1:(j:Int)<(m:Int):=by omega
      have i2:(0:Int)≤(j:Int):=by omega
      have ws:IntKind.i64.wrap ((s:Int)+1)=((s+1:Nat):Int):=by rw [IntWalk.i64_in _ (by omega)];omega
      clear hi0 jl hy HS
      by_cases hc:vj≤v
      · rw [if_pos hc] at ST
        replace ST:=Lib.hid ST.symm
        go_wp2
        go_roundw
        case rel=>exact ⟨j+1,s+1,by omega,by go_num,by go_num,ST,by omega,o.alloc o.size _⟩
        case measure=>simp [intOf];omega
      · rw [if_neg hc] at ST
        replace ST:=Lib.hid ST.symm
        go_wp2
        go_roundw
        case rel=>exact ⟨j+1,s,by omega,by go_num,rfl,ST,by omega,o.alloc o.size _⟩
        case measure=>simp [intOf];omega
    · have i1:¬ (j:Int)<(m:Int):=by omega
      obtain rfl:j=m:=by omega
      have hS:=HS.out
      rw [List.take_of_length_le (by rw [hln.out];exact Nat.le_refl _)] at hS
      go_wp2
      go_ret
      exact ⟨by rw [← hS];first | rfl | exact ret_i64 (by simp),o⟩
theorem qt_few {j:Nat} (h1:1≤j) (h2:j≤4):qtArg 1048576 j 1000 80:=by
  refine ⟨by omega,by omega,h1,by omega,by omega,by omega,by omega,fun n x hn hx=>?_⟩
  have hb:Lib.bitLen 1000=10:=by decide
  have hq:24≤qsz j 1000:=by
    unfold qsz
    rw [hb]
    omega
  rcases Nat.lt_or_ge x 5 with h | h
  · have:2 ^ x≤2 ^ 4:=Nat.pow_le_pow_right (by decide) (by omega)
    omega
  · have h5:2 ^ 5≤2 ^ x:=Nat.pow_le_pow_right (by decide) h
    have h6:2*1*(2 ^ x-1)≤2*j*(2 ^ x-1):=Nat.mul_le_mul_right _ (by omega)
    generalize 2 ^ x=p at *
    omega
def RunU (k cap:Nat) (l:List Itm) (w:World) (e:Ending) (w':World):Prop :=
  ∃ (A:Option Addr) (m c:Nat) (v:Value),e = .returned (.tuple #[.agg #[.int .i64 10, .int .i64 0, .int .i64 0, .int .i64 (k:Nat), .int .i64 (cap:Nat), .int .i64 0, .int .i64 0, .int .i64 0, .int .i64 0, .int .i64 0, .int .i64 0, .slice none 0 0, .int .i64 0, .int .i64 0, .int .i64 0, .int .i64 0, .slice none 0 0, .int .i64 0, .int .i64 0, .int .i64 0, .int .i64 0, .int .i64 0, .slice none 0 0, .int .i64 0, .int .i64 0, .int .i64 0, .int .i64 0, .int .i64 0, .int .i64 0, .slice none 0 0, .int .i64 0, .int .i64 0, .int .i64 0, .int .i64 0, .int .i64 0, .slice none 0 0, .int .i64 0, .int .i64 0, .int .i64 0, .slice none 0 0, .int .i64 0, .slice none 0 0, .bool false, .int .i64 0, .int .i64 0, .int .i64 0, .slice none 0 0, .slice none 0 0, .int .i64 (k:Nat), .int .i64 (cap:Nat), .int .i64 (l.length:Nat), .slice A m c, .int .i64 0, .int .i64 0, .int .i64 0, .int .i64 0, .slice none 0 0],v, .bool true])∧SyI k cap l (nowK l l.length) A m c () w'∧Below w.heap.size w w'
theorem prunU {k cap:Nat} (h:suArg k cap cap) (A0:Option Addr) (n c0:Nat) (l:List Itm) (w:World) (hin:Reads w w.heap.size 2 A0 n (icells l)) (hn:n≤100000) (hN:n≤cap) (hT:∀ i,i<n→nowK l i≤(itmAt l i).t∧(itmAt l i).t≤16777216∧(-4096≤(itmAt l i).v∧(itmAt l i).v≤4096)):Calls Tryz.prog 11 #[.agg #[.int .i64 10, .int .i64 0, .int .i64 0, .int .i64 (k:Nat), .int .i64 (cap:Nat), .int .i64 0, .int .i64 0, .int .i64 0], .slice A0 n c0] w (RunU k cap l w) :=
  (prunT _ _ _ _ _ _ _ _ _ _ _ _ cap (Lib.hid (kSummary h)) A0 n c0 l w hin hn hN hT).mono fun _ _ ⟨A,m,c,_,v,he,hi,_,hb⟩=>⟨A,m,c,v,he,hi,hb⟩
def RunQ (wd:Int) (k cap:Nat) (l:List Itm) (w:World) (e:Ending) (w':World):Prop :=
  ∃ (A:Option Addr) (m c:Nat) (x:List Bq) (v:Value),e = .returned (.tuple #[.agg #[.int .i64 11, .int .i64 0, .int .i64 wd, .int .i64 (k:Nat), .int .i64 (cap:Nat), .int .i64 0, .int .i64 0, .int .i64 0, .int .i64 0, .int .i64 0, .int .i64 0, .slice none 0 0, .int .i64 0, .int .i64 0, .int .i64 0, .int .i64 0, .slice none 0 0, .int .i64 0, .int .i64 0, .int .i64 0, .int .i64 0, .int .i64 0, .slice none 0 0, .int .i64 0, .int .i64 0, .int .i64 0, .int .i64 0, .int .i64 0, .int .i64 0, .slice none 0 0, .int .i64 0, .int .i64 0, .int .i64 0, .int .i64 0, .int .i64 0, .slice none 0 0, .int .i64 0, .int .i64 0, .int .i64 0, .slice none 0 0, .int .i64 0, .slice none 0 0, .bool false, .int .i64 0, .int .i64 0, .int .i64 0, .slice none 0 0, .slice none 0 0, .int .i64 0, .int .i64 0, .int .i64 0, .slice none 0 0, .int .i64 wd, .int .i64 (k:Nat), .int .i64 (cap:Nat), .int .i64 (nowK l l.length), .slice A m c],v, .bool true])∧QtI wd k cap l (nowK l l.length) A m c x w'∧Below w.heap.size w w'
theorem prunQ {wd:Int} {k cap N:Nat} (h:qtArg wd k cap N) (A0:Option Addr) (n c0:Nat) (l:List Itm) (w:World) (hin:Reads w w.heap.size 2 A0 n (icells l)) (hn:n≤100000) (hN:n≤N) (hT:∀ i,i<n→nowK l i≤(itmAt l i).t∧(itmAt l i).t≤16777216∧(-4096≤(itmAt l i).v∧(itmAt l i).v≤4096)):Calls Tryz.prog 11 #[.agg #[.int .i64 11, .int .i64 0, .int .i64 wd, .int .i64 (k:Nat), .int .i64 (cap:Nat), .int .i64 0, .int .i64 0, .int .i64 0], .slice A0 n c0] w (RunQ wd k cap l w) :=
  (prunT _ _ _ _ _ _ _ _ _ _ _ _ N (Lib.hid (kQuantile h)) A0 n c0 l w hin hn hN hT).mono fun _ _ ⟨A,m,c,x,v,he,hi,_,hb⟩=>⟨A,m,c,x,v,he,hi,hb⟩
theorem made_now {st lo hi last:Int} {l:List Itm} (h:Made st lo hi last l) (hl:st*l.length≤16777216):nowK l l.length≤st*l.length:=by
  unfold nowK
  split
  · rename_i h0
    rw [h0]
    simp
  · obtain ⟨h1,h2,h3⟩:=h
    obtain ⟨_,b,_⟩:=h1 (l.length-1) (by omega)
    omega
end Go.Proofs.YtdipoojjlddohaaGreat
end
