/- What the law TopSummaries needs, joined of its texts by a program (slim2.py); part 19. -/
import Derived.Test.YtdipoojjlddohaaGreatZTopSummaries1
import Derived.Test.YtdipoojjlddohaaGreatZTopSummaries3
import Derived.Test.YtdipoojjlddohaaGreatZTopSummaries4
set_option linter.unusedVariables false
set_option linter.unusedSimpArgs false
set_option linter.unusedSectionVars false
set_option linter.unnecessarySimpa false
section
/- Summaries of a stream: which states are valid; plain. -/
namespace Go.Proofs.YtdipoojjlddohaaGreat
structure Tup where
  v:Int
  g:Int
  d:Int
def Tup.zero:Tup:=⟨0,0,0⟩
def tupAt (ts:List Tup) (i:Nat):Tup:=ts.getD i Tup.zero
def smost (n k:Int):Int:=max 1 (n / k)
def tOK (m:Int) (ts:List Tup) (i:Nat):Bool :=
  decide (-4096≤(tupAt ts i).v∧(tupAt ts i).v≤4096∧(i=0∨(tupAt ts (i-1)).v≤(tupAt ts i).v)∧1≤(tupAt ts i).g∧0≤(tupAt ts i).d∧(tupAt ts i).g≤m∧(tupAt ts i).d≤m-(tupAt ts i).g)
def gsum (ts:List Tup):Nat→Int
  | 0=>0
  | k+1=>gsum ts k+(tupAt ts k).g
def sOK (k cap n:Int) (ts:List Tup):Bool :=
  decide (1≤k∧k≤64∧2≤cap∧cap≤65536∧0≤n∧n≤1099511627776∧(ts.length:Int)≤cap ∧
    (n=0→ts.length=0)∧(n≠0→0<ts.length∧(∀ i,i<ts.length→tOK (smost n k) ts i=true)∧gsum ts ts.length=n∧(tupAt ts 0).g=1∧(tupAt ts 0).d=0∧(tupAt ts (ts.length-1)).d=0))
def svalE (k cap n:Int) (ts:List Tup):Int:=if sOK k cap n ts=true then 0 else 2
section
variable {k cap n m:Int} {ts:List Tup} {i:Nat}
theorem svalE_two:svalE k cap n ts=0∨svalE k cap n ts=2:=by
  unfold svalE
  split
  · exact .inl rfl
  · exact .inr rfl
theorem svalE_no (h:¬ (1≤k∧k≤64∧2≤cap∧cap≤65536∧0≤n∧n≤1099511627776∧(ts.length:Int)≤cap ∧
    (n=0→ts.length=0)∧(n≠0→0<ts.length∧(∀ i,i<ts.length→tOK (smost n k) ts i=true)∧gsum ts ts.length=n∧(tupAt ts 0).g=1∧(tupAt ts 0).d=0∧(tupAt ts (ts.length-1)).d=0))):svalE k cap n ts=2:=by
  unfold svalE sOK
  rw [if_neg]
  rw [decide_eq_true_eq]
  exact h
theorem svalE_yes (h:1≤k∧k≤64∧2≤cap∧cap≤65536∧0≤n∧n≤1099511627776∧(ts.length:Int)≤cap ∧
    (n=0→ts.length=0)∧(n≠0→0<ts.length∧(∀ i,i<ts.length→tOK (smost n k) ts i=true)∧gsum ts ts.length=n∧(tupAt ts 0).g=1∧(tupAt ts 0).d=0∧(tupAt ts (ts.length-1)).d=0)):svalE k cap n ts=0:=by
  unfold svalE sOK
  rw [if_pos]
  rw [decide_eq_true_eq]
  exact h
theorem of_svalE (h:svalE k cap n ts=0):1≤k∧k≤64∧2≤cap∧cap≤65536∧0≤n∧n≤1099511627776∧(ts.length:Int)≤cap ∧
    (n=0→ts.length=0)∧(n≠0→0<ts.length∧(∀ i,i<ts.length→tOK (smost n k) ts i=true)∧gsum ts ts.length=n∧(tupAt ts 0).g=1∧(tupAt ts 0).d=0∧(tupAt ts (ts.length-1)).d=0):=by
  unfold svalE at h
  split at h
  · rename_i hs
    unfold sOK at hs
    rw [decide_eq_true_eq] at hs
    exact hs
  · cases h
theorem svalE_bad (hn:n≠0) (hi:i<ts.length) (h:tOK (smost n k) ts i=false):svalE k cap n ts=2:=svalE_no (by
  intro a
  have:=(a.2.2.2.2.2.2.2.2 hn).2.1 i hi
  rw [h] at this
  cases this)
theorem tOK_of (h:tOK m ts i=true) : -4096≤(tupAt ts i).v∧(tupAt ts i).v≤4096∧(i=0∨(tupAt ts (i-1)).v≤(tupAt ts i).v)∧1≤(tupAt ts i).g∧0≤(tupAt ts i).d∧(tupAt ts i).g≤m∧(tupAt ts i).d≤m-(tupAt ts i).g:=by
  unfold tOK at h
  rw [decide_eq_true_eq] at h
  exact h
theorem tOK_mk (h : -4096≤(tupAt ts i).v∧(tupAt ts i).v≤4096∧(i=0∨(tupAt ts (i-1)).v≤(tupAt ts i).v)∧1≤(tupAt ts i).g∧0≤(tupAt ts i).d∧(tupAt ts i).g≤m∧(tupAt ts i).d≤m-(tupAt ts i).g):tOK m ts i=true:=by
  unfold tOK
  rw [decide_eq_true_eq]
  exact h
theorem tOK_no (h:¬ (-4096≤(tupAt ts i).v∧(tupAt ts i).v≤4096∧(i=0∨(tupAt ts (i-1)).v≤(tupAt ts i).v)∧1≤(tupAt ts i).g∧0≤(tupAt ts i).d∧(tupAt ts i).g≤m∧(tupAt ts i).d≤m-(tupAt ts i).g)):tOK m ts i=false:=by
  unfold tOK
  rw [decide_eq_false_iff_not]
  exact h
theorem smost_pos:1≤smost n k:=by unfold smost;omega
theorem smost_le (h0:0≤n) (hk:1≤k) (h:n≠0):smost n k≤n:=by
  unfold smost
  have:n / k≤n:=Int.ediv_le_self _ h0
  omega
theorem gsum_bound (h:∀ j,j<i→tOK m ts j=true):(i:Int)≤gsum ts i∧gsum ts i≤(i:Int)*m:=by
  induction i with
  | zero=>simp [gsum]
  | succ i ih =>
    have h1:=ih (fun j hj=>h j (by omega))
    have h2:=tOK_of (h i (by omega))
    unfold gsum
    have e:((i+1:Nat):Int)*m=(i:Int)*m+m:=by rw [Int.natCast_succ,Int.add_mul,Int.one_mul]
    rw [e]
    omega
theorem gsum_small (h:∀ j,j<i→tOK m ts j=true) (hi:i≤65536) (h0:1≤m) (hm:m≤1099511627776):0≤gsum ts i∧gsum ts i≤72057594037927936:=by
  have hb:=gsum_bound h
  have:(i:Int)*m≤65536*1099511627776:=Int.mul_le_mul (by omega) hm (by omega) (by omega)
  omega
end
end Go.Proofs.YtdipoojjlddohaaGreat
end
section
/- Summaries of a stream: words; small functions. -/
namespace Go.Proofs.YtdipoojjlddohaaGreat
open Go.RowKit
def tcells (ts:List Tup):List Value:=ts.flatMap fun t=>[.int .i64 t.v, .int .i64 t.g, .int .i64 t.d]
theorem tcells_nil:tcells []=[]:=rfl
theorem tcells_cons (t:Tup) (ts:List Tup):tcells (t :: ts) = .int .i64 t.v :: .int .i64 t.g :: .int .i64 t.d :: tcells ts:=rfl
theorem tcells_append (a b:List Tup):tcells (a ++ b)=tcells a ++ tcells b:=by unfold tcells;rw [List.flatMap_append]
theorem tcells_len:∀ ts:List Tup,(tcells ts).length=ts.length*3
  | []=>rfl
  | t :: ts=>by rw [tcells_cons];simp only [List.length_cons,tcells_len ts];omega
theorem tcells_take:∀ (ts:List Tup) (i:Nat),(tcells ts).take (i*3)=tcells (ts.take i)
  | [],i=>by simp [tcells_nil]
  | t :: ts,0=>by simp [tcells_nil]
  | t :: ts,i+1=>by
    rw [tcells_cons,show (i+1)*3=i*3+1+1+1 by omega]
    simp only [List.take_succ_cons]
    rw [tcells_take ts i,tcells_cons]
theorem tcells_drop:∀ (ts:List Tup) (i:Nat),(tcells ts).drop (i*3)=tcells (ts.drop i)
  | [],i=>by simp [tcells_nil]
  | t :: ts,0=>by simp
  | t :: ts,i+1=>by
    rw [tcells_cons,show (i+1)*3=i*3+1+1+1 by omega]
    simp only [List.drop_succ_cons]
    rw [tcells_drop ts i]
theorem tcells_at:∀ (ts:List Tup) (i:Nat),i<ts.length→(tcells ts)[i*3]?=some (.int .i64 (tupAt ts i).v)∧(tcells ts)[i*3+1]?=some (.int .i64 (tupAt ts i).g)∧(tcells ts)[i*3+2]?=some (.int .i64 (tupAt ts i).d)
  | [],i,h=>absurd h (by simp)
  | t :: ts,0,_=>⟨rfl,rfl,rfl⟩
  | t :: ts,i+1,h=>by
    have ih:=tcells_at ts i (by simpa using h)
    rw [tcells_cons,show (i+1)*3=i*3+1+1+1 by omega,show i*3+1+1+1+1=(i*3+1)+1+1+1 by omega,show i*3+1+1+1+2=(i*3+2)+1+1+1 by omega]
    simp only [List.getElem?_cons_succ]
    exact ih
theorem tcells_set (ts:List Tup) (i:Nat) (h:i<ts.length) (g:Int):(tcells ts).set (i*3+1) (.int .i64 g)=tcells (ts.set i { tupAt ts i with g:=g }):=by
  induction ts generalizing i with
  | nil=>exact absurd h (by simp)
  | cons t ts ih =>
    cases i with
    | zero=>rfl
    | succ i =>
      have:=ih i (by simpa using h)
      rw [tcells_cons,show (i+1)*3+1=i*3+1+1+1+1 by omega]
      simp only [List.set_cons_succ]
      rw [show i*3+1=i*3+1 from rfl,this]
      rfl
theorem tcells_one (ts:List Tup):∀ u∈tcells ts,u.oneCell'=true:=by
  intro u hu
  unfold tcells at hu
  rw [List.mem_flatMap] at hu
  obtain ⟨t,_,ht⟩:=hu
  simp at ht
  rcases ht with rfl | rfl | rfl<;>rfl
def T64 (t:Tup):Prop:=(-9223372036854775808≤t.v∧t.v≤9223372036854775807)∧(-9223372036854775808≤t.g∧t.g≤9223372036854775807)∧(-9223372036854775808≤t.d∧t.d≤9223372036854775807)
section
variable {w w':World} {B m:Nat} {A:Option Addr} {ts:List Tup}
theorem Reads.tup_len (h:Reads w B 3 A m (tcells ts)):ts.length=m:=by have:=h.1;rw [tcells_len] at this;omega
theorem add_lit_one (a:Addr) (j:Nat) (h:j≠0):a.add j=⟨a.block,a.off+j,none⟩:=by unfold Addr.add;rw [if_neg h]
def TupCells (w:World) (a:Addr) (t:Tup):Prop:=w.cell? a=some (.int .i64 t.v)∧w.cell? ⟨a.block,a.off+1,none⟩=some (.int .i64 t.g)∧w.cell? ⟨a.block,a.off+2,none⟩=some (.int .i64 t.d)
theorem TupCells.below {B:Nat} {a:Addr} {t:Tup} (h:TupCells w a t) (hb:Below B w w') (hlt:a.block<B):TupCells w' a t :=
  ⟨(hb.cell hlt).trans h.1,(hb.cell (p:=⟨a.block,a.off+1,none⟩) hlt).trans h.2.1,(hb.cell (p:=⟨a.block,a.off+2,none⟩) hlt).trans h.2.2⟩
theorem Reads.tup {i:Nat} (h:Reads w B 3 A m (tcells ts)) (hi:i<m):∃ ad,A=some ad∧ad.block<B∧TupCells w (ad.add (i*3)) (tupAt ts i):=by
  obtain ⟨ad,e,hb,hc⟩:=h.2 (by omega)
  have ht:=tcells_at ts i (by rw [h.tup_len];exact hi)
  refine ⟨ad,e,hb,hc _ _ ht.1,?_,?_⟩
  · rw [← add_lit_one _ 1 (by decide),add_of_add]
    exact hc _ _ ht.2.1
  · rw [← add_lit_one _ 2 (by decide),add_of_add]
    exact hc _ _ ht.2.2
end
structure SIn (k cap n:Int) (A:Option Addr) (m c:Nat) (ts:List Tup) (w:World):Prop where
  reads:Reads w w.heap.size 3 A m (tcells ts)
  kB : -9223372036854775808≤k∧k≤9223372036854775807
  capB : -9223372036854775808≤cap∧cap≤9223372036854775807
  nB : -9223372036854775808≤n∧n≤9223372036854775807
  tB:∀ i,T64 (tupAt ts i)
  mc:m≤c
  cB:c≤maxLen
section
variable {k cap n:Int} {A:Option Addr} {m c:Nat} {ts:List Tup} {w w':World}
theorem SIn.len (h:SIn k cap n A m c ts w):ts.length=m:=h.reads.tup_len
theorem SIn.below (h:SIn k cap n A m c ts w) (hb:Below w.heap.size w w'):SIn k cap n A m c ts w':=⟨(h.reads.below hb).more hb.size,h.kB,h.capB,h.nB,h.tB,h.mc,h.cB⟩
end
theorem ret_i64 {k:IntKind} {a b:Int} (h:a=b):Ending.returned (.int k a) = .returned (.int k b):=by rw [h]
theorem ret_bool {a b:Bool} (h:a=b):Ending.returned (.bool a) = .returned (.bool b):=by rw [h]
theorem pmost (n k:Int) (h0:0≤n) (h1:n≤1099511627776) (hk:1≤k) (w:World):Calls Tryz.prog 223 #[.int .i64 n, .int .i64 k] w fun e w'=>e = .returned (.int .i64 (smost n k))∧w'=w:=by
  have hz:k≠0:=by omega
  have hb:n / k≤n:=Int.ediv_le_self _ h0
  have hb0:0≤n / k:=Int.ediv_nonneg h0 (by omega)
  have ht:n.tdiv k=n / k:=Int.tdiv_eq_ediv_of_nonneg h0
  have hw:IntKind.i64.wrap (n / k)=n / k:=IntWalk.i64_in _ (by omega)
  unfold smost
  generalize n / k=q at hb hb0 ht hw ⊢
  go_enter Tryz.func223,Tryz.ntmps223
  go_wp2
  all_goals
    go_ret
    exact ⟨ret_i64 (by omega),rfl⟩
end Go.Proofs.YtdipoojjlddohaaGreat
end
section
/- Summaries of a stream: joining tuples and inserting a value; plain. -/
namespace Go.Proofs.YtdipoojjlddohaaGreat
def cjoin (m:Int):List Tup→List Tup
  | []=>[]
  | t :: ts =>
    match cjoin m ts with
    | []=>[t]
    | u :: r=>if t.g+u.g+u.d≤m then { u with g:=u.g+t.g } :: r else t :: u :: r
def comp (m:Int):List Tup→List Tup
  | []=>[]
  | t :: ts=>t :: cjoin m ts
theorem cjoin_ne {m:Int} {ts:List Tup} (h:ts≠[]):cjoin m ts≠[]:=by
  cases ts with
  | nil=>exact absurd rfl h
  | cons t ts =>
    unfold cjoin
    split
    · simp
    · split<;>simp
theorem cjoin_len (m:Int):∀ ts:List Tup,(cjoin m ts).length≤ts.length
  | []=>by simp [cjoin]
  | t :: ts=>by
    have ih:=cjoin_len m ts
    unfold cjoin
    split
    · simp
    · rename_i u r e
      rw [e] at ih
      simp only [List.length_cons] at ih ⊢
      split<;>(simp only [List.length_cons];omega)
theorem cjoin_one (m:Int) (t:Tup):cjoin m [t]=[t]:=by simp [cjoin]
theorem comp_short {m:Int} {ts:List Tup} (h:ts.length≤2):comp m ts=ts:=by
  match ts,h with
  | [],_=>rfl
  | [t],_=>rfl
  | [t,u],_=>simp [comp,cjoin]
def cur (m:Int) (ts:List Tup) (i:Nat):List Tup:=ts.take i ++ cjoin m (ts.drop i)
theorem cur_last {m:Int} {ts:List Tup} (h:ts≠[]):cur m ts (ts.length-1)=ts:=by
  unfold cur
  have hl:0<ts.length:=List.length_pos_iff.2 h
  have:ts.drop (ts.length-1)=[ts[ts.length-1]]:=by
    rw [List.drop_eq_getElem_cons (by omega),List.drop_of_length_le (by omega)]
  rw [this,cjoin_one,← this,List.take_append_drop]
theorem cur_one {m:Int} {ts:List Tup} (h:ts≠[]):cur m ts 1=comp m ts:=by
  cases ts with
  | nil=>exact absurd rfl h
  | cons t ts=>simp [cur,comp]
theorem cur_len_ge (m:Int) {ts:List Tup} {i:Nat} (h:i<ts.length):i+1≤(cur m ts i).length:=by
  unfold cur
  have:cjoin m (ts.drop i)≠[]:=cjoin_ne (fun e=>by have:=congrArg List.length e;simp at this;omega)
  have:=List.length_pos_iff.2 this
  rw [List.length_append,List.length_take]
  omega
theorem cur_len (m:Int) (ts:List Tup) (i:Nat):(cur m ts i).length≤ts.length:=by
  unfold cur
  have:=cjoin_len m (ts.drop i)
  rw [List.length_append,List.length_take]
  rw [List.length_drop] at this
  omega
theorem tupAt_eq {ts:List Tup} {i:Nat} (h:i<ts.length):ts[i]=tupAt ts i:=by unfold tupAt;rw [List.getD_eq_getElem?_getD,List.getElem?_eq_getElem h];rfl
theorem cur_at {m:Int} {ts:List Tup} {i j:Nat} (hj:j<i) (hi:i≤ts.length):tupAt (cur m ts i) j=tupAt ts j:=by
  unfold cur tupAt
  rw [List.getD_eq_getElem?_getD,List.getD_eq_getElem?_getD,List.getElem?_append_left (by rw [List.length_take];omega),List.getElem?_take,if_pos hj]
theorem cur_step_yes {m:Int} {ts:List Tup} {i:Nat} (hi:i+1<ts.length)
    (h:(tupAt (cur m ts (i+1)) i).g+(tupAt (cur m ts (i+1)) (i+1)).g+(tupAt (cur m ts (i+1)) (i+1)).d≤m) :
    cur m ts i=((cur m ts (i+1)).set (i+1) { tupAt (cur m ts (i+1)) (i+1) with g:=(tupAt (cur m ts (i+1)) (i+1)).g+(tupAt (cur m ts (i+1)) i).g }).take i ++ ((cur m ts (i+1)).set (i+1) { tupAt (cur m ts (i+1)) (i+1) with g:=(tupAt (cur m ts (i+1)) (i+1)).g+(tupAt (cur m ts (i+1)) i).g }).drop (i+1):=by
  have hne:cjoin m (ts.drop (i+1))≠[]:=cjoin_ne (fun e=>by have:=congrArg List.length e;simp at this;omega)
  obtain ⟨u,r,hu⟩:=List.exists_cons_of_ne_nil hne
  have hlt:(ts.take (i+1)).length=i+1:=by rw [List.length_take];omega
  have e1:cur m ts (i+1)=ts.take (i+1) ++ u :: r:=by unfold cur;rw [hu]
  have e2:tupAt (cur m ts (i+1)) (i+1)=u:=by
    rw [e1]
    unfold tupAt
    rw [List.getD_eq_getElem?_getD,List.getElem?_append_right (by omega),hlt]
    simp
  have e3:tupAt (cur m ts (i+1)) i=tupAt ts i:=cur_at (by omega) (by omega)
  rw [e2,e3] at h ⊢
  rw [e1,List.set_append_right _ _ (by omega),hlt,Nat.sub_self,List.set_cons_zero,List.drop_append_of_le_length (by omega),List.drop_of_length_le (by omega),List.take_append_of_le_length (by omega),List.take_take,Nat.min_eq_left (by omega)]
  unfold cur
  rw [List.drop_eq_getElem_cons (by omega:i<ts.length),tupAt_eq,cjoin,hu]
  simp only [List.nil_append]
  rw [if_pos h]
theorem cur_step_no {m:Int} {ts:List Tup} {i:Nat} (hi:i+1<ts.length)
    (h:¬ (tupAt (cur m ts (i+1)) i).g+(tupAt (cur m ts (i+1)) (i+1)).g+(tupAt (cur m ts (i+1)) (i+1)).d≤m):cur m ts i=cur m ts (i+1):=by
  have hne:cjoin m (ts.drop (i+1))≠[]:=cjoin_ne (fun e=>by have:=congrArg List.length e;simp at this;omega)
  obtain ⟨u,r,hu⟩:=List.exists_cons_of_ne_nil hne
  have hlt:(ts.take (i+1)).length=i+1:=by rw [List.length_take];omega
  have e1:cur m ts (i+1)=ts.take (i+1) ++ u :: r:=by unfold cur;rw [hu]
  have e2:tupAt (cur m ts (i+1)) (i+1)=u:=by
    rw [e1]
    unfold tupAt
    rw [List.getD_eq_getElem?_getD,List.getElem?_append_right (by omega),hlt]
    simp
  have e3:tupAt (cur m ts (i+1)) i=tupAt ts i:=cur_at (by omega) (by omega)
  rw [e2,e3] at h
  rw [e1]
  unfold cur
  rw [List.drop_eq_getElem_cons (by omega:i<ts.length),tupAt_eq,cjoin,hu]
  simp only
  rw [if_neg h,List.take_succ_eq_append_getElem (by omega),tupAt_eq]
  simp
def TB (B:Int) (t:Tup):Prop := -B≤t.v∧t.v≤B∧0≤t.g∧t.g≤B∧0≤t.d∧t.d≤B
theorem cjoin_TB {B m:Int} (hm:m≤B):∀ ts:List Tup,(∀ t∈ts,TB B t)→∀ t∈cjoin m ts,TB B t
  | [],_=>by simp [cjoin]
  | t :: ts,h=>by
    have ih:=cjoin_TB hm ts (fun x hx=>h x (by simp [hx]))
    have ht:=h t (by simp)
    unfold cjoin
    split
    · intro x hx
      obtain rfl:x=t:=by simpa using hx
      exact ht
    · rename_i u r e
      rw [e] at ih
      have hu:=ih u (by simp)
      split
      · rename_i hc
        intro x hx
        rcases List.mem_cons.1 hx with rfl | hx
        · unfold TB at *
          simp only
          omega
        · exact ih x (by simp [hx])
      · intro x hx
        rcases List.mem_cons.1 hx with rfl | hx
        · exact ht
        · exact ih x hx
theorem cur_TB {B m:Int} {ts:List Tup} (hm:m≤B) (h:∀ t∈ts,TB B t) (i:Nat):∀ t∈cur m ts i,TB B t:=by
  intro t ht
  unfold cur at ht
  rcases List.mem_append.1 ht with ht | ht
  · exact h t (List.mem_of_mem_take ht)
  · exact cjoin_TB hm _ (fun x hx=>h x (List.mem_of_mem_drop hx)) t ht
theorem comp_TB {B m:Int} {ts:List Tup} (hm:m≤B) (h:∀ t∈ts,TB B t):∀ t∈comp m ts,TB B t:=by
  cases ts with
  | nil=>simp [comp]
  | cons t ts=>rw [← cur_one (by simp)];exact cur_TB hm h 1
theorem TB_at {B:Int} (hB:0≤B) {ts:List Tup} (h:∀ t∈ts,TB B t) (i:Nat):TB B (tupAt ts i):=by
  unfold tupAt
  rw [List.getD_eq_getElem?_getD]
  by_cases hi:i<ts.length
  · rw [List.getElem?_eq_getElem hi]
    exact h _ (List.getElem_mem hi)
  · rw [List.getElem?_eq_none (by omega)]
    unfold TB Tup.zero
    simp only [Option.getD_none]
    omega
end Go.Proofs.YtdipoojjlddohaaGreat
end
section
/- Summaries of a stream: joining tuples, walked. -/
namespace Go.Proofs.YtdipoojjlddohaaGreat
open Go.RowKit
def CRet (g0:Nat) (ts:List Tup) (w:World) (e:Ending) (w':World):Prop :=
  ∃ g L c,e = .returned (.slice (some ⟨g,0,none⟩) L c)∧Own w' 311 3 g L c (tcells ts)∧g0≤g∧Below g0 w w'
theorem Own.tup {w:World} {g L c i:Nat} {ts:List Tup} (h:Own w 311 3 g L c (tcells ts)) (hi:i<L) :
    w.cell? ⟨g,i*3,none⟩=some (.int .i64 (tupAt ts i).v)∧w.cell? ⟨g,i*3+1,none⟩=some (.int .i64 (tupAt ts i).g)∧w.cell? ⟨g,i*3+2,none⟩=some (.int .i64 (tupAt ts i).d):=by
  have hl:=h.len
  rw [tcells_len] at hl
  have ht:=tcells_at ts i (by omega)
  exact ⟨(h.cell (by omega)).trans ht.1,(h.cell (by omega)).trans ht.2.1,(h.cell (by omega)).trans ht.2.2⟩
theorem Own.tlen {w:World} {g L c:Nat} {ts:List Tup} (h:Own w 311 3 g L c (tcells ts)):ts.length=L:=by
  have hl:=h.len
  rw [tcells_len] at hl
  omega
theorem pcompress_short (m:Int) (g0 L c:Nat) (ts:List Tup) (w:World) (ho:Own w 311 3 g0 L c (tcells ts)) (hs:L≤2):Calls Tryz.prog 222 #[.slice (some ⟨g0,0,none⟩) L c, .int .i64 m] w (CRet g0 (comp m ts) w):=by
  rw [comp_short (by rw [ho.tlen];exact hs)]
  have OW:=Lib.hid ho
  have i1:¬ 1≤(L:Int)-2:=by omega
  clear ho
  go_enter Tryz.func222,Tryz.ntmps222
  go_wp2
  go_loopw [0,5] (fun v i wr=>v = .slice (some ⟨g0,0,none⟩) L c∧i = .int .i64 ((L:Int)-2)∧wr=w) (fun _ i _=>(intOf i).toNat)
  case atStart=>exact ⟨rfl,rfl,rfl⟩
  case round =>
    obtain ⟨rfl,rfl,rfl⟩:=hrel
    go_wp2
    go_ret
    exact ⟨g0,L,c,rfl,OW.out,Nat.le_refl _,Below.refl _ _⟩
set_option maxHeartbeats 4000000 in
theorem pcompress_main (m:Int) (g0 L0 c0:Nat) (ts:List Tup) (w:World) (ho:Own w 311 3 g0 L0 c0 (tcells ts)) (hs:2<L0) (hb:∀ t∈ts,TB 4398046511104 t) (hm0:0≤m) (hm:m≤4398046511104) (hL:L0≤1000000) :
    Calls Tryz.prog 222 #[.slice (some ⟨g0,0,none⟩) L0 c0, .int .i64 m] w (CRet g0 (comp m ts) w):=by
  have hl:=ho.tlen
  have hne:ts≠[]:=fun e=>by rw [e] at hl;simp at hl;omega
  have HNE:=Lib.hid hne
  have HL:=Lib.hid hl
  have HB:=Lib.hid hb
  have st:Own w 311 3 g0 L0 c0 (tcells (cur m ts (L0-2+1))):=by
    rw [show L0-2+1=ts.length-1 by omega,cur_last hne]
    exact ho
  have e0:(L0:Int)-2=((L0-2:Nat):Int):=by omega
  obtain ⟨i0,hi0⟩:∃ i0:Nat,i0=L0-2:=⟨_,rfl⟩
  rw [← hi0] at st e0
  have i0L:i0+1<L0:=by omega
  obtain ⟨i1,hi1,iz0,iz1,iz2⟩:=info_parts (show (Tryz.prog.info? 311).map (fun i=>(i.zero,i.size,i.bytes))=some (some (.agg #[.int .i64 0, .int .i64 0, .int .i64 0]),3,24) from by kernel_rfl)
  clear ho hl hne hb hi0
  go_enter Tryz.func222,Tryz.ntmps222
  go_wp2
  clear e0
  go_loopw [0,5] (fun v i wr=>∃ j g L c:Nat,j+1<L0∧i = .int .i64 (j:Nat)∧v = .slice (some ⟨g,0,none⟩) L c∧Own wr 311 3 g L c (tcells (cur m ts (j+1)))∧g0≤g∧Below g0 w wr) (fun _ i _=>(intOf i).toNat)
  case atStart=>exact ⟨i0,g0,L0,c0,i0L,rfl,rfl,st,Nat.le_refl _,Below.refl _ _⟩
  case round =>
    clear st
    obtain ⟨j,g,L,c,hj,rfl,rfl,own,hg,hbl⟩:=hrel
    by_cases hj1:1≤j
    · have k1:(1:Int)≤(j:Int):=by omega
      have hcl:j+1+1≤L:=by have:=cur_len_ge m (ts:=ts) (i:=j+1) (by rw [HL.out];exact hj);rw [own.tlen] at this;exact this
      have hcu:L≤L0:=by have:=cur_len m ts (j+1);rw [own.tlen,HL.out] at this;exact this
      obtain ⟨p0,p1,p2⟩:=own.tup (i:=j) (by omega)
      obtain ⟨n0,n1,n2⟩:=own.tup (i:=j+1) (by omega)
      have b1:=TB_at (by decide) (cur_TB hm HB.out (j+1)) j
      have b2:=TB_at (by decide) (cur_TB hm HB.out (j+1)) (j+1)
      have k2:(0:Int)≤(j:Int):=by omega
      have k3:(j:Int)<(L:Int):=by omega
      have k4:(j:Int)+1<(L:Int):=by omega
      have k5:(0:Int)≤(j:Int)+1:=by omega
      have wj:IntKind.i64.wrap ((j:Int)+1)=(j:Int)+1:=IntWalk.i64_in _ (by omega)
      have tj:((j:Int)+1).toNat=j+1:=by omega
      go_upto_region 5 with (fail)
      have st1:=cur_step_yes (m:=m) (ts:=ts) (i:=j) (by rw [HL.out];exact hj)
      have st0:=cur_step_no (m:=m) (ts:=ts) (i:=j) (by rw [HL.out];exact hj)
      generalize hcu0:cur m ts (j+1)=cu at own p0 p1 p2 n0 n1 n2 b1 b2 st1 st0 ⊢
      have ST1:=Lib.hid st1
      have ST0:=Lib.hid st0
      generalize hx:(tupAt cu j).g=x at p1 b1
      generalize hy:(tupAt cu (j+1)).g=y at n1 b2 ⊢
      generalize hz:(tupAt cu (j+1)).d=z at n2 b2 ⊢
      generalize (tupAt cu (j+1)).v=v1 at n0 b2 ⊢
      have b1g:0≤x∧x≤4398046511104:=by unfold TB at b1;rw [hx] at b1;omega
      have b2g:(0≤y∧y≤4398046511104)∧0≤z∧z≤4398046511104:=by unfold TB at b2;rw [hy,hz] at b2;omega
      have HX:=Lib.hid hx
      have HY:=Lib.hid hy
      have HZ:=Lib.hid hz
      obtain ⟨x0,x1⟩:=b1g
      obtain ⟨⟨y0,y1⟩,z0,z1⟩:=b2g
      have wa:IntKind.i64.wrap (x+y)=x+y:=IntWalk.i64_in _ (by omega)
      have wb:IntKind.i64.wrap (x+y+z)=x+y+z:=IntWalk.i64_in _ (by omega)
      have wc:IntKind.i64.wrap (y+x)=y+x:=IntWalk.i64_in _ (by omega)
      have zg:=own.lt
      have K1:Row (wr.alloc (.cells #[.int .i64 v1, .int .i64 y, .int .i64 z] 311)) wr.heap.size 311 #[.int .i64 v1, .int .i64 y, .int .i64 z]:=row_new rfl
      have K2:=own.alloc (.cells #[.int .i64 v1, .int .i64 y, .int .i64 z] 311)
      have K3:=hbl.alloc (by have:=hbl.size;omega) (.cells #[.int .i64 v1, .int .i64 y, .int .i64 z] 311)
      have K4:(wr.alloc (.cells #[.int .i64 v1, .int .i64 y, .int .i64 z] 311)).cell? ⟨g,j*3+1,none⟩=some (.int .i64 x):=by rw [World.cell?_alloc_lt _ _ _ zg];exact p1
      have K5:(wr.alloc (.cells #[.int .i64 v1, .int .i64 y, .int .i64 z] 311)).cell? ⟨g,(j+1)*3+1,none⟩=some (.int .i64 y):=by rw [World.cell?_alloc_lt _ _ _ zg];exact n1
      have K6:g<(wr.alloc (.cells #[.int .i64 v1, .int .i64 y, .int .i64 z] 311)).heap.size:=K2.lt
      have ne:wr.heap.size≠g:=by omega
      generalize (wr.alloc (.cells #[.int .i64 v1, .int .i64 y, .int .i64 z] 311))=w3 at K1 K2 K3 K4 K5 K6 ⊢
      generalize wr.heap.size=nb at K1 ne ⊢
      clear p0 p1 p2 n0 n1 n2 b1 b2 hx hy hz st1 st0 hcu0 own hbl
      have LL:Row w3 nb 311 #[.int .i64 v1, .int .i64 y, .int .i64 z]∧w3.cell? ⟨g,j*3+1,none⟩=some (.int .i64 x)∧w3.cell? ⟨g,(j+1)*3+1,none⟩=some (.int .i64 y)∧Own w3 311 3 g L c (tcells cu)∧Below g0 w w3:=⟨K1,K4,K5,K2,K3⟩
      clear K1 K4 K5 K2 K3
      refine wp_region_free0 [0,1,2,3,4,5,6,7,8,9,10,11] [] [0,1,2,3,4,5,6,7,8,9,10,11] 12 (fun w'=>Row w' nb 311 #[.int .i64 v1, .int .i64 y, .int .i64 z]∧w'.cell? ⟨g,j*3+1,none⟩=some (.int .i64 x)∧w'.cell? ⟨g,(j+1)*3+1,none⟩=some (.int .i64 y)∧Own w' 311 3 g L c (tcells cu)∧Below g0 w w') (by kernel_rfl) (by kernel_rfl) (fun _ _ d _ _ h=>by cases d<;>exact h) ?_ ?_
      · exact ⟨LL.1,LL.2.1,LL.2.2.1,LL.2.2.2.1,LL.2.2.2.2.drew⟩
      (refine plan_pure ?_ rfl rfl (fun w'=>?_) ?_;rotate_left;(go_simp;try with_reducible rfl);simp only [put9])
      (refine plan_pure ?_ rfl rfl (fun w'=>?_) ?_;rotate_left;(go_simp;try with_reducible rfl);simp only [put9])
      (refine plan_pure ?_ rfl rfl (fun w'=>?_) ?_;rotate_left;(go_simp;try with_reducible rfl);simp only [put9])
      (refine plan_pure ?_ rfl rfl (fun w'=>?_) ?_;rotate_left;(go_simp;try with_reducible rfl);simp only [put9])
      (refine plan_val ?_ rfl rfl rfl (fun w' hS=>?_) ?_;rotate_left;(obtain ⟨B0,B1,B2,B3,B4,B5⟩:=row_three hS.1;have q1:=hS.2.1;have q2:=hS.2.2.1;go_simp;try with_reducible rfl);simp only [put9])
      (refine plan_pure ?_ rfl rfl (fun w'=>?_) ?_;rotate_left;(go_simp;try with_reducible rfl);simp only [put9])
      (refine plan_val ?_ rfl rfl rfl (fun w' hS=>?_) ?_;rotate_left;(obtain ⟨B0,B1,B2,B3,B4,B5⟩:=row_three hS.1;have q1:=hS.2.1;have q2:=hS.2.2.1;go_simp;try with_reducible rfl);simp only [put9])
      (refine plan_pure ?_ rfl rfl (fun w'=>?_) ?_;rotate_left;(go_simp;try with_reducible rfl);simp only [put9])
      (refine plan_pure ?_ rfl rfl (fun w'=>?_) ?_;rotate_left;(go_simp;try with_reducible rfl);simp only [put9])
      (refine plan_val ?_ rfl rfl rfl (fun w' hS=>?_) ?_;rotate_left;(obtain ⟨B0,B1,B2,B3,B4,B5⟩:=row_three hS.1;have q1:=hS.2.1;have q2:=hS.2.2.1;go_simp;try with_reducible rfl);simp only [put9])
      (refine plan_pure ?_ rfl rfl (fun w'=>?_) ?_;rotate_left;(go_simp;try with_reducible rfl);simp only [put9])
      (refine plan_pure ?_ rfl rfl (fun w'=>?_) ?_;rotate_left;(go_simp;try with_reducible rfl);simp only [put9])
      refine plan_nil ?_
      intro w4 L4
      simp only [List.drop_succ_cons,List.drop_zero]
      try simp only [put9]
      clear LL
      by_cases hc:x+y+z≤m
      · have st:=ST1.out (by rw [HX.out,HY.out,HZ.out];exact hc)
        rw [HX.out,HY.out] at st
        have STT:=Lib.hid st
        clear st
        go_upto_region 6 with (fail)
        refine wp_region_free0 [0,1,2,3,4,5,6,7,8,9,10,11,12,13] [] [0,1,2,3,4,5,6,7,8,9,10,11,12,13] 14 (fun w'=>Row w' nb 311 #[.int .i64 v1, .int .i64 y, .int .i64 z]∧w'.cell? ⟨g,j*3+1,none⟩=some (.int .i64 x)∧w'.cell? ⟨g,(j+1)*3+1,none⟩=some (.int .i64 y)∧Own w' 311 3 g L c (tcells cu)∧Below g0 w w') (by kernel_rfl) (by kernel_rfl) (fun _ _ d _ _ h=>by cases d<;>exact h) ?_ ?_
        · exact ⟨L4.1,L4.2.1,L4.2.2.1,L4.2.2.2.1,L4.2.2.2.2.drew⟩
        (refine plan_pure ?_ rfl rfl (fun w'=>?_) ?_;rotate_left;(go_simp;try with_reducible rfl);simp only [put9])
        (refine plan_pure ?_ rfl rfl (fun w'=>?_) ?_;rotate_left;(go_simp;try with_reducible rfl);simp only [put9])
        (refine plan_pure ?_ rfl rfl (fun w'=>?_) ?_;rotate_left;(go_simp;try with_reducible rfl);simp only [put9])
        (refine plan_pure ?_ rfl rfl (fun w'=>?_) ?_;rotate_left;(go_simp;try with_reducible rfl);simp only [put9])
        (refine plan_pure ?_ rfl rfl (fun w'=>?_) ?_;rotate_left;(go_simp;try with_reducible rfl);simp only [put9])
        (refine plan_val ?_ rfl rfl rfl (fun w' hS=>?_) ?_;rotate_left;(obtain ⟨B0,B1,B2,B3,B4,B5⟩:=row_three hS.1;have q1:=hS.2.1;have q2:=hS.2.2.1;go_simp;try with_reducible rfl);simp only [put9])
        (refine plan_pure ?_ rfl rfl (fun w'=>?_) ?_;rotate_left;(go_simp;try with_reducible rfl);simp only [put9])
        (refine plan_pure ?_ rfl rfl (fun w'=>?_) ?_;rotate_left;(go_simp;try with_reducible rfl);simp only [put9])
        (refine plan_pure ?_ rfl rfl (fun w'=>?_) ?_;rotate_left;(go_simp;try with_reducible rfl);simp only [put9])
        (refine plan_pure ?_ rfl rfl (fun w'=>?_) ?_;rotate_left;(go_simp;try with_reducible rfl);simp only [put9])
        (refine plan_val ?_ rfl rfl rfl (fun w' hS=>?_) ?_;rotate_left;(obtain ⟨B0,B1,B2,B3,B4,B5⟩:=row_three hS.1;have q1:=hS.2.1;have q2:=hS.2.2.1;go_simp;try with_reducible rfl);simp only [put9])
        (refine plan_pure ?_ rfl rfl (fun w'=>?_) ?_;rotate_left;(go_simp;try with_reducible rfl);simp only [put9])
        (refine plan_pure ?_ rfl rfl (fun w'=>?_) ?_;rotate_left;(go_simp;try with_reducible rfl);simp only [put9])
        (refine plan_pure ?_ rfl rfl (fun w'=>?_) ?_;rotate_left;(go_simp;try with_reducible rfl);simp only [put9])
        refine plan_nil ?_
        intro w5 L5
        simp only [List.drop_succ_cons,List.drop_zero]
        try simp only [put9]
        clear L4
        obtain ⟨k1',k2',k3',own5,bl5⟩:=L5
        have fr5:=own5.free ((j+1)*3+1)
        have own6:=own5.set ((j+1)*3+1) (.int .i64 (y+x))
        rw [tcells_set _ _ (by have:=own5.tlen;omega)] at own6
        have bl6:Below g0 w (w5.setCell ⟨g,(j+1)*3+1,none⟩ (.int .i64 (y+x))):=bl5.setCell hg _
        go_upto_region 7 with (fail)
        generalize hcu1:cu.set (j+1) { tupAt cu (j+1) with g:=y+x }=cv at own6
        have HCV:=Lib.hid hcu1
        generalize (w5.setCell ⟨g,(j+1)*3+1,none⟩ (.int .i64 (y+x)))=w6 at own6 bl6 ⊢
        clear own5 bl5 k1' k2' k3' fr5 hcu1
        have nc6:=own6.cap
        have jc:(j:Int)≤(c:Int):=by omega
        have jc1:(j:Int)+1≤(c:Int):=by omega
        have jc2:(j:Int)+1≤(L:Int):=by omega
        have jc3:j≤c:=by omega
        have jc4:j+1≤L:=by omega
        have L6:Own w6 311 3 g L c (tcells cv)∧Below g0 w w6:=⟨own6,bl6⟩
        clear own6 bl6
        refine wp_region_free0 [0,1,3,4,5,2,6] [] [0,1,2,3,4,5,6] 7 (fun w'=>Own w' 311 3 g L c (tcells cv)∧Below g0 w w') (by kernel_rfl) (by kernel_rfl) (fun _ _ d _ _ h=>by cases d<;>exact h) ?_ ?_
        · exact ⟨L6.1,L6.2.drew⟩
        (refine plan_pure ?_ rfl rfl (fun w'=>?_) ?_;rotate_left;(go_simp;try with_reducible rfl);simp only [put9])
        (refine plan_pure ?_ rfl rfl (fun w'=>?_) ?_;rotate_left;(go_simp;try with_reducible rfl);simp only [put9])
        (refine plan_pure ?_ rfl rfl (fun w'=>?_) ?_;rotate_left;(go_simp;try with_reducible rfl);simp only [put9])
        (refine plan_pure ?_ rfl rfl (fun w'=>?_) ?_;rotate_left;(go_simp;try with_reducible rfl);simp only [put9])
        (refine plan_pure ?_ rfl rfl (fun w'=>?_) ?_;rotate_left;(go_simp;try with_reducible rfl);simp only [put9])
        (refine plan_pure ?_ rfl rfl (fun w'=>?_) ?_;rotate_left;(go_simp;try with_reducible rfl);simp only [put9])
        (refine plan_pure ?_ rfl rfl (fun w'=>?_) ?_;rotate_left;(go_simp;try with_reducible rfl);simp only [put9])
        refine plan_nil ?_
        intro w7 L7
        simp only [List.drop_succ_cons,List.drop_zero]
        try simp only [put9]
        obtain ⟨own7,bl7⟩:=L7
        have hd:=own7.cut (k:=j) (by omega)
        rw [tcells_take] at hd
        have hr:=own7.reads.cut (k:=j+1) (cap:=c) (by omega) (by omega)
        rw [tcells_drop] at hr
        have ea:(⟨g,0,none⟩:Addr).add ((j+1)*3)=⟨g,(j+1)*3,none⟩:=by rw [add_lit_one _ _ (by omega)];simp
        have hr':Reads w7 w7.heap.size 3 (if c=j+1 then some (⟨g,0,none⟩:Addr) else some ⟨g,(j+1)*3,none⟩) (L-(j+1)) (tcells (cv.drop (j+1))):=by
          simpa [ea] using hr
        have HR':=Lib.hid hr'
        have HD':=Lib.hid hd
        have z7:=bl7.size
        have hg7:=own7.lt
        clear hr hr' hd ea L6 K6
        go_wp2_with (at_builtin;refine wpList_append_any _ rfl _ _ 51 rfl g0 311 i1 (.agg #[.int .i64 0, .int .i64 0, .int .i64 0]) 3 24 Tryz.underlying51 hi1 iz0 iz1 iz2 rfl (by decide) (.slice (some ⟨g,0,none⟩) j c) j (tcells (cv.take j)) rfl (HD'.out.row hg) w7.heap.size _ (L-(j+1)) (c-(j+1)) (tcells (cv.drop (j+1))) rfl HR'.out (tcells_one _) (by unfold maxLen;omega) (by omega) (by omega) ?_;intro v' w8 hown8 hgr8 hat8)
        rw [← tcells_append] at hown8
        have ecv:cv.take j ++ cv.drop (j+1)=cur m ts j:=by
          have:=STT.out
          rw [← HCV.out]
          exact this.symm
        rw [ecv] at hown8
        obtain ⟨g',c',rfl,hg',hlt'⟩:=hown8.form (by omega)
        have own8:=(own_of_row hown8).1
        have bl8:Below g0 w w8:=below_grown bl7 hgr8 (fun k e=>by simp [Value.ownBlock] at e;omega) (by omega)
        clear hown8 hgr8 hat8 own7 bl7 ecv
        go_wp2
        go_roundw
        case rel=>exact ⟨j-1,g',j+(L-(j+1)),c',by omega,congrArg (Value.int .i64) (by omega),rfl,by rw [show j-1+1=j by omega];exact own8,hg',bl8⟩
        case measure=>simp [intOf];omega
      · have st:=ST0.out (by rw [HX.out,HY.out,HZ.out];exact hc)
        have own5:=L4.2.2.2.1
        have bl5:=L4.2.2.2.2
        rw [← st] at own5
        clear L4 st
        go_wp2
        go_roundw
        case rel=>exact ⟨j-1,g,L,c,by omega,congrArg (Value.int .i64) (by omega),rfl,by rw [show j-1+1=j by omega];exact own5,hg,bl5⟩
        case measure=>simp [intOf];omega
    · have k1:¬ 1≤(j:Int):=by omega
      obtain rfl:j=0:=by omega
      rw [cur_one HNE.out] at own
      go_wp2
      go_ret
      exact ⟨g,L,c,rfl,own,hg,hbl⟩
theorem pcompress (m:Int) (g0 L c:Nat) (ts:List Tup) (w:World) (ho:Own w 311 3 g0 L c (tcells ts)) (hb:∀ t∈ts,TB 4398046511104 t) (hm0:0≤m) (hm:m≤4398046511104) (hL:L≤1000000) :
    Calls Tryz.prog 222 #[.slice (some ⟨g0,0,none⟩) L c, .int .i64 m] w (CRet g0 (comp m ts) w):=by
  by_cases hs:L≤2
  · exact pcompress_short m g0 L c ts w ho hs
  · exact pcompress_main m g0 L c ts w ho (by omega) hb hm0 hm hL
end Go.Proofs.YtdipoojjlddohaaGreat
end
