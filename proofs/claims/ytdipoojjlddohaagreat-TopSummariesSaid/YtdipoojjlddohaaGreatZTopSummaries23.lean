/- What the law TopSummaries needs, joined of its texts by a program (slim2.py); part 23. -/
import Derived.Test.YtdipoojjlddohaaGreatZTopSummaries1
import Derived.Test.YtdipoojjlddohaaGreatZTopSummaries21
import Derived.Test.YtdipoojjlddohaaGreatZTopSummaries22
set_option linter.unusedVariables false
set_option linter.unusedSimpArgs false
set_option linter.unusedSectionVars false
set_option linter.unnecessarySimpa false
section
/- Summaries of a stream: entries, ranks and quantiles; plain. -/
namespace Go.Proofs.YtdipoojjlddohaaGreat
def entAt (ts:List Tup) (i:Nat):Tup:=⟨(tupAt ts i).v,gsum ts (i+1),gsum ts (i+1)+(tupAt ts i).d⟩
def ents (ts:List Tup) (k:Nat):List Tup:=(List.range k).map (entAt ts)
theorem ents_succ (ts:List Tup) (k:Nat):ents ts (k+1)=ents ts k ++ [entAt ts k]:=by
  unfold ents
  rw [List.range_succ,List.map_append]
  rfl
theorem ents_len (ts:List Tup) (k:Nat):(ents ts k).length=k:=by unfold ents;simp
theorem ents_at {ts:List Tup} {k i:Nat} (h:i<k):tupAt (ents ts k) i=entAt ts i:=by
  unfold tupAt ents
  rw [List.getD_eq_getElem?_getD,List.getElem?_map,List.getElem?_range h]
  rfl
def rkIdx (es:List Tup) (v:Int):Nat:=(es.takeWhile (fun e=>decide (e.v≤v))).length
theorem tup_cons_zero (t:Tup) (ts:List Tup):tupAt (t :: ts) 0=t:=rfl
theorem tup_cons_succ (t:Tup) (ts:List Tup) (i:Nat):tupAt (t :: ts) (i+1)=tupAt ts i:=rfl
theorem rkIdx_eq {v:Int}:∀ {es:List Tup} {k:Nat},k≤es.length→(∀ e,e<k→(tupAt es e).v≤v)→(k<es.length→v<(tupAt es k).v)→rkIdx es v=k
  | [],k,hk,_,_=>by
    have:k=0:=by simpa using hk
    subst this
    rfl
  | t :: es,0,_,_,h=>by
    have:=h (by simp)
    rw [tup_cons_zero] at this
    unfold rkIdx
    rw [List.takeWhile_cons,if_neg (by simp;omega)]
    rfl
  | t :: es,k+1,hk,h1,h2=>by
    have h0:=h1 0 (by omega)
    rw [tup_cons_zero] at h0
    have ih:=rkIdx_eq (v:=v) (es:=es) (k:=k) (by simpa using hk) (fun e he=>by have:=h1 (e+1) (by omega);rw [tup_cons_succ] at this;exact this) (fun hl=>by have:=h2 (by simpa using hl);rw [tup_cons_succ] at this;exact this)
    unfold rkIdx at ih ⊢
    rw [List.takeWhile_cons,if_pos (by simpa using h0),List.length_cons,ih]
def loAt (es:List Tup) (k:Nat):Int:=if k=0 then 0 else (tupAt es (k-1)).g
def hiAt (n:Int) (es:List Tup) (k:Nat):Int:=if k<es.length then (tupAt es k).d-1 else n
def rkLo (es:List Tup) (v:Int):Int:=loAt es (rkIdx es v)
def rkHi (n:Int) (es:List Tup) (v:Int):Int:=hiAt n es (rkIdx es v)
def efar (es:List Tup) (r:Int) (i:Nat):Int:=max (r-(tupAt es i).g) ((tupAt es i).d-r)
def ebest (es:List Tup) (r:Int):Nat→Nat
  | 0=>0
  | k+1=>if efar es r k<efar es r (ebest es r k) then k else ebest es r k
theorem ebest_le (es:List Tup) (r:Int):∀ k,ebest es r k≤k
  | 0=>Nat.le_refl _
  | k+1=>by
    unfold ebest
    split
    · omega
    · have:=ebest_le es r k;omega
def tgt (p n q:Nat):Int:=max 1 (((p*n / q+if p*n % q=0 then 0 else 1:Nat):Int))
section
variable {k cap n:Int} {ts:List Tup}
theorem ents_bound (hv:svalE k cap n ts=0) {i:Nat} (hi:i<ts.length):1≤gsum ts (i+1)∧gsum ts (i+1)≤n∧0≤(tupAt ts i).d∧(tupAt ts i).d≤1099511627776∧gsum ts (i+1)=gsum ts i+(tupAt ts i).g∧0≤gsum ts i:=by
  obtain ⟨k0,k1,cp0,cp1,n0,n1,mc,hz,hnz⟩:=of_svalE hv
  have hn:n≠0:=fun e=>by have:=hz e;omega
  obtain ⟨_,hT,hs,_,_,_⟩:=hnz hn
  have hm:=smost_le (k:=k) n0 k0 hn
  have mono:∀ a,a≤ts.length→gsum ts a≤n:=by
    intro a ha
    have:∀ b,a≤b→b≤ts.length→gsum ts a≤gsum ts b:=by
      intro b hab
      induction b with
      | zero => intro _; obtain rfl : a = 0 := by omega
                exact Int.le_refl _
      | succ b ih =>
        intro hb
        by_cases e:a=b+1
        · subst e;exact Int.le_refl _
        · have h1:=ih (by omega) (by omega)
          have h2:=(tOK_of (hT b (by omega))).2.2.2.1
          show gsum ts a≤gsum ts b+(tupAt ts b).g
          omega
    rw [← hs]
    exact this ts.length ha (Nat.le_refl _)
  have t:=tOK_of (hT i hi)
  have b0:=(gsum_bound (m:=smost n k) (i:=i) (fun j hj=>hT j (by omega))).1
  have b1:=mono (i+1) (by omega)
  have e:gsum ts (i+1)=gsum ts i+(tupAt ts i).g:=rfl
  refine ⟨by omega,b1,t.2.2.2.2.1,by omega,e,by omega⟩
structure EOK (n:Int) (es:List Tup):Prop where
  asc:∀ i j,i≤j→j<es.length→(tupAt es i).v≤(tupAt es j).v
  b:∀ i,i<es.length→1≤(tupAt es i).g∧(tupAt es i).g≤n∧(tupAt es i).g≤(tupAt es i).d∧(tupAt es i).d≤n+1099511627776
  next:∀ i,i<es.length→loAt es i<(tupAt es i).d
  last:loAt es es.length=n
theorem ents_ok (hv:svalE k cap n ts=0):EOK n (ents ts ts.length):=by
  have B:=fun i (hi:i<ts.length)=>ents_bound hv hi
  obtain ⟨k0,k1,cp0,cp1,n0,n1,mc,hz,hnz⟩:=of_svalE hv
  refine ⟨fun i j hij hj=>?_,fun i hi=>?_,fun i hi=>?_,?_⟩
  · rw [ents_len] at hj
    rw [ents_at (by omega),ents_at hj]
    show (tupAt ts i).v≤(tupAt ts j).v
    have hn:n≠0:=fun e=>by have:=hz e;omega
    have hT:=(hnz hn).2.1
    induction j with
    | zero => obtain rfl : i = 0 := by omega
              exact Int.le_refl _
    | succ j ih =>
      by_cases e:i=j+1
      · subst e;exact Int.le_refl _
      · have h1:=ih (by omega) (by omega)
        have h2:=(tOK_of (hT (j+1) hj)).2.2.1
        rcases h2 with h2 | h2
        · omega
        · rw [show j+1-1=j from rfl] at h2
          omega
  · rw [ents_len] at hi
    rw [ents_at hi]
    have b:=B i hi
    exact ⟨b.1,b.2.1,(by show gsum ts (i+1)≤gsum ts (i+1)+_;omega),(by show gsum ts (i+1)+_≤_;omega)⟩
  · rw [ents_len] at hi
    have b:=B i hi
    rw [ents_at hi]
    show loAt _ i<gsum ts (i+1)+_
    unfold loAt
    split
    · omega
    · rw [ents_at (by omega)]
      show gsum ts (i-1+1)<_
      rw [show i-1+1=i by omega]
      have hn:n≠0:=fun e=>by have:=hz e;omega
      have h3:=(tOK_of ((hnz hn).2.1 i hi)).2.2.2.1
      omega
  · rw [ents_len]
    unfold loAt
    by_cases hl:ts.length=0
    · rw [if_pos hl]
      by_cases hn:n=0
      · exact hn.symm
      · have:=(hnz hn).1;omega
    · rw [if_neg hl,ents_at (by omega)]
      show gsum ts (ts.length-1+1)=n
      rw [show ts.length-1+1=ts.length by omega]
      have hn:n≠0:=fun e=>by have:=hz e;omega
      exact (hnz hn).2.2.1
end
section
variable {n:Int} {es:List Tup}
theorem EOK.idx (h:EOK n es) (v:Int):rkIdx es v≤es.length∧∀ e,e<es.length→((tupAt es e).v≤v↔e<rkIdx es v):=by
  have hex:∃ k,k≤es.length∧(∀ e,e<k→(tupAt es e).v≤v)∧(k<es.length→v<(tupAt es k).v):=by
    have:∀ m,m≤es.length→(∃ k,k≤m∧(∀ e,e<k→(tupAt es e).v≤v)∧(k<m→v<(tupAt es k).v)):=by
      intro m
      induction m with
      | zero=>intro _;exact ⟨0,Nat.le_refl _,fun e he=>absurd he (by omega),fun he=>absurd he (by omega)⟩
      | succ m ih =>
        intro hm
        obtain ⟨k,h1,h2,h3⟩:=ih (by omega)
        by_cases hk:k<m
        · exact ⟨k,by omega,h2,fun _=>h3 hk⟩
        · obtain rfl:k=m:=by omega
          by_cases hv:(tupAt es k).v≤v
          · refine ⟨k+1,Nat.le_refl _,fun e he=>?_,fun he=>absurd he (by omega)⟩
            by_cases c:e<k
            · exact h2 e c
            · obtain rfl:e=k:=by omega
              exact hv
          · exact ⟨k,by omega,h2,fun _=>by omega⟩
    exact this es.length (Nat.le_refl _)
  obtain ⟨k,h1,h2,h3⟩:=hex
  rw [rkIdx_eq h1 h2 h3]
  refine ⟨h1,fun e he=>⟨fun hv=>?_,fun hk=>h2 e hk⟩⟩
  rcases Nat.lt_or_ge e k with c | c
  · exact c
  · have:=h3 (by omega)
    have:=h.asc k e c he
    omega
theorem EOK.le (h:EOK n es) (h0:0≤n) (v:Int):0≤rkLo es v∧rkLo es v≤rkHi n es v∧rkHi n es v≤n+1099511627776:=by
  obtain ⟨h1,_⟩:=h.idx v
  unfold rkLo rkHi hiAt
  generalize rkIdx es v=k at h1
  have hl:0≤loAt es k∧loAt es k≤n:=by
    unfold loAt
    split
    · exact ⟨Int.le_refl _,h0⟩
    · have:=h.b (k-1) (by omega)
      omega
  split
  · rename_i hk
    have a:=h.next k hk
    have b:=h.b k hk
    omega
  · obtain rfl:k=es.length:=by omega
    have:=h.last
    omega
end
end Go.Proofs.YtdipoojjlddohaaGreat
end
section
/- Summaries of a stream: a value more, and joining, keep a state valid; plain. -/
namespace Go.Proofs.YtdipoojjlddohaaGreat
def TK (m:Int) (t:Tup):Prop := -4096≤t.v∧t.v≤4096∧1≤t.g∧0≤t.d∧t.g+t.d≤m
theorem TK.mono {m m':Int} {t:Tup} (h:TK m t) (hm:m≤m'):TK m' t:=by unfold TK at *;omega
def vals (ts:List Tup):List Int:=ts.map (·.v)
def gs (ts:List Tup):Int:=(ts.map (·.g)).sum
def lastD:List Tup→Int
  | []=>0
  | [t]=>t.d
  | _ :: t :: ts=>lastD (t :: ts)
def headOK:List Tup→Prop
  | []=>False
  | t :: _=>t.g=1∧t.d=0
structure TVL (m n:Int) (ts:List Tup):Prop where
  each:∀ t∈ts,TK m t
  asc:(vals ts).Pairwise (·≤·)
  sum:gs ts=n
  head:headOK ts
  last:lastD ts=0
theorem gsum_take (ts:List Tup):∀ k,k≤ts.length→gsum ts k=gs (ts.take k)
  | 0,_=>rfl
  | k+1,h=>by
    unfold gsum
    rw [gsum_take ts k (by omega),List.take_succ_eq_append_getElem (by omega),tupAt_eq (by omega)]
    unfold gs
    simp
theorem gsum_all (ts:List Tup):gsum ts ts.length=gs ts:=by rw [gsum_take ts _ (Nat.le_refl _),List.take_length]
theorem lastD_at:∀ ts:List Tup,ts≠[]→lastD ts=(tupAt ts (ts.length-1)).d
  | [],h=>absurd rfl h
  | [t],_=>rfl
  | s :: t :: ts,_=>by
    unfold lastD
    rw [lastD_at (t :: ts) (by simp)]
    rfl
theorem headOK_at {ts:List Tup}:headOK ts↔ts≠[]∧(tupAt ts 0).g=1∧(tupAt ts 0).d=0:=by
  cases ts with
  | nil=>simp [headOK]
  | cons t ts=>simp [headOK,tupAt]
theorem asc_pairwise {ts:List Tup}:Asc ts↔(vals ts).Pairwise (·≤·):=by
  unfold vals Asc
  rw [List.pairwise_iff_getElem]
  constructor
  · intro h i j hi hj hij
    simp only [List.getElem_map]
    simp only [List.length_map] at hi hj
    have:=h i j (by omega) hj
    rw [← tupAt_eq hi,← tupAt_eq hj] at this
    exact this
  · intro h i j hij hj
    rcases Nat.lt_or_eq_of_le hij with c | c
    · have:=h i j (by simp;omega) (by simp;omega) c
      simp only [List.getElem_map] at this
      rw [tupAt_eq (by omega),tupAt_eq hj] at this
      exact this
    · rw [c];exact Int.le_refl _
theorem tok_iff {m:Int} {ts:List Tup}:(∀ i,i<ts.length→tOK m ts i=true)↔(∀ t∈ts,TK m t)∧(vals ts).Pairwise (·≤·):=by
  constructor
  · intro h
    refine ⟨fun t ht=>?_,asc_pairwise.1 (asc_of h)⟩
    obtain ⟨i,hi,rfl⟩:=List.getElem_of_mem ht
    have a:=tOK_of (h i hi)
    rw [tupAt_eq hi]
    unfold TK
    omega
  · rintro ⟨h1,h2⟩ i hi
    have a:=h1 _ (List.getElem_mem hi)
    rw [tupAt_eq hi] at a
    unfold TK at a
    refine tOK_mk ⟨a.1,a.2.1,?_,a.2.2.1,a.2.2.2.1,by omega,by omega⟩
    rcases Nat.eq_zero_or_pos i with c | c
    · exact .inl c
    · exact .inr (asc_pairwise.2 h2 (i-1) i (by omega) hi)
theorem TVL.ne {m n:Int} {ts:List Tup} (h:TVL m n ts):ts≠[]:=(headOK_at.1 h.head).1
theorem tv_of {k cap n:Int} {ts:List Tup} (h:svalE k cap n ts=0) (hn:n≠0):TVL (smost n k) n ts:=by
  have V:=of_svalE h
  obtain ⟨h0,h1,h2,h3,h4,h5⟩:=V.2.2.2.2.2.2.2.2 hn
  have hne:ts≠[]:=List.length_pos_iff.1 h0
  have q:=tok_iff.1 h1
  exact ⟨q.1,q.2,by rw [← gsum_all];exact h2,headOK_at.2 ⟨hne,h3,h4⟩,by rw [lastD_at _ hne];exact h5⟩
theorem sval_of {k cap n:Int} {ts:List Tup} (k0:1≤k) (k1:k≤64) (c0:2≤cap) (c1:cap≤65536) (n0:0<n) (n1:n≤1099511627776) (hl:(ts.length:Int)≤cap) (h:TVL (smost n k) n ts):svalE k cap n ts=0:=by
  have hne:=h.ne
  have hp:=headOK_at.1 h.head
  refine svalE_yes ⟨k0,k1,c0,c1,by omega,n1,hl,fun e=>by omega,fun _=>⟨List.length_pos_iff.2 hne,tok_iff.2 ⟨h.each,h.asc⟩,by rw [gsum_all];exact h.sum,hp.2.1,hp.2.2,?_⟩⟩
  rw [← lastD_at _ hne]
  exact h.last
/-! Joining. -/
theorem lastD_cons {t:Tup} {ts:List Tup} (h:ts≠[]):lastD (t :: ts)=lastD ts:=by
  cases ts with
  | nil=>exact absurd rfl h
  | cons s ts=>rfl
/-! A value more. -/
theorem smost_mono {n n' k:Int} (h:n≤n') (hk:1≤k):smost n k≤smost n' k:=by
  unfold smost
  have:n / k≤n' / k:=Int.ediv_le_ediv (by omega) h
  omega
theorem lastD_append {a b:List Tup} (h:b≠[]):lastD (a ++ b)=lastD b:=by
  induction a with
  | nil=>rfl
  | cons t a ih=>rw [List.cons_append,lastD_cons (by simp [h]),ih]
theorem gs_append (a b:List Tup):gs (a ++ b)=gs a+gs b:=by unfold gs;simp
theorem gs_cons (t:Tup) (b:List Tup):gs (t :: b)=t.g+gs b:=by unfold gs;simp
theorem sins_tv {k cap n v:Int} {ts:List Tup} (h:svalE k cap n ts=0) (h0 : -4096≤v) (h1:v≤4096):TVL (smost (n+1) k) (n+1) (sins v ts):=by
  have V:=of_svalE h
  have hk:=V.1
  have n0:=V.2.2.2.2.1
  have A:=sval_asc h
  have hm:∀ t∈ts,TK (smost n k) t:=by
    intro t ht
    by_cases hn:n=0
    · have:=V.2.2.2.2.2.2.2.1 hn
      rw [List.length_eq_zero_iff] at this
      subst this
      cases ht
    · exact (tv_of h hn).each t ht
  have hs:gs ts=n:=by
    by_cases hn:n=0
    · have:=V.2.2.2.2.2.2.2.1 hn
      rw [List.length_eq_zero_iff] at this
      subst this
      rw [hn]
      rfl
    · exact (tv_of h hn).sum
  have mo:=smost_mono (show n≤n+1 by omega) hk
  have sp:=smost_pos (n:=n+1) (k:=k)
  have hp:=sat_le v ts
  have hg:0≤sgap v ts∧1+sgap v ts≤smost (n+1) k:=by
    unfold sgap
    split
    · rename_i c
      have a:=hm _ (List.getElem_mem c.2)
      rw [tupAt_eq c.2] at a
      unfold TK at a
      omega
    · omega
  refine ⟨?_,?_,?_,?_,?_⟩
  · intro t ht
    unfold sins at ht
    rcases List.mem_append.1 ht with ht | ht
    · exact (hm t (List.mem_of_mem_take ht)).mono mo
    · rcases List.mem_cons.1 ht with rfl | ht
      · unfold TK
        simp only
        omega
      · exact (hm t (List.mem_of_mem_drop ht)).mono mo
  · have P:=asc_pairwise.1 A
    unfold sins vals
    rw [List.map_append,List.map_cons,List.pairwise_append,List.pairwise_cons]
    have hd:∀ b∈(ts.drop (sat v ts)).map (·.v),v≤b:=by
      intro b hb
      obtain ⟨t,ht,rfl⟩:=List.mem_map.1 hb
      obtain ⟨i,hi,rfl⟩:=List.getElem_of_mem ht
      rw [List.length_drop] at hi
      rw [List.getElem_drop,tupAt_eq (by omega)]
      have a:=sat_high (v:=v) (ts:=ts) (by omega)
      have b:=A (sat v ts) (sat v ts+i) (by omega) (by omega)
      omega
    have ht:∀ a∈(ts.take (sat v ts)).map (·.v),a≤v:=by
      intro b hb
      obtain ⟨t,ht,rfl⟩:=List.mem_map.1 hb
      obtain ⟨i,hi,rfl⟩:=List.getElem_of_mem ht
      rw [List.length_take] at hi
      rw [List.getElem_take,tupAt_eq (by omega)]
      exact sat_low (by omega)
    refine ⟨?_,⟨hd,?_⟩,?_⟩
    · have:=P.sublist ((List.take_sublist (sat v ts) ts).map (·.v))
      exact this
    · have:=P.sublist ((List.drop_sublist (sat v ts) ts).map (·.v))
      exact this
    · intro a ha b hb
      have a1:=ht a ha
      rcases List.mem_cons.1 hb with rfl | hb
      · exact a1
      · have:=hd b hb
        omega
  · unfold sins
    rw [gs_append,gs_cons]
    have:=gs_append (ts.take (sat v ts)) (ts.drop (sat v ts))
    rw [List.take_append_drop,hs] at this
    simp only
    omega
  · unfold sins
    rcases Nat.eq_zero_or_pos (sat v ts) with c | c
    · rw [c]
      unfold sgap
      rw [c]
      simp [headOK]
    · have hn:n≠0:=fun e=>by have:=V.2.2.2.2.2.2.2.1 e;omega
      obtain ⟨t,ts',rfl⟩:=List.exists_cons_of_ne_nil (tv_of h hn).ne
      obtain ⟨p,hp'⟩:∃ p,sat v (t :: ts')=p+1:=⟨sat v (t :: ts')-1,by omega⟩
      rw [hp']
      exact (tv_of h hn).head
  · unfold sins
    rw [lastD_append (by simp)]
    rcases Nat.lt_or_ge (sat v ts) ts.length with c | c
    · have hn:n≠0:=fun e=>by have:=V.2.2.2.2.2.2.2.1 e;omega
      have hne:ts.drop (sat v ts)≠[]:=fun e=>by have:=congrArg List.length e;simp at this;omega
      rw [lastD_cons hne]
      have:=lastD_append (a:=ts.take (sat v ts)) hne
      rw [List.take_append_drop] at this
      rw [← this]
      exact (tv_of h hn).last
    · rw [List.drop_of_length_le c]
      show sgap v ts=0
      unfold sgap
      rw [if_neg (by omega)]
end Go.Proofs.YtdipoojjlddohaaGreat
end
section
/- Summaries of a stream: bounds of ranks that hold of the values; plain. -/
namespace Go.Proofs.YtdipoojjlddohaaGreat
def rkI (xs:List Int) (v:Int):Nat:=xs.countP fun x=>decide (x≤v)
def blI (xs:List Int) (v:Int):Nat:=xs.countP fun x=>decide (x<v)
theorem rkI_le (xs:List Int) (v:Int):rkI xs v≤xs.length:=List.countP_le_length
theorem blI_le (xs:List Int) (v:Int):blI xs v≤xs.length:=List.countP_le_length
theorem rkI_mono {xs:List Int} {u v:Int} (h:u≤v):rkI xs u≤rkI xs v:=List.countP_mono_left fun x _ hx=>by simp at hx ⊢;omega
theorem blI_mono {xs:List Int} {u v:Int} (h:u≤v):blI xs u≤blI xs v:=List.countP_mono_left fun x _ hx=>by simp at hx ⊢;omega
theorem blI_rkI {xs:List Int} {u v:Int} (h:u<v):rkI xs u≤blI xs v:=List.countP_mono_left fun x _ hx=>by simp at hx ⊢;omega
theorem rkI_append (a b:List Int) (v:Int):rkI (a ++ b) v=rkI a v+rkI b v:=List.countP_append
theorem blI_append (a b:List Int) (v:Int):blI (a ++ b) v=blI a v+blI b v:=List.countP_append
theorem rkI_one (x v:Int):rkI [x] v=if x≤v then 1 else 0:=by unfold rkI;by_cases h:x≤v<;>simp [h]
theorem blI_one (x v:Int):blI [x] v=if x<v then 1 else 0:=by
  unfold blI
  by_cases h:x<v
  · simp [h]
  · rw [if_neg h,List.countP_cons_of_neg (by simpa using h)];rfl
def Bnd (xs:List Int) (s:Int):List Tup→Prop
  | []=>True
  | t :: ts=>s+t.g≤rkI xs t.v∧(blI xs t.v:Int)+1≤s+t.g+t.d∧t.v∈xs∧Bnd xs (s+t.g) ts
theorem gs_nil:gs []=0:=rfl
theorem bnd_append (xs:List Int):∀ (s:Int) (a b:List Tup),Bnd xs s (a ++ b)↔Bnd xs s a∧Bnd xs (s+gs a) b
  | s,[],b=>by rw [List.nil_append,gs_nil,Int.add_zero];exact ⟨fun h=>⟨trivial,h⟩,fun h=>h.2⟩
  | s,t :: a,b=>by
    have ih:=bnd_append xs (s+t.g) a b
    rw [gs_cons,← Int.add_assoc]
    constructor
    · rintro ⟨h1,h2,h3,h4⟩
      exact ⟨⟨h1,h2,h3,(ih.1 h4).1⟩,(ih.1 h4).2⟩
    · rintro ⟨⟨h1,h2,h3,h4⟩,h5⟩
      exact ⟨h1,h2,h3,ih.2 ⟨h4,h5⟩⟩
theorem bnd_low {xs:List Int} {v:Int}:∀ {s:Int} {a:List Tup},(∀ t∈a,t.v≤v)→Bnd xs s a→Bnd (xs ++ [v]) s a
  | _,[],_,_=>trivial
  | s,t :: a,h,⟨h1,h2,h3,h4⟩=>by
    have hv:=h t (by simp)
    refine ⟨?_,?_,List.mem_append_left _ h3,bnd_low (fun u hu=>h u (by simp [hu])) h4⟩
    · rw [rkI_append];omega
    · rw [blI_append,blI_one,if_neg (by omega)];omega
theorem bnd_high {xs:List Int} {v:Int}:∀ {s:Int} {a:List Tup},(∀ t∈a,v<t.v)→Bnd xs s a→Bnd (xs ++ [v]) (s+1) a
  | _,[],_,_=>trivial
  | s,t :: a,h,⟨h1,h2,h3,h4⟩=>by
    have hv:=h t (by simp)
    refine ⟨?_,?_,List.mem_append_left _ h3,?_⟩
    · rw [rkI_append,rkI_one,if_pos (by omega)];omega
    · rw [blI_append,blI_one,if_pos hv];omega
    · have:=bnd_high (fun u hu=>h u (by simp [hu])) h4
      rw [show s+1+t.g=s+t.g+1 by omega]
      exact this
theorem bnd_sum {xs:List Int} {v:Int}:∀ {s:Int} {a:List Tup},(∀ t∈a,t.v≤v)→Bnd xs s a→s≤rkI xs v→s+gs a≤rkI xs v
  | _,[],_,_,hs=>by rw [gs_nil,Int.add_zero];exact hs
  | s,t :: a,h,⟨h1,_,_,h4⟩,_=>by
    rw [gs_cons,← Int.add_assoc]
    have:=rkI_mono (xs:=xs) (h t (by simp))
    exact bnd_sum (fun u hu=>h u (by simp [hu])) h4 (by omega)
theorem take_sat {v:Int} {ts:List Tup}:∀ t∈ts.take (sat v ts),t.v≤v:=by
  intro t ht
  obtain ⟨i,hi,rfl⟩:=List.getElem_of_mem ht
  rw [List.length_take] at hi
  rw [List.getElem_take,tupAt_eq (by omega)]
  exact sat_low (by omega)
theorem drop_sat {v:Int} {ts:List Tup} (ha:Asc ts):∀ t∈ts.drop (sat v ts),v<t.v:=by
  intro t ht
  obtain ⟨i,hi,rfl⟩:=List.getElem_of_mem ht
  rw [List.length_drop] at hi
  rw [List.getElem_drop,tupAt_eq (by omega)]
  have h1:=sat_high (v:=v) (ts:=ts) (by omega)
  have:=ha (sat v ts) (sat v ts+i) (by omega) (by omega)
  omega
theorem bnd_sins {k cap n v:Int} {ts:List Tup} {xs:List Int} (hv:svalE k cap n ts=0) (hn:n=xs.length) (h:Bnd xs 0 ts):Bnd (xs ++ [v]) 0 (sins v ts):=by
  have ha:=sval_asc hv
  have hlow:=take_sat (v:=v) (ts:=ts)
  have hhigh:=drop_sat (v:=v) ha
  have hsplit:=h
  rw [← List.take_append_drop (sat v ts) ts] at hsplit
  obtain ⟨hA,hB⟩:=(bnd_append xs 0 _ _).1 hsplit
  rw [Int.zero_add] at hB
  have hs:=bnd_sum hlow hA (by omega)
  rw [Int.zero_add] at hs
  unfold sins
  rw [bnd_append]
  refine ⟨bnd_low hlow hA,?_,?_,by simp,?_⟩
  · show 0+gs (ts.take (sat v ts))+1≤((rkI (xs ++ [v]) v:Nat):Int)
    rw [rkI_append,rkI_one,if_pos (Int.le_refl _)]
    omega
  · show ((blI (xs ++ [v]) v:Nat):Int)+1≤0+gs (ts.take (sat v ts))+1+sgap v ts
    rw [blI_append,blI_one,if_neg (by omega)]
    have key:(blI xs v:Int)≤gs (ts.take (sat v ts))+sgap v ts:=by
      by_cases c:sat v ts<ts.length
      · rw [drop_tup c] at hB hhigh
        obtain ⟨_,b2,_,_⟩:=hB
        have hlt:=hhigh _ (List.mem_cons_self ..)
        have:=blI_mono (xs:=xs) (Int.le_of_lt hlt)
        unfold sgap
        by_cases c0:0<sat v ts
        · rw [if_pos ⟨c0,c⟩];omega
        · rw [if_neg (by omega)]
          have e0:sat v ts=0:=by omega
          rw [e0] at b2 this ⊢
          have hne:n≠0:=fun e=>by
            have:=(of_svalE hv).2.2.2.2.2.2.2.1 e
            omega
          have hd:=((of_svalE hv).2.2.2.2.2.2.2.2 hne).2.2.2
          rw [hd.1,hd.2.1] at b2
          omega
      · rw [List.take_of_length_le (by omega)]
        have hg:gs ts=n:=by
          by_cases hne:n=0
          · have:=(of_svalE hv).2.2.2.2.2.2.2.1 hne
            rw [List.length_eq_zero_iff.1 this]
            exact hne.symm
          · exact (tv_of hv hne).sum
        have h1:=blI_le xs v
        unfold sgap
        rw [if_neg (by omega)]
        omega
    push_cast
    omega
  · have:=bnd_high hhigh hB
    rw [Int.zero_add]
    exact this
theorem bnd_at {xs:List Int}:∀ {s:Int} {ts:List Tup},Bnd xs s ts→∀ i,i<ts.length→s+gsum ts (i+1)≤rkI xs (tupAt ts i).v∧(blI xs (tupAt ts i).v:Int)+1≤s+gsum ts (i+1)+(tupAt ts i).d∧(tupAt ts i).v∈xs:=by
  intro s ts h i hi
  have e:ts=ts.take i ++ ts.drop i:=(List.take_append_drop i ts).symm
  rw [e] at h
  obtain ⟨_,hB⟩:=(bnd_append xs s _ _).1 h
  rw [drop_tup hi] at hB
  obtain ⟨b1,b2,b3,_⟩:=hB
  have hg:gsum ts (i+1)=gs (ts.take i)+(tupAt ts i).g:=by rw [← gsum_take ts i (by omega)];rfl
  rw [hg]
  exact ⟨by omega,by omega,b3⟩
end Go.Proofs.YtdipoojjlddohaaGreat
end
section
/- Summaries of a stream: what a sound summary answers; plain. -/
namespace Go.Proofs.YtdipoojjlddohaaGreat
structure Sum (k:Int) (xs:List Int) (cap:Int) (ts:List Tup):Prop where
  val:svalE k cap (xs.length:Nat) ts=0
  bnd:Bnd xs 0 ts
  len:ts.length≤xs.length
theorem sum_zero {k cap:Int} (k0:1≤k) (k1:k≤64) (c0:2≤cap) (c1:cap≤65536):Sum k [] cap [] :=
  ⟨svalE_yes ⟨k0,k1,c0,c1,by simp,by simp,by simp;omega,fun _=>rfl,fun h=>absurd rfl h⟩,trivial,Nat.le_refl _⟩
theorem sum_ins {k cap v:Int} {xs:List Int} {ts:List Tup} (h:Sum k xs cap ts) (h0 : -4096≤v) (h1:v≤4096) (hc:(xs.length:Int)<cap) :
    sinsert k cap (xs.length:Nat) ts v=⟨k,cap,(xs.length:Int)+1,sins v ts,0⟩∧Sum k (xs ++ [v]) cap (sins v ts):=by
  have V:=of_svalE h.val
  have hl:=h.len
  have hsl:=sins_len v ts
  have hcl:((sins v ts).length:Int)≤cap:=by omega
  have e:(((xs ++ [v]).length:Nat):Int)=(xs.length:Int)+1:=by simp
  refine ⟨by rw [sinsert_ok h.val h0 h1 (by omega)];exact sfit_short hcl,?_,bnd_sins h.val rfl h.bnd,by rw [hsl];simp;exact hl⟩
  rw [e]
  exact sval_of V.1 V.2.1 V.2.2.1 V.2.2.2.1 (by omega) (by omega) hcl (sins_tv h.val h0 h1)
section
variable {k cap:Int} {xs:List Int} {ts:List Tup}
theorem Sum.ent (h:Sum k xs cap ts) {i:Nat} (hi:i<ts.length):((blI xs (tupAt (ents ts ts.length) i).v:Nat):Int)+1≤(tupAt (ents ts ts.length) i).d∧(tupAt (ents ts ts.length) i).g≤(rkI xs (tupAt (ents ts ts.length) i).v:Nat)∧(tupAt (ents ts ts.length) i).v∈xs:=by
  have b:=bnd_at h.bnd i hi
  rw [Int.zero_add] at b
  rw [ents_at hi]
  exact ⟨b.2.1,b.1,b.2.2⟩
theorem Sum.rank (h:Sum k xs cap ts) (v:Int):rkLo (ents ts ts.length) v≤(rkI xs v:Nat)∧((rkI xs v:Nat):Int)≤rkHi (xs.length:Nat) (ents ts ts.length) v∧rkHi (xs.length:Nat) (ents ts ts.length) v-rkLo (ents ts ts.length) v≤smost (xs.length:Nat) k-1:=by
  have V:=of_svalE h.val
  have HK:=ents_ok h.val
  obtain ⟨hk,hi⟩:=HK.idx v
  have hle:=ents_len ts ts.length
  have hm:=smost_pos (n:=(xs.length:Int)) (k:=k)
  have hrl:=rkI_le xs v
  unfold rkLo rkHi
  generalize rkIdx (ents ts ts.length) v=K at hk hi
  have hlo:loAt (ents ts ts.length) K≤(rkI xs v:Nat):=by
    unfold loAt
    split
    · omega
    · have e:=h.ent (i:=K-1) (by omega)
      have hv:=(hi (K-1) (by omega)).2 (by omega)
      have:=rkI_mono (xs:=xs) hv
      omega
  refine ⟨hlo,?_,?_⟩
  · unfold hiAt
    split
    · rename_i hK
      have e:=h.ent (i:=K) (by omega)
      have hv:v<(tupAt (ents ts ts.length) K).v:=by
        rcases Int.lt_or_le v (tupAt (ents ts ts.length) K).v with c | c
        · exact c
        · have:=(hi K hK).1 c;omega
      have:=blI_rkI (xs:=xs) hv
      omega
    · omega
  · unfold hiAt
    split
    · rename_i hK
      rw [hle] at hK
      have hne:(xs.length:Int)≠0:=fun e=>by have:=V.2.2.2.2.2.2.2.1 e;omega
      have hT:=tOK_of ((V.2.2.2.2.2.2.2.2 hne).2.1 K hK)
      rw [ents_at hK]
      show gsum ts (K+1)+(tupAt ts K).d-1-loAt (ents ts ts.length) K≤_
      have e:gsum ts (K+1)=gsum ts K+(tupAt ts K).g:=rfl
      have hl:loAt (ents ts ts.length) K=gsum ts K:=by
        unfold loAt
        split
        · rename_i h0;rw [h0];rfl
        · rw [ents_at (by omega)]
          show gsum ts (K-1+1)=_
          rw [show K-1+1=K by omega]
      omega
    · rename_i hK
      obtain rfl:K=(ents ts ts.length).length:=by omega
      have:=HK.last
      omega
end
end Go.Proofs.YtdipoojjlddohaaGreat
end
