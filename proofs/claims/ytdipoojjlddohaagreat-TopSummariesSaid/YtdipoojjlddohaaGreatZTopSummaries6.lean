/- What the law TopSummaries needs, joined of its texts by a program (slim2.py); part 6. -/
import Derived.Test.YtdipoojjlddohaaGreatZTopSummaries1
import Derived.Test.YtdipoojjlddohaaGreatZTopSummaries3
import Derived.Test.YtdipoojjlddohaaGreatZTopSummaries4
set_option linter.unusedVariables false
set_option linter.unusedSimpArgs false
set_option linter.unusedSectionVars false
set_option linter.unnecessarySimpa false
section
/- Lists of buckets whose sizes are powers of two: which are valid, what an insertion, an expiry and a question keep; plain. -/
namespace Go.Proofs.YtdipoojjlddohaaGreat
structure Bk where
  t:Int
  lv:Nat
def bkAt (l:List Bk) (i:Nat):Bk:=l.getD i ⟨0,0⟩
theorem bk_eq {l:List Bk} {i:Nat} (h:i<l.length):l[i]=bkAt l i:=by unfold bkAt;rw [List.getD_eq_getElem?_getD,List.getElem?_eq_getElem h];rfl
theorem bk_mem {l:List Bk} {i:Nat} (h:i<l.length):bkAt l i∈l:=by rw [← bk_eq h];exact List.getElem_mem _
theorem bk_left {a b:List Bk} {i:Nat} (h:i<a.length):bkAt (a ++ b) i=bkAt a i:=by
  unfold bkAt;rw [List.getD_eq_getElem?_getD,List.getD_eq_getElem?_getD,List.getElem?_append_left h]
theorem drop_bk {l:List Bk} {k:Nat} (h:k<l.length):l.drop k=bkAt l k :: l.drop (k+1):=by rw [List.drop_eq_getElem_cons h,bk_eq h]
theorem take_bk {l:List Bk} {k:Nat} (h:k<l.length):l.take (k+1)=l.take k ++ [bkAt l k]:=by rw [List.take_succ_eq_append_getElem h,bk_eq h]
def cnt (l:List Bk) (x:Nat):Nat:=(l.filter fun b=>decide (b.lv=x)).length
theorem cnt_nil (x:Nat):cnt [] x=0:=rfl
theorem cnt_cons (b:Bk) (l:List Bk) (x:Nat):cnt (b :: l) x=(if b.lv=x then 1 else 0)+cnt l x:=by
  unfold cnt
  by_cases h:b.lv=x
  · simp [h];omega
  · simp [h]
theorem cnt_append (a b:List Bk) (x:Nat):cnt (a ++ b) x=cnt a x+cnt b x:=by unfold cnt;rw [List.filter_append,List.length_append]
theorem cnt_le (l:List Bk) (x:Nat):cnt l x≤l.length:=List.length_filter_le _ _
theorem cnt_zero {l:List Bk} {x:Nat} (h:∀ b∈l,b.lv≠x):cnt l x=0:=by
  unfold cnt
  rw [List.length_eq_zero_iff,List.filter_eq_nil_iff]
  intro b hb
  simpa using h b hb
theorem cnt_all {l:List Bk} {x:Nat} (h:∀ b∈l,b.lv=x):cnt l x=l.length:=by
  unfold cnt
  rw [List.filter_eq_self.2 (fun b hb=>by simpa using h b hb)]
def btot:List Bk→Nat
  | []=>0
  | b :: l=>2 ^ b.lv+btot l
theorem tot_append:∀ a b:List Bk,btot (a ++ b)=btot a+btot b
  | [],b=>by simp [btot]
  | x :: a,b=>by rw [List.cons_append,btot,btot,tot_append a b];omega
theorem tot_mem:∀ {l:List Bk} {b:Bk},b∈l→2 ^ b.lv≤btot l
  | x :: l,b,h=>by
    rw [btot]
    rcases List.mem_cons.1 h with rfl | h
    · exact Nat.le_add_right _ _
    · exact Nat.le_trans (tot_mem h) (Nat.le_add_left _ _)
theorem tot_len:∀ l:List Bk,l.length≤btot l
  | []=>Nat.le_refl _
  | x :: l=>by
    have:=tot_len l
    have:=Nat.one_le_two_pow (n:=x.lv)
    rw [btot,List.length_cons]
    omega
def ordR (a b:Bk):Prop:=a.t≤b.t∧b.lv≤a.lv
def topL (l:List Bk):Nat:=(bkAt l 0).lv
theorem topL_append {a b:List Bk} (h:a≠[]):topL (a ++ b)=topL a:=by
  unfold topL;rw [bk_left (List.length_pos_iff.2 h)]
theorem topL_cons (b:Bk) (l:List Bk):topL (b :: l)=b.lv:=rfl
structure BV (k:Nat) (l:List Bk):Prop where
  ord:l.Pairwise ordR
  tick:∀ b∈l,0≤b.t∧b.t≤16777216
  lev:∀ b∈l,b.lv≤30
  most:∀ x,cnt l x≤k+1
  least:∀ x,x<topL l→k≤cnt l x
theorem BV.nil (k:Nat):BV k []:=⟨List.Pairwise.nil,(by simp),(by simp),fun x=>by rw [cnt_nil];omega,fun x h=>by simp [topL,bkAt] at h⟩
theorem BV.asc {k:Nat} {l:List Bk} (h:BV k l) {i j:Nat} (hij:i<j) (hj:j<l.length):(bkAt l i).t≤(bkAt l j).t∧(bkAt l j).lv≤(bkAt l i).lv:=by
  have:=(List.pairwise_iff_getElem.1 h.ord) i j (by omega) hj hij
  rwa [bk_eq,bk_eq] at this
theorem BV.drop {k:Nat} {l:List Bk} (h:BV k l) (j:Nat):BV k (l.drop j):=by
  have e:l.take j ++ l.drop j=l:=List.take_append_drop j l
  have ho:=h.ord
  rw [← e] at ho
  have ho':=List.pairwise_append.1 ho
  refine ⟨ho'.2.1,fun b hb=>h.tick b (List.mem_of_mem_drop hb),fun b hb=>h.lev b (List.mem_of_mem_drop hb),fun x=>?_,fun x hx=>?_⟩
  · have:=h.most x
    rw [← e,cnt_append] at this
    omega
  · by_cases hn:l.drop j=[]
    · rw [hn] at hx
      simp [topL,bkAt] at hx
    · have hlen:0<(l.drop j).length:=List.length_pos_iff.2 hn
      have hm:bkAt (l.drop j) 0∈l.drop j:=bk_mem hlen
      have hz:cnt (l.take j) x=0:=cnt_zero fun b hb=>by
        have:=(ho'.2.2 b hb _ hm).2
        unfold topL at hx
        omega
      have h0:x<topL l:=by
        by_cases ht:l.take j=[]
        · have:l.drop j=l:=by rw [ht] at e;simpa using e
          rw [this] at hx
          exact hx
        · have hlt:0<(l.take j).length:=List.length_pos_iff.2 ht
          have:=(ho'.2.2 _ (bk_mem hlt) _ hm).2
          rw [← e,topL_append ht]
          unfold topL at hx ⊢
          omega
      have:=h.least x h0
      rw [← e,cnt_append,hz] at this
      omega
def Cov:List Int→List Bk→Prop
  | ts,[]=>ts=[]
  | ts,b :: l=>∃ c rest,ts=c ++ rest∧c.length=2 ^ b.lv∧c.getLast?=some b.t∧Cov rest l
theorem Cov.len:∀ {l:List Bk} {ts:List Int},Cov ts l→ts.length=btot l
  | [],ts,h=>by rw [show ts=[] from h];rfl
  | b :: l,ts,⟨c,rest,h1,h2,_,h4⟩=>by rw [h1,List.length_append,h2,h4.len,btot]
theorem Cov.append:∀ {a b:List Bk} {ts us:List Int},Cov ts a→Cov us b→Cov (ts ++ us) (a ++ b)
  | [],b,ts,us,h1,h2=>by rw [show ts=[] from h1];exact h2
  | x :: a,b,ts,us,⟨c,rest,h1,h2,h3,h4⟩,h5=>⟨c,rest ++ us,by rw [h1,List.append_assoc],h2,h3,h4.append h5⟩
theorem Cov.split:∀ {a b:List Bk} {ts:List Int},Cov ts (a ++ b)→∃ us vs,ts=us ++ vs∧Cov us a∧Cov vs b
  | [],b,ts,h=>⟨[],ts,rfl,rfl,h⟩
  | x :: a,b,ts,⟨c,rest,h1,h2,h3,h4⟩=>by
    obtain ⟨us,vs,e,hu,hv⟩:=Cov.split h4
    exact ⟨c ++ us,vs,by rw [h1,e,List.append_assoc],⟨c,us,rfl,h2,h3,hu⟩,hv⟩
theorem Cov.one {t:Int} {lv:Nat} {c:List Int} (h1:c.length=2 ^ lv) (h2:c.getLast?=some t):Cov c [⟨t,lv⟩]:=⟨c,[],by simp,h1,h2,rfl⟩
theorem Cov.merge {G R:List Bk} {a b:Bk} {ts:List Int} (hl:a.lv=b.lv) (h:Cov ts (G ++ a :: b :: R)):Cov ts (G ++ ⟨b.t,b.lv+1⟩ :: R):=by
  obtain ⟨us,vs,e,hu,hv⟩:=h.split
  obtain ⟨c,rest,e1,l1,g1,c2,rest2,e2,l2,g2,h2⟩:=hv
  rw [e]
  refine hu.append ⟨c ++ c2,rest2,by rw [e1,e2,List.append_assoc],by rw [List.length_append,l1,l2,hl,Nat.pow_succ];omega,?_,h2⟩
  have hne:c2≠[]:=fun e=>by rw [e] at l2;simp at l2;have:=Nat.one_le_two_pow (n:=b.lv);omega
  rw [List.getLast?_append,g2]
  rfl
theorem tot_merge {G R:List Bk} {a b:Bk} (hl:a.lv=b.lv):btot (G ++ ⟨b.t,b.lv+1⟩ :: R)=btot (G ++ a :: b :: R):=by
  rw [tot_append,tot_append,btot,btot,btot,hl,Nat.pow_succ]
  omega
structure InsJ (k:Nat) (P Q:List Bk) (L:Nat):Prop where
  ord:(P ++ Q).Pairwise ordR
  tick:∀ b∈P ++ Q,0≤b.t∧b.t≤16777216
  hiP:∀ b∈P,L≤b.lv
  loQ:∀ b∈Q,b.lv<L
  cntQ:∀ x,x<L→k≤cnt Q x∧cnt Q x≤k+1
  cntL:cnt P L≤k+2
  cntP:∀ x,L<x→cnt P x≤k+1
  leastP:∀ x,L≤x→x<topL P→k≤cnt P x
  ne:P≠[]
theorem InsJ.start {k:Nat} {l:List Bk} {t:Int} (h:BV k l) (ht:0≤t∧t≤16777216) (hl:∀ b∈l,b.t≤t):InsJ k (l ++ [⟨t,0⟩]) [] 0:=by
  refine ⟨?_,fun b hb=>?_,fun _ _=>Nat.zero_le _,(by simp),fun x hx=>by omega,?_,fun x hx=>?_,fun x _ hx=>?_,(by simp)⟩
  · rw [List.append_nil]
    refine List.pairwise_append.2 ⟨h.ord,(by simp),fun a ha b hb=>?_⟩
    obtain rfl:b=⟨t,0⟩:=by simpa using hb
    exact ⟨hl a ha,Nat.zero_le _⟩
  · rw [List.append_nil] at hb
    rcases List.mem_append.1 hb with hb | hb
    · exact h.tick b hb
    · obtain rfl:b=⟨t,0⟩:=by simpa using hb
      exact ht
  · have:=h.most 0
    rw [cnt_append,cnt_cons,cnt_nil,if_pos rfl]
    omega
  · have:=h.most x
    rw [cnt_append,cnt_cons,cnt_nil,if_neg (show ¬ (0:Nat)=x by omega)]
    omega
  · by_cases hn:l=[]
    · subst hn
      rw [List.nil_append,topL_cons] at hx
      exact absurd hx (Nat.not_lt_zero _)
    · rw [topL_append hn] at hx
      have:=h.least x hx
      rw [cnt_append]
      omega
theorem InsJ.suffix {k:Nat} {P Q:List Bk} {L:Nat} (h:InsJ k P Q L) {b:Nat} (hb:b≤P.length) (h1:∀ x∈P.drop b,x.lv=L) (h2:b=0∨(bkAt P (b-1)).lv≠L):cnt P L=P.length-b∧∀ x∈P.take b,L<x.lv:=by
  have hP:=(List.pairwise_append.1 h.ord).1
  have ht:∀ x∈P.take b,L<x.lv:=by
    intro x hx
    rcases h2 with rfl | h2
    · simp at hx
    · by_cases b0:b=0
      · subst b0
        simp at hx
      obtain ⟨i,hi,e⟩:=List.getElem_of_mem hx
      rw [List.length_take] at hi
      rw [List.getElem_take] at e
      have hge:=h.hiP _ (bk_mem (l:=P) (i:=b-1) (by omega))
      have hxe:x=bkAt P i:=by rw [← e];exact bk_eq (by omega)
      by_cases hi2:i=b-1
      · rw [hxe,hi2]
        omega
      · have:=(List.pairwise_iff_getElem.1 hP) i (b-1) (by omega) (by omega) (by omega)
        rw [bk_eq,bk_eq] at this
        have:=this.2
        rw [hxe]
        omega
  refine ⟨?_,ht⟩
  have e:P=P.take b ++ P.drop b:=(List.take_append_drop b P).symm
  rw [e,cnt_append,cnt_zero (fun x hx=>by have:=ht x hx;omega),cnt_all h1,← e,List.length_drop]
  omega
theorem InsJ.done {k:Nat} {P Q:List Bk} {L:Nat} (h:InsJ k P Q L) (hc:cnt P L<k+2) (hlev:∀ b∈P ++ Q,b.lv≤30):BV k (P ++ Q):=by
  refine ⟨h.ord,h.tick,hlev,fun x=>?_,fun x hx=>?_⟩
  · rw [cnt_append]
    rcases Nat.lt_trichotomy x L with g | g | g
    · rw [cnt_zero (l:=P) (fun b hb=>by have:=h.hiP b hb;omega)]
      have:=(h.cntQ x g).2
      omega
    · subst g
      rw [cnt_zero (l:=Q) (fun b hb=>by have:=h.loQ b hb;omega)]
      omega
    · rw [cnt_zero (l:=Q) (fun b hb=>by have:=h.loQ b hb;omega)]
      have:=h.cntP x g
      omega
  · rw [topL_append h.ne] at hx
    rw [cnt_append]
    by_cases g:x<L
    · have:=(h.cntQ x g).1
      omega
    · have:=h.leastP x (by omega) hx
      omega
theorem InsJ.step {k:Nat} {G R Q:List Bk} {a b:Bk} {L:Nat} (hk:1≤k) (h:InsJ k (G ++ a :: b :: R) Q L) (ha:a.lv=L) (hb:b.lv=L) (hR:∀ x∈R,x.lv=L) (hn:R.length=k) (hG:∀ x∈G,L<x.lv) :
    InsJ k (G ++ [⟨b.t,L+1⟩]) (R ++ Q) (L+1):=by
  have ho:=h.ord
  have e1:G ++ a :: b :: R ++ Q=G ++ (a :: b :: (R ++ Q)):=by simp
  rw [e1] at ho
  obtain ⟨oG,oT,oX⟩:=List.pairwise_append.1 ho
  obtain ⟨oa,oT⟩:=List.pairwise_cons.1 oT
  obtain ⟨ob,oT⟩:=List.pairwise_cons.1 oT
  have e2:(G ++ [(⟨b.t,L+1⟩:Bk)]) ++ (R ++ Q)=G ++ (⟨b.t,L+1⟩ :: (R ++ Q)):=by simp
  have cG0:∀ x,x≤L→cnt G x=0:=fun x hx=>cnt_zero fun y hy=>by have:=hG y hy;omega
  have cP:∀ x,L<x→cnt (G ++ a :: b :: R) x=cnt G x:=fun x hx=>by
    rw [cnt_append,cnt_cons,cnt_cons,if_neg (by omega),if_neg (by omega),cnt_zero (l:=R) (fun y hy=>by have:=hR y hy;omega)]
    omega
  refine ⟨?_,fun x hx=>?_,fun x hx=>?_,fun x hx=>?_,fun x hx=>?_,?_,fun x hx=>?_,fun x h1 h2=>?_,(by simp)⟩
  · rw [e2]
    refine List.pairwise_append.2 ⟨oG,List.pairwise_cons.2 ⟨fun y hy=>⟨(ob y hy).1,?_⟩,oT⟩,fun y hy z hz=>?_⟩
    · have:=(ob y hy).2
      show y.lv≤L+1
      omega
    · rcases List.mem_cons.1 hz with rfl | hz
      · exact ⟨(oX y hy b (by simp)).1,hG y hy⟩
      · exact oX y hy z (List.mem_cons_of_mem _ (List.mem_cons_of_mem _ hz))
  · rw [e2] at hx
    have hT:=h.tick
    rw [e1] at hT
    rcases List.mem_append.1 hx with hx | hx
    · exact hT x (List.mem_append_left _ hx)
    · rcases List.mem_cons.1 hx with rfl | hx
      · exact hT b (by simp)
      · exact hT x (List.mem_append_right _ (List.mem_cons_of_mem _ (List.mem_cons_of_mem _ hx)))
  · rcases List.mem_append.1 hx with hx | hx
    · exact hG x hx
    · obtain rfl:x=⟨b.t,L+1⟩:=by simpa using hx
      exact Nat.le_refl _
  · rcases List.mem_append.1 hx with hx | hx
    · have:=hR x hx
      omega
    · have:=h.loQ x hx
      omega
  · rw [cnt_append]
    by_cases g:x=L
    · subst g
      rw [cnt_all hR,cnt_zero (l:=Q) (fun y hy=>by have:=h.loQ y hy;omega)]
      omega
    · rw [cnt_zero (l:=R) (fun y hy=>by have:=hR y hy;omega)]
      have:=h.cntQ x (by omega)
      omega
  · have:=h.cntP (L+1) (by omega)
    rw [cP _ (by omega)] at this
    rw [cnt_append,cnt_cons,cnt_nil,if_pos rfl]
    omega
  · have:=h.cntP x (by omega)
    rw [cP _ (by omega)] at this
    rw [cnt_append,cnt_cons,cnt_nil,if_neg (by show ¬ L+1=x;omega)]
    omega
  · by_cases hn:G=[]
    · subst hn
      rw [List.nil_append,topL_cons] at h2
      have:x<L+1:=h2
      omega
    · rw [topL_append hn] at h2
      have:=h.leastP x (by omega) (by rw [topL_append hn];exact h2)
      rw [cP _ (by omega)] at this
      rw [cnt_append]
      omega
def liveT (f:Int) (ts:List Int):Nat:=(ts.filter fun x=>decide (f<x)).length
theorem liveT_append (f:Int) (a b:List Int):liveT f (a ++ b)=liveT f a+liveT f b:=by unfold liveT;rw [List.filter_append,List.length_append]
theorem liveT_le (f:Int) (a:List Int):liveT f a≤a.length:=List.length_filter_le _ _
theorem liveT_zero {f:Int} {a:List Int} (h:∀ x∈a,x≤f):liveT f a=0:=by
  unfold liveT
  rw [List.length_eq_zero_iff,List.filter_eq_nil_iff]
  intro x hx
  have:=h x hx
  simp
  omega
theorem liveT_all {f:Int} {a:List Int} (h:∀ x∈a,f<x):liveT f a=a.length:=by
  unfold liveT
  rw [List.filter_eq_self.2 (fun x hx=>by simpa using h x hx)]
structure BHist (ts:List Int) (now wd:Int) (l:List Bk):Prop where
  asc:ts.Pairwise (·≤·)
  rng:∀ x∈ts,0≤x∧x≤now
  cov:∃ dead live,ts=dead ++ live∧(∀ x∈dead,x≤now-wd)∧Cov live l
  live:∀ b∈l,now-wd<b.t
theorem BHist.nil (now wd:Int):BHist [] now wd []:=⟨List.Pairwise.nil,(by simp),⟨[],[],rfl,(by simp),rfl⟩,(by simp)⟩
structure Ins (k:Nat) (l:List Bk) (t:Int) (n:Nat) (l':List Bk):Prop where
  val:BV k l'
  cov:∀ us,Cov us l→Cov (us ++ List.replicate n t) l'
  tot:btot l'=btot l+n
  ticks:∀ b∈l',b.t=t∨∃ b0∈l,b.t=b0.t
theorem BHist.add {k n:Nat} {ts:List Int} {now wd:Int} {l l':List Bk} (h:BHist ts now wd l) (h0:0≤now) (hw:1≤wd) (hi:Ins k l now n l'):BHist (ts ++ List.replicate n now) now wd l':=by
  obtain ⟨dead,live,e,hd,hcv⟩:=h.cov
  refine ⟨List.pairwise_append.2 ⟨h.asc,List.pairwise_replicate.2 (.inr (Int.le_refl _)),fun a ha b hb=>?_⟩,fun x hx=>?_,⟨dead,live ++ List.replicate n now,by rw [e,List.append_assoc],hd,hi.cov live hcv⟩,fun b hb=>?_⟩
  · rw [(List.mem_replicate.1 hb).2]
    exact (h.rng a ha).2
  · rcases List.mem_append.1 hx with hx | hx
    · exact h.rng x hx
    · rw [(List.mem_replicate.1 hx).2]
      omega
  · rcases hi.ticks b hb with g | ⟨b0,hb0,g⟩
    · omega
    · have:=h.live b0 hb0
      omega
theorem BHist.query {ts:List Int} {now wd:Int} {l:List Bk} (h:BHist ts now wd l) (hn:l≠[]):btot l+1≤liveT (now-wd) ts+2 ^ topL l∧liveT (now-wd) ts≤btot l:=by
  obtain ⟨dead,live,e,hd,hc⟩:=h.cov
  have hasc:=h.asc
  rw [e] at hasc
  have hal:=(List.pairwise_append.1 hasc).2.1
  have hlen:=hc.len
  rw [e,liveT_append,liveT_zero hd,Nat.zero_add]
  refine ⟨?_,by rw [← hlen];exact liveT_le _ _⟩
  cases l with
  | nil=>exact absurd rfl hn
  | cons b l =>
    obtain ⟨c,rest,h1,h2,h3,h4⟩:=hc
    obtain ⟨ys,hys⟩:=List.getLast?_eq_some_iff.1 h3
    have hb:=h.live b (by simp)
    rw [h1] at hal
    have hr:∀ x∈rest,now-wd<x:=fun x hx=>by
      have:=(List.pairwise_append.1 hal).2.2 b.t (by rw [hys];simp) x hx
      omega
    rw [h1,liveT_append,liveT_all hr,hys,liveT_append,liveT_all (a:=[b.t]) (fun x hx=>by rw [List.mem_singleton.1 hx];exact hb),topL_cons]
    rw [btot,h4.len]
    simp
    omega
theorem BHist.none {ts:List Int} {now wd:Int} (h:BHist ts now wd []):liveT (now-wd) ts=0:=by
  obtain ⟨dead,live,e,hd,hc⟩:=h.cov
  rw [e,show live=[] from hc,List.append_nil]
  exact liveT_zero hd
structure InsR (k:Nat) (l:List Bk) (t:Int) (cur:List Bk) (e L:Nat):Prop where
  j:InsJ k (cur.take e) (cur.drop e) L
  el:e≤cur.length
  cov:∀ us,Cov us l→Cov (us ++ [t]) cur
  tot:btot cur=btot l+1
  ticks:∀ b∈cur,b.t=t∨∃ b0∈l,b.t=b0.t
theorem InsR.start {k:Nat} {l:List Bk} {t:Int} (h:BV k l) (ht:0≤t∧t≤16777216) (hl:∀ b∈l,b.t≤t):InsR k l t (l ++ [⟨t,0⟩]) (l.length+1) 0:=by
  have e:(l ++ [(⟨t,0⟩:Bk)]).length=l.length+1:=by simp
  refine ⟨?_,by rw [e];exact Nat.le_refl _,fun us hu=>hu.append (Cov.one (by simp) (by simp)),by rw [tot_append];rfl,fun b hb=>?_⟩
  · rw [List.take_of_length_le (by rw [e];exact Nat.le_refl _),List.drop_eq_nil_of_le (by rw [e];exact Nat.le_refl _)]
    exact InsJ.start h ht hl
  · rcases List.mem_append.1 hb with hb | hb
    · exact .inr ⟨b,hb,rfl⟩
    · exact .inl (by rw [List.mem_singleton.1 hb])
theorem two_pow_le {x:Nat} (h:2 ^ x≤1073741824):x≤30:=by
  rcases Nat.lt_or_ge 30 x with g | g
  · have:=Nat.pow_le_pow_right (n:=2) (by decide) (show 31≤x from g)
    omega
  · exact g
theorem InsR.suffix {k:Nat} {l cur:List Bk} {t:Int} {e L b:Nat} (h:InsR k l t cur e L) (hb:b≤e) (h1:∀ i,b≤i→i<e→(bkAt cur i).lv=L) (h2:b=0∨(bkAt cur (b-1)).lv≠L) :
    cnt (cur.take e) L=e-b∧∀ x∈cur.take b,L<x.lv:=by
  have hl:(cur.take e).length=e:=by rw [List.length_take];have:=h.el;omega
  have hat:∀ i,i<e→bkAt (cur.take e) i=bkAt cur i:=fun i hi=>by
    have:=bk_left (a:=cur.take e) (b:=cur.drop e) (i:=i) (by omega)
    rwa [List.take_append_drop,eq_comm] at this
  have:=h.j.suffix (b:=b) (by omega) (fun x hx=>by
    obtain ⟨i,hi,rfl⟩:=List.getElem_of_mem hx
    rw [List.length_drop,hl] at hi
    rw [List.getElem_drop,bk_eq (by omega),hat _ (by omega)]
    exact h1 _ (by omega) (by omega)) (by
    rcases h2 with h2 | h2
    · exact .inl h2
    · by_cases b0:b=0
      · exact .inl b0
      · rw [hat _ (by omega)]
        exact .inr h2)
  rw [hl,List.take_take,Nat.min_eq_left hb] at this
  exact this
theorem InsR.done {k:Nat} {l cur:List Bk} {t:Int} {e L b:Nat} (h:InsR k l t cur e L) (hb:b≤e) (h1:∀ i,b≤i→i<e→(bkAt cur i).lv=L) (h2:b=0∨(bkAt cur (b-1)).lv≠L) (hc:e-b<k+2) (hT:btot l+1≤1073741824):Ins k l t 1 cur:=by
  have hs:=(h.suffix hb h1 h2).1
  have:=h.j.done (by omega) (fun x hx=>by
    rw [List.take_append_drop] at hx
    have:=tot_mem hx
    rw [h.tot] at this
    exact two_pow_le (by omega))
  rw [List.take_append_drop] at this
  exact ⟨this,h.cov,h.tot,h.ticks⟩
theorem InsR.step {k:Nat} {l cur:List Bk} {t:Int} {e L b:Nat} (hk:1≤k) (h:InsR k l t cur e L) (hb:b≤e) (h1:∀ i,b≤i→i<e→(bkAt cur i).lv=L) (h2:b=0∨(bkAt cur (b-1)).lv≠L) (hc:¬ e-b<k+2) :
    InsR k l t (cur.take b ++ ⟨(bkAt cur (b+1)).t,L+1⟩ :: cur.drop (b+2)) (b+1) (L+1):=by
  obtain ⟨hs,hG⟩:=h.suffix hb h1 h2
  have hcl:=h.j.cntL
  have hel:=h.el
  have hl1:=h1 b (Nat.le_refl _) (by omega)
  have hl2:=h1 (b+1) (by omega) (by omega)
  have e1:cur=cur.take b ++ bkAt cur b :: bkAt cur (b+1) :: cur.drop (b+2):=by
    rw [← drop_bk (show b+1<cur.length by omega),← drop_bk (show b<cur.length by omega),List.take_append_drop]
  have e2:cur.take e=cur.take b ++ bkAt cur b :: bkAt cur (b+1) :: (cur.drop (b+2)).take (e-(b+2)):=by
    have hb2:(cur.take b).length=b:=by rw [List.length_take];omega
    conv=>lhs;rw [e1]
    rw [List.take_append,hb2,List.take_of_length_le (by omega),show e-b=(e-(b+2))+1+1 by omega,List.take_succ_cons,List.take_succ_cons]
  have hR:∀ x∈(cur.drop (b+2)).take (e-(b+2)),x.lv=L:=fun x hx=>by
    obtain ⟨i,hi,rfl⟩:=List.getElem_of_mem hx
    rw [List.length_take,List.length_drop] at hi
    rw [List.getElem_take,List.getElem_drop,bk_eq (by omega)]
    exact h1 _ (by omega) (by omega)
  have hJ:=h.j
  rw [e2] at hJ
  have st:=hJ.step hk hl1 hl2 hR (by rw [List.length_take,List.length_drop];omega) hG
  have e3:(cur.drop (b+2)).take (e-(b+2)) ++ cur.drop e=cur.drop (b+2):=by
    have:=List.take_append_drop (e-(b+2)) (cur.drop (b+2))
    rwa [List.drop_drop,show b+2+(e-(b+2))=e by omega] at this
  rw [e3] at st
  have hb2:(cur.take b).length=b:=by rw [List.length_take];omega
  refine ⟨?_,by simp;omega,fun us hu=>?_,?_,fun x hx=>?_⟩
  · rw [List.take_append,hb2,List.take_of_length_le (by omega),show b+1-b=1 by omega,List.take_succ_cons,List.take_zero,List.drop_append,hb2,List.drop_of_length_le (by omega),show b+1-b=1 by omega,List.nil_append,List.drop_succ_cons,List.drop_zero]
    exact st
  · have:=h.cov us hu
    rw [e1] at this
    have:=this.merge (hl1.trans hl2.symm)
    rwa [hl2] at this
  · have:=tot_merge (G:=cur.take b) (R:=cur.drop (b+2)) (hl1.trans hl2.symm)
    rw [← e1,hl2,h.tot] at this
    exact this
  · rcases List.mem_append.1 hx with hx | hx
    · exact h.ticks x (List.mem_of_mem_take hx)
    · rcases List.mem_cons.1 hx with rfl | hx
      · exact h.ticks (bkAt cur (b+1)) (bk_mem (show b+1<cur.length by omega))
      · exact h.ticks x (List.mem_of_mem_drop hx)
theorem tot_below {k:Nat} {l:List Bk} (h:BV k l):∀ n,n≤topL l→k*(2 ^ n-1)≤btot (l.filter fun b=>decide (b.lv<n))
  | 0,_=>by simp
  | n+1,hn=>by
    have ih:=tot_below h n (by omega)
    have hl:=h.least n (by omega)
    have step:∀ a:List Bk,btot (a.filter fun b=>decide (b.lv<n+1))=btot (a.filter fun b=>decide (b.lv<n))+cnt a n*2 ^ n:=by
      intro a
      induction a with
      | nil=>simp [btot,cnt_nil]
      | cons x a ih =>
        rw [cnt_cons]
        rcases Nat.lt_trichotomy x.lv n with g | g | g
        · rw [List.filter_cons_of_pos (by simp;omega),List.filter_cons_of_pos (by simpa using g),btot,btot,ih,if_neg (by omega)]
          simp
          omega
        · rw [List.filter_cons_of_pos (by simp;omega),List.filter_cons_of_neg (by simp;omega),btot,ih,if_pos g,Nat.add_mul,g]
          omega
        · rw [List.filter_cons_of_neg (by simp;omega),List.filter_cons_of_neg (by simp;omega),ih,if_neg (by omega)]
          simp
    rw [step]
    have h2:=Nat.mul_le_mul_right (2 ^ n) hl
    have h3:=Nat.one_le_two_pow (n:=n)
    have h5:2 ^ (n+1)-1=(2 ^ n-1)+2 ^ n:=by
      rw [Nat.pow_succ]
      generalize 2 ^ n=p at h3 ⊢
      omega
    have h4:k*(2 ^ (n+1)-1)=k*(2 ^ n-1)+k*2 ^ n:=by rw [h5,Nat.mul_add]
    omega
theorem tot_filter_le (p:Bk→Bool):∀ l:List Bk,btot (l.filter p)≤btot l
  | []=>Nat.le_refl _
  | x :: l=>by
    have ih:=tot_filter_le p l
    by_cases h:p x=true
    · rw [List.filter_cons_of_pos h,btot,btot];omega
    · rw [List.filter_cons_of_neg h,btot];exact Nat.le_trans ih (Nat.le_add_left _ _)
theorem BV.narrow {k:Nat} {l:List Bk} (h:BV k l) (hn:l≠[]):k*(2 ^ topL l-1)+2 ^ topL l≤btot l:=by
  have h1:=tot_below h (topL l) (Nat.le_refl _)
  cases l with
  | nil=>exact absurd rfl hn
  | cons x l =>
    rw [topL_cons] at h1 ⊢
    rw [List.filter_cons_of_neg (by simp)] at h1
    have:=tot_filter_le (fun b=>decide (b.lv<x.lv)) l
    rw [btot]
    omega
end Go.Proofs.YtdipoojjlddohaaGreat
end
section
/- Rows of the call's own that ownsRow tells of: what keeps them; what an argument reads behind a store elsewhere. -/
namespace Go.Proofs.YtdipoojjlddohaaGreat
open Go.RowKit
theorem orow_keep {w w':World} {base:Nat} {e:TypeId} {size:Nat} {v:Value} {n:Nat} {xs:List Value} (h:w.ownsRow base e size v n xs) (hg:∀ g,v.ownBlock=some g→w'.heap[g]?=w.heap[g]?):w'.ownsRow base e size v n xs:=by
  refine ⟨h.1,?_⟩
  rcases h.2 with hn | ⟨g,cap,cur,rfl,hb,hgg,rest⟩
  · exact .inl hn
  · exact .inr ⟨g,cap,cur,rfl,hb,by rw [hg g rfl];exact hgg,rest⟩
theorem orow_other {w:World} {base:Nat} {e:TypeId} {size:Nat} {v:Value} {n:Nat} {xs:List Value} (h:w.ownsRow base e size v n xs) {p:Addr} (hne:v.ownBlock≠some p.block) (u:Value):(w.setCell p u).ownsRow base e size v n xs :=
  orow_keep h fun g he=>Below.heap_setCell w p u g (fun x=>hne (x ▸ he))
theorem orow_forms {w:World} {base:Nat} {e:TypeId} {size:Nat} {v:Value} {n:Nat} {xs:List Value} (h:w.ownsRow base e size v n xs) :
    ∃ A c,v = .slice A n c∧Reads w w.heap.size size A n xs∧n≤c∧c≤maxLen∧∀ a,A=some a→base≤a.block∧a.block<w.heap.size:=by
  rcases h.2 with ⟨rfl,rfl⟩ | ⟨g,cap,cur,rfl,hb,hgg,h1,h2,_⟩
  · exact ⟨none,0,rfl,Reads.of_own h,Nat.le_refl _,Nat.zero_le _,fun a e=>by cases e⟩
  · exact ⟨_,cap,rfl,Reads.of_own h,h1,h2,fun a e=>by cases e;exact h.lt _ rfl⟩
theorem reads_keep {w w':World} {B size n:Nat} {A:Option Addr} {xs:List Value} (h:Reads w B size A n xs) (hk:∀ a,A=some a→a.block<B→w'.heap[a.block]?=w.heap[a.block]?):Reads w' B size A n xs:=by
  refine ⟨h.1,fun hn=>?_⟩
  obtain ⟨ad,e,hb,hc⟩:=h.2 hn
  refine ⟨ad,e,hb,fun j u hu=>?_⟩
  have hq:(ad.add j).block=ad.block:=block_of_add ..
  exact (World.cell?_of_block (w:=w) (w':=w') (a:=ad.add j) (by rw [hq];exact hk ad e hb)).trans (hc j u hu)
theorem reads_set {w:World} {B size n:Nat} {A:Option Addr} {xs:List Value} (h:Reads w B size A n xs) {p:Addr} (hp:∀ a,A=some a→a.block≠p.block) (u:Value):Reads (w.setCell p u) B size A n xs :=
  reads_keep h fun a e _=>Below.heap_setCell w p u a.block (hp a e)
end Go.Proofs.YtdipoojjlddohaaGreat
end
section
/- What makes arguments out of any numbers, walked. -/
namespace Go.Proofs.YtdipoojjlddohaaGreat
open Go.RowKit
theorem tmod_mod {a n:Int} (hn:1≤n):a % n=if a.tmod n<0 then a.tmod n+n else a.tmod n:=by
  rw [Int.tmod_eq_emod]
  have h0:=Int.emod_nonneg a (show n≠0 by omega)
  have h1:=Int.emod_lt_of_pos a (show 0<n by omega)
  have hd:n.natAbs=n:=by omega
  split
  · rw [if_neg (by omega)]
    omega
  · rename_i h
    rw [not_or] at h
    have h2:a % n≠0:=fun e=>h.2 (Int.dvd_of_emod_eq_zero e)
    rw [if_pos (by omega)]
    omega
theorem tmod_bd {a n:Int} (hn:1≤n) : -n<a.tmod n∧a.tmod n<n:=by
  have:=tmod_mod (a:=a) hn
  have h0:=Int.emod_nonneg a (show n≠0 by omega)
  have h1:=Int.emod_lt_of_pos a (show 0<n by omega)
  rw [Int.tmod_eq_emod]
  have hd:n.natAbs=n:=by omega
  split
  · omega
  · rename_i h
    rw [not_or] at h
    have h2:a % n≠0:=fun e=>h.2 (Int.dvd_of_emod_eq_zero e)
    omega
theorem pmod (a n:Int) (hn:1≤n) (hn2:n≤4611686018427387904) (w:World):Calls Tryz.prog 8 #[.int .i64 a, .int .i64 n] w fun e w'=>e = .returned (.int .i64 (a % n))∧w'=w:=by
  rw [tmod_mod hn]
  have hb:=tmod_bd (a:=a) hn
  have hz:n≠0:=by omega
  have hm1:¬ n = -1:=by omega
  obtain ⟨b1,b2⟩:=hb
  have hw:IntKind.i64.wrap (a.tmod n)=a.tmod n:=IntWalk.i64_in _ (by omega)
  by_cases h:a.tmod n<0
  · rw [if_pos h]
    have hw2:IntKind.i64.wrap (a.tmod n+n)=a.tmod n+n:=IntWalk.i64_in _ (by omega)
    go_enter Tryz.func8,Tryz.ntmps8
    go_wp2
    go_ret
    exact ⟨by first | rfl | simp_all,rfl⟩
  · rw [if_neg h]
    have h':0≤a.tmod n:=by omega
    go_enter Tryz.func8,Tryz.ntmps8
    go_wp2
    go_ret
    exact ⟨by first | rfl | simp_all,rfl⟩
theorem pint (a n:Int) (hn:1≤n) (hn2:n≤4611686018427387904) (w:World):Calls Tryz.prog 9 #[.int .i64 a, .int .i64 n] w fun e w'=>e = .returned (.int .i64 (a % n))∧w'=w:=by
  have PM:=Lib.hid (fun w=>pmod a n hn hn2 w)
  have h0:=Int.emod_nonneg a (show n≠0 by omega)
  have h1:=Int.emod_lt_of_pos a (show 0<n by omega)
  generalize a % n=r at PM h0 h1 ⊢
  go_enter Tryz.func9,Tryz.ntmps9
  go_wp2_with (go_at_call 8;with_reducible refine (PM.out _).mono ?_;rintro e w9 ⟨rfl,rfl⟩)
  go_ret
  exact ⟨rfl,rfl⟩
def mval (a:Int):Int:=if a % 8=0 then a.tdiv 8 % 8193-4096 else if a % 8=1 then 4096*(2*(a.tdiv 8 % 2)-1) else a.tdiv 8 % 13-6
theorem mval_bd (a:Int) : -4096≤mval a∧mval a≤4096:=by unfold mval;split<;>(try split)<;>omega
def mgap (a w:Int):Int:=if a % 8=0 then a.tdiv 8 % (2*w+2) else if a % 8=1∨a % 8=2 then 1+a.tdiv 8 % 3 else 0
theorem mgap_bd (a:Int) {w:Int} (hw:1≤w):0≤mgap a w∧mgap a w≤2*w+1:=by
  unfold mgap
  have h0:=Int.emod_nonneg (a.tdiv 8) (show 2*w+2≠0 by omega)
  have h1:=Int.emod_lt_of_pos (a.tdiv 8) (show 0<2*w+2 by omega)
  split<;>(try split)<;>omega
theorem tdiv8_bd {a:Int} (h : -9223372036854775808≤a∧a≤9223372036854775807) : -9223372036854775808≤a.tdiv 8∧a.tdiv 8≤9223372036854775807:=by
  rw [Int.tdiv_eq_ediv,show Int.sign 8=1 from rfl]
  split<;>omega
theorem pval_0 (a:Int) (ha : -9223372036854775808≤a∧a≤9223372036854775807) (h:a % 8=0) (w0:World):Calls Tryz.prog 36 #[.int .i64 a] w0 fun e w'=>e = .returned (.int .i64 (mval a))∧w'=w0:=by
  rw [mval,if_pos h]
  have hbb:=tdiv8_bd ha
  have hw:IntKind.i64.wrap (a.tdiv 8)=a.tdiv 8:=IntWalk.i64_in _ hbb
  have P8:=fun w=>pmod a 8 (by decide) (by decide) w
  rw [h] at P8
  have PB:=fun w=>pmod (a.tdiv 8) 8193 (by decide) (by decide) w
  have b0:=Int.emod_nonneg (a.tdiv 8) (show (8193:Int)≠0 by decide)
  have b1:=Int.emod_lt_of_pos (a.tdiv 8) (show (0:Int)<8193 by decide)
  generalize a.tdiv 8 % 8193=q at PB b0 b1 ⊢
  have P8:=Lib.hid P8
  have PB:=Lib.hid PB
  clear h hbb
  go_enter Tryz.func36,Tryz.ntmps36
  go_wp2_with (first | (go_at_call 8;with_reducible refine (P8.out _).mono ?_;rintro e w9 ⟨rfl,rfl⟩) | (go_at_call 8;with_reducible refine (PB.out _).mono ?_;rintro e w9 ⟨rfl,rfl⟩))
  go_ret
  exact ⟨rfl,rfl⟩
theorem pval_1 (a:Int) (ha : -9223372036854775808≤a∧a≤9223372036854775807) (h0:¬ a % 8=0) (h:a % 8=1) (w0:World):Calls Tryz.prog 36 #[.int .i64 a] w0 fun e w'=>e = .returned (.int .i64 (mval a))∧w'=w0:=by
  rw [mval,if_neg h0,if_pos h]
  have hbb:=tdiv8_bd ha
  have hw:IntKind.i64.wrap (a.tdiv 8)=a.tdiv 8:=IntWalk.i64_in _ hbb
  have P8:=fun w=>pmod a 8 (by decide) (by decide) w
  rw [h] at P8
  have PB:=fun w=>pmod (a.tdiv 8) 2 (by decide) (by decide) w
  have b0:=Int.emod_nonneg (a.tdiv 8) (show (2:Int)≠0 by decide)
  have b1:=Int.emod_lt_of_pos (a.tdiv 8) (show (0:Int)<2 by decide)
  generalize a.tdiv 8 % 2=q at PB b0 b1 ⊢
  have P8:=Lib.hid P8
  have PB:=Lib.hid PB
  clear h0 h hbb
  go_enter Tryz.func36,Tryz.ntmps36
  go_wp2_with (first | (go_at_call 8;with_reducible refine (P8.out _).mono ?_;rintro e w9 ⟨rfl,rfl⟩) | (go_at_call 8;with_reducible refine (PB.out _).mono ?_;rintro e w9 ⟨rfl,rfl⟩))
  go_ret
  exact ⟨rfl,rfl⟩
theorem pval_2 (a:Int) (ha : -9223372036854775808≤a∧a≤9223372036854775807) (h0:¬ a % 8=0) (h:¬ a % 8=1) (w0:World):Calls Tryz.prog 36 #[.int .i64 a] w0 fun e w'=>e = .returned (.int .i64 (mval a))∧w'=w0:=by
  rw [mval,if_neg h0,if_neg h]
  have hbb:=tdiv8_bd ha
  have hw:IntKind.i64.wrap (a.tdiv 8)=a.tdiv 8:=IntWalk.i64_in _ hbb
  have P8:=fun w=>pmod a 8 (by decide) (by decide) w
  generalize a % 8=r8 at P8 h0 h
  have c0:(r8 == 0)=false:=by simpa using h0
  have c1:(r8 == 1)=false:=by simpa using h
  have PB:=fun w=>pmod (a.tdiv 8) 13 (by decide) (by decide) w
  have b0:=Int.emod_nonneg (a.tdiv 8) (show (13:Int)≠0 by decide)
  have b1:=Int.emod_lt_of_pos (a.tdiv 8) (show (0:Int)<13 by decide)
  generalize a.tdiv 8 % 13=q at PB b0 b1 ⊢
  have P8:=Lib.hid P8
  have PB:=Lib.hid PB
  clear h0 h hbb
  go_enter Tryz.func36,Tryz.ntmps36
  go_wp2_with (first | (go_at_call 8;with_reducible refine (P8.out _).mono ?_;rintro e w9 ⟨rfl,rfl⟩) | (go_at_call 8;with_reducible refine (PB.out _).mono ?_;rintro e w9 ⟨rfl,rfl⟩))
  go_ret
  exact ⟨rfl,rfl⟩
theorem pval (a:Int) (ha : -9223372036854775808≤a∧a≤9223372036854775807) (w:World):Calls Tryz.prog 36 #[.int .i64 a] w fun e w'=>e = .returned (.int .i64 (mval a))∧w'=w:=by
  by_cases h0:a % 8=0
  · exact pval_0 a ha h0 w
  · by_cases h1:a % 8=1
    · exact pval_1 a ha h0 h1 w
    · exact pval_2 a ha h0 h1 w
theorem pgap_0 (a:Int) (w:Int) (hw1:1≤w) (hw2:w≤1048576) (ha : -9223372036854775808≤a∧a≤9223372036854775807) (h:a % 8=0) (w0:World):Calls Tryz.prog 35 #[.int .i64 a, .int .i64 w] w0 fun e w'=>e = .returned (.int .i64 (mgap a w))∧w'=w0:=by
  rw [mgap,if_pos h]
  have hbb:=tdiv8_bd ha
  have hw:IntKind.i64.wrap (a.tdiv 8)=a.tdiv 8:=IntWalk.i64_in _ hbb
  have P8:=fun w=>pmod a 8 (by decide) (by decide) w
  rw [h] at P8
  have PB:=fun w'=>pmod (a.tdiv 8) (2*w+2) (by omega) (by omega) w'
  have b0:=Int.emod_nonneg (a.tdiv 8) (show ((2*w+2):Int)≠0 by omega)
  have b1:=Int.emod_lt_of_pos (a.tdiv 8) (show (0:Int)<(2*w+2) by omega)
  generalize a.tdiv 8 % (2*w+2)=q at PB b0 b1 ⊢
  have PB:=Lib.hid PB
  have P8:=Lib.hid P8
  clear h hbb
  go_enter Tryz.func35,Tryz.ntmps35
  go_wp2_with (first | (go_at_call 8;with_reducible refine (P8.out _).mono ?_;rintro e w9 ⟨rfl,rfl⟩) | (go_at_call 8;with_reducible refine (PB.out _).mono ?_;rintro e w9 ⟨rfl,rfl⟩))
  go_ret
  exact ⟨rfl,rfl⟩
theorem pgap_1 (a:Int) (w:Int) (hw1:1≤w) (hw2:w≤1048576) (ha : -9223372036854775808≤a∧a≤9223372036854775807) (h0:¬ a % 8=0) (h:a % 8=1) (w0:World):Calls Tryz.prog 35 #[.int .i64 a, .int .i64 w] w0 fun e w'=>e = .returned (.int .i64 (mgap a w))∧w'=w0:=by
  rw [mgap,if_neg h0,if_pos (Or.inl h)]
  have hbb:=tdiv8_bd ha
  have hw:IntKind.i64.wrap (a.tdiv 8)=a.tdiv 8:=IntWalk.i64_in _ hbb
  have P8:=fun w=>pmod a 8 (by decide) (by decide) w
  rw [h] at P8
  have PB:=fun w'=>pmod (a.tdiv 8) 3 (by omega) (by omega) w'
  have b0:=Int.emod_nonneg (a.tdiv 8) (show (3:Int)≠0 by omega)
  have b1:=Int.emod_lt_of_pos (a.tdiv 8) (show (0:Int)<3 by omega)
  generalize a.tdiv 8 % 3=q at PB b0 b1 ⊢
  have PB:=Lib.hid PB
  have P8:=Lib.hid P8
  clear h0 h hbb
  go_enter Tryz.func35,Tryz.ntmps35
  go_wp2_with (first | (go_at_call 8;with_reducible refine (P8.out _).mono ?_;rintro e w9 ⟨rfl,rfl⟩) | (go_at_call 8;with_reducible refine (PB.out _).mono ?_;rintro e w9 ⟨rfl,rfl⟩))
  go_ret
  exact ⟨rfl,rfl⟩
theorem pgap_2 (a:Int) (w:Int) (hw1:1≤w) (hw2:w≤1048576) (ha : -9223372036854775808≤a∧a≤9223372036854775807) (h0:¬ a % 8=0) (h:a % 8=2) (w0:World):Calls Tryz.prog 35 #[.int .i64 a, .int .i64 w] w0 fun e w'=>e = .returned (.int .i64 (mgap a w))∧w'=w0:=by
  rw [mgap,if_neg h0,if_pos (Or.inr h)]
  have hbb:=tdiv8_bd ha
  have hw:IntKind.i64.wrap (a.tdiv 8)=a.tdiv 8:=IntWalk.i64_in _ hbb
  have P8:=fun w=>pmod a 8 (by decide) (by decide) w
  rw [h] at P8
  have PB:=fun w'=>pmod (a.tdiv 8) 3 (by omega) (by omega) w'
  have b0:=Int.emod_nonneg (a.tdiv 8) (show (3:Int)≠0 by omega)
  have b1:=Int.emod_lt_of_pos (a.tdiv 8) (show (0:Int)<3 by omega)
  generalize a.tdiv 8 % 3=q at PB b0 b1 ⊢
  have PB:=Lib.hid PB
  have P8:=Lib.hid P8
  clear h0 h hbb
  go_enter Tryz.func35,Tryz.ntmps35
  go_wp2_with (first | (go_at_call 8;with_reducible refine (P8.out _).mono ?_;rintro e w9 ⟨rfl,rfl⟩) | (go_at_call 8;with_reducible refine (PB.out _).mono ?_;rintro e w9 ⟨rfl,rfl⟩))
  go_ret
  exact ⟨rfl,rfl⟩
theorem pgap_3 (a:Int) (w:Int) (hw1:1≤w) (hw2:w≤1048576) (ha : -9223372036854775808≤a∧a≤9223372036854775807) (h0:¬ a % 8=0) (h:¬ (a % 8=1∨a % 8=2)) (w0:World):Calls Tryz.prog 35 #[.int .i64 a, .int .i64 w] w0 fun e w'=>e = .returned (.int .i64 (mgap a w))∧w'=w0:=by
  rw [mgap,if_neg h0,if_neg h]
  have hbb:=tdiv8_bd ha
  have hw:IntKind.i64.wrap (a.tdiv 8)=a.tdiv 8:=IntWalk.i64_in _ hbb
  have P8:=fun w=>pmod a 8 (by decide) (by decide) w
  generalize a % 8=r8 at P8 h0 h
  rw [not_or] at h
  have c0:(r8 == 0)=false:=by simpa using h0
  have c1:(r8 == 1)=false:=by simpa using h.1
  have c2:(r8 == 2)=false:=by simpa using h.2
  have P8:=Lib.hid P8
  clear h0 h hbb
  go_enter Tryz.func35,Tryz.ntmps35
  go_wp2_with (first | (go_at_call 8;with_reducible refine (P8.out _).mono ?_;rintro e w9 ⟨rfl,rfl⟩))
  go_ret
  exact ⟨rfl,rfl⟩
theorem pgap (a w:Int) (ha : -9223372036854775808≤a∧a≤9223372036854775807) (hw1:1≤w) (hw2:w≤1048576) (w0:World):Calls Tryz.prog 35 #[.int .i64 a, .int .i64 w] w0 fun e w'=>e = .returned (.int .i64 (mgap a w))∧w'=w0:=by
  by_cases h0:a % 8=0
  · exact pgap_0 a w hw1 hw2 ha h0 w0
  · by_cases h1:a % 8=1∨a % 8=2
    · rcases h1 with h1 | h1
      · exact pgap_1 a w hw1 hw2 ha h0 h1 w0
      · exact pgap_2 a w hw1 hw2 ha h0 h1 w0
    · exact pgap_3 a w hw1 hw2 ha h0 h1 w0
end Go.Proofs.YtdipoojjlddohaaGreat
end
