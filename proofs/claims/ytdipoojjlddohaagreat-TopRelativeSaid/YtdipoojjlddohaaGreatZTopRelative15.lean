/- What the law TopRelative needs, joined of its texts by a program (slim2.py); part 15. -/
import Derived.Test.YtdipoojjlddohaaGreatZTopRelative1
import Derived.Test.YtdipoojjlddohaaGreatZTopRelative4
import Derived.Test.YtdipoojjlddohaaGreatZTopRelative6
import Derived.Test.YtdipoojjlddohaaGreatZTopRelative12
set_option linter.unusedVariables false
set_option linter.unusedSimpArgs false
set_option linter.unusedSectionVars false
set_option linter.unnecessarySimpa false
set_option maxRecDepth 100000
namespace Go.Proofs.YtdipoojjlddohaaGreat
open MC
open MT
structure Bk where
  t:Int
  lv:Nat
def bkAt (l:List Bk) (i:Nat):Bk:=l.getD i ⟨0,0⟩
theorem bk_eq {l:List Bk} {i:Nat} (h:i<l.length):l[i]=bkAt l i:=by unfold bkAt;rw [List.getD_eq_getElem?_getD,List.getElem?_eq_getElem h];rfl
theorem bk_mem {l:List Bk} {i:Nat} (h:i<l.length):bkAt l i∈l:=by rw [<- bk_eq h];exact List.getElem_mem _
theorem bk_left {a b:List Bk} {i:Nat} (h:i<a.length):bkAt (a ++ b) i=bkAt a i:=by
  unfold bkAt;rw [List.getD_eq_getElem?_getD,List.getD_eq_getElem?_getD,List.getElem?_append_left h]
theorem drop_bk {l:List Bk} {k:Nat} (h:k<l.length):l.drop k=bkAt l k :: l.drop (k+1):=by rw [List.drop_eq_getElem_cons h,bk_eq h]
theorem take_bk {l:List Bk} {k:Nat} (h:k<l.length):l.take (k+1)=l.take k ++ [bkAt l k]:=by rw [List.take_succ_eq_append_getElem h,bk_eq h]
def cnt (l:List Bk) (x:Nat):Nat:=(l.filter fun b=>decide (b.lv=x)).length
theorem cnt_nil (x:Nat):cnt [] x=0:=rfl
theorem cnt_cons (b:Bk) (l:List Bk) (x:Nat):cnt (b :: l) x=(if b.lv=x then 1 else 0)+cnt l x:=by
  unfold cnt;by_cases h:b.lv=x
  · simp [h];omega
  · simp [h]
theorem cnt_append (a b:List Bk) (x:Nat):cnt (a ++ b) x=cnt a x+cnt b x:=by unfold cnt;rw [List.filter_append,List.length_append]
theorem cnt_le (l:List Bk) (x:Nat):cnt l x<=l.length:=List.length_filter_le _ _
theorem cnt_zero {l:List Bk} {x:Nat} (h:∀ b∈l,b.lv≠x):cnt l x=0:=by
  unfold cnt;rw [List.length_eq_zero_iff,List.filter_eq_nil_iff];intro b hb;simpa using h b hb
theorem cnt_all {l:List Bk} {x:Nat} (h:∀ b∈l,b.lv=x):cnt l x=l.length:=by
  unfold cnt;rw [List.filter_eq_self.2 (fun b hb=>by simpa using h b hb)]
def btot:List Bk->Nat
  | []=>0
  | b :: l=>2 ^ b.lv+btot l
theorem tot_append:∀ a b:List Bk,btot (a ++ b)=btot a+btot b
  | [],b=>by simp [btot]
  | x :: a,b=>by rw [List.cons_append,btot,btot,tot_append a b];omega
theorem tot_mem:∀ {l:List Bk} {b:Bk},b∈l->2 ^ b.lv<=btot l
  | x :: l,b,h=>by
    rw [btot];rcases List.mem_cons.1 h with rfl | h
    · exact Nat.le_add_right _ _
    · exact Nat.le_trans (tot_mem h) (Nat.le_add_left _ _)
theorem tot_len:∀ l:List Bk,l.length<=btot l
  | []=>Nat.le_refl _
  | x :: l=>by
    have:=tot_len l;have:=Nat.one_le_two_pow (n:=x.lv);rw [btot,List.length_cons];omega
def ordR (a b:Bk):Prop:=a.t<=b.t/\b.lv<=a.lv
def topL (l:List Bk):Nat:=(bkAt l 0).lv
theorem topL_append {a b:List Bk} (h:a≠[]):topL (a ++ b)=topL a:=by
  unfold topL;rw [bk_left (List.length_pos_iff.2 h)]
theorem topL_cons (b:Bk) (l:List Bk):topL (b :: l)=b.lv:=rfl
theorem top_mem:∀ {l:List Bk},l.Pairwise ordR->∀ b∈l,b.lv<=topL l
  | [],_,_,hb=>by cases hb
  | x :: l,h,b,hb=>by
    rw [topL_cons];rcases List.mem_cons.1 hb with rfl | hb
    · exact Nat.le_refl _
    · exact ((List.pairwise_cons.1 h).1 b hb).2
structure BV (k:Nat) (l:List Bk):Prop where
  ord:l.Pairwise ordR
  tick:∀ b∈l,0<=b.t/\b.t<=16777216
  lev:∀ b∈l,b.lv<=30
  most:∀ x,cnt l x<=k+1
  least:∀ x,x<topL l->k<=cnt l x
theorem BV.nil (k:Nat):BV k []:=⟨List.Pairwise.nil,(by simp),(by simp),fun x=>by rw [cnt_nil];omega,fun x h=>by simp [topL,bkAt] at h⟩
theorem BV.asc {k:Nat} {l:List Bk} (h:BV k l) {i j:Nat} (hij:i<j) (hj:j<l.length):(bkAt l i).t<=(bkAt l j).t/\(bkAt l j).lv<=(bkAt l i).lv:=by
  have:=(List.pairwise_iff_getElem.1 h.ord) i j (by omega) hj hij
  rwa [bk_eq,bk_eq] at this
theorem BV.drop {k:Nat} {l:List Bk} (h:BV k l) (j:Nat):BV k (l.drop j):=by
  have e:l.take j ++ l.drop j=l:=List.take_append_drop j l;have ho:=h.ord;rw [<- e] at ho;have ho':=List.pairwise_append.1 ho;refine ⟨ho'.2.1,fun b hb=>h.tick b (List.mem_of_mem_drop hb),fun b hb=>h.lev b (List.mem_of_mem_drop hb),fun x=>?_,fun x hx=>?_⟩
  · have:=h.most x;rw [<- e,cnt_append] at this;omega
  · by_cases hn:l.drop j=[]
    · rw [hn] at hx;simp [topL,bkAt] at hx
    · have hlen:0<(l.drop j).length:=List.length_pos_iff.2 hn;have hm:bkAt (l.drop j) 0∈l.drop j:=bk_mem hlen
      have hz:cnt (l.take j) x=0:=cnt_zero fun b hb=>by
        have:=(ho'.2.2 b hb _ hm).2;unfold topL at hx;omega
      have h0:x<topL l:=by
        by_cases ht:l.take j=[]
        · have:l.drop j=l:=by rw [ht] at e;simpa using e
          rw [this] at hx;exact hx
        · have hlt:0<(l.take j).length:=List.length_pos_iff.2 ht;have:=(ho'.2.2 _ (bk_mem hlt) _ hm).2;rw [<- e,topL_append ht];unfold topL at hx |-
          omega
      have:=h.least x h0;rw [<- e,cnt_append,hz] at this;omega
def Cov:List Int->List Bk->Prop
  | ts,[]=>ts=[]
  | ts,b :: l=>∃ c rest,ts=c ++ rest/\c.length=2 ^ b.lv/\c.getLast?=some b.t/\Cov rest l
theorem Cov.nil:Cov [] []:=rfl
theorem Cov.len:∀ {l:List Bk} {ts:List Int},Cov ts l->ts.length=btot l
  | [],ts,h=>by rw [show ts=[] from h];rfl
  | b :: l,ts,⟨c,rest,h1,h2,_,h4⟩=>by rw [h1,List.length_append,h2,h4.len,btot]
theorem Cov.append:∀ {a b:List Bk} {ts us:List Int},Cov ts a->Cov us b->Cov (ts ++ us) (a ++ b)
  | [],b,ts,us,h1,h2=>by rw [show ts=[] from h1];exact h2
  | x :: a,b,ts,us,⟨c,rest,h1,h2,h3,h4⟩,h5=>⟨c,rest ++ us,by rw [h1,List.append_assoc],h2,h3,h4.append h5⟩
theorem Cov.split:∀ {a b:List Bk} {ts:List Int},Cov ts (a ++ b)->∃ us vs,ts=us ++ vs/\Cov us a/\Cov vs b
  | [],b,ts,h=>⟨[],ts,rfl,rfl,h⟩
  | x :: a,b,ts,⟨c,rest,h1,h2,h3,h4⟩=>by
    obtain ⟨us,vs,e,hu,hv⟩:=Cov.split h4;exact ⟨c ++ us,vs,by rw [h1,e,List.append_assoc],⟨c,us,rfl,h2,h3,hu⟩,hv⟩
theorem Cov.one {t:Int} {lv:Nat} {c:List Int} (h1:c.length=2 ^ lv) (h2:c.getLast?=some t):Cov c [⟨t,lv⟩]:=⟨c,[],by simp,h1,h2,rfl⟩
theorem Cov.merge {G R:List Bk} {a b:Bk} {ts:List Int} (hl:a.lv=b.lv) (h:Cov ts (G ++ a :: b :: R)):Cov ts (G ++ ⟨b.t,b.lv+1⟩ :: R):=by
  obtain ⟨us,vs,e,hu,hv⟩:=h.split;obtain ⟨c,rest,e1,l1,g1,c2,rest2,e2,l2,g2,h2⟩:=hv;rw [e];refine hu.append ⟨c ++ c2,rest2,by rw [e1,e2,List.append_assoc],by rw [List.length_append,l1,l2,hl,Nat.pow_succ];omega,?_,h2⟩;have hne:c2≠[]:=fun e=>by rw [e] at l2;simp at l2;have:=Nat.one_le_two_pow (n:=b.lv);omega
  rw [List.getLast?_append,g2];rfl
theorem tot_merge {G R:List Bk} {a b:Bk} (hl:a.lv=b.lv):btot (G ++ ⟨b.t,b.lv+1⟩ :: R)=btot (G ++ a :: b :: R):=by
  rw [tot_append,tot_append,btot,btot,btot,hl,Nat.pow_succ];omega
structure InsJ (k:Nat) (P Q:List Bk) (L:Nat):Prop where
  ord:(P ++ Q).Pairwise ordR
  tick:∀ b∈P ++ Q,0<=b.t/\b.t<=16777216
  hiP:∀ b∈P,L<=b.lv
  loQ:∀ b∈Q,b.lv<L
  cntQ:∀ x,x<L->k<=cnt Q x/\cnt Q x<=k+1
  cntL:cnt P L<=k+2
  cntP:∀ x,L<x->cnt P x<=k+1
  leastP:∀ x,L<=x->x<topL P->k<=cnt P x
  ne:P≠[]
theorem InsJ.start {k:Nat} {l:List Bk} {t:Int} (h:BV k l) (ht:0<=t/\t<=16777216) (hl:∀ b∈l,b.t<=t):InsJ k (l ++ [⟨t,0⟩]) [] 0:=by
  refine ⟨?_,fun b hb=>?_,fun _ _=>Nat.zero_le _,(by simp),fun x hx=>by omega,?_,fun x hx=>?_,fun x _ hx=>?_,(by simp)⟩
  · rw [List.append_nil];refine List.pairwise_append.2 ⟨h.ord,(by simp),fun a ha b hb=>?_⟩;obtain rfl:b=⟨t,0⟩:=by simpa using hb
    exact ⟨hl a ha,Nat.zero_le _⟩
  · rw [List.append_nil] at hb;rcases List.mem_append.1 hb with hb | hb
    · exact h.tick b hb
    · obtain rfl:b=⟨t,0⟩:=by simpa using hb
      exact ht
  · have:=h.most 0;rw [cnt_append,cnt_cons,cnt_nil,if_pos rfl];omega
  · have:=h.most x;rw [cnt_append,cnt_cons,cnt_nil,if_neg (show ¬ (0:Nat)=x by omega)];omega
  · by_cases hn:l=[]
    · subst hn;rw [List.nil_append,topL_cons] at hx;exact absurd hx (Nat.not_lt_zero _)
    · rw [topL_append hn] at hx;have:=h.least x hx;rw [cnt_append];omega
theorem InsJ.suffix {k:Nat} {P Q:List Bk} {L:Nat} (h:InsJ k P Q L) {b:Nat} (hb:b<=P.length) (h1:∀ x∈P.drop b,x.lv=L) (h2:b=0∨(bkAt P (b-1)).lv≠L):cnt P L=P.length-b/\∀ x∈P.take b,L<x.lv:=by
  have hP:=(List.pairwise_append.1 h.ord).1
  have ht:∀ x∈P.take b,L<x.lv:=by
    intro x hx;rcases h2 with rfl | h2
    · simp at hx
    · by_cases b0:b=0
      · subst b0;simp at hx
      obtain ⟨i,hi,e⟩:=List.getElem_of_mem hx;rw [List.length_take] at hi;rw [List.getElem_take] at e;have hge:=h.hiP _ (bk_mem (l:=P) (i:=b-1) (by omega));have hxe:x=bkAt P i:=by rw [<- e];exact bk_eq (by omega)
      by_cases hi2:i=b-1
      · rw [hxe,hi2];omega
      · have:=(List.pairwise_iff_getElem.1 hP) i (b-1) (by omega) (by omega) (by omega);rw [bk_eq,bk_eq] at this;have:=this.2;rw [hxe];omega
  refine ⟨?_,ht⟩;have e:P=P.take b ++ P.drop b:=(List.take_append_drop b P).symm;rw [e,cnt_append,cnt_zero (fun x hx=>by have:=ht x hx;omega),cnt_all h1,<- e,List.length_drop];omega
theorem InsJ.done {k:Nat} {P Q:List Bk} {L:Nat} (h:InsJ k P Q L) (hc:cnt P L<k+2) (hlev:∀ b∈P ++ Q,b.lv<=30):BV k (P ++ Q):=by
  refine ⟨h.ord,h.tick,hlev,fun x=>?_,fun x hx=>?_⟩
  · rw [cnt_append];rcases Nat.lt_trichotomy x L with g | g | g
    · rw [cnt_zero (l:=P) (fun b hb=>by have:=h.hiP b hb;omega)];have:=(h.cntQ x g).2;omega
    · subst g;rw [cnt_zero (l:=Q) (fun b hb=>by have:=h.loQ b hb;omega)];omega
    · rw [cnt_zero (l:=Q) (fun b hb=>by have:=h.loQ b hb;omega)];have:=h.cntP x g;omega
  · rw [topL_append h.ne] at hx;rw [cnt_append];by_cases g:x<L
    · have:=(h.cntQ x g).1;omega
    · have:=h.leastP x (by omega) hx;omega
theorem InsJ.step {k:Nat} {G R Q:List Bk} {a b:Bk} {L:Nat} (hk:1<=k) (h:InsJ k (G ++ a :: b :: R) Q L) (ha:a.lv=L) (hb:b.lv=L) (hR:∀ x∈R,x.lv=L) (hn:R.length=k) (hG:∀ x∈G,L<x.lv) :
    InsJ k (G ++ [⟨b.t,L+1⟩]) (R ++ Q) (L+1):=by
  have ho:=h.ord;have e1:G ++ a :: b :: R ++ Q=G ++ (a :: b :: (R ++ Q)):=by simp
  rw [e1] at ho;obtain ⟨oG,oT,oX⟩:=List.pairwise_append.1 ho;obtain ⟨oa,oT⟩:=List.pairwise_cons.1 oT;obtain ⟨ob,oT⟩:=List.pairwise_cons.1 oT;have e2:(G ++ [(⟨b.t,L+1⟩:Bk)]) ++ (R ++ Q)=G ++ (⟨b.t,L+1⟩ :: (R ++ Q)):=by simp
  have cG0:∀ x,x<=L->cnt G x=0:=fun x hx=>cnt_zero fun y hy=>by have:=hG y hy;omega
  have cP:∀ x,L<x->cnt (G ++ a :: b :: R) x=cnt G x:=fun x hx=>by
    rw [cnt_append,cnt_cons,cnt_cons,if_neg (by omega),if_neg (by omega),cnt_zero (l:=R) (fun y hy=>by have:=hR y hy;omega)];omega
  refine ⟨?_,fun x hx=>?_,fun x hx=>?_,fun x hx=>?_,fun x hx=>?_,?_,fun x hx=>?_,fun x h1 h2=>?_,(by simp)⟩
  · rw [e2];refine List.pairwise_append.2 ⟨oG,List.pairwise_cons.2 ⟨fun y hy=>⟨(ob y hy).1,?_⟩,oT⟩,fun y hy z hz=>?_⟩
    · have:=(ob y hy).2;show y.lv<=L+1;omega
    · rcases List.mem_cons.1 hz with rfl | hz
      · exact ⟨(oX y hy b (by simp)).1,hG y hy⟩
      · exact oX y hy z (List.mem_cons_of_mem _ (List.mem_cons_of_mem _ hz))
  · rw [e2] at hx;have hT:=h.tick;rw [e1] at hT;rcases List.mem_append.1 hx with hx | hx
    · exact hT x (List.mem_append_left _ hx)
    · rcases List.mem_cons.1 hx with rfl | hx
      · exact hT b (by simp)
      · exact hT x (List.mem_append_right _ (List.mem_cons_of_mem _ (List.mem_cons_of_mem _ hx)))
  · rcases List.mem_append.1 hx with hx | hx
    · exact hG x hx
    · obtain rfl:x=⟨b.t,L+1⟩:=by simpa using hx
      exact Nat.le_refl _
  · rcases List.mem_append.1 hx with hx | hx
    · have:=hR x hx;omega
    · have:=h.loQ x hx;omega
  · rw [cnt_append];by_cases g:x=L
    · subst g;rw [cnt_all hR,cnt_zero (l:=Q) (fun y hy=>by have:=h.loQ y hy;omega)];omega
    · rw [cnt_zero (l:=R) (fun y hy=>by have:=hR y hy;omega)];have:=h.cntQ x (by omega);omega
  · have:=h.cntP (L+1) (by omega);rw [cP _ (by omega)] at this;rw [cnt_append,cnt_cons,cnt_nil,if_pos rfl];omega
  · have:=h.cntP x (by omega);rw [cP _ (by omega)] at this;rw [cnt_append,cnt_cons,cnt_nil,if_neg (by show ¬ L+1=x;omega)];omega
  · by_cases hn:G=[]
    · subst hn;rw [List.nil_append,topL_cons] at h2;have:x<L+1:=h2;omega
    · rw [topL_append hn] at h2;have:=h.leastP x (by omega) (by rw [topL_append hn];exact h2);rw [cP _ (by omega)] at this;rw [cnt_append];omega
def liveT (f:Int) (ts:List Int):Nat:=(ts.filter fun x=>decide (f<x)).length
theorem liveT_append (f:Int) (a b:List Int):liveT f (a ++ b)=liveT f a+liveT f b:=by unfold liveT;rw [List.filter_append,List.length_append]
theorem liveT_le (f:Int) (a:List Int):liveT f a<=a.length:=List.length_filter_le _ _
theorem liveT_zero {f:Int} {a:List Int} (h:∀ x∈a,x<=f):liveT f a=0:=by
  unfold liveT;rw [List.length_eq_zero_iff,List.filter_eq_nil_iff];intro x hx;have:=h x hx;simp;omega
theorem liveT_all {f:Int} {a:List Int} (h:∀ x∈a,f<x):liveT f a=a.length:=by
  unfold liveT;rw [List.filter_eq_self.2 (fun x hx=>by simpa using h x hx)]
structure BHist (ts:List Int) (now wd:Int) (l:List Bk):Prop where
  asc:ts.Pairwise (·<=·)
  rng:∀ x∈ts,0<=x/\x<=now
  cov:∃ dead live,ts=dead ++ live/\(∀ x∈dead,x<=now-wd)/\Cov live l
  live:∀ b∈l,now-wd<b.t
theorem Cov.last:∀ {l:List Bk} {ts:List Int},Cov ts l->l≠[]->∃ b∈l,ts.getLast?=some b.t
  | [],_,_,hn=>absurd rfl hn
  | y :: a,ts,⟨c,rest,h1,h2,h3,h4⟩,_=>by
    by_cases ha:a=[]
    · subst ha;rw [show rest=[] from h4,List.append_nil] at h1;exact ⟨y,by simp,by rw [h1];exact h3⟩
    · have hrne:rest≠[]:=fun er=>by
        have hq:=h4.len;have hq2:=tot_len a;have hq3:=List.length_pos_iff.2 ha;rw [er] at hq;simp at hq;omega
      obtain ⟨b,hb,hbl⟩:=h4.last ha;exact ⟨b,List.mem_cons_of_mem _ hb,by rw [h1,List.getLast?_append,hbl];rfl⟩
theorem BHist.nil (now wd:Int):BHist [] now wd []:=⟨List.Pairwise.nil,(by simp),⟨[],[],rfl,(by simp),rfl⟩,(by simp)⟩
theorem BHist.expire {ts:List Int} {now wd tt9:Int} {l:List Bk} (h:BHist ts now wd l) (hto:now<=tt9) (j:Nat) (hj:∀ b∈l.take j,b.t<=tt9-wd) (hl:∀ b∈l.drop j,tt9-wd<b.t):BHist ts tt9 wd (l.drop j):=by
  obtain ⟨dead,live,e,hd,hc⟩:=h.cov;refine ⟨h.asc,fun x hx=>by have:=h.rng x hx;omega,?_,hl⟩;rw [<- List.take_append_drop j l] at hc;obtain ⟨us,vs,e2,hu,hv⟩:=hc.split;refine ⟨dead ++ us,vs,by rw [e,e2,List.append_assoc],fun x hx=>?_,hv⟩;rcases List.mem_append.1 hx with hx | hx
  · have:=hd x hx;omega
  · by_cases hn:l.take j=[]
    · rw [hn] at hu;rw [show us=[] from hu] at hx;cases hx
    · -- the last of us is the tick of the last bucket that was dropped
      have hne:us≠[]:=fun e=>by rw [e] at hx;cases hx
      have hlast:=hu.last hn;obtain ⟨b,hb,hbl⟩:=hlast
      have hle:x<=b.t:=by
        have hasc:=h.asc;rw [e,e2] at hasc;have h1:=(List.pairwise_append.1 (List.pairwise_append.1 hasc).2.1).1
        obtain ⟨ys,rfl⟩:∃ ys,us=ys ++ [b.t]:=by
          obtain ⟨ys,hys⟩:=List.getLast?_eq_some_iff.1 hbl;exact ⟨ys,hys⟩
        rcases List.mem_append.1 hx with hx | hx
        · exact (List.pairwise_append.1 h1).2.2 x hx b.t (by simp)
        · simp at hx;omega
      have:=hj b hb;omega
structure Ins (k:Nat) (l:List Bk) (t:Int) (n:Nat) (l':List Bk):Prop where
  val:BV k l'
  cov:∀ us,Cov us l->Cov (us ++ List.replicate n t) l'
  tot:btot l'=btot l+n
  ticks:∀ b∈l',b.t=t∨∃ b0∈l,b.t=b0.t
theorem Ins.zero {k:Nat} {l:List Bk} {t:Int} (h:BV k l):Ins k l t 0 l:=⟨h,fun us hu=>by simpa using hu,rfl,fun b hb => .inr ⟨b,hb,rfl⟩⟩
theorem Ins.one_more {k n:Nat} {l l1 l2:List Bk} {t:Int} (h1:Ins k l t n l1) (h2:Ins k l1 t 1 l2):Ins k l t (n+1) l2:=by
  refine ⟨h2.val,fun us hu=>?_,by rw [h2.tot,h1.tot];omega,fun b hb=>?_⟩
  · have:=h2.cov _ (h1.cov us hu)
    rwa [List.append_assoc,List.replicate_append_replicate] at this
  · rcases h2.ticks b hb with h | ⟨b0,hb0,e⟩
    · exact .inl h
    · rcases h1.ticks b0 hb0 with h | ⟨b1,hb1,e1⟩
      · exact .inl (e.trans h)
      · exact .inr ⟨b1,hb1,e.trans e1⟩
theorem BHist.add {k n:Nat} {ts:List Int} {now wd:Int} {l l':List Bk} (h:BHist ts now wd l) (h0:0<=now) (hw:1<=wd) (hi:Ins k l now n l'):BHist (ts ++ List.replicate n now) now wd l':=by
  obtain ⟨dead,live,e,hd,hcv⟩:=h.cov;refine ⟨List.pairwise_append.2 ⟨h.asc,List.pairwise_replicate.2 (.inr (Int.le_refl _)),fun a ha b hb=>?_⟩,fun x hx=>?_,⟨dead,live ++ List.replicate n now,by rw [e,List.append_assoc],hd,hi.cov live hcv⟩,fun b hb=>?_⟩
  · rw [(List.mem_replicate.1 hb).2];exact (h.rng a ha).2
  · rcases List.mem_append.1 hx with hx | hx
    · exact h.rng x hx
    · rw [(List.mem_replicate.1 hx).2];omega
  · rcases hi.ticks b hb with g | ⟨b0,hb0,g⟩
    · omega
    · have:=h.live b0 hb0;omega
theorem BHist.query {ts:List Int} {now wd:Int} {l:List Bk} (h:BHist ts now wd l) (hn:l≠[]):btot l+1<=liveT (now-wd) ts+2 ^ topL l/\liveT (now-wd) ts<=btot l:=by
  obtain ⟨dead,live,e,hd,hc⟩:=h.cov;have hasc:=h.asc;rw [e] at hasc;have hal:=(List.pairwise_append.1 hasc).2.1;have hlen:=hc.len;rw [e,liveT_append,liveT_zero hd,Nat.zero_add];refine ⟨?_,by rw [<- hlen];exact liveT_le _ _⟩;cases l with
  | nil=>exact absurd rfl hn
  | cons b l =>
    obtain ⟨c,rest,h1,h2,h3,h4⟩:=hc;obtain ⟨ys,hys⟩:=List.getLast?_eq_some_iff.1 h3;have hb:=h.live b (by simp);rw [h1] at hal
    have hr:∀ x∈rest,now-wd<x:=fun x hx=>by
      have:=(List.pairwise_append.1 hal).2.2 b.t (by rw [hys];simp) x hx;omega
    rw [h1,liveT_append,liveT_all hr,hys,liveT_append,liveT_all (a:=[b.t]) (fun x hx=>by rw [List.mem_singleton.1 hx];exact hb),topL_cons];rw [btot,h4.len];simp;omega
theorem BHist.none {ts:List Int} {now wd:Int} (h:BHist ts now wd []):liveT (now-wd) ts=0:=by
  obtain ⟨dead,live,e,hd,hc⟩:=h.cov;rw [e,show live=[] from hc,List.append_nil];exact liveT_zero hd
structure InsR (k:Nat) (l:List Bk) (t:Int) (cur:List Bk) (e L:Nat):Prop where
  j:InsJ k (cur.take e) (cur.drop e) L
  el:e<=cur.length
  cov:∀ us,Cov us l->Cov (us ++ [t]) cur
  tot:btot cur=btot l+1
  ticks:∀ b∈cur,b.t=t∨∃ b0∈l,b.t=b0.t
theorem InsR.start {k:Nat} {l:List Bk} {t:Int} (h:BV k l) (ht:0<=t/\t<=16777216) (hl:∀ b∈l,b.t<=t):InsR k l t (l ++ [⟨t,0⟩]) (l.length+1) 0:=by
  have e:(l ++ [(⟨t,0⟩:Bk)]).length=l.length+1:=by simp
  refine ⟨?_,by rw [e];exact Nat.le_refl _,fun us hu=>hu.append (Cov.one (by simp) (by simp)),by rw [tot_append];rfl,fun b hb=>?_⟩
  · rw [List.take_of_length_le (by rw [e];exact Nat.le_refl _),List.drop_eq_nil_of_le (by rw [e];exact Nat.le_refl _)];exact InsJ.start h ht hl
  · rcases List.mem_append.1 hb with hb | hb
    · exact .inr ⟨b,hb,rfl⟩
    · exact .inl (by rw [List.mem_singleton.1 hb])
theorem two_pow_le {x:Nat} (h:2 ^ x<=1073741824):x<=30:=by
  rcases Nat.lt_or_ge 30 x with g | g
  · have:=Nat.pow_le_pow_right (n:=2) (by decide) (show 31<=x from g);omega
  · exact g
theorem InsR.suffix {k:Nat} {l cur:List Bk} {t:Int} {e L b:Nat} (h:InsR k l t cur e L) (hb:b<=e) (h1:∀ i,b<=i->i<e->(bkAt cur i).lv=L) (h2:b=0∨(bkAt cur (b-1)).lv≠L) :
    cnt (cur.take e) L=e-b/\∀ x∈cur.take b,L<x.lv:=by
  have hl:(cur.take e).length=e:=by rw [List.length_take];have:=h.el;omega
  have hat:∀ i,i<e->bkAt (cur.take e) i=bkAt cur i:=fun i hi=>by
    have:=bk_left (a:=cur.take e) (b:=cur.drop e) (i:=i) (by omega)
    rwa [List.take_append_drop,eq_comm] at this
  have:=h.j.suffix (b:=b) (by omega) (fun x hx=>by
    obtain ⟨i,hi,rfl⟩:=List.getElem_of_mem hx;rw [List.length_drop,hl] at hi;rw [List.getElem_drop,bk_eq (by omega),hat _ (by omega)]
    exact h1 _ (by omega) (by omega)) (by
    rcases h2 with h2 | h2
    · exact .inl h2
    · by_cases b0:b=0
      · exact .inl b0
      · rw [hat _ (by omega)]
        exact .inr h2)
  rw [hl,List.take_take,Nat.min_eq_left hb] at this;exact this
theorem InsR.done {k:Nat} {l cur:List Bk} {t:Int} {e L b:Nat} (h:InsR k l t cur e L) (hb:b<=e) (h1:∀ i,b<=i->i<e->(bkAt cur i).lv=L) (h2:b=0∨(bkAt cur (b-1)).lv≠L) (hc:e-b<k+2) (hT:btot l+1<=1073741824):Ins k l t 1 cur:=by
  have hs:=(h.suffix hb h1 h2).1
  have:=h.j.done (by omega) (fun x hx=>by
    rw [List.take_append_drop] at hx;have:=tot_mem hx;rw [h.tot] at this
    exact two_pow_le (by omega))
  rw [List.take_append_drop] at this;exact ⟨this,h.cov,h.tot,h.ticks⟩
theorem InsR.step {k:Nat} {l cur:List Bk} {t:Int} {e L b:Nat} (hk:1<=k) (h:InsR k l t cur e L) (hb:b<=e) (h1:∀ i,b<=i->i<e->(bkAt cur i).lv=L) (h2:b=0∨(bkAt cur (b-1)).lv≠L) (hc:¬ e-b<k+2) :
    InsR k l t (cur.take b ++ ⟨(bkAt cur (b+1)).t,L+1⟩ :: cur.drop (b+2)) (b+1) (L+1):=by
  obtain ⟨hs,hG⟩:=h.suffix hb h1 h2;have hcl:=h.j.cntL;have hel:=h.el;have hl1:=h1 b (Nat.le_refl _) (by omega);have hl2:=h1 (b+1) (by omega) (by omega)
  have e1:cur=cur.take b ++ bkAt cur b :: bkAt cur (b+1) :: cur.drop (b+2):=by
    rw [<- drop_bk (show b+1<cur.length by omega),<- drop_bk (show b<cur.length by omega),List.take_append_drop]
  have e2:cur.take e=cur.take b ++ bkAt cur b :: bkAt cur (b+1) :: (cur.drop (b+2)).take (e-(b+2)):=by
    have hb2:(cur.take b).length=b:=by rw [List.length_take];omega
    conv=>lhs;rw [e1]
    rw [List.take_append,hb2,List.take_of_length_le (by omega),show e-b=(e-(b+2))+1+1 by omega,List.take_succ_cons,List.take_succ_cons]
  have hR:∀ x∈(cur.drop (b+2)).take (e-(b+2)),x.lv=L:=fun x hx=>by
    obtain ⟨i,hi,rfl⟩:=List.getElem_of_mem hx;rw [List.length_take,List.length_drop] at hi;rw [List.getElem_take,List.getElem_drop,bk_eq (by omega)];exact h1 _ (by omega) (by omega)
  have hJ:=h.j;rw [e2] at hJ;have st:=hJ.step hk hl1 hl2 hR (by rw [List.length_take,List.length_drop];omega) hG
  have e3:(cur.drop (b+2)).take (e-(b+2)) ++ cur.drop e=cur.drop (b+2):=by
    have:=List.take_append_drop (e-(b+2)) (cur.drop (b+2))
    rwa [List.drop_drop,show b+2+(e-(b+2))=e by omega] at this
  rw [e3] at st;have hb2:(cur.take b).length=b:=by rw [List.length_take];omega
  refine ⟨?_,by simp;omega,fun us hu=>?_,?_,fun x hx=>?_⟩
  · rw [List.take_append,hb2,List.take_of_length_le (by omega),show b+1-b=1 by omega,List.take_succ_cons,List.take_zero,List.drop_append,hb2,List.drop_of_length_le (by omega),show b+1-b=1 by omega,List.nil_append,List.drop_succ_cons,List.drop_zero];exact st
  · have:=h.cov us hu;rw [e1] at this;have:=this.merge (hl1.trans hl2.symm)
    rwa [hl2] at this
  · have:=tot_merge (G:=cur.take b) (R:=cur.drop (b+2)) (hl1.trans hl2.symm);rw [<- e1,hl2,h.tot] at this;exact this
  · rcases List.mem_append.1 hx with hx | hx
    · exact h.ticks x (List.mem_of_mem_take hx)
    · rcases List.mem_cons.1 hx with rfl | hx
      · exact h.ticks (bkAt cur (b+1)) (bk_mem (show b+1<cur.length by omega))
      · exact h.ticks x (List.mem_of_mem_drop hx)
theorem tot_below {k:Nat} {l:List Bk} (h:BV k l):∀ n,n<=topL l->k*(2 ^ n-1)<=btot (l.filter fun b=>decide (b.lv<n))
  | 0,_=>by simp
  | n+1,hn=>by
    have ih:=tot_below h n (by omega);have hl:=h.least n (by omega)
    have step:∀ a:List Bk,btot (a.filter fun b=>decide (b.lv<n+1))=btot (a.filter fun b=>decide (b.lv<n))+cnt a n*2 ^ n:=by
      intro a
      induction a with
      | nil=>simp [btot,cnt_nil]
      | cons x a ih =>
        rw [cnt_cons];rcases Nat.lt_trichotomy x.lv n with g | g | g
        · rw [List.filter_cons_of_pos (by simp;omega),List.filter_cons_of_pos (by simpa using g),btot,btot,ih,if_neg (by omega)];simp;omega
        · rw [List.filter_cons_of_pos (by simp;omega),List.filter_cons_of_neg (by simp;omega),btot,ih,if_pos g,Nat.add_mul,g];omega
        · rw [List.filter_cons_of_neg (by simp;omega),List.filter_cons_of_neg (by simp;omega),ih,if_neg (by omega)];simp
    rw [step];have h2:=Nat.mul_le_mul_right (2 ^ n) hl;have h3:=Nat.one_le_two_pow (n:=n)
    have h5:2 ^ (n+1)-1=(2 ^ n-1)+2 ^ n:=by
      rw [Nat.pow_succ];generalize 2 ^ n=p at h3 |-
      omega
    have h4:k*(2 ^ (n+1)-1)=k*(2 ^ n-1)+k*2 ^ n:=by rw [h5,Nat.mul_add]
    omega
theorem tot_filter_le (p:Bk->Bool):∀ l:List Bk,btot (l.filter p)<=btot l
  | []=>Nat.le_refl _
  | x :: l=>by
    have ih:=tot_filter_le p l;by_cases h:p x=true
    · rw [List.filter_cons_of_pos h,btot,btot];omega
    · rw [List.filter_cons_of_neg h,btot];exact Nat.le_trans ih (Nat.le_add_left _ _)
theorem BV.narrow {k:Nat} {l:List Bk} (h:BV k l) (hn:l≠[]):k*(2 ^ topL l-1)+2 ^ topL l<=btot l:=by
  have h1:=tot_below h (topL l) (Nat.le_refl _);cases l with
  | nil=>exact absurd rfl hn
  | cons x l =>
    rw [topL_cons] at h1 |-
    rw [List.filter_cons_of_neg (by simp)] at h1;have:=tot_filter_le (fun b=>decide (b.lv<x.lv)) l;rw [btot];omega
end Go.Proofs.YtdipoojjlddohaaGreat
namespace Go.Proofs.YtdipoojjlddohaaGreat
open MC
open MT
open Go.RowKit
def bcells (l:List Bk):List Value:=l.flatMap fun x=>[.int .i64 x.t, .int .i64 (x.lv:Nat)]
theorem bcells_cons (x:Bk) (l:List Bk):bcells (x :: l) = .int .i64 x.t :: .int .i64 (x.lv:Nat) :: bcells l:=rfl
theorem bcells_append (a b:List Bk):bcells (a ++ b)=bcells a ++ bcells b:=by unfold bcells;rw [List.flatMap_append]
theorem bcells_len:∀ l:List Bk,(bcells l).length=l.length*2
  | []=>rfl
  | x :: l=>by rw [bcells_cons];simp only [List.length_cons,bcells_len l];omega
theorem bcells_at:∀ (l:List Bk) (i:Nat),i<l.length->(bcells l)[i*2]?=some (.int .i64 (bkAt l i).t)/\(bcells l)[i*2+1]?=some (.int .i64 ((bkAt l i).lv:Nat))
  | [],i,h=>absurd h (by simp)
  | x :: l,0,_=>⟨rfl,rfl⟩
  | x :: l,i+1,h=>by
    have ih:=bcells_at l i (by simpa using h);rw [bcells_cons,show (i+1)*2=i*2+1+1 by omega,show i*2+1+1+1=(i*2+1)+1+1 by omega];simp only [List.getElem?_cons_succ];exact ih
theorem bcells_set (l:List Bk) (i:Nat) (h:i<l.length) (b:Bk):((bcells l).set (i*2) (.int .i64 b.t)).set (i*2+1) (.int .i64 (b.lv:Nat))=bcells (l.set i b):=by
  induction l generalizing i with
  | nil=>exact absurd h (by simp)
  | cons x l ih =>
    cases i with
    | zero=>rfl
    | succ i =>
      have:=ih i (by simpa using h);rw [bcells_cons,show (i+1)*2=i*2+1+1 by omega,show i*2+1+1+1=(i*2+1)+1+1 by omega];simp only [List.set_cons_succ];rw [this];rfl
theorem bcells_one (l:List Bk):∀ u∈bcells l,u.oneCell'=true:=by
  intro u hu;unfold bcells at hu;rw [List.mem_flatMap] at hu;obtain ⟨x,_,hx⟩:=hu;simp at hx;rcases hx with rfl | rfl<;>rfl
theorem bcells_take (l:List Bk) (k:Nat):(bcells l).take (k*2)=bcells (l.take k):=by
  induction l generalizing k with
  | nil=>simp [bcells]
  | cons x l ih =>
    cases k with
    | zero=>simp [bcells]
    | succ k=>rw [bcells_cons,List.take_succ_cons,bcells_cons,show (k+1)*2=k*2+1+1 by omega,List.take_succ_cons,List.take_succ_cons,ih]
theorem bcells_drop (l:List Bk) (k:Nat):(bcells l).drop (k*2)=bcells (l.drop k):=by
  induction l generalizing k with
  | nil=>simp [bcells]
  | cons x l ih =>
    cases k with
    | zero=>simp [bcells]
    | succ k=>rw [bcells_cons,List.drop_succ_cons,show (k+1)*2=k*2+1+1 by omega,List.drop_succ_cons,List.drop_succ_cons,ih]
def BkCells (w:World) (a:Addr) (x:Bk):Prop:=w.cell? a=some (.int .i64 x.t)/\w.cell? ⟨a.block,a.off+1,none⟩=some (.int .i64 (x.lv:Nat))
section
variable {w w':World} {B m:Nat} {A:Option Addr} {l:List Bk}
theorem BkCells.below {a:Addr} {x:Bk} (h:BkCells w a x) (hb:Below B w w') (hlt:a.block<B):BkCells w' a x :=
  ⟨(hb.cell hlt).trans h.1,(hb.cell (p:=⟨a.block,a.off+1,none⟩) hlt).trans h.2⟩
theorem Reads.bk_len (h:Reads w B 2 A m (bcells l)):l.length=m:=by have:=h.1;rw [bcells_len] at this;omega
theorem Reads.bk {i:Nat} (h:Reads w B 2 A m (bcells l)) (hi:i<m):∃ ad,A=some ad/\ad.block<B/\BkCells w (ad.add (i*2)) (bkAt l i):=by
  obtain ⟨ad,e,hb,hc⟩:=h.2 (by omega);have ht:=bcells_at l i (by rw [h.bk_len];exact hi);refine ⟨ad,e,hb,hc _ _ ht.1,?_⟩;rw [<- addr_lit _ 1 (by decide),add_of_add];exact hc _ _ ht.2
end
structure BIn (A:Option Addr) (m c:Nat) (l:List Bk) (w:World):Prop where
  reads:Reads w w.heap.size 2 A m (bcells l)
  mc:m<=c
  cB:c<=maxLen
theorem BIn.below {A:Option Addr} {m c:Nat} {l:List Bk} {w w':World} (h:BIn A m c l w) (hb:Below w w w'):BIn A m c l w':=⟨(h.reads.below hb).more hb.size,h.mc,h.cB⟩
theorem BIn.len {A:Option Addr} {m c:Nat} {l:List Bk} {w:World} (h:BIn A m c l w):l.length=m:=h.reads.bk_len
theorem BIn.nil {w:World}:BIn none 0 0 [] w:=⟨by simpa [bcells] using Reads.none_,Nat.le_refl _,Nat.zero_le _⟩
theorem BIn.of_own {g m c:Nat} {l:List Bk} {w:World} (h:Own w 318 2 g m c (bcells l)):BIn (some ⟨g,0,none⟩) m c l w:=⟨h.reads,h.cap.1,h.cap.2⟩
theorem BIn.tail {ad:Addr} {m c:Nat} {a:Bk} {l:List Bk} {w:World} (h:BIn (some ad) m c (a :: l) w):BIn (some ⟨ad.block,ad.off+2,none⟩) (m-1) (c-1) l w:=by
  rw [<- addr_lit ad 2 (by decide)];have hl:=h.len;simp at hl;refine ⟨⟨by have:=h.reads.1;rw [bcells_cons] at this;simp at this;omega,fun hn=>?_⟩,by have:=h.mc;omega,by have:=h.cB;omega⟩;obtain ⟨ad',e',hb,hc⟩:=h.reads.2 (by omega);obtain rfl:ad=ad':=by injection e'
  refine ⟨_,rfl,by rw [block_of_add];exact hb,fun j u hu=>?_⟩;rw [add_of_add];exact hc (2+j) u (by rw [bcells_cons,show 2+j=j+1+1 by omega];simpa using hu)
def BRet (P:List Bk->Prop) (w:World) (e:Ending) (w':World):Prop :=
  ∃ (A:Option Addr) (m c:Nat) (l:List Bk),e = .returned (.slice A m c)/\BIn A m c l w'/\P l/\Below w w w'/\∀ a,A=some a->w.heap.size<=a.block
theorem info_bk:(Tryz.prog.info? 318).map (fun i=>(i.zero,i.size,i.bytes))=some (some (.agg #[(),()]),2,16):=by kernel_rfl
end Go.Proofs.YtdipoojjlddohaaGreat
