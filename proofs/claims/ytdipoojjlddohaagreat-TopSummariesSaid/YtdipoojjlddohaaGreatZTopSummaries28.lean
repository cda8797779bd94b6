/- What the law TopSummaries needs, joined of its texts by a program (slim2.py); part 28. -/
import Derived.Test.YtdipoojjlddohaaGreatZTopSummaries1
import Derived.Test.YtdipoojjlddohaaGreatZTopSummaries6
import Derived.Test.YtdipoojjlddohaaGreatZTopSummaries27
set_option linter.unusedVariables false
set_option linter.unusedSimpArgs false
set_option linter.unusedSectionVars false
set_option linter.unnecessarySimpa false
section
/- Blocks of a window whose summaries are exact: what an insertion, an expiry and a question keep; plain. -/
namespace Go.Proofs.YtdipoojjlddohaaGreat
def Srt (l:List Int):Prop:=l.Pairwise (fun a b=>decide (a≤b)=true)
def mgI (a b:List Int):List Int:=a.merge b (fun x y=>decide (x≤y))
theorem mgI_perm (a b:List Int):(mgI a b).Perm (a ++ b):=List.merge_perm_append _
theorem mgI_len (a b:List Int):(mgI a b).length=a.length+b.length:=List.length_merge _ _ _
theorem mgI_srt {a b:List Int} (ha:Srt a) (hb:Srt b):Srt (mgI a b) :=
  List.pairwise_merge (fun x y z h1 h2=>by simp at *;omega) (fun x y=>by simp;omega) a b ha hb
theorem mgI_nil_r (a:List Int):mgI a []=a:=List.merge_right a
theorem mgI_nil_l (a:List Int):mgI [] a=a:=List.nil_merge a
theorem mgI_left {x y:Int} {a b:List Int} (h:x≤y):mgI (x :: a) (y :: b)=x :: mgI a (y :: b):=List.cons_merge_cons_pos _ _ _ (by simpa using h)
theorem mgI_right {x y:Int} {a b:List Int} (h:¬ x≤y):mgI (x :: a) (y :: b)=y :: mgI (x :: a) b:=List.cons_merge_cons_neg _ _ _ (by simpa using h)
theorem Srt.at {l:List Int} (h:Srt l) {i j:Nat} (hij:i≤j) (hj:j<l.length):l.getD i 0≤l.getD j 0:=by
  rw [List.getD_eq_getElem?_getD,List.getD_eq_getElem?_getD,List.getElem?_eq_getElem hj,List.getElem?_eq_getElem (show i<l.length by omega)]
  by_cases e:i=j
  · subst e
    exact Int.le_refl _
  · have:=List.pairwise_iff_getElem.1 h i j (by omega) hj (by omega)
    simpa using this
theorem vat_mem {l:List Int} {i:Nat} (h:i<l.length):l.getD i 0∈l:=by
  rw [List.getD_eq_getElem?_getD,List.getElem?_eq_getElem h]
  exact List.getElem_mem _
theorem vat_of_mem {l:List Int} {x:Int} (h:x∈l):∃ i,i<l.length∧l.getD i 0=x:=by
  obtain ⟨i,hi,e⟩:=List.mem_iff_getElem.1 h
  exact ⟨i,hi,by rw [List.getD_eq_getElem?_getD,List.getElem?_eq_getElem hi];exact e⟩
theorem drop_vat {l:List Int} {i:Nat} (h:i<l.length):l.drop i=l.getD i 0 :: l.drop (i+1):=by
  rw [List.drop_eq_getElem_cons h,List.getD_eq_getElem?_getD,List.getElem?_eq_getElem h]
  rfl
theorem Srt.ends {l:List Int} (h:Srt l) {x:Int} (hx:x∈l):l.getD 0 0≤x∧x≤l.getD (l.length-1) 0:=by
  obtain ⟨i,hi,rfl⟩:=vat_of_mem hx
  exact ⟨h.at (Nat.zero_le _) hi,h.at (by omega) (by omega)⟩
theorem Srt.cle_eq {l:List Int} (h:Srt l) {v:Int} {i:Nat} (hi:i≤l.length) (h1:∀ j,j<i→l.getD j 0≤v) (h2:i<l.length→v<l.getD i 0):cle l v=i:=by
  have e:l=l.take i ++ l.drop i:=(List.take_append_drop i l).symm
  have a1:cle (l.take i) v=i:=by
    unfold cle
    rw [List.filter_eq_self.2 (fun x hx=>?_),List.length_take]
    · omega
    · obtain ⟨j,hj,rfl⟩:=List.mem_iff_getElem.1 hx
      have hj2:j<i∧j<l.length:=by rw [List.length_take] at hj;omega
      have:=h1 j hj2.1
      rw [List.getD_eq_getElem?_getD,List.getElem?_eq_getElem hj2.2] at this
      rw [List.getElem_take]
      simpa using this
  have a2:cle (l.drop i) v=0:=by
    unfold cle
    rw [List.length_eq_zero_iff,List.filter_eq_nil_iff]
    intro x hx
    obtain ⟨j,hj,rfl⟩:=List.mem_iff_getElem.1 hx
    rw [List.length_drop] at hj
    have:=h.at (show i≤i+j by omega) (by omega)
    have h3:=h2 (by omega)
    rw [List.getD_eq_getElem?_getD,List.getD_eq_getElem?_getD,List.getElem?_eq_getElem (show i<l.length by omega),List.getElem?_eq_getElem (show i+j<l.length by omega)] at this
    rw [List.getD_eq_getElem?_getD,List.getElem?_eq_getElem (show i<l.length by omega)] at h3
    rw [List.getElem_drop]
    simp at *
    omega
  rw [e,cle_append,a1,a2]
  rfl
theorem cle_perm {a b:List Int} (h:a.Perm b) (v:Int):cle a v=cle b v:=(h.filter _).length_eq
structure Bq where
  t:Int
  last:Int
  lv:Nat
  vs:List Int
  A:Option Addr
  c:Nat
instance:Inhabited Bq:=⟨⟨0,0,0,[],none,0⟩⟩
def bqAt (l:List Bq) (i:Nat):Bq:=l.getD i default
theorem bq_eq {l:List Bq} {i:Nat} (h:i<l.length):l[i]=bqAt l i:=by unfold bqAt;rw [List.getD_eq_getElem?_getD,List.getElem?_eq_getElem h];rfl
theorem bq_mem {l:List Bq} {i:Nat} (h:i<l.length):bqAt l i∈l:=by rw [← bq_eq h];exact List.getElem_mem _
theorem drop_bq {l:List Bq} {k:Nat} (h:k<l.length):l.drop k=bqAt l k :: l.drop (k+1):=by rw [List.drop_eq_getElem_cons h,bq_eq h]
theorem take_bq {l:List Bq} {k:Nat} (h:k<l.length):l.take (k+1)=l.take k ++ [bqAt l k]:=by rw [List.take_succ_eq_append_getElem h,bq_eq h]
def Bq.bk (b:Bq):Bk:=⟨b.t,b.lv⟩
def bqs (l:List Bq):List Bk:=l.map Bq.bk
theorem bqs_len (l:List Bq):(bqs l).length=l.length:=List.length_map _
theorem bqs_at {l:List Bq} {i:Nat} (h:i<l.length):bkAt (bqs l) i=(bqAt l i).bk:=by
  rw [← bk_eq (by rw [bqs_len];exact h),← bq_eq h]
  unfold bqs
  rw [List.getElem_map]
theorem bqs_append (a b:List Bq):bqs (a ++ b)=bqs a ++ bqs b:=List.map_append
theorem bqs_take (l:List Bq) (k:Nat):bqs (l.take k)=(bqs l).take k:=List.map_take
theorem bqs_drop (l:List Bq) (k:Nat):bqs (l.drop k)=(bqs l).drop k:=List.map_drop
structure BqOK (sz:Nat) (b:Bq):Prop where
  len:b.vs.length=2 ^ b.lv
  srt:Srt b.vs
  rng:∀ v∈b.vs, -4096≤v∧v≤4096
  lst:b.last∈b.vs
  siz:2 ^ b.lv≤sz+1
def qvs (l:List Bq):List Int:=l.flatMap Bq.vs
theorem qvs_cons (b:Bq) (l:List Bq):qvs (b :: l)=b.vs ++ qvs l:=rfl
theorem qvs_append (a b:List Bq):qvs (a ++ b)=qvs a ++ qvs b:=List.flatMap_append
def CovQ:List Itm→List Bq→Prop
  | ts,[]=>ts=[]
  | ts,b :: l=>∃ c rest,ts=c ++ rest∧c.length=2 ^ b.lv∧c.getLast?=some ⟨b.t,b.last⟩∧(c.map (·.v)).Perm b.vs∧CovQ rest l
theorem CovQ.append:∀ {a b:List Bq} {ts us:List Itm},CovQ ts a→CovQ us b→CovQ (ts ++ us) (a ++ b)
  | [],b,ts,us,h1,h2=>by rw [show ts=[] from h1];exact h2
  | x :: a,b,ts,us,⟨c,rest,h1,h2,h3,h4,h5⟩,h6=>⟨c,rest ++ us,by rw [h1,List.append_assoc],h2,h3,h4,h5.append h6⟩
theorem CovQ.split:∀ {a b:List Bq} {ts:List Itm},CovQ ts (a ++ b)→∃ us vs,ts=us ++ vs∧CovQ us a∧CovQ vs b
  | [],b,ts,h=>⟨[],ts,rfl,rfl,h⟩
  | x :: a,b,ts,⟨c,rest,h1,h2,h3,h4,h5⟩=>by
    obtain ⟨us,vs,e,hu,hv⟩:=CovQ.split h5
    exact ⟨c ++ us,vs,by rw [h1,e,List.append_assoc],⟨c,us,rfl,h2,h3,h4,hu⟩,hv⟩
theorem CovQ.vals:∀ {l:List Bq} {ts:List Itm},CovQ ts l→(ts.map (·.v)).Perm (qvs l)
  | [],ts,h=>by rw [show ts=[] from h];exact List.Perm.refl _
  | b :: l,ts,⟨c,rest,h1,_,_,h4,h5⟩=>by
    rw [h1,List.map_append,qvs_cons]
    exact h4.append h5.vals
theorem CovQ.last:∀ {l:List Bq} {ts:List Itm},CovQ ts l→l≠[]→∃ b∈l,ts.getLast?=some ⟨b.t,b.last⟩
  | [],_,_,hn=>absurd rfl hn
  | y :: a,ts,⟨c,rest,h1,h2,h3,h4,h5⟩,_=>by
    by_cases ha:a=[]
    · subst ha
      rw [show rest=[] from h5,List.append_nil] at h1
      exact ⟨y,by simp,by rw [h1];exact h3⟩
    · obtain ⟨b,hb,hbl⟩:=h5.last ha
      exact ⟨b,List.mem_cons_of_mem _ hb,by rw [h1,List.getLast?_append,hbl];rfl⟩
theorem CovQ.merge {G R:List Bq} {a b m:Bq} {ts:List Itm} (hl:a.lv=b.lv) (m1:m.t=b.t) (m2:m.last=b.last) (m3:m.lv=b.lv+1) (m4:m.vs=mgI a.vs b.vs) (h:CovQ ts (G ++ a :: b :: R)):CovQ ts (G ++ m :: R):=by
  obtain ⟨us,vs,e,hu,hv⟩:=h.split
  obtain ⟨c,rest,e1,l1,g1,p1,c2,rest2,e2,l2,g2,p2,h2⟩:=hv
  rw [e]
  refine hu.append ⟨c ++ c2,rest2,by rw [e1,e2,List.append_assoc],by rw [List.length_append,l1,l2,hl,m3,Nat.pow_succ];omega,?_,?_,h2⟩
  · rw [List.getLast?_append,g2,m1,m2]
    rfl
  · rw [m4,List.map_append]
    exact (p1.append p2).trans (mgI_perm _ _).symm
structure InsQ (sz k:Nat) (l:List Bq) (t v:Int) (l':List Bq):Prop where
  ok:∀ b∈l',BqOK sz b
  cov:∀ us,CovQ us l→CovQ (us ++ [⟨t,v⟩]) l'
  ins:Ins k (bqs l) t 1 (bqs l')
structure InsQR (sz k:Nat) (l:List Bq) (t v:Int) (cur:List Bq) (e L:Nat):Prop where
  ok:∀ b∈cur,BqOK sz b
  cov:∀ us,CovQ us l→CovQ (us ++ [⟨t,v⟩]) cur
  r:InsR k (bqs l) t (bqs cur) e L
theorem InsQR.el {sz k:Nat} {l cur:List Bq} {t v:Int} {e L:Nat} (h:InsQR sz k l t v cur e L):e≤cur.length:=by have:=h.r.el;rwa [bqs_len] at this
theorem bqOK_one {sz:Nat} {t v:Int} {A:Option Addr} {c:Nat} (h : -4096≤v∧v≤4096):BqOK sz ⟨t,v,0,[v],A,c⟩ :=
  ⟨rfl,List.pairwise_singleton _ _,fun x hx=>by rw [List.mem_singleton.1 hx];exact h,List.mem_singleton.2 rfl,Nat.le_add_left _ _⟩
theorem InsQR.start {sz k:Nat} {l:List Bq} {t v:Int} {A:Option Addr} {c:Nat} (h:BV k (bqs l)) (ho:∀ b∈l,BqOK sz b) (ht:0≤t∧t≤16777216) (hv : -4096≤v∧v≤4096) (hl:∀ b∈l,b.t≤t):InsQR sz k l t v (l ++ [⟨t,v,0,[v],A,c⟩]) (l.length+1) 0:=by
  refine ⟨fun b hb=>?_,fun us hu=>hu.append ⟨[⟨t,v⟩],[],rfl,rfl,rfl,List.Perm.refl _,rfl⟩,?_⟩
  · rcases List.mem_append.1 hb with hb | hb
    · exact ho b hb
    · rw [List.mem_singleton.1 hb]
      exact bqOK_one hv
  · have:=InsR.start (t:=t) h ht (fun b hb=>by
      obtain ⟨x,hx,rfl⟩:=List.mem_map.1 hb
      exact hl x hx)
    rw [bqs_len] at this
    rw [bqs_append]
    exact this
theorem InsQR.lv {sz k:Nat} {l cur:List Bq} {t v:Int} {e L b:Nat} (h:InsQR sz k l t v cur e L) (h1:∀ i,b≤i→i<e→(bqAt cur i).lv=L):∀ i,b≤i→i<e→(bkAt (bqs cur) i).lv=L:=fun i a c=>by
  rw [bqs_at (by have:=h.el;omega)]
  exact h1 i a c
theorem InsQR.lv2 {sz k:Nat} {l cur:List Bq} {t v:Int} {e L b:Nat} (h:InsQR sz k l t v cur e L) (hb:b≤e) (h2:b=0∨(bqAt cur (b-1)).lv≠L):b=0∨(bkAt (bqs cur) (b-1)).lv≠L:=by
  by_cases h0:b=0
  · exact .inl h0
  · rcases h2 with h2 | h2
    · exact .inl h2
    · rw [bqs_at (by have:=h.el;omega)]
      exact .inr h2
theorem InsQR.done {sz k:Nat} {l cur:List Bq} {t v:Int} {e L b:Nat} (h:InsQR sz k l t v cur e L) (hb:b≤e) (h1:∀ i,b≤i→i<e→(bqAt cur i).lv=L) (h2:b=0∨(bqAt cur (b-1)).lv≠L) (hc:e-b<k+2) (hT:btot (bqs l)+1≤1073741824):InsQ sz k l t v cur :=
  ⟨h.ok,h.cov,h.r.done hb (h.lv h1) (h.lv2 hb h2) hc hT⟩
theorem tot_levels {k:Nat} {l:List Bk}:∀ n,(∀ x,x<n→k≤cnt l x)→k*(2 ^ n-1)≤btot (l.filter fun b=>decide (b.lv<n))
  | 0,_=>by simp
  | n+1,h=>by
    have ih:=tot_levels n (fun x hx=>h x (by omega))
    have hl:=h n (by omega)
    have step:∀ a:List Bk,btot (a.filter fun b=>decide (b.lv<n+1))=btot (a.filter fun b=>decide (b.lv<n))+cnt a n*2 ^ n:=by
      intro a
      induction a with
      | nil=>simp [btot,cnt_nil]
      | cons x a ih =>
        rw [cnt_cons]
        rcases Nat.lt_trichotomy x.lv n with g | g | g
        · rw [List.filter_cons_of_pos (by simp;omega),List.filter_cons_of_pos (by simpa using g),btot,btot,ih,if_neg (by omega)]
          simp
          omega
        · rw [List.filter_cons_of_pos (by simp;omega),List.filter_cons_of_neg (by simp;omega),btot,ih,if_pos g,Nat.add_mul,g]
          omega
        · rw [List.filter_cons_of_neg (by simp;omega),List.filter_cons_of_neg (by simp;omega),ih,if_neg (by omega)]
          simp
    rw [step]
    have h2:=Nat.mul_le_mul_right (2 ^ n) hl
    have h3:=Nat.one_le_two_pow (n:=n)
    have h5:2 ^ (n+1)-1=(2 ^ n-1)+2 ^ n:=by
      rw [Nat.pow_succ]
      generalize 2 ^ n=p at h3 ⊢
      omega
    have h4:k*(2 ^ (n+1)-1)=k*(2 ^ n-1)+k*2 ^ n:=by rw [h5,Nat.mul_add]
    omega
theorem InsR.small {k:Nat} {l cur:List Bk} {t:Int} {e L:Nat} (h:InsR k l t cur e L) (hP:∃ x∈cur.take e,x.lv=L):k*(2 ^ L-1)+2 ^ L≤btot l+1:=by
  obtain ⟨x,hx,hl⟩:=hP
  have h1:=tot_levels (k:=k) (l:=cur.drop e) L (fun y hy=>(h.j.cntQ y hy).1)
  have h2:=tot_filter_le (fun b=>decide (b.lv<L)) (cur.drop e)
  have h3:=tot_mem hx
  have h4:=tot_append (cur.take e) (cur.drop e)
  rw [List.take_append_drop,h.tot] at h4
  rw [hl] at h3
  omega
theorem InsQR.step {sz k:Nat} {l cur:List Bq} {t v:Int} {e L b:Nat} {A:Option Addr} {c:Nat} (hk:1≤k) (h:InsQR sz k l t v cur e L) (hb:b≤e) (h1:∀ i,b≤i→i<e→(bqAt cur i).lv=L) (h2:b=0∨(bqAt cur (b-1)).lv≠L) (hc:¬ e-b<k+2)
    (hs:∀ x,k*(2 ^ x-1)+2 ^ x≤btot (bqs l)+1→2 ^ x≤sz+1) :
    InsQR sz k l t v (cur.take b ++ ⟨(bqAt cur (b+1)).t,(bqAt cur (b+1)).last,L+1,mgI (bqAt cur b).vs (bqAt cur (b+1)).vs,A,c⟩ :: cur.drop (b+2)) (b+1) (L+1)∧2 ^ (L+1)≤sz+1:=by
  have hel:=h.el
  have st:=h.r.step hk hb (h.lv h1) (h.lv2 hb h2) hc
  have l1:=h1 b (Nat.le_refl _) (by omega)
  have l2:=h1 (b+1) (by omega) (by omega)
  have e1:cur=cur.take b ++ bqAt cur b :: bqAt cur (b+1) :: cur.drop (b+2):=by
    rw [← drop_bq (show b+1<cur.length by omega),← drop_bq (show b<cur.length by omega),List.take_append_drop]
  have st':InsR k (bqs l) t (bqs (cur.take b ++ ⟨(bqAt cur (b+1)).t,(bqAt cur (b+1)).last,L+1,mgI (bqAt cur b).vs (bqAt cur (b+1)).vs,A,c⟩ :: cur.drop (b+2))) (b+1) (L+1):=by
    rw [bqs_at (by omega),← bqs_take,← bqs_drop] at st
    rw [bqs_append]
    exact st
  have hz:2 ^ (L+1)≤sz+1:=hs _ (st'.small ⟨⟨(bqAt cur (b+1)).t,L+1⟩,by
    rw [bqs_append,bqs_take]
    have hl:((bqs cur).take b).length=b:=by rw [List.length_take,bqs_len];omega
    rw [List.take_append,hl,List.take_of_length_le (by omega),show b+1-b=1 by omega]
    exact List.mem_append_right _ (List.mem_cons_self ..),rfl⟩)
  have oa:=h.ok _ (bq_mem (show b<cur.length by omega))
  have ob:=h.ok _ (bq_mem (show b+1<cur.length by omega))
  refine ⟨⟨fun x hx=>?_,fun us hu=>?_,st'⟩,hz⟩
  · rcases List.mem_append.1 hx with hx | hx
    · exact h.ok x (List.mem_of_mem_take hx)
    · rcases List.mem_cons.1 hx with rfl | hx
      · refine ⟨?_,mgI_srt oa.srt ob.srt,fun y hy=>?_,?_,hz⟩
        · show (mgI _ _).length=2 ^ (L+1)
          rw [mgI_len,oa.len,ob.len,l1,l2,Nat.pow_succ]
          omega
        · rcases List.mem_append.1 ((mgI_perm _ _).mem_iff.1 hy) with hy | hy
          · exact oa.rng y hy
          · exact ob.rng y hy
        · exact (mgI_perm _ _).mem_iff.2 (List.mem_append_right _ ob.lst)
      · exact h.ok x (List.mem_of_mem_drop hx)
  · have:=h.cov us hu
    rw [e1] at this
    exact CovQ.merge (l1.trans l2.symm) rfl rfl (by rw [l2]) rfl this
structure QHist (ad:List Itm) (now wd:Int) (l:List Bq):Prop where
  asc:ad.Pairwise (fun a b=>a.t≤b.t)
  rng:∀ x∈ad,0≤x.t∧x.t≤now
  cov:∃ dead live,ad=dead ++ live∧(∀ x∈dead,x.t≤now-wd)∧CovQ live l
  live:∀ b∈l,now-wd<b.t
theorem QHist.nil (now wd:Int):QHist [] now wd []:=⟨List.Pairwise.nil,(by simp),⟨[],[],rfl,(by simp),rfl⟩,(by simp)⟩
theorem QHist.add {sz k:Nat} {ad:List Itm} {now wd v:Int} {l l':List Bq} (h:QHist ad now wd l) (h0:0≤now) (hw:1≤wd) (hi:InsQ sz k l now v l'):QHist (ad ++ [⟨now,v⟩]) now wd l':=by
  obtain ⟨dead,live,e,hd,hc⟩:=h.cov
  refine ⟨List.pairwise_append.2 ⟨h.asc,List.pairwise_singleton _ _,fun a ha b hb=>?_⟩,fun x hx=>?_,⟨dead,live ++ [⟨now,v⟩],by rw [e,List.append_assoc],hd,hi.cov live hc⟩,fun b hb=>?_⟩
  · rw [List.mem_singleton.1 hb]
    exact (h.rng a ha).2
  · rcases List.mem_append.1 hx with hx | hx
    · exact h.rng x hx
    · rw [List.mem_singleton.1 hx]
      exact ⟨h0,Int.le_refl _⟩
  · rcases hi.ins.ticks b.bk (List.mem_map_of_mem hb) with g | ⟨b0,hb0,g⟩
    · have:b.t=now:=g
      omega
    · obtain ⟨x,hx,rfl⟩:=List.mem_map.1 hb0
      have:=h.live x hx
      have g:b.t=x.t:=g
      omega
theorem QHist.expire {ad:List Itm} {now wd tt:Int} {l:List Bq} (h:QHist ad now wd l) (hto:now≤tt) (j:Nat) (hj:∀ b∈l.take j,b.t≤tt-wd) (hl:∀ b∈l.drop j,tt-wd<b.t):QHist ad tt wd (l.drop j):=by
  obtain ⟨dead,live,e,hd,hc⟩:=h.cov
  refine ⟨h.asc,fun x hx=>by have:=h.rng x hx;omega,?_,hl⟩
  rw [← List.take_append_drop j l] at hc
  obtain ⟨us,vs,e2,hu,hv⟩:=hc.split
  refine ⟨dead ++ us,vs,by rw [e,e2,List.append_assoc],fun x hx=>?_,hv⟩
  rcases List.mem_append.1 hx with hx | hx
  · have:=hd x hx
    omega
  · by_cases hn:l.take j=[]
    · rw [hn] at hu
      rw [show us=[] from hu] at hx
      cases hx
    · obtain ⟨b,hb,hbl⟩:=hu.last hn
      have hle:x.t≤b.t:=by
        have hasc:=h.asc
        rw [e,e2] at hasc
        have h1:=(List.pairwise_append.1 (List.pairwise_append.1 hasc).2.1).1
        obtain ⟨ys,hys⟩:=List.getLast?_eq_some_iff.1 hbl
        rw [hys] at h1 hx
        rcases List.mem_append.1 hx with hx | hx
        · exact (List.pairwise_append.1 h1).2.2 x hx _ (List.mem_singleton.2 rfl)
        · rw [List.mem_singleton.1 hx]
          exact Int.le_refl _
      have:=hj b hb
      omega
theorem rank_two {sz:Nat} {b:Bq} {l:List Bq} (h:BqOK sz b) (v:Int):cle (b.last :: qvs l) v≤cle (qvs (b :: l)) v∧cle (qvs (b :: l)) v≤cle (b.last :: qvs l) v+(2 ^ b.lv-1):=by
  have hp:=List.perm_cons_erase h.lst
  have h1:cle b.vs v=cle [b.last] v+cle (b.vs.erase b.last) v:=by
    rw [cle_perm hp,← cle_append]
    rfl
  have h2:b.last :: qvs l=[b.last] ++ qvs l:=rfl
  have h3:=cle_len (b.vs.erase b.last) v
  have h4:=hp.length_eq
  rw [List.length_cons,h.len] at h4
  rw [qvs_cons,h2,cle_append,cle_append,h1]
  omega
theorem bqs_tot:∀ {l:List Bq} {sz:Nat},(∀ b∈l,BqOK sz b)→btot (bqs l)=(qvs l).length
  | [],_,_=>rfl
  | b :: l,sz,h=>by
    have:=bqs_tot (l:=l) (fun x hx=>h x (List.mem_cons_of_mem _ hx))
    have h1:=(h b (List.mem_cons_self ..)).len
    show 2 ^ b.lv+btot (bqs l)=_
    rw [qvs_cons,List.length_append,this,h1]
def joinQ (s:List Int):List Bq→List Int
  | []=>s
  | b :: l=>joinQ (mgI s b.vs) l
theorem joinQ_perm:∀ (l:List Bq) (s:List Int),(joinQ s l).Perm (s ++ qvs l)
  | [],s=>by
    show s.Perm _
    rw [show qvs []=[] from rfl,List.append_nil]
  | b :: l,s=>by
    refine (joinQ_perm l (mgI s b.vs)).trans ?_
    rw [qvs_cons,← List.append_assoc]
    exact (mgI_perm s b.vs).append_right _
theorem joinQ_snoc:∀ (l:List Bq) (s:List Int) (b:Bq),joinQ s (l ++ [b])=mgI (joinQ s l) b.vs
  | [],_,_=>rfl
  | x :: l,s,b=>joinQ_snoc l (mgI s x.vs) b
end Go.Proofs.YtdipoojjlddohaaGreat
end
