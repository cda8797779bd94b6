/- What the law TopRelative needs, joined of its texts by a program (slim2.py); part 3. -/
import Derived.Test.YtdipoojjlddohaaGreatZTopRelative1
import Derived.Test.YtdipoojjlddohaaGreatZTopRelative2
set_option linter.unusedVariables false
set_option linter.unusedSimpArgs false
set_option linter.unusedSectionVars false
set_option linter.unnecessarySimpa false
set_option maxRecDepth 100000
namespace Go.Proofs.YtdipoojjlddohaaGreat
open MC
open MT
def ofV (agg:Int) (m:Mk):Int :=
  if agg=1 then m.n else if agg=2 then m.s else if agg=3 then m.q else if agg=4 then (if -9223372036854775808<=m.hi-m.lo/\m.hi-m.lo<=9223372036854775807 then m.hi-m.lo else 0) else 0
def nearP (agg k:Int) (a b:Mk):Prop:=k*ofV agg a<=(k+1)*ofV agg b
instance (agg k:Int) (a b:Mk):Decidable (nearP agg k a b):=by unfold nearP;infer_instance
def nearB (agg k:Int) (a b:Mk):Bool:=decide (nearP agg k a b)
def leastV (agg:Int):Int:=if agg=2∨agg=3 then 0 else -4096
def smGood (agg wd k cap now:Int):Prop:=(1<=agg/\agg<=4)/\1<=wd/\wd<=1048576/\1<=k/\k<=64/\1<=cap/\cap<=65536/\0<=now/\now<=16777216
instance (agg wd k cap now:Int):Decidable (smGood agg wd k cap now):=by unfold smGood;infer_instance
def smAt (agg k:Int) (l:List Mk) (i:Nat):Prop :=
  (2<=i->¬ nearP agg k (mkAt l (i-2)) (mkAt l i))/\(1<=i->1<(mkAt l i).seq-(mkAt l (i-1)).seq->nearP agg k (mkAt l (i-1)) (mkAt l i))
instance (agg k:Int) (l:List Mk) (i:Nat):Decidable (smAt agg k l i):=by unfold smAt;infer_instance
def smValid (agg wd k cap now seq:Int) (l:List Mk):Prop:=smGood agg wd k cap now/\mvalid l seq cap now wd (leastV agg)/\∀ i,i<l.length->smAt agg k l i
instance (agg wd k cap now seq:Int) (l:List Mk):Decidable (smValid agg wd k cap now seq l):=by unfold smValid;infer_instance
def smvalE (agg wd k cap now seq:Int) (l:List Mk):Int:=if smValid agg wd k cap now seq l then 0 else 2
theorem smvalE_yes {agg wd k cap now seq:Int} {l:List Mk} (h:smValid agg wd k cap now seq l):smvalE agg wd k cap now seq l=0:=by unfold smvalE;rw [if_pos h]
theorem smvalE_no {agg wd k cap now seq:Int} {l:List Mk} (h:¬ smValid agg wd k cap now seq l):smvalE agg wd k cap now seq l=2:=by unfold smvalE;rw [if_neg h]
theorem of_smvalE {agg wd k cap now seq:Int} {l:List Mk} (h:smvalE agg wd k cap now seq l=0):smValid agg wd k cap now seq l:=by
  unfold smvalE at h;split at h
  · assumption
  · cases h
theorem smvalE_two {agg wd k cap now seq:Int} {l:List Mk}:smvalE agg wd k cap now seq l=0∨smvalE agg wd k cap now seq l=2:=by
  unfold smvalE;split
  · exact .inl rfl
  · exact .inr rfl
structure SmOut where
  agg:Int
  wd:Int
  k:Int
  cap:Int
  now:Int
  seq:Int
  ms:List Mk
  f:Int
def smZero (f:Int):SmOut:=⟨0,0,0,0,0,0,[],f⟩
def smTick (agg wd k cap now seq:Int) (l:List Mk) (tt9:Int):SmOut :=
  if smvalE agg wd k cap now seq l=0 then (if tt9<now∨16777216<tt9 then smZero 3 else ⟨agg,wd,k,cap,tt9,seq,dropM tt9 wd l,0⟩) else smZero 2
def smFull (cap seq:Int) (l:List Mk):Prop:=(l≠[]/\(mkAt l 0).n=cap)∨seq=1099511627776
instance (cap seq:Int) (l:List Mk):Decidable (smFull cap seq l):=by unfold smFull;infer_instance
def smAdd (agg wd k cap now seq:Int) (l:List Mk) (v:Int):SmOut :=
  if smvalE agg wd k cap now seq l=0 then (if v<leastV agg∨4096<v then smZero 4 else if smFull cap seq l then smZero 5 else ⟨agg,wd,k,cap,now,seq+1,prune (nearB agg k) (incl l (seq+1) now v),0⟩) else smZero 2
theorem leastV_ge (agg:Int) : -4096<=leastV agg:=by unfold leastV;split<;>omega
theorem ofV_bound {agg seq cap now w:Int} {m:Mk} (h:oneP seq cap now w (leastV agg) m) (hc:cap<=65536):0<=ofV agg m/\ofV agg m<=1099511627776:=by
  obtain ⟨h1,h2,h3,h4,h5,h6,h7,h8,h9,p1,p2,p3,p4,p5⟩:=h;have hn:0<=m.n:=by omega
  have lg:=leastV_ge agg
  have b1:m.n*m.hi<=65536*4096:=by
    rcases Int.le_total 0 m.hi with g | g
    · exact Int.mul_le_mul (by omega) h8 g (by omega)
    · have:m.n*m.hi<=0:=Int.mul_nonpos_of_nonneg_of_nonpos hn g;omega
  unfold ofV;split
  · omega
  · split
    · rename_i _ ha;have hl:leastV agg=0:=by unfold leastV;rw [if_pos (.inl ha)]
      have:0<=m.n*m.lo:=Int.mul_nonneg hn (by omega);omega
    · split
      · omega
      · split
        · rw [if_pos (by omega)];omega
        · omega
theorem ofV_inc {agg seq cap now w v:Int} {a b:Mk} (ha:oneP seq cap now w (leastV agg) a) (hb:oneP seq cap now w (leastV agg) b) (h:twoP a b) (hl:leastV agg<=v) (hv:v<=4096) (hagg:1<=agg/\agg<=4) :
    0<=ofV agg (inc v b)-ofV agg b/\ofV agg (inc v a)-ofV agg a<=ofV agg (inc v b)-ofV agg b:=by
  obtain ⟨_,_,_,_,_,_,a7,a8,a9,_⟩:=ha;obtain ⟨_,_,_,_,_,_,b7,b8,b9,_⟩:=hb;obtain ⟨_,_,t3,t4,_⟩:=h;have lg:=leastV_ge agg;have vv:=sq_nonneg v;by_cases c1:agg=1
  · subst c1;simp only [ofV,inc];simp;omega
  · by_cases c2:agg=2
    · subst c2;have hl0:leastV 2=0:=by decide
      simp only [ofV,inc];simp;omega
    · by_cases c3:agg=3
      · subst c3;simp only [ofV,inc];simp;omega
      · have c4:agg=4:=by omega
        subst c4;have r1:ofV 4 (inc v a)=max a.hi v-min a.lo v:=by simp only [ofV,inc];simp;omega
        have r2:ofV 4 (inc v b)=max b.hi v-min b.lo v:=by simp only [ofV,inc];simp;omega
        have r3:ofV 4 a=a.hi-a.lo:=by simp only [ofV];simp;omega
        have r4:ofV 4 b=b.hi-b.lo:=by simp only [ofV];simp;omega
        rw [r1,r2,r3,r4];omega
theorem near_inc {agg k seq cap now w v:Int} {a b:Mk} (ha:oneP seq cap now w (leastV agg) a) (hb:oneP seq cap now w (leastV agg) b) (h:twoP a b) (hl:leastV agg<=v) (hv:v<=4096) (hagg:1<=agg/\agg<=4) (hk:1<=k) (hn:nearP agg k a b):nearP agg k (inc v a) (inc v b):=by
  obtain ⟨h1,h2⟩:=ofV_inc ha hb h hl hv hagg;unfold nearP at hn |-
  generalize ofV agg (inc v a)=x' at *;generalize ofV agg (inc v b)=y' at *;generalize ofV agg a=x at *;generalize ofV agg b=y at *;have e1:k*(x'-x)<=k*(y'-y):=Int.mul_le_mul_of_nonneg_left h2 (by omega);rw [Int.mul_sub,Int.mul_sub] at e1;have e2:(k+1)*y'=k*y'+y':=by rw [Int.add_mul,Int.one_mul]
  have e3:(k+1)*y=k*y+y:=by rw [Int.add_mul,Int.one_mul]
  omega
def Gap (near:Mk->Mk->Prop) (l:List Mk):Prop:=∀ i,i+1<l.length->1<(mkAt l (i+1)).seq-(mkAt l i).seq->near (mkAt l i) (mkAt l (i+1))
def Far (near:Mk->Mk->Prop) (l:List Mk):Prop:=∀ i,i+2<l.length->¬ near (mkAt l i) (mkAt l (i+2))
theorem smAt_iff {agg k:Int} {l:List Mk}:(∀ i,i<l.length->smAt agg k l i)↔Far (nearP agg k) l/\Gap (nearP agg k) l:=by
  constructor
  · intro h;exact ⟨fun i hi=>by have:=(h (i+2) hi).1 (by omega);simpa using this,fun i hi hg=>by have:=(h (i+1) hi).2 (by omega);simp only [Nat.add_sub_cancel] at this;exact this hg⟩
  · rintro ⟨h1,h2⟩ i hi;refine ⟨fun h=>?_,fun h hg=>?_⟩
    · obtain ⟨j,rfl⟩:∃ j,i=j+2:=⟨i-2,by omega⟩
      simpa using h1 j hi
    · obtain ⟨j,rfl⟩:∃ j,i=j+1:=⟨i-1,by omega⟩
      simp only [Nat.add_sub_cancel] at hg |-
      exact h2 j hi hg
theorem Far.drop {near:Mk->Mk->Prop} {l:List Mk} (h:Far near l) (k:Nat):Far near (l.drop k):=fun i hi=>by
  rw [mkAt_drop,mkAt_drop];have:=h (k+i) (by simp at hi;omega)
  rwa [Nat.add_assoc] at this
theorem Gap.drop {near:Mk->Mk->Prop} {l:List Mk} (h:Gap near l) (k:Nat):Gap near (l.drop k):=fun i hi hg=>by
  rw [mkAt_drop,mkAt_drop] at hg |-
  have:=h (k+i) (by simp at hi;omega);rw [Nat.add_assoc] at this;exact this hg
theorem Gap.tail {near:Mk->Mk->Prop} {a:Mk} {l:List Mk} (h:Gap near (a :: l)):Gap near l:=fun i hi hg=>h (i+1) (by simpa using hi) hg
theorem prune_far {near:Mk->Mk->Prop} {nb:Mk->Mk->Bool} (hnb:∀ a b,nb a b=true↔near a b):∀ (k:Nat) (l:List Mk),l.length<=k->Gap near l->Far near (prune nb l)/\Gap near (prune nb l)
  | 0,l,h,_=>by
    have:l=[]:=by cases l<;>simp_all
    subst this;rw [prune_nil];exact ⟨fun i hi=>by simp at hi,fun i hi=>by simp at hi⟩
  | k+1,[],_,_=>by
    rw [prune_nil];exact ⟨fun i hi=>by simp at hi,fun i hi=>by simp at hi⟩
  | k+1,a :: r,h,hg=>by
    rw [prune_cons];have hr:r.length<=k:=by simpa using h
    obtain ⟨f1,g1⟩:=prune_far hnb k (r.drop (lastN (nb a) r)) (by simp;omega) (hg.tail.drop _);have hs:=lastN_spec (nb a) r;generalize hp:lastN (nb a) r=p at *;cases hd:r.drop p with
    | nil =>
      rw [prune_nil];exact ⟨fun i hi=>by simp at hi,fun i hi=>by simp at hi⟩
    | cons b r' =>
      rw [hd] at f1 g1;rw [prune_cons] at f1 g1 |-
      have hpl:p<r.length:=by
        have:=congrArg List.length hd;simp at this;omega
      have hb:b=mkAt r p:=by
        have:=drop_mk hpl;rw [hd] at this;simpa using (List.cons.inj this).1
      have sub:∀ c∈prune nb (r'.drop (lastN (nb b) r')),¬ near a c:=by
        intro c hc;have hc:=((prune_sub nb _ _ (Nat.le_refl _)).trans (List.drop_sublist _ _)).subset hc;obtain ⟨j,hj,rfl⟩:=mem_at hc
        have e:mkAt r' j=mkAt r (p+1+j):=by
          have h1:=drop_mk hpl;rw [hd] at h1;have h2:=(List.cons.inj h1).2;rw [h2,mkAt_drop]
        have hj2:p+1+j<r.length:=by
          have:=congrArg List.length hd;simp at this;omega
        have hf:nb a (mkAt r (p+1+j))=false:=by
          rcases hs with hs | hs
          · exact hs _ hj2
          · exact hs.2.2 _ (by omega) hj2
        rw [e];intro hn;rw [(hnb _ _).2 hn] at hf;cases hf
      refine ⟨fun i hi=>?_,fun i hi hgp=>?_⟩
      · cases i with
        | zero =>
          rw [mkAt_zero,mkAt_succ,mkAt_succ];exact sub _ (mkAt_mem (by simpa using hi))
        | succ i=>exact f1 i (by simp at hi |-;omega)
      · cases i with
        | zero =>
          rw [mkAt_zero,mkAt_succ,mkAt_zero] at hgp |-
          rcases hs with hs | hs
          · have p0:p=0:=by rw [<- hp];exact lastN_none hs
            subst p0;rw [hb] at hgp |-
            exact hg 0 (by simpa using hpl) hgp
          · rw [hb];exact (hnb _ _).1 hs.2.1
        | succ i=>exact g1 i (by simp at hi |-;omega) hgp
theorem gap_incl {agg k seq cap now w v:Int} {l:List Mk} (hV:VL l seq cap now w (leastV agg)) (hg:Gap (nearP agg k) l) (hl:leastV agg<=v) (hv:v<=4096) (hagg:1<=agg/\agg<=4) (hk:1<=k):Gap (nearP agg k) (incl l (seq+1) now v):=by
  intro i hi hgp;rw [incl_len] at hi;unfold incl at hgp |-
  by_cases h:i+1<l.length
  · have e1:mkAt (l.map (inc v) ++ [newMk (seq+1) now v]) (i+1)=inc v (mkAt l (i+1)):=by
      rw [mkAt_append_left (by simpa using h),mkAt_map h]
    have e0:mkAt (l.map (inc v) ++ [newMk (seq+1) now v]) i=inc v (mkAt l i):=by
      rw [mkAt_append_left (by simp;omega),mkAt_map (by omega)]
    rw [e1,e0] at hgp |-
    exact near_inc (hV.one _ (mkAt_mem (by omega))) (hV.one _ (mkAt_mem h)) (pairwise_at hV.two (by omega) h) hl hv hagg hk (hg i h hgp)
  · exfalso;have hil:i+1=l.length:=by omega
    have e1:mkAt (l.map (inc v) ++ [newMk (seq+1) now v]) (i+1)=newMk (seq+1) now v:=by
      rw [mkAt_append_right (by simp;omega)];simp only [List.length_map];rw [show i+1-l.length=0 by omega];rfl
    have e0:mkAt (l.map (inc v) ++ [newMk (seq+1) now v]) i=inc v (mkAt l i):=by
      rw [mkAt_append_left (by simp;omega),mkAt_map (by omega)]
    rw [e1,e0] at hgp;have hne:l≠[]:=fun e=>by subst e;simp at hil
    have:=(hV.last hne).1;rw [show l.length-1=i by omega] at this;have e3:(inc v (mkAt l i)).seq=(mkAt l i).seq:=rfl;have e4:(newMk (seq+1) now v).seq=seq+1:=rfl;rw [e3,e4] at hgp;omega
theorem VL.n_lt {l:List Mk} {seq cap now w least:Int} (h:VL l seq cap now w least) (h0:¬ (l≠[]/\(mkAt l 0).n=cap)):∀ m∈l,m.n<cap:=by
  intro m hm;cases l with
  | nil=>simp at hm
  | cons a r =>
    have ha:=h.one a (by simp);have hac:a.n≠cap:=fun e=>h0 ⟨by simp,e⟩;rcases List.mem_cons.1 hm with rfl | hm'
    · have:=ha.2.2.2.1;omega
    · have hb:=h.one m hm;have t:=(List.rel_of_pairwise_cons h.two hm').1;have e1:=ha.2.2.1;have e2:=hb.2.2.1;have e3:=ha.2.2.2.1;omega
theorem smTick_valid {agg wd k cap now seq tt9:Int} {l:List Mk} (h:smValid agg wd k cap now seq l) (h0:¬ (tt9<now∨16777216<tt9)):smValid agg wd k cap tt9 seq (dropM tt9 wd l):=by
  obtain ⟨⟨h1,h2,h3,h4,h5,h6,h7,h8,h9⟩,hm,hs⟩:=h;obtain ⟨hq,hV⟩:=mvalid_iff.1 hm;refine ⟨⟨h1,h2,h3,h4,h5,h6,h7,by omega,by omega⟩,mvalid_iff.2 ⟨hq,hV.tick (by omega)⟩,?_⟩;obtain ⟨f,g⟩:=smAt_iff.1 hs;obtain ⟨j,_,e⟩:=dropM_suffix tt9 wd l;rw [e];exact smAt_iff.2 ⟨f.drop j,g.drop j⟩
theorem smAdd_valid {agg wd k cap now seq v:Int} {l:List Mk} (h:smValid agg wd k cap now seq l) (h0:¬ (v<leastV agg∨4096<v)) (h1:¬ smFull cap seq l):smValid agg wd k cap now (seq+1) (prune (nearB agg k) (incl l (seq+1) now v)):=by
  obtain ⟨hG,hm,hs⟩:=h;obtain ⟨hq,hV⟩:=mvalid_iff.1 hm;have hG':=hG;obtain ⟨g1,g2,g3,g4,g5,g6,g7,g8,g9⟩:=hG;have hn:=hV.n_lt (fun a=>h1 (.inl a));have hsq:seq≠1099511627776:=fun e=>h1 (.inr e);have lg:=leastV_ge agg;obtain ⟨f,g⟩:=smAt_iff.1 hs;have gi:=gap_incl hV g (by omega) (by omega) g1 g4 (v:=v);refine ⟨hG',mvalid_iff.2 ⟨by omega,(hV.incl hq.1 hn g6 g8 g2 (by omega) (by omega) (by omega)).prune _⟩,smAt_iff.2 (prune_far (fun a b=>?_) _ _ (Nat.le_refl _) gi)⟩;unfold nearB;exact decide_eq_true_iff
end Go.Proofs.YtdipoojjlddohaaGreat
namespace Go.Proofs.YtdipoojjlddohaaGreat
open MC
open MT
open Go.RowKit

def Row (w:World) (b:Nat) (t:TypeId) (cs:Array Value):Prop:=w.heap[b]?=some (.cells cs t (0,0))
section
variable {w w':World} {b:Nat} {t:TypeId} {cs:Array Value}
theorem row_cell (h:Row w b t cs) (i:Nat):w.cell? ⟨b,i,none⟩=cs[i]?:=by
  unfold Row at h;simp [World.cell?,h]
theorem row_free (h:Row w b t cs) (i:Nat):w.frozen? ⟨b,i,none⟩=false:=by
  unfold Row at h;simp [World.frozen?,h]
theorem row_lt (h:Row w b t cs):b<w.heap.size:=lt_of_block h
theorem row_new (hb:b=w.heap.size):Row (w.alloc (.cells cs t)) b t cs:=by
  subst hb;unfold Row;show (w.heap.push _)[w.heap.size]?=_;simp
theorem row_alloc (h:Row w b t cs) (o:Obj):Row (w.alloc o) b t cs:=(Below.heap_alloc w o b (row_lt h)).trans h
theorem row_call (h:Row w b t cs) (hb:Below w w w'):Row w' b t cs:=(hb.block b (row_lt h)).trans h
theorem row_grown {r:Option Nat} (h:Row w b t cs) (hg:w.grownBy w' r) (hne:r≠some b):Row w' b t cs:=(hg.block b (row_lt h) (fun e=>hne e.symm)).trans h
theorem row_drew (h:Row w b t cs):Row w.drew b t cs:=h
theorem row_other (h:Row w b t cs) {p:Addr} (hne:b≠p.block) (v:Value):Row (w.setCell p v) b t cs:=(Below.heap_setCell w p v b hne).trans h
theorem row_set (h:Row w b t cs) (i:Nat) (v:Value):Row (w.setCell ⟨b,i,none⟩ v) b t (cs.setIfInBounds i v):=by
  have hlt:=row_lt h;unfold Row at *;have h':w.heap[b] = .cells cs t (0,0):=by simpa [Array.getElem?_eq_getElem hlt] using h
  show (w.heap.modify b _)[b]?=_;rw [Array.getElem?_eq_getElem (by simpa using hlt),Array.getElem_modify_self,h'];rfl
theorem row_two {x y:Value} (h:Row w b t #[x,y]):w.cell? ⟨b,0,none⟩=some x/\w.cell? ⟨b,1,none⟩=some y/\w.frozen? ⟨b,0,none⟩=false/\w.frozen? ⟨b,1,none⟩=false :=
  ⟨row_cell h 0,row_cell h 1,row_free h 0,row_free h 1⟩
theorem row_two_set {x y u v:Value} (h:Row w b t #[x,y]):Row ((w.setCell ⟨b,0,none⟩ u).setCell ⟨b,1,none⟩ v) b t #[u,v]:=row_set (row_set h 0 u) 1 v
theorem row_two_other {c:Nat} {u v:Value} (h:Row w b t cs) (hne:b≠c):Row ((w.setCell ⟨c,0,none⟩ u).setCell ⟨c,1,none⟩ v) b t cs:=row_other (row_other h hne u) hne v
theorem row_one {x:Value} (h:Row w b t #[x]):w.cell? ⟨b,0,none⟩=some x/\w.frozen? ⟨b,0,none⟩=false:=⟨row_cell h 0,row_free h 0⟩
theorem size_setCell (p:Addr) (v:Value):(w.setCell p v).heap.size=w.heap.size:=by simp [World.setCell]
end
structure R1 (w:World) (b:Nat) (x0:Value):Prop where
  c0:w.cell? ⟨b,0,none⟩=some x0
  f0:w.frozen? ⟨b,0,none⟩=false
theorem r1 {w:World} {b:Nat} {t:TypeId} {x0:Value} (h:Row w b t #[x0]):R1 w b x0:=⟨row_cell h 0,row_free h 0⟩
structure R2 (w:World) (b:Nat) (x0 x1:Value):Prop where
  c0:w.cell? ⟨b,0,none⟩=some x0
  c1:w.cell? ⟨b,1,none⟩=some x1
  f0:w.frozen? ⟨b,0,none⟩=false
  f1:w.frozen? ⟨b,1,none⟩=false
theorem r2 {w:World} {b:Nat} {t:TypeId} {x0 x1:Value} (h:Row w b t #[x0,x1]):R2 w b x0 x1:=⟨row_cell h 0,row_cell h 1,row_free h 0,row_free h 1⟩
structure R3 (w:World) (b:Nat) (x0 x1 x2:Value):Prop where
  c0:w.cell? ⟨b,0,none⟩=some x0
  c1:w.cell? ⟨b,1,none⟩=some x1
  c2:w.cell? ⟨b,2,none⟩=some x2
  f0:w.frozen? ⟨b,0,none⟩=false
  f1:w.frozen? ⟨b,1,none⟩=false
  f2:w.frozen? ⟨b,2,none⟩=false
theorem r3 {w:World} {b:Nat} {t:TypeId} {x0 x1 x2:Value} (h:Row w b t #[x0,x1,x2]):R3 w b x0 x1 x2:=⟨row_cell h 0,row_cell h 1,row_cell h 2,row_free h 0,row_free h 1,row_free h 2⟩
structure R4 (w:World) (b:Nat) (x0 x1 x2 x3:Value):Prop where
  c0:w.cell? ⟨b,0,none⟩=some x0
  c1:w.cell? ⟨b,1,none⟩=some x1
  c2:w.cell? ⟨b,2,none⟩=some x2
  c3:w.cell? ⟨b,3,none⟩=some x3
  f0:w.frozen? ⟨b,0,none⟩=false
  f1:w.frozen? ⟨b,1,none⟩=false
  f2:w.frozen? ⟨b,2,none⟩=false
  f3:w.frozen? ⟨b,3,none⟩=false
theorem r4 {w:World} {b:Nat} {t:TypeId} {x0 x1 x2 x3:Value} (h:Row w b t (J25 x0 x1 x2 x3)):R4 w b x0 x1 x2 x3:=⟨row_cell h 0,row_cell h 1,row_cell h 2,row_cell h 3,row_free h 0,row_free h 1,row_free h 2,row_free h 3⟩
structure R5 (w:World) (b:Nat) (x0 x1 x2 x3 x4:Value):Prop where
  c0:w.cell? ⟨b,0,none⟩=some x0
  c1:w.cell? ⟨b,1,none⟩=some x1
  c2:w.cell? ⟨b,2,none⟩=some x2
  c3:w.cell? ⟨b,3,none⟩=some x3
  c4:w.cell? ⟨b,4,none⟩=some x4
  f0:w.frozen? ⟨b,0,none⟩=false
  f1:w.frozen? ⟨b,1,none⟩=false
  f2:w.frozen? ⟨b,2,none⟩=false
  f3:w.frozen? ⟨b,3,none⟩=false
  f4:w.frozen? ⟨b,4,none⟩=false
theorem r5 {w:World} {b:Nat} {t:TypeId} {x0 x1 x2 x3 x4:Value} (h:Row w b t (J21 x0 x1 x2 x3 x4)):R5 w b x0 x1 x2 x3 x4:=⟨row_cell h 0,row_cell h 1,row_cell h 2,row_cell h 3,row_cell h 4,row_free h 0,row_free h 1,row_free h 2,row_free h 3,row_free h 4⟩
structure R6 (w:World) (b:Nat) (x0 x1 x2 x3 x4 x5:Value):Prop where
  c0:w.cell? ⟨b,0,none⟩=some x0
  c1:w.cell? ⟨b,1,none⟩=some x1
  c2:w.cell? ⟨b,2,none⟩=some x2
  c3:w.cell? ⟨b,3,none⟩=some x3
  c4:w.cell? ⟨b,4,none⟩=some x4
  c5:w.cell? ⟨b,5,none⟩=some x5
  f0:w.frozen? ⟨b,0,none⟩=false
  f1:w.frozen? ⟨b,1,none⟩=false
  f2:w.frozen? ⟨b,2,none⟩=false
  f3:w.frozen? ⟨b,3,none⟩=false
  f4:w.frozen? ⟨b,4,none⟩=false
  f5:w.frozen? ⟨b,5,none⟩=false
theorem r6 {w:World} {b:Nat} {t:TypeId} {x0 x1 x2 x3 x4 x5:Value} (h:Row w b t (J6 x0 x1 x2 x3 x4 x5)):R6 w b x0 x1 x2 x3 x4 x5:=⟨row_cell h 0,row_cell h 1,row_cell h 2,row_cell h 3,row_cell h 4,row_cell h 5,row_free h 0,row_free h 1,row_free h 2,row_free h 3,row_free h 4,row_free h 5⟩
structure R7 (w:World) (b:Nat) (x0 x1 x2 x3 x4 x5 x6:Value):Prop where
  c0:w.cell? ⟨b,0,none⟩=some x0
  c1:w.cell? ⟨b,1,none⟩=some x1
  c2:w.cell? ⟨b,2,none⟩=some x2
  c3:w.cell? ⟨b,3,none⟩=some x3
  c4:w.cell? ⟨b,4,none⟩=some x4
  c5:w.cell? ⟨b,5,none⟩=some x5
  c6:w.cell? ⟨b,6,none⟩=some x6
  f0:w.frozen? ⟨b,0,none⟩=false
  f1:w.frozen? ⟨b,1,none⟩=false
  f2:w.frozen? ⟨b,2,none⟩=false
  f3:w.frozen? ⟨b,3,none⟩=false
  f4:w.frozen? ⟨b,4,none⟩=false
  f5:w.frozen? ⟨b,5,none⟩=false
  f6:w.frozen? ⟨b,6,none⟩=false
theorem r7 {w:World} {b:Nat} {t:TypeId} {x0 x1 x2 x3 x4 x5 x6:Value} (h:Row w b t (J1 x0 x1 x2 x3 x4 x5 x6)):R7 w b x0 x1 x2 x3 x4 x5 x6:=⟨row_cell h 0,row_cell h 1,row_cell h 2,row_cell h 3,row_cell h 4,row_cell h 5,row_cell h 6,row_free h 0,row_free h 1,row_free h 2,row_free h 3,row_free h 4,row_free h 5,row_free h 6⟩
structure R8 (w:World) (b:Nat) (x0 x1 x2 x3 x4 x5 x6 x7:Value):Prop where
  c0:w.cell? ⟨b,0,none⟩=some x0
  c1:w.cell? ⟨b,1,none⟩=some x1
  c2:w.cell? ⟨b,2,none⟩=some x2
  c3:w.cell? ⟨b,3,none⟩=some x3
  c4:w.cell? ⟨b,4,none⟩=some x4
  c5:w.cell? ⟨b,5,none⟩=some x5
  c6:w.cell? ⟨b,6,none⟩=some x6
  c7:w.cell? ⟨b,7,none⟩=some x7
  f0:w.frozen? ⟨b,0,none⟩=false
  f1:w.frozen? ⟨b,1,none⟩=false
  f2:w.frozen? ⟨b,2,none⟩=false
  f3:w.frozen? ⟨b,3,none⟩=false
  f4:w.frozen? ⟨b,4,none⟩=false
  f5:w.frozen? ⟨b,5,none⟩=false
  f6:w.frozen? ⟨b,6,none⟩=false
  f7:w.frozen? ⟨b,7,none⟩=false
theorem r8 {w:World} {b:Nat} {t:TypeId} {x0 x1 x2 x3 x4 x5 x6 x7:Value} (h:Row w b t #[x0,x1,x2,x3,x4,x5,x6,x7]):R8 w b x0 x1 x2 x3 x4 x5 x6 x7:=⟨row_cell h 0,row_cell h 1,row_cell h 2,row_cell h 3,row_cell h 4,row_cell h 5,row_cell h 6,row_cell h 7,row_free h 0,row_free h 1,row_free h 2,row_free h 3,row_free h 4,row_free h 5,row_free h 6,row_free h 7⟩
theorem rc9 {w:World} {b:Nat} {t:TypeId} {cs:Array Value} (h:Row w b t cs) (i:Nat) {x:Value} {r:List Value} (e:cs.toList.drop i=x :: r:=by exact rfl):w.cell? ⟨b,i,none⟩=some x:=by
  obtain ⟨l⟩:=cs;have e':l.drop i=x :: r:=e;rw [row_cell h i];have k:l[i]?=some x:=by rw [<- List.head?_drop,e'];rfl
  simpa using k
end Go.Proofs.YtdipoojjlddohaaGreat
namespace Go.Proofs.YtdipoojjlddohaaGreat
open MC
open MT
open Go.RowKit Go.WideShapes Go.ChangeShapes
section
variable {H:Type} {enc:TypeId×Value->H} {P:Program}
theorem post_of_below {f:Func} {s:ChangeSpec} {apart fresh handsOn again:Bool} {W W':World} {args:Array Value} {v:Value} {ds gs:List (DataW H)} {before pa pv:List MemPlace}
    (hW:DataW.Whole enc P f.params.toList s.vars apart W args.toList ds gs before)
    (hres:∀ (b:Nat) (sp:Nat->Bool) (hd:Bool),DataW.TrodAll enc P W' b sp hd f.resultTypes.toList (v.resultList f.resultTypes.size) (s.fn H (ds ++ gs)).results [])
    (hargs:∀ sp:Nat->Bool,(∀ p∈before,sp p.block=true)->DataW.TrodAll enc P W' 0 sp true f.params.toList args.toList (s.fn H (ds ++ gs)).args pa)
    (hvars:∀ sp:Nat->Bool,(∀ p∈before,sp p.block=true)->DataW.TrodVars enc P W' sp s.vars (s.fn H (ds ++ gs)).vars pv)
    (hps:before=pa ++ pv) (hb:Below W.heap.size W W')
    (hok:∀ (j:Nat) (t:TypeId) (r:Value),f.resultTypes[j]?=some t->(v.resultList f.resultTypes.size)[j]?=some r->Value.okWide P W' .any 0 t r) :
    s.post enc P f apart fresh handsOn again W args v W':=by
  have hlt:∀ p∈before,p.block<W.heap.size:=fun p hp=>hW.lt p hp;have hold:∀ p∈before,(fun b=>decide (b<W.heap.size)) p.block=true:=fun p hp=>by simpa using hlt p hp
  refine ⟨ds,gs,before,[],pa,pv,hW,hres _ _ _,hargs _ hold,hvars _ hold,World.keptBut_mono (fun p hp=>⟨hp,?_⟩) (hb.frame (·∈before)),fun _=>?_⟩
  · rw [hps,List.mem_append] at hp;exact Or.inr hp
  · obtain ⟨_,_,_,_,_,hz,hn⟩:=hW;refine ⟨hok,_,_,([] ++ pa) ++ pv,⟨[] ++ pa,pv,trodAll_append (hargs _ (fun _ _=>rfl)) (hres _ _ _),hvars _ (fun _ _=>rfl),rfl,?_,?_⟩,?_⟩
    · intro b off hp;have hin:MemPlace.cell b off∈before:=by rw [hps];simpa using hp
      rw [hb.frozen (hlt _ hin)];exact hz b off hin
    · intro ha;have:=hn ha;rw [hps] at this;simpa using this
    · intro p hp _;rw [hps];simpa using hp
end

def Kept (w w':World) (L:List (Nat×TypeId×Array Value)):Prop:=(∀ x∈L,Row w' x.1 x.2.1 x.2.2)/\Below w w w'
section
variable {w w' w'':World} {L:List (Nat×TypeId×Array Value)}
theorem Kept.call (h:Kept w w' L) (k:Below w' w' w''):Kept w w'' L:=⟨fun x hx=>row_call (h.1 x hx) k,h.2.trans (k.mono h.2.size)⟩
theorem Kept.alloc (h:Kept w w' L) (o:Obj):Kept w (w'.alloc o) L:=⟨fun x hx=>row_alloc (h.1 x hx) o,h.2.alloc h.2.size o⟩
theorem Kept.drew (h:Kept w w' L):Kept w w'.drew L:=⟨fun x hx=>h.1 x hx,h.2.drew⟩
theorem Kept.more {b:Nat} {t:TypeId} {cs:Array Value} (h:Kept w w' L) (r:Row w' b t cs):Kept w w' ((b,t,cs) :: L):=⟨fun x hx=>by
  rcases List.mem_cons.1 hx with rfl | hx
  · exact r
  · exact h.1 x hx,h.2⟩
end
section
variable {H:Type} {enc:TypeId×Value->H} {P:Program}
theorem trodAll_stays (hl:laidOutB P=true) {W W':World} {sp':Nat->Bool} (hb:Below W.heap.size W W'):∀ {ts:List TypeId} {vs:List Value} {ds:List (DataW H)} {ps:List MemPlace},
    (∀ t∈ts,P.readableRec t=true/\t<P.types.size)->DataW.TrodAll enc P W 0 (fun _=>true) true ts vs ds ps->(∀ p∈ps,p.block<W.heap.size)->(∀ p∈ps,sp' p.block=true)->DataW.TrodAll enc P W' 0 sp' true ts vs ds ps
  | [],vs,ds,ps,_,h,_,_=>by
    obtain ⟨rfl,rfl,rfl⟩:=trodAll_nil h;rfl
  | t :: ts,vs,ds,ps,ht,h,hlt,hs=>by
    obtain ⟨v,vs',d,ds',p,q,rfl,rfl,rfl,h1,h2⟩:=trodAll_cons h;have t1:=ht t (by simp)
    exact trodAll_cons_mk (WideElems.Trod_stays hl t1.1 t1.2 h1 (fun x hx=>hb.same (hlt x (by simp [hx]))) (fun x hx=>hs x (by simp [hx])))
      (trodAll_stays hl hb (fun t h=>ht t (by simp [h])) h2 (fun x hx=>hlt x (by simp [hx])) (fun x hx=>hs x (by simp [hx])))
end

/-! A slice that reads as a list, nil let in (the words are the guide's, extra-words.md, copied as that page bids). -/
theorem block_of_add (a:Addr) (n:Nat):(a.add n).block=a.block:=by unfold Addr.add;split<;>rfl
theorem add_of_add (a:Addr) (i j:Nat):(a.add i).add j=a.add (i+j):=by
  unfold Addr.add;by_cases hi:i=0<;>by_cases hj:j=0<;>simp [hi,hj,Nat.add_assoc]
def Reads (w:World) (B size:Nat) (A:Option Addr) (n:Nat) (xs:List Value):Prop :=
  xs.length=n*size/\(0<n->∃ ad,A=some ad/\ad.block<B/\∀ j u,xs[j]?=some u->w.cell? (ad.add j)=some u)
section
variable {w w':World} {B B' size n:Nat} {A:Option Addr} {xs:List Value}
theorem Reads.none_:Reads w B size A 0 []:=⟨by simp,fun h=>absurd h (by omega)⟩
theorem Reads.keep (h:Reads w B size A n xs) (hk:∀ p:Addr,p.block<B->w'.cell? p=w.cell? p):Reads w' B size A n xs :=
  ⟨h.1,fun hn=>by
    obtain ⟨ad,e,hb,hc⟩:=h.2 hn
    exact ⟨ad,e,hb,fun j u hu=>(hk _ (by rw [block_of_add];exact hb)).trans (hc j u hu)⟩⟩
theorem Reads.more (h:Reads w B size A n xs) (hB:B<=B'):Reads w B' size A n xs :=
  ⟨h.1,fun hn=>by
    obtain ⟨ad,e,hb,hc⟩:=h.2 hn
    exact ⟨ad,e,by omega,hc⟩⟩
theorem Reads.below (h:Reads w B size A n xs) (hb:Below B w w'):Reads w' B size A n xs:=h.keep fun _ hp=>hb.cell hp
theorem Reads.call (h:Reads w B size A n xs) (hB:B<=w.heap.size) (hb:Below w w w'):Reads w' B size A n xs:=h.keep fun _ hp=>hb.cell (by omega)
theorem Reads.drew (h:Reads w B size A n xs):Reads w.drew B size A n xs:=h
theorem Reads.drewN (h:Reads w B size A n xs) (k:Nat):Reads (w.drewN k) B size A n xs:=h
theorem Reads.alloc (h:Reads w B size A n xs) (hB:B<=w.heap.size) (o:Obj):Reads (w.alloc o) B size A n xs:=h.keep fun p hp=>World.cell?_alloc_lt w o p (by omega)
theorem Reads.setCell (h:Reads w B size A n xs) {p:Addr} (hB:B<=p.block) (u:Value):Reads (w.setCell p u) B size A n xs :=
  h.keep fun q hq=>World.cell?_setCell_other w p q u (fun e=>by subst e;omega)
theorem Reads.cut (h:Reads w B size A n xs) {k cap:Nat} (hk:k<=n) (hc:n<=cap) :
    Reads w B size (if cap=k then A else A.map (·.add (k*size))) (n-k) (xs.drop (k*size)):=by
  refine ⟨by rw [List.length_drop,h.1,Nat.sub_mul],fun hn=>?_⟩;obtain ⟨ad,rfl,hb,hcell⟩:=h.2 (by omega);rw [if_neg (by omega)];refine ⟨ad.add (k*size),rfl,by rw [block_of_add];exact hb,fun j u hu=>?_⟩;rw [add_of_add];exact hcell _ u (by rw [<- hu,List.getElem?_drop])
theorem Reads.of_own {base:Nat} {e:TypeId} {c:Nat} (h:w.ownsRow base e size (.slice A n c) n xs):Reads w w.heap.size size A n xs:=by
  refine ⟨h.1,fun hn=>?_⟩;obtain ⟨g,cap,hv,_,hlt⟩:=h.form hn;have hA:A=some ⟨g,0,none⟩:=by injection hv
  subst hA;exact ⟨_,rfl,hlt,h.cells (g:=g) rfl⟩
end
end Go.Proofs.YtdipoojjlddohaaGreat
namespace Go.Proofs.YtdipoojjlddohaaGreat
open MC
open MT
open Go.RowKit
section
variable {P:Program} (w:World)

theorem run_append_of_nil (base:Nat) (t ty e:TypeId) (i:TypeInfo) (size:Nat) (ht:P.underlying t=some (.slice e)) (hi:P.info? e=some i)
    (v:Value) (n:Nat) (xs:List Value) (hown:w.ownsRow base e size v n xs) (c:Nat):(Builtin.append_ #[t,t] ty #[v, .slice none 0 c]).run P w = .ok v w:=by
  rcases hown.2 with ⟨rfl,rfl⟩ | ⟨g,cap,cur,rfl,_,_,hnc,_⟩
  · simp [Builtin.append_,run_underlying ht,sizeOf,typeInfo,hi,Builtin.lenOf,Builtin.firstCells]
  · simp [Builtin.append_,run_underlying ht,sizeOf,typeInfo,hi,Builtin.lenOf,Builtin.firstCells,hnc,storeCells]

theorem run_append_any (base:Nat) (t ty e:TypeId) (i:TypeInfo) (z:Value) (size bytes:Nat) (ht:P.underlying t=some (.slice e)) (hi:P.info? e=some i) (hz:i.zero=some z)
    (hsize:i.size=size) (hby:i.bytes=bytes) (hzs:z.cells.size=size) (hsz:0<size)
    (v:Value) (n:Nat) (xs:List Value) (hown:w.ownsRow base e size v n xs)
    (B:Nat) (A:Option Addr) (m c:Nat) (news:List Value) (hr:Reads w B size A m news) (h1:∀ u∈news,u.oneCell'=true)
    (h63:n+m<=maxLen) (hbytes:(n+m)*bytes<=140737488355328) (hbase:base<=w.heap.size) :
    ∃ v' w',(Builtin.append_ #[t,t] ty #[v, .slice A m c]).run P w = .ok v' w'/\w'.ownsRow base e size v' (n+m) (xs ++ news)/\w.grownBy w' v.ownBlock /\
      (v'.ownBlock=v.ownBlock∨v'.ownBlock=some w.heap.size):=by
  rcases A with _ | ad
  · have hm:m=0:=by
      rcases Nat.eq_zero_or_pos m with h0 | h0
      · exact h0
      · obtain ⟨ad,h,_⟩:=hr.2 h0;cases h
    subst hm;have hn:news=[]:=List.eq_nil_of_length_eq_zero (by simpa using hr.1);subst hn;exact ⟨v,w,run_append_of_nil w base t ty e i size ht hi v n xs hown c,by simpa using hown,World.grownBy.refl w _, .inl rfl⟩
  · have hcells:∀ j u,news[j]?=some u->w.cell? (ad.add j)=some u:=by
      intro j u hu;rcases Nat.eq_zero_or_pos m with h0 | h0
      · subst h0;have hn:news=[]:=List.eq_nil_of_length_eq_zero (by simpa using hr.1);subst hn;simp at hu
      · obtain ⟨ad',h,_,hc⟩:=hr.2 h0;injection h with h
        subst h;exact hc j u hu
    obtain ⟨v',w',hrun,h2,h3,_,h5⟩:=run_append_own_at (P:=P) w base t ty e i z size bytes ht hi hz hsize hby hzs hsz v n xs hown ad m c news hr.1 hcells h1 h63 hbytes hbase;exact ⟨v',w',hrun,h2,h3,h5⟩

theorem wp_append_any {o:Oper} {a:Act} {K:Act->World->Prop} {Q:Exit->Act->World->Prop} (s x:Operand) (t:TypeId)
    (ho:o.op = .call { callee := .builtin .append,args:=#[s,x],argTypes:=#[t,t] })
    (base:Nat) (e:TypeId) (i:TypeInfo) (z:Value) (size bytes:Nat) (ht:P.underlying t=some (.slice e)) (hi:P.info? e=some i) (hz:i.zero=some z)
    (hsize:i.size=size) (hby:i.bytes=bytes) (hzs:z.cells.size=size) (hsz:0<size)
    (v:Value) (n:Nat) (xs:List Value) (hs:a.eval s=v) (hown:w.ownsRow base e size v n xs)
    (B:Nat) (A:Option Addr) (m c:Nat) (news:List Value) (hx:a.eval x = .slice A m c) (hr:Reads w B size A m news) (h1:∀ u∈news,u.oneCell'=true)
    (h63:n+m<=maxLen) (hbytes:(n+m)*bytes<=140737488355328) (hbase:base<=w.heap.size)
    (h:∀ v' w',w'.ownsRow base e size v' (n+m) (xs ++ news)->w.grownBy w' v.ownBlock->(v'.ownBlock=v.ownBlock∨v'.ownBlock=some w.heap.size)->K (a.put o.dst v') w'):o.wp P a w K Q:=by
  obtain ⟨v',w',hrun,h2,h3,h4⟩:=run_append_any (P:=P) w base t o.type e i z size bytes ht hi hz hsize hby hzs hsz v n xs hown B A m c news hr h1 h63 hbytes hbase;unfold Oper.wp execOp;simp only [ho,resolve,invoke,builtin,Sem.run_bind,Sem.run_pure,Result.andThen_ok,List.map_toArray,List.map_cons,List.map_nil,hs,hx,hrun];exact h v' w' h2 h3 h4

theorem wpList_append_any {ops:Array Oper} {rest:List Oper} {o:Oper} {a:Act} {Q:Exit->Act->World->Prop} (hgd:o.guard=none) (s x:Operand) (t:TypeId)
    (ho:o.op = .call { callee := .builtin .append,args:=#[s,x],argTypes:=#[t,t] })
    (base:Nat) (e:TypeId) (i:TypeInfo) (z:Value) (size bytes:Nat) (ht:P.underlying t=some (.slice e)) (hi:P.info? e=some i) (hz:i.zero=some z)
    (hsize:i.size=size) (hby:i.bytes=bytes) (hzs:z.cells.size=size) (hsz:0<size)
    (v:Value) (n:Nat) (xs:List Value) (hs:a.eval s=v) (hown:w.ownsRow base e size v n xs)
    (B:Nat) (A:Option Addr) (m c:Nat) (news:List Value) (hx:a.eval x = .slice A m c) (hr:Reads w B size A m news) (h1:∀ u∈news,u.oneCell'=true)
    (h63:n+m<=maxLen) (hbytes:(n+m)*bytes<=140737488355328) (hbase:base<=w.heap.size)
    (h:∀ v' w',w'.ownsRow base e size v' (n+m) (xs ++ news)->w.grownBy w' v.ownBlock->(v'.ownBlock=v.ownBlock∨v'.ownBlock=some w.heap.size)->wpList P ops Q rest (a.put o.dst v') w'):wpList P ops Q (o :: rest) a w :=
  wpList_plain hgd fun _ hK=>wp_append_any w s x t ho base e i z size bytes ht hi hz hsize hby hzs hsz v n xs hs hown B A m c news hx hr h1 h63 hbytes hbase fun v' w' h2 h3 h4=>hK _ _ (h v' w' h2 h3 h4)

theorem step_append_any {ops:Array Oper} {o:Oper} {a:Act} {K:Act->World->Prop} {Q:Exit->Act->World->Prop} {E:Prop} (hgd:o.guard=none) (s x:Operand) (t:TypeId)
    (ho:o.op = .call { callee := .builtin .append,args:=#[s,x],argTypes:=#[t,t] })
    (base:Nat) (e:TypeId) (i:TypeInfo) (z:Value) (size bytes:Nat) (ht:P.underlying t=some (.slice e)) (hi:P.info? e=some i) (hz:i.zero=some z)
    (hsize:i.size=size) (hby:i.bytes=bytes) (hzs:z.cells.size=size) (hsz:0<size)
    (v:Value) (n:Nat) (xs:List Value) (hs:a.eval s=v) (hown:w.ownsRow base e size v n xs)
    (B:Nat) (A:Option Addr) (m c:Nat) (news:List Value) (hx:a.eval x = .slice A m c) (hr:Reads w B size A m news) (h1:∀ u∈news,u.oneCell'=true)
    (h63:n+m<=maxLen) (hbytes:(n+m)*bytes<=140737488355328) (hbase:base<=w.heap.size)
    (h:∀ v' w',w'.ownsRow base e size v' (n+m) (xs ++ news)->w.grownBy w' v.ownBlock->(v'.ownBlock=v.ownBlock∨v'.ownBlock=some w.heap.size)->K (a.put o.dst v') w') :
    if Region.wanted o (yielded ops a.tmps)=true then Oper.wp P o a w K Q else E:=by
  have hw:Region.wanted o (yielded ops a.tmps)=true:=by simp [Region.wanted,hgd]
  rw [if_pos hw];exact wp_append_any w s x t ho base e i z size bytes ht hi hz hsize hby hzs hsz v n xs hs hown B A m c news hx hr h1 h63 hbytes hbase h
end
end Go.Proofs.YtdipoojjlddohaaGreat
